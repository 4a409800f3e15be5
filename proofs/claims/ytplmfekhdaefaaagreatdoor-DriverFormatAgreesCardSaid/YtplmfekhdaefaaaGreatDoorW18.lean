/-
 Walks, part 18.
-/
import Derived.Test.YtplmfekhdaefaaaGreatDoorTabA
import Derived.Test.YtplmfekhdaefaaaGreatDoorW17
import Derived.Test.YtplmfekhdaefaaaGreatDoorDmB
set_option linter.unusedSimpArgs false
set_option linter.unusedVariables false
namespace Go.Proofs.YtplmfekhdaefaaaGreatDoor
open Go.Sv Go.Drv
set_option maxRecDepth 100000 in
set_option maxHeartbeats 16000000 in
theorem some_fn (d : DH) {w : World} (hd : DR w d) (hl : d.ss.length ≤ 1000000) : Fx Tryz.prog 10 [.agg #[.string (bs d.name), .slice d.sA d.ss.length d.sc, .slice d.tA d.hs.length d.tc]] w [] no (fun v L => ∃ d2 : DH, v = .agg #[.string (bs d2.name), .slice d2.sA d2.ss.length d2.sc, .slice d2.tA d2.hs.length d2.tc] ∧ d2.d = someM d.d ∧ L = dL d2) := by
 refine Sv.Fx.body Tryz.func10 rfl T10 rfl ?_
 intro I hro hI
 refine KV.env [(0, _)] ⟨rfl, trivial⟩ ?_
 have hn := somN_le d.d
 refine CV.seq (CV.region ?_)
 refine RV.op (OV.box (t := 25) #[_, _, _] rfl rfl gno rfl (fun p => ?_))
 refine RV.op (OV.alloc #[.string (Sv.bs []), .slice none 0 0, .slice none 0 0] I25 rfl gno rfl (fun r => ?_))
 refine RV.nil (KV.then_n (KV.env [(1, _), (2, _)] ⟨rfl, rfl, trivial⟩ (CV.seq (CV.region ?_))))
 refine RV.s (Step.build (vs := [(0, .string (Sv.bs [111, 102, 102])), (1, .string (Sv.bs [111, 110])), (2, .string (Sv.bs [95, 120])), (3, .string (Sv.bs [83, 116, 97, 116, 101, 51])), (4, .string (Sv.bs [105, 102])), (5, .string (Sv.bs [111, 110, 95, 49]))]) rfl (Ba63_6 _ _ _ _ _ _)) rfl ?_
 refine RV.op (OV.alloc #[.string (Sv.bs []), .string (Sv.bs []), .string (Sv.bs []), .string (Sv.bs []), .string (Sv.bs []), .string (Sv.bs [])] I63 rfl gno rfl (fun nm => ?_))
 refine RV.op (OV.store 2 [_, _, _, _, _, _] #[_, _, _, _, _, _] I63 rfl rfl rfl rfl rfl (Nat.le_of_ble_eq_true rfl) (by simp [Value.oneCell']) rfl gno ?_)
 refine RV.nil (KV.then_n (KV.env [(1, _), (2, _), (3, _)] ⟨rfl, rfl, rfl, trivial⟩ (CV.seq (CV.region ?_))))
 refine RV.s (Step.build (vs := [(0, .string (Sv.bs [115, 116, 97, 114, 116])), (1, .string (Sv.bs [105, 114, 113])), (2, .string (Sv.bs [111, 110])), (3, .string (Sv.bs [100, 114, 105, 118, 101, 114]))]) rfl (Ba64_4 _ _ _ _)) rfl ?_
 refine RV.op (OV.alloc #[.string (Sv.bs []), .string (Sv.bs []), .string (Sv.bs []), .string (Sv.bs [])] I64 rfl gno rfl (fun ev => ?_))
 refine RV.op (OV.store 3 [_, _, _, _] #[_, _, _, _] I64 rfl rfl rfl rfl rfl (Nat.le_of_ble_eq_true rfl) (by simp [Value.oneCell']) rfl gno ?_)
 refine RV.nil (KV.then_n (KV.env [(1, _), (2, _), (3, _), (4, _)] ⟨rfl, rfl, rfl, rfl, trivial⟩ (CV.seq (CV.region ?_))))
 refine RV.s (Step.fieldAddr rfl (F25_0 _ _)) rfl (RV.s (Step.load Tryz.underlying9 rfl rfl (fun w h => h.cell 0 rfl rfl)) rfl (RV.s (Step.lenStr Tryz.underlying9 rfl) rfl ?_))
 refine RV.s (Step.rem rfl rfl (by omega) (tmodN _ 6)) rfl ?_
 refine RV.s (Step.idxArr Tryz.underlying63 I9 rfl rfl _ rfl (by omega)) rfl ?_
 refine RV.s (Step.load Tryz.underlying9 rfl rfl (fun w h => h.cell 2 rfl (strs_get nmL (show d.name.length % 6 < 6 by omega)))) rfl ?_
 refine RV.s (Step.build rfl (Bd25_0 _)) rfl ?_
 refine RV.op (OV.alloc #[.string (Sv.bs []), .slice none 0 0, .slice none 0 0] I25 rfl gno rfl (fun x => ?_))
 refine RV.op (OV.store 4 [_, _, _] #[_, _, _] I25 rfl rfl rfl rfl rfl (Nat.le_of_ble_eq_true rfl) (by simp [Value.oneCell']) rfl gno ?_)
 refine RV.nil (KV.then_n (KV.env [(1, _), (2, _), (3, _), (4, _), (5, _)] ⟨rfl, rfl, rfl, rfl, rfl, trivial⟩ (CV.seq (CV.region ?_))))
 refine RV.s (Step.fieldAddr rfl (F25_1 _ _)) rfl (RV.s (Step.load Tryz.underlying22 rfl rfl (fun w h => h.cell 0 rfl rfl)) rfl (RV.s (Step.lenSl Tryz.underlying22 rfl) rfl ?_))
 refine RV.s (Step.rem rfl rfl (by omega) (tmodN _ 6)) rfl ?_
 refine RV.s (Step.add rfl rfl ((show IntKind.i64.wrap (1 + ((d.ss.length % 6 : Nat) : Int)) = (((somN d.d) : Nat) : Int) from by rw [wI64 (by omega) (by omega)]; show _ = ((1 + d.ss.length % 6 : Nat) : Int); omega))) rfl ?_
 refine RV.a rfl rfl ?_
 refine RV.nil (KV.then_n (KV.env [(1, _), (2, _), (3, _), (4, _), (5, _), (6, _)] ⟨rfl, rfl, rfl, rfl, rfl, rfl, trivial⟩ (CV.seq (CV.seq ?_))))
 refine KV.heap (fun w h => h.nilOS (e := 9) (K := strK)) ?_
 refine CV.region ?_
 refine RV.a rfl rfl ?_
 refine RV.nil (KV.then_n (KV.env [(1, _), (2, _), (3, _), (4, _), (5, _), (6, _), (7, _)] ⟨rfl, rfl, rfl, rfl, rfl, rfl, rfl, trivial⟩ (CV.block ?_)))
 refine KV.sel [0, 0, 0, 0, 0, 0] [_, _, _, _, _, _] rfl ?_
 refine CV.loop3 (fun (j : Nat) (sA : Option Addr) (sc : Nat) => j ≤ (somN d.d)) (fun (j : Nat) (sA : Option Addr) (sc : Nat) => (somN d.d) - j) (fun (j : Nat) (sA : Option Addr) (sc : Nat) => [(1, .pointer (some ⟨p, 0, none⟩)), (2, .pointer (some ⟨r, 0, none⟩)), (3, .pointer (some ⟨nm, 0, none⟩)), (4, .pointer (some ⟨ev, 0, none⟩)), (5, .pointer (some ⟨x, 0, none⟩)), (6, .int .i64 (somN d.d)), (7, .int .i64 j)]) (fun (j : Nat) (sA : Option Addr) (sc : Nat) => Hp I w [Blk p (.cells #[.string (bs d.name), .slice d.sA d.ss.length d.sc, .slice d.tA d.hs.length d.tc] 25 (0, 0)), Blk r (.cells #[.string (bs []), .slice none 0 0, .slice none 0 0] 25 (0, 0)), Blk nm (.cells #[.string (bs [111, 102, 102]), .string (bs [111, 110]), .string (bs [95, 120]), .string (bs [83, 116, 97, 116, 101, 51]), .string (bs [105, 102]), .string (bs [111, 110, 95, 49])] 63 (0, 0)), Blk ev (.cells #[.string (bs [115, 116, 97, 114, 116]), .string (bs [105, 114, 113]), .string (bs [111, 110]), .string (bs [100, 114, 105, 118, 101, 114])] 64 (0, 0)), Blk x (.cells #[.string (bs (nmL.getD (d.name.length % 6) [])), .slice sA (nmL.take j).length sc, .slice none 0 0] 25 (0, 0)), OS 9 strK sA sc (nmL.take j)]) (0) (none) (0) (Nat.zero_le _) ⟨rfl, rfl, rfl, rfl, rfl, rfl, rfl, trivial⟩ (fun _ h => h) ?_
 intro j sA sc hinv
 refine CV.seq (CV.seq (CV.region ?_))
 refine RV.m rfl rfl (RV.m rfl rfl ?_)
 refine RV.op (OV.split gno (Step.lss rfl rfl) rfl (fun hj6 => ?_) (fun hj6 => ?_))
 ·
  refine RV.nil (KV.then_n (KV.env [(1, _), (2, _), (3, _), (4, _), (5, _), (6, _), (7, _), (30, _)] ⟨rfl, rfl, rfl, rfl, rfl, rfl, rfl, rfl, trivial⟩ (CV.cond_t rfl (CV.skip (KV.then_n ?_)))))
  refine KV.env [(1, _), (2, _), (3, _), (4, _), (5, _), (6, _), (7, _)] ⟨rfl, rfl, rfl, rfl, rfl, rfl, rfl, trivial⟩ (CV.seq (CV.block ?_))
  refine CV.any (Hp I w [Blk nm (.cells #[.string (bs [111, 102, 102]), .string (bs [111, 110]), .string (bs [95, 120]), .string (bs [83, 116, 97, 116, 101, 51]), .string (bs [105, 102]), .string (bs [111, 110, 95, 49])] 63 (0, 0))]) (by kernel_rfl) (fun _ h => h.drew) 9 rfl ?_
  refine AV.u 0 (bl 9 1) rfl gno (Step.fieldAddr rfl (F25_1 _ _)) rfl (fun _ h => h.sel [2] rfl) ?_
  refine AV.u 2 (bl 9 5) rfl gno (Step.move rfl) rfl (fun _ h => h.sel [2] rfl) ?_
  refine AV.u 3 (bl 9 13) rfl gno (Step.idxArr Tryz.underlying63 I9 rfl rfl _ rfl (by omega)) rfl (fun _ h => h.sel [2] rfl) ?_
  refine AV.u 4 (bl 9 29) rfl gno (Step.load Tryz.underlying9 rfl rfl (fun w h => h.cell 0 rfl (strs_get nmL (show j < 6 by omega)))) rfl (fun _ h => h.sel [2] rfl) ?_
  refine AV.all [1, 5] (by kernel_rfl) (by decide) ?_
  refine ⟨⟨_, rfl, ?_⟩, ⟨⟨_, rfl, ?_⟩, trivial⟩⟩
  ·
   refine OV.step gno (Step.load Tryz.underlying22 rfl rfl (fun w h => h.cell 4 rfl rfl)) rfl ?_
   refine AV.next (bl 9 31) (by kernel_rfl) (fun _ h => h.sel [2] rfl) ?_
   refine AV.all [5] (by kernel_rfl) (by decide) ?_
   refine ⟨⟨_, rfl, ?_⟩, trivial⟩
   ·
    refine OV.buildSlice (K := strK) ([nmL.getD j []]) rfl (Bs22_1_0 _) rfl rfl (by omega) gno rfl (fun b8_5 => ?_)
    refine AV.next (bl 9 63) (by kernel_rfl) (fun _ h => h.sel [2] rfl) ?_
    refine AV.all [6] (by kernel_rfl) (by decide) ?_
    refine ⟨⟨_, rfl, ?_⟩, trivial⟩
    ·
     refine OV.append 5 Tryz.underlying22 I9 rfl rfl rfl rfl rfl rfl (fun w h => h.os 6 rfl) (by simp only [List.length_cons, List.length_nil, List.length_take]; omega) (by simp only [List.length_cons, List.length_nil, List.length_take]; omega) gno rfl (fun A2 c2 => ?_)
     refine AV.next (bl 9 127) (by kernel_rfl) (fun _ h => h.sel [2] rfl) ?_
     refine AV.u 7 (bl 9 255) rfl gno (Step.fieldAddr rfl (F25_1 _ _)) rfl (fun _ h => h.sel [2] rfl) ?_
     refine AV.all [8] (by kernel_rfl) (by decide) ?_
     refine ⟨⟨_, rfl, ?_⟩, trivial⟩
     ·
      refine OV.store 4 [_] #[_, _, _] I22 rfl rfl rfl rfl rfl (Nat.le_of_ble_eq_true rfl) (by simp [Value.oneCell']) rfl gno ?_
      refine AV.next (bl 9 511) (by kernel_rfl) (fun _ h => h.sel [2] rfl) ?_
      refine AV.done (by kernel_rfl) ?_
      refine KV.block_n (KV.then_n (KV.env [(1, _), (2, _), (3, _), (4, _), (5, _), (6, _), (7, _)] ⟨rfl, rfl, rfl, rfl, rfl, rfl, rfl, trivial⟩ (CV.region ?_)))
      refine RV.m rfl rfl ?_
      (first | refine RV.op (OV.step gno (Step.add rfl rfl (wI64 (by omega) (by omega))) rfl ?_) | refine RV.op (OV.step gno (Step.add rfl rfl rfl) rfl ?_))
      refine RV.a rfl rfl ?_
      refine RV.nil (KV.then_n (KV.env [(1, _), (2, _), (3, _), (4, _), (5, _), (6, _), (7, _)] ⟨rfl, rfl, rfl, rfl, rfl, rfl, rfl, trivial⟩ ?_))
      refine KV.sel [0, 0, 0, 0, 0, 0] [_, _, _, _, _, _] rfl ?_
      exact KV.loop3 (x := j) (y := sA) (z := sc) (j + 1) (A2) (c2) (by omega) (by omega) ⟨rfl, rfl, rfl, rfl, rfl, rfl, rfl, trivial⟩ (fun _ h => by rw [take_snoc ([] : Bs) (show j < 6 by omega)]; exact h)
  ·
   refine OV.buildSlice (K := strK) ([nmL.getD j []]) rfl (Bs22_1_0 _) rfl rfl (by omega) gno rfl (fun b8_5 => ?_)
   refine AV.next (bl 9 61) (by kernel_rfl) (fun _ h => h.sel [2] rfl) ?_
   refine AV.all [1] (by kernel_rfl) (by decide) ?_
   refine ⟨⟨_, rfl, ?_⟩, trivial⟩
   ·
    refine OV.step gno (Step.load Tryz.underlying22 rfl rfl (fun w h => h.cell 4 rfl rfl)) rfl ?_
    refine AV.next (bl 9 63) (by kernel_rfl) (fun _ h => h.sel [2] rfl) ?_
    refine AV.all [6] (by kernel_rfl) (by decide) ?_
    refine ⟨⟨_, rfl, ?_⟩, trivial⟩
    ·
     refine OV.append 5 Tryz.underlying22 I9 rfl rfl rfl rfl rfl rfl (fun w h => h.os 6 rfl) (by simp only [List.length_cons, List.length_nil, List.length_take]; omega) (by simp only [List.length_cons, List.length_nil, List.length_take]; omega) gno rfl (fun A2 c2 => ?_)
     refine AV.next (bl 9 127) (by kernel_rfl) (fun _ h => h.sel [2] rfl) ?_
     refine AV.u 7 (bl 9 255) rfl gno (Step.fieldAddr rfl (F25_1 _ _)) rfl (fun _ h => h.sel [2] rfl) ?_
     refine AV.all [8] (by kernel_rfl) (by decide) ?_
     refine ⟨⟨_, rfl, ?_⟩, trivial⟩
     ·
      refine OV.store 4 [_] #[_, _, _] I22 rfl rfl rfl rfl rfl (Nat.le_of_ble_eq_true rfl) (by simp [Value.oneCell']) rfl gno ?_
      refine AV.next (bl 9 511) (by kernel_rfl) (fun _ h => h.sel [2] rfl) ?_
      refine AV.done (by kernel_rfl) ?_
      refine KV.block_n (KV.then_n (KV.env [(1, _), (2, _), (3, _), (4, _), (5, _), (6, _), (7, _)] ⟨rfl, rfl, rfl, rfl, rfl, rfl, rfl, trivial⟩ (CV.region ?_)))
      refine RV.m rfl rfl ?_
      (first | refine RV.op (OV.step gno (Step.add rfl rfl (wI64 (by omega) (by omega))) rfl ?_) | refine RV.op (OV.step gno (Step.add rfl rfl rfl) rfl ?_))
      refine RV.a rfl rfl ?_
      refine RV.nil (KV.then_n (KV.env [(1, _), (2, _), (3, _), (4, _), (5, _), (6, _), (7, _)] ⟨rfl, rfl, rfl, rfl, rfl, rfl, rfl, trivial⟩ ?_))
      refine KV.sel [0, 0, 0, 0, 0, 0] [_, _, _, _, _, _] rfl ?_
      exact KV.loop3 (x := j) (y := sA) (z := sc) (j + 1) (A2) (c2) (by omega) (by omega) ⟨rfl, rfl, rfl, rfl, rfl, rfl, rfl, trivial⟩ (fun _ h => by rw [take_snoc ([] : Bs) (show j < 6 by omega)]; exact h)
 ·
  refine RV.nil (KV.then_n (KV.env [(1, _), (2, _), (3, _), (4, _), (5, _), (6, _), (7, _), (30, _)] ⟨rfl, rfl, rfl, rfl, rfl, rfl, rfl, rfl, trivial⟩ (CV.cond_f rfl (CV.exit (KV.then_exit ?_)))))
  refine KV.then_exit (KV.block_hit (KV.then_n (KV.env [(1, _), (2, _), (4, _), (5, _), (6, _)] ⟨rfl, rfl, rfl, rfl, rfl, trivial⟩ (CV.seq ?_))))
  obtain rfl : j = (somN d.d) := by omega
  refine KV.heap (fun w h => (h.nilOS (e := 48) (K := thK)).newBig (F := opA) 0 thD fun w => OS.emp w) ?_
  refine CV.region ?_
  refine RV.a rfl rfl ?_
  refine RV.nil (KV.then_n (KV.env [(1, _), (2, _), (4, _), (5, _), (6, _), (8, _)] ⟨rfl, rfl, rfl, rfl, rfl, rfl, trivial⟩ (CV.seq (CV.seq (CV.region ?_)))))
  refine RV.a rfl rfl ?_
  refine RV.nil (KV.then_n (KV.env [(1, _), (2, _), (4, _), (5, _), (6, _), (8, _), (9, _)] ⟨rfl, rfl, rfl, rfl, rfl, rfl, rfl, trivial⟩ (CV.block ?_)))
  refine KV.sel [0, 0, 0, 0, 0, 0, 0, 0] [_, _, _, _, _, _, _, _] rfl ?_
  refine CV.loop2 (fun (j : Nat) (D : DH) => (j ≤ d.hs.length ∧ j ≤ 20) ∧ D.hs.length = j ∧ D.hs.map (·.t) = somF (somN d.d) 0 ((d.hs.map (·.t)).take j)) (fun (j : Nat) (D : DH) => 20 - j) (fun (j : Nat) (D : DH) => [(1, .pointer (some ⟨p, 0, none⟩)), (2, .pointer (some ⟨r, 0, none⟩)), (4, .pointer (some ⟨ev, 0, none⟩)), (5, .pointer (some ⟨x, 0, none⟩)), (6, .int .i64 (somN d.d)), (8, .int .i64 (frN (somN d.d) ((d.hs.map (·.t)).take j))), (9, .int .i64 j)]) (fun (j : Nat) (D : DH) => Hp I w [Blk p (.cells #[.string (bs d.name), .slice d.sA d.ss.length d.sc, .slice d.tA d.hs.length d.tc] 25 (0, 0)), Blk r (.cells #[.string (bs []), .slice none 0 0, .slice none 0 0] 25 (0, 0)), Blk nm (.cells #[.string (bs [111, 102, 102]), .string (bs [111, 110]), .string (bs [95, 120]), .string (bs [83, 116, 97, 116, 101, 51]), .string (bs [105, 102]), .string (bs [111, 110, 95, 49])] 63 (0, 0)), Blk ev (.cells #[.string (bs [115, 116, 97, 114, 116]), .string (bs [105, 114, 113]), .string (bs [111, 110]), .string (bs [100, 114, 105, 118, 101, 114])] 64 (0, 0)), Blk x (.cells #[.string (bs (nmL.getD (d.name.length % 6) [])), .slice sA (nmL.take (somN d.d)).length sc, .slice D.tA D.hs.length D.tc] 25 (0, 0)), OS 9 strK sA sc (nmL.take (somN d.d)), OS 48 thK D.tA D.tc D.hs, Big opA D.hs]) (0) (dh0) ⟨⟨Nat.zero_le _, Nat.zero_le _⟩, rfl, rfl⟩ ⟨rfl, rfl, rfl, rfl, rfl, rfl, rfl, trivial⟩ (fun _ h => h) ?_
  intro j D hinv
  refine CV.seq (CV.seq (CV.region ?_))
  refine RV.m rfl rfl (RV.s (Step.fieldAddr rfl (F25_2 _ _)) rfl (RV.s (Step.load Tryz.underlying23 rfl rfl (fun w h => h.cell 0 rfl rfl)) rfl (RV.s (Step.lenSl Tryz.underlying23 rfl) rfl ?_)))
  refine RV.op (OV.split gno (Step.lss rfl rfl) rfl (fun hj1 => ?_) (fun hj1 => ?_))
  ·
   refine RV.m rfl rfl (RV.gw rfl (Step.move rfl) rfl ?_)
   refine RV.op (OV.split (gyes rfl) (Step.lss rfl rfl) rfl (fun hj2 => ?_) (fun hj2 => ?_))
   ·
    refine RV.s (Step.pick_t rfl rfl) rfl ?_
    refine RV.nil (KV.then_n (KV.env [(1, _), (2, _), (4, _), (5, _), (6, _), (8, _), (9, _), (49, _)] ⟨rfl, rfl, rfl, rfl, rfl, rfl, rfl, rfl, trivial⟩ (CV.cond_t rfl (CV.skip (KV.then_n ?_)))))
    refine KV.env [(1, _), (2, _), (4, _), (5, _), (6, _), (8, _), (9, _)] ⟨rfl, rfl, rfl, rfl, rfl, rfl, rfl, trivial⟩ (CV.seq (CV.block (CV.seq (CV.region ?_))))
    refine RV.s (Step.fieldAddr rfl (F25_2 _ _)) rfl (RV.s (Step.load Tryz.underlying23 rfl rfl (fun w h => h.cell 0 rfl rfl)) rfl (RV.m rfl rfl ?_))
    refine RV.s (Step.idx Tryz.underlying23 I48 (fun w h => (DR.keep h hd hI).t) rfl rfl (rfl) _ rfl (by omega)) rfl ?_
    refine RV.s (Step.loadN _ Tryz.underlying48 rfl I48 rfl rfl (fun w h => ((DR.keep h hd hI).t).cells (by omega))) rfl ?_
    refine RV.op (OV.alloc #[.int .i64 0, .string (Sv.bs []), .bool false, .int .u64 0, .int .u64 0, .int .u64 0, .slice none 0 0, .int .i64 0] I48 rfl gno rfl (fun t => ?_))
    refine RV.op (OV.store 8 [_, _, _, _, _, _, _, _] #[_, _, _, _, _, _, _, _] I48 rfl rfl rfl rfl rfl (Nat.le_of_ble_eq_true rfl) (by simp [Value.oneCell']) rfl gno ?_)
    refine RV.nil (KV.then_n (KV.env [(1, _), (2, _), (4, _), (5, _), (6, _), (8, _), (9, _), (10, _)] ⟨rfl, rfl, rfl, rfl, rfl, rfl, rfl, rfl, trivial⟩ ?_))
    refine CV.join (α := Unit) (fun _ => [(1, .pointer (some ⟨p, 0, none⟩)), (2, .pointer (some ⟨r, 0, none⟩)), (4, .pointer (some ⟨ev, 0, none⟩)), (5, .pointer (some ⟨x, 0, none⟩)), (6, .int .i64 (somN d.d)), (8, .int .i64 (stF (somN d.d) (frN (somN d.d) ((d.hs.map (·.t)).take j)) (d.hs.getD j thK.d).t)), (9, .int .i64 j), (10, .pointer (some ⟨t, 0, none⟩))]) (fun _ => Hp I w [Blk p (.cells #[.string (bs d.name), .slice d.sA d.ss.length d.sc, .slice d.tA d.hs.length d.tc] 25 (0, 0)), Blk r (.cells #[.string (bs []), .slice none 0 0, .slice none 0 0] 25 (0, 0)), Blk nm (.cells #[.string (bs [111, 102, 102]), .string (bs [111, 110]), .string (bs [95, 120]), .string (bs [83, 116, 97, 116, 101, 51]), .string (bs [105, 102]), .string (bs [111, 110, 95, 49])] 63 (0, 0)), Blk ev (.cells #[.string (bs [115, 116, 97, 114, 116]), .string (bs [105, 114, 113]), .string (bs [111, 110]), .string (bs [100, 114, 105, 118, 101, 114])] 64 (0, 0)), Blk x (.cells #[.string (bs (nmL.getD (d.name.length % 6) [])), .slice sA (nmL.take (somN d.d)).length sc, .slice D.tA D.hs.length D.tc] 25 (0, 0)), OS 9 strK sA sc (nmL.take (somN d.d)), OS 48 thK D.tA D.tc D.hs, Big opA D.hs, Blk t (.cells #[.int .i64 (d.hs.getD j thK.d).t.frm, .string (bs (d.hs.getD j thK.d).t.ev), .bool (d.hs.getD j thK.d).t.gd.used, .int .u64 (d.hs.getD j thK.d).t.gd.reg, .int .u64 (d.hs.getD j thK.d).t.gd.mask, .int .u64 (d.hs.getD j thK.d).t.gd.val, .slice (d.hs.getD j thK.d).A (d.hs.getD j thK.d).t.ops.length (d.hs.getD j thK.d).c, .int .i64 (d.hs.getD j thK.d).t.to] 48 (0, 0))]) ?_ ?_
    ·
     skip
     refine CV.seq (CV.region ?_)
     refine RV.m rfl rfl (RV.m rfl rfl ?_)
     (first | refine RV.op (OV.step gno (Step.sub rfl rfl (wI64 (by omega) (by omega))) rfl ?_) | refine RV.op (OV.step gno (Step.sub rfl rfl rfl) rfl ?_))
     refine RV.op (OV.split gno (Step.lss rfl rfl) rfl (fun c1 => ?_) (fun c1 => ?_))
     ·
      refine RV.m rfl rfl (RV.gw rfl (Step.fieldAddr rfl (F48_0 _ _)) rfl (RV.gw rfl (Step.load Tryz.underlying3 rfl rfl (fun w h => h.cell 8 rfl rfl)) rfl ?_))
      refine RV.op (OV.callP Tryz.func11 B11 N11 rfl (mod_fn _ 3 (by omega) (by omega)) (gyes rfl) rfl ?_)
      refine RV.op (OV.split (gyes rfl) (Step.eql rfl rfl) rfl (fun c2 => ?_) (fun c2 => ?_))
      ·
       refine RV.s (Step.pick_t rfl rfl) rfl ?_
       refine RV.nil (KV.then_n (KV.env [(1, _), (2, _), (4, _), (5, _), (6, _), (8, _), (9, _), (10, _), (66, _)] ⟨rfl, rfl, rfl, rfl, rfl, rfl, rfl, rfl, rfl, trivial⟩ (CV.cond_t rfl (CV.region ?_))))
       refine RV.m rfl rfl ?_
       (first | refine RV.op (OV.step gno (Step.add rfl rfl (wI64 (by omega) (by omega))) rfl ?_) | refine RV.op (OV.step gno (Step.add rfl rfl rfl) rfl ?_))
       refine RV.a rfl rfl ?_
       refine RV.nil (KV.then_n (KV.env [(1, _), (2, _), (4, _), (5, _), (6, _), (8, _), (9, _), (10, _)] ⟨rfl, rfl, rfl, rfl, rfl, rfl, rfl, rfl, trivial⟩ ?_))
       refine KV.sel [0, 0, 0, 0, 0, 0, 0, 0, 0] [_, _, _, _, _, _, _, _, _] rfl ?_
       exact KV.join () ⟨rfl, rfl, rfl, rfl, rfl, (by first | (rw [stF_t c1 c2]; rfl) | (rw [stF_f1 c1]; rfl) | (rw [stF_f2 c2]; rfl)), rfl, rfl, trivial⟩ (fun _ h => h)
      ·
       refine RV.s (Step.pick_t rfl rfl) rfl ?_
       refine RV.nil (KV.then_n (KV.env [(1, _), (2, _), (4, _), (5, _), (6, _), (8, _), (9, _), (10, _), (66, _)] ⟨rfl, rfl, rfl, rfl, rfl, rfl, rfl, rfl, rfl, trivial⟩ (CV.cond_f rfl (CV.skip (KV.then_n ?_)))))
       refine KV.env [(1, _), (2, _), (4, _), (5, _), (6, _), (8, _), (9, _), (10, _)] ⟨rfl, rfl, rfl, rfl, rfl, rfl, rfl, rfl, trivial⟩ ?_
       refine KV.sel [0, 0, 0, 0, 0, 0, 0, 0, 0] [_, _, _, _, _, _, _, _, _] rfl ?_
       exact KV.join () ⟨rfl, rfl, rfl, rfl, rfl, (by first | (rw [stF_t c1 c2]; rfl) | (rw [stF_f1 c1]; rfl) | (rw [stF_f2 c2]; rfl)), rfl, rfl, trivial⟩ (fun _ h => h)
     ·
      refine RV.m rfl rfl (RV.k rfl rfl (RV.k rfl rfl (RV.k rfl rfl (RV.k rfl rfl (RV.s (Step.pick_f rfl rfl) rfl ?_)))))
      refine RV.nil (KV.then_n (KV.env [(1, _), (2, _), (4, _), (5, _), (6, _), (8, _), (9, _), (10, _), (66, _)] ⟨rfl, rfl, rfl, rfl, rfl, rfl, rfl, rfl, rfl, trivial⟩ (CV.cond_f rfl (CV.skip (KV.then_n ?_)))))
      refine KV.env [(1, _), (2, _), (4, _), (5, _), (6, _), (8, _), (9, _), (10, _)] ⟨rfl, rfl, rfl, rfl, rfl, rfl, rfl, rfl, trivial⟩ ?_
      refine KV.sel [0, 0, 0, 0, 0, 0, 0, 0, 0] [_, _, _, _, _, _, _, _, _] rfl ?_
      exact KV.join () ⟨rfl, rfl, rfl, rfl, rfl, (by first | (rw [stF_t c1 c2]; rfl) | (rw [stF_f1 c1]; rfl) | (rw [stF_f2 c2]; rfl)), rfl, rfl, trivial⟩ (fun _ h => h)
    ·
     intro _
     refine CV.seq ?_
     refine CV.any (Hp I w [Blk t (.cells #[.int .i64 (d.hs.getD j thK.d).t.frm, .string (bs (d.hs.getD j thK.d).t.ev), .bool (d.hs.getD j thK.d).t.gd.used, .int .u64 (d.hs.getD j thK.d).t.gd.reg, .int .u64 (d.hs.getD j thK.d).t.gd.mask, .int .u64 (d.hs.getD j thK.d).t.gd.val, .slice (d.hs.getD j thK.d).A (d.hs.getD j thK.d).t.ops.length (d.hs.getD j thK.d).c, .int .i64 (d.hs.getD j thK.d).t.to] 48 (0, 0)), Blk ev (.cells #[.string (bs [115, 116, 97, 114, 116]), .string (bs [105, 114, 113]), .string (bs [111, 110]), .string (bs [100, 114, 105, 118, 101, 114])] 64 (0, 0))]) (by kernel_rfl) (fun _ h => h.drew) 14 rfl ?_
     refine AV.u 0 (bl 14 1) rfl gno (Step.move rfl) rfl (fun _ h => h.sel [8, 3] rfl) ?_
     refine AV.u 1 (bl 14 3) rfl gno (Step.fieldAddr rfl (F48_1 _ _)) rfl (fun _ h => h.sel [8, 3] rfl) ?_
     refine AV.u 2 (bl 14 7) rfl gno (Step.load Tryz.underlying9 rfl rfl (fun w h => h.cell 0 rfl rfl)) rfl (fun _ h => h.sel [8, 3] rfl) ?_
     refine AV.u 3 (bl 14 15) rfl gno (Step.lenStr Tryz.underlying9 rfl) rfl (fun _ h => h.sel [8, 3] rfl) ?_
     refine AV.u 4 (bl 14 31) rfl gno (Step.rem rfl rfl (by omega) (tmodN _ 4)) rfl (fun _ h => h.sel [8, 3] rfl) ?_
     refine AV.u 5 (bl 14 63) rfl gno (Step.idxArr Tryz.underlying64 I9 rfl rfl _ rfl (by omega)) rfl (fun _ h => h.sel [8, 3] rfl) ?_
     refine AV.u 6 (bl 14 127) rfl gno (Step.load Tryz.underlying9 rfl rfl (fun w h => h.cell 1 rfl (strs_get ev4 (show (d.hs.getD j thK.d).t.ev.length % 4 < 4 by omega)))) rfl (fun _ h => h.sel [8, 3] rfl) ?_
     refine AV.u 7 (bl 14 255) rfl gno (Step.fieldAddr rfl (F48_4 _ _)) rfl (fun _ h => h.sel [8, 3] rfl) ?_
     refine AV.u 8 (bl 14 511) rfl gno (Step.load Tryz.underlying3 rfl rfl (fun w h => h.cell 0 rfl rfl)) rfl (fun _ h => h.sel [8, 3] rfl) ?_
     refine AV.u 9 (bl 14 1023) rfl gno (Step.move rfl) rfl (fun _ h => h.sel [8, 3] rfl) ?_
     refine AV.all [10, 12] (by kernel_rfl) (by decide) ?_
     refine ⟨⟨_, rfl, ?_⟩, ⟨⟨_, rfl, ?_⟩, trivial⟩⟩
     ·
      refine OV.callP Tryz.func11 B11 N11 rfl (mod_fn (d.hs.getD j thK.d).t.to (somN d.d) (by omega) (by omega)) gno rfl ?_
      refine AV.next (bl 14 2047) (by kernel_rfl) (fun _ h => h.sel [8, 3] rfl) ?_
      refine AV.u 11 (bl 14 4095) rfl gno (Step.build rfl (Bd48_0_1_4 _ _ _)) rfl (fun _ h => h.sel [8, 3] rfl) ?_
      refine AV.all [12] (by kernel_rfl) (by decide) ?_
      refine ⟨⟨_, rfl, ?_⟩, trivial⟩
      ·
       refine OV.alloc #[.int .i64 0, .string (Sv.bs []), .bool false, .int .u64 0, .int .u64 0, .int .u64 0, .slice none 0 0, .int .i64 0] I48 rfl gno rfl (fun y => ?_)
       refine AV.next (bl 14 8191) (by kernel_rfl) (fun _ h => h.sel [8, 3] rfl) ?_
       refine AV.all [13] (by kernel_rfl) (by decide) ?_
       refine ⟨⟨_, rfl, ?_⟩, trivial⟩
       ·
        refine OV.store 9 [_, _, _, _, _, _, _, _] #[_, _, _, _, _, _, _, _] I48 rfl rfl rfl rfl rfl (Nat.le_of_ble_eq_true rfl) (by simp [Value.oneCell']) rfl gno ?_
        refine AV.next (bl 14 16383) (by kernel_rfl) (fun _ h => h.sel [8, 3] rfl) ?_
        refine AV.done (by kernel_rfl) ?_
        refine KV.then_n (KV.env [(1, _), (2, _), (4, _), (5, _), (6, _), (8, _), (9, _), (10, _), (11, _)] ⟨rfl, rfl, rfl, rfl, rfl, rfl, rfl, rfl, rfl, trivial⟩ ?_)
        refine CV.join (α := Unit) (fun _ => [(1, .pointer (some ⟨p, 0, none⟩)), (2, .pointer (some ⟨r, 0, none⟩)), (4, .pointer (some ⟨ev, 0, none⟩)), (5, .pointer (some ⟨x, 0, none⟩)), (6, .int .i64 (somN d.d)), (8, .int .i64 (stF (somN d.d) (frN (somN d.d) ((d.hs.map (·.t)).take j)) (d.hs.getD j thK.d).t)), (9, .int .i64 j), (10, .pointer (some ⟨t, 0, none⟩)), (11, .pointer (some ⟨y, 0, none⟩))]) (fun _ => Hp I w [Blk p (.cells #[.string (bs d.name), .slice d.sA d.ss.length d.sc, .slice d.tA d.hs.length d.tc] 25 (0, 0)), Blk r (.cells #[.string (bs []), .slice none 0 0, .slice none 0 0] 25 (0, 0)), Blk nm (.cells #[.string (bs [111, 102, 102]), .string (bs [111, 110]), .string (bs [95, 120]), .string (bs [83, 116, 97, 116, 101, 51]), .string (bs [105, 102]), .string (bs [111, 110, 95, 49])] 63 (0, 0)), Blk ev (.cells #[.string (bs [115, 116, 97, 114, 116]), .string (bs [105, 114, 113]), .string (bs [111, 110]), .string (bs [100, 114, 105, 118, 101, 114])] 64 (0, 0)), Blk x (.cells #[.string (bs (nmL.getD (d.name.length % 6) [])), .slice sA (nmL.take (somN d.d)).length sc, .slice D.tA D.hs.length D.tc] 25 (0, 0)), OS 9 strK sA sc (nmL.take (somN d.d)), OS 48 thK D.tA D.tc D.hs, Big opA D.hs, Blk t (.cells #[.int .i64 (d.hs.getD j thK.d).t.frm, .string (bs (d.hs.getD j thK.d).t.ev), .bool (d.hs.getD j thK.d).t.gd.used, .int .u64 (d.hs.getD j thK.d).t.gd.reg, .int .u64 (d.hs.getD j thK.d).t.gd.mask, .int .u64 (d.hs.getD j thK.d).t.gd.val, .slice (d.hs.getD j thK.d).A (d.hs.getD j thK.d).t.ops.length (d.hs.getD j thK.d).c, .int .i64 (d.hs.getD j thK.d).t.to] 48 (0, 0)), Blk y (.cells #[.int .i64 (stF (somN d.d) (frN (somN d.d) ((d.hs.map (·.t)).take j)) (d.hs.getD j thK.d).t), .string (bs (ev4.getD ((d.hs.getD j thK.d).t.ev.length % 4) [])), .bool (gM (d.hs.getD j thK.d).t.gd).used, .int .u64 (gM (d.hs.getD j thK.d).t.gd).reg, .int .u64 (gM (d.hs.getD j thK.d).t.gd).mask, .int .u64 (gM (d.hs.getD j thK.d).t.gd).val, .slice none 0 0, .int .i64 (modM (d.hs.getD j thK.d).t.to (somN d.d))] 48 (0, 0))]) ?_ ?_
        ·
         skip
         refine CV.seq (CV.region ?_)
         refine RV.s (Step.fieldAddr rfl (F48_2 _ _)) rfl (RV.s (Step.fieldAddr rfl (F45_0 _ _)) rfl (RV.s (Step.load Tryz.underlying4 rfl rfl (fun w h => h.cell 8 rfl rfl)) rfl ?_))
         refine RV.nil (KV.then_n (KV.env [(1, _), (2, _), (4, _), (5, _), (6, _), (8, _), (9, _), (10, _), (11, _), (83, _)] ⟨rfl, rfl, rfl, rfl, rfl, rfl, rfl, rfl, rfl, rfl, trivial⟩ ?_))
         refine KV.cases 83 rfl (fun cc1 => ?_) (fun cc1 => ?_)
         ·
          have hu : (d.hs.getD j thK.d).t.gd.used = true := cc1
          refine CV.cond_t rfl (CV.region ?_)
          refine RV.s (Step.fieldAddr rfl (F48_2 _ _)) rfl (RV.s (Step.fieldAddr rfl (F45_1 _ _)) rfl (RV.s (Step.load Tryz.underlying43 rfl rfl (fun w h => h.cell 8 rfl rfl)) rfl (RV.s (Step.fieldAddr rfl (F48_2 _ _)) rfl (RV.s (Step.fieldAddr rfl (F45_2 _ _)) rfl (RV.s (Step.load Tryz.underlying43 rfl rfl (fun w h => h.cell 8 rfl rfl)) rfl ?_)))))
          refine RV.s (Step.rem rfl rfl (by omega) (rfl)) rfl ?_
          refine RV.s (Step.fieldAddr rfl (F48_2 _ _)) rfl (RV.s (Step.fieldAddr rfl (F45_3 _ _)) rfl (RV.s (Step.load Tryz.underlying43 rfl rfl (fun w h => h.cell 8 rfl rfl)) rfl ?_))
          refine RV.s (Step.rem rfl rfl (by omega) (rfl)) rfl ?_
          refine RV.s (Step.build rfl (Bd45_0_1_2_3 _ _ _ _)) rfl (RV.s (Step.fieldAddr rfl (F48_2 _ _)) rfl ?_)
          refine RV.op (OV.store 9 [_, _, _, _] #[_, _, _, _, _, _, _, _] I45 rfl rfl rfl rfl rfl (Nat.le_of_ble_eq_true rfl) (by simp [Value.oneCell']) rfl gno ?_)
          refine RV.nil (KV.then_n (KV.env [(1, _), (2, _), (4, _), (5, _), (6, _), (8, _), (9, _), (10, _), (11, _)] ⟨rfl, rfl, rfl, rfl, rfl, rfl, rfl, rfl, rfl, trivial⟩ ?_))
          refine KV.sel [0, 0, 0, 0, 0, 0, 0, 0, 0, 0] [_, _, _, _, _, _, _, _, _, _] rfl ?_
          exact KV.join () ⟨rfl, rfl, rfl, rfl, rfl, rfl, rfl, rfl, rfl, trivial⟩ (fun _ h => by first | (rw [gM_t hu]; exact h) | (rw [gM_f hu]; exact h))
         ·
          have hu : (d.hs.getD j thK.d).t.gd.used = false := cc1
          refine CV.cond_f rfl (CV.skip (KV.then_n (KV.env [(1, _), (2, _), (4, _), (5, _), (6, _), (8, _), (9, _), (10, _), (11, _)] ⟨rfl, rfl, rfl, rfl, rfl, rfl, rfl, rfl, rfl, trivial⟩ ?_)))
          refine KV.sel [0, 0, 0, 0, 0, 0, 0, 0, 0, 0] [_, _, _, _, _, _, _, _, _, _] rfl ?_
          exact KV.join () ⟨rfl, rfl, rfl, rfl, rfl, rfl, rfl, rfl, rfl, trivial⟩ (fun _ h => by first | (rw [gM_t hu]; exact h) | (rw [gM_f hu]; exact h))
        ·
         intro _
         refine CV.seq (CV.seq ?_)
         refine KV.heap (fun w h => h.nilOS (e := 59) (K := roK)) ?_
         refine CV.region ?_
         refine RV.a rfl rfl ?_
         refine RV.nil (KV.then_n (KV.env [(1, _), (2, _), (4, _), (5, _), (6, _), (8, _), (9, _), (10, _), (11, _), (12, _)] ⟨rfl, rfl, rfl, rfl, rfl, rfl, rfl, rfl, rfl, rfl, trivial⟩ (CV.block ?_)))
         refine KV.sel [0, 0, 0, 0, 0, 0, 0, 0, 0, 0, 0] [_, _, _, _, _, _, _, _, _, _, _] rfl ?_
         refine CV.loop3 (fun (k : Nat) (A : Option Addr) (c : Nat) => k ≤ (d.hs.getD j thK.d).t.ops.length ∧ k ≤ 4) (fun (k : Nat) (A : Option Addr) (c : Nat) => 4 - k) (fun (k : Nat) (A : Option Addr) (c : Nat) => [(1, .pointer (some ⟨p, 0, none⟩)), (2, .pointer (some ⟨r, 0, none⟩)), (4, .pointer (some ⟨ev, 0, none⟩)), (5, .pointer (some ⟨x, 0, none⟩)), (6, .int .i64 (somN d.d)), (8, .int .i64 (stF (somN d.d) (frN (somN d.d) ((d.hs.map (·.t)).take j)) (d.hs.getD j thK.d).t)), (9, .int .i64 j), (10, .pointer (some ⟨t, 0, none⟩)), (11, .pointer (some ⟨y, 0, none⟩)), (12, .int .i64 k)]) (fun (k : Nat) (A : Option Addr) (c : Nat) => Hp I w [Blk p (.cells #[.string (bs d.name), .slice d.sA d.ss.length d.sc, .slice d.tA d.hs.length d.tc] 25 (0, 0)), Blk r (.cells #[.string (bs []), .slice none 0 0, .slice none 0 0] 25 (0, 0)), Blk nm (.cells #[.string (bs [111, 102, 102]), .string (bs [111, 110]), .string (bs [95, 120]), .string (bs [83, 116, 97, 116, 101, 51]), .string (bs [105, 102]), .string (bs [111, 110, 95, 49])] 63 (0, 0)), Blk ev (.cells #[.string (bs [115, 116, 97, 114, 116]), .string (bs [105, 114, 113]), .string (bs [111, 110]), .string (bs [100, 114, 105, 118, 101, 114])] 64 (0, 0)), Blk x (.cells #[.string (bs (nmL.getD (d.name.length % 6) [])), .slice sA (nmL.take (somN d.d)).length sc, .slice D.tA D.hs.length D.tc] 25 (0, 0)), OS 9 strK sA sc (nmL.take (somN d.d)), OS 48 thK D.tA D.tc D.hs, Big opA D.hs, Blk t (.cells #[.int .i64 (d.hs.getD j thK.d).t.frm, .string (bs (d.hs.getD j thK.d).t.ev), .bool (d.hs.getD j thK.d).t.gd.used, .int .u64 (d.hs.getD j thK.d).t.gd.reg, .int .u64 (d.hs.getD j thK.d).t.gd.mask, .int .u64 (d.hs.getD j thK.d).t.gd.val, .slice (d.hs.getD j thK.d).A (d.hs.getD j thK.d).t.ops.length (d.hs.getD j thK.d).c, .int .i64 (d.hs.getD j thK.d).t.to] 48 (0, 0)), Blk y (.cells #[.int .i64 (stF (somN d.d) (frN (somN d.d) ((d.hs.map (·.t)).take j)) (d.hs.getD j thK.d).t), .string (bs (ev4.getD ((d.hs.getD j thK.d).t.ev.length % 4) [])), .bool (gM (d.hs.getD j thK.d).t.gd).used, .int .u64 (gM (d.hs.getD j thK.d).t.gd).reg, .int .u64 (gM (d.hs.getD j thK.d).t.gd).mask, .int .u64 (gM (d.hs.getD j thK.d).t.gd).val, .slice A (((d.hs.getD j thK.d).t.ops.take k).map oM).length c, .int .i64 (modM (d.hs.getD j thK.d).t.to (somN d.d))] 48 (0, 0)), OS 59 roK A c (((d.hs.getD j thK.d).t.ops.take k).map oM)]) (0) (none) (0) ⟨Nat.zero_le _, Nat.zero_le _⟩ ⟨rfl, rfl, rfl, rfl, rfl, rfl, rfl, rfl, rfl, rfl, trivial⟩ (fun _ h => h) ?_
         intro k A c hk1
         refine CV.seq (CV.seq (CV.region ?_))
         refine RV.m rfl rfl (RV.s (Step.fieldAddr rfl (F48_3 _ _)) rfl (RV.s (Step.load Tryz.underlying46 rfl rfl (fun w h => h.cell 8 rfl rfl)) rfl (RV.s (Step.lenSl Tryz.underlying46 rfl) rfl ?_)))
         refine RV.op (OV.split gno (Step.lss rfl rfl) rfl (fun k1 => ?_) (fun k1 => ?_))
         ·
          refine RV.m rfl rfl (RV.gw rfl (Step.move rfl) rfl ?_)
          refine RV.op (OV.split (gyes rfl) (Step.lss rfl rfl) rfl (fun k2 => ?_) (fun k2 => ?_))
          ·
           refine RV.s (Step.pick_t rfl rfl) rfl ?_
           refine RV.nil (KV.then_n (KV.env [(1, _), (2, _), (4, _), (5, _), (6, _), (8, _), (9, _), (10, _), (11, _), (12, _), (105, _)] ⟨rfl, rfl, rfl, rfl, rfl, rfl, rfl, rfl, rfl, rfl, rfl, trivial⟩ (CV.cond_t rfl (CV.skip (KV.then_n ?_)))))
           refine KV.env [(1, _), (2, _), (4, _), (5, _), (6, _), (8, _), (9, _), (10, _), (11, _), (12, _)] ⟨rfl, rfl, rfl, rfl, rfl, rfl, rfl, rfl, rfl, rfl, trivial⟩ (CV.seq (CV.block (CV.seq (CV.region ?_))))
           refine RV.s (Step.fieldAddr rfl (F48_3 _ _)) rfl (RV.s (Step.load Tryz.underlying46 rfl rfl (fun w h => h.cell 8 rfl rfl)) rfl (RV.m rfl rfl ?_))
           refine RV.s (Step.idx Tryz.underlying46 I59 (fun w h => (show RS w roK (d.hs.getD j thK.d).A (d.hs.getD j thK.d).t.ops from (DR.keep h hd hI).o j (by omega))) rfl rfl (rfl) _ rfl (by omega)) rfl ?_
           refine RV.s (Step.loadN _ Tryz.underlying59 rfl I59 rfl rfl (fun w h => (show RS w roK (d.hs.getD j thK.d).A (d.hs.getD j thK.d).t.ops from (DR.keep h hd hI).o j (by omega)).cells (by omega))) rfl ?_
           refine RV.op (OV.alloc #[.bool false, .int .u64 0, .int .u64 0] I59 rfl gno rfl (fun o => ?_))
           refine RV.op (OV.store 11 [_, _, _] #[_, _, _] I59 rfl rfl rfl rfl rfl (Nat.le_of_ble_eq_true rfl) (by simp [Value.oneCell']) rfl gno ?_)
           refine RV.nil (KV.then_n (KV.env [(1, _), (2, _), (4, _), (5, _), (6, _), (8, _), (9, _), (10, _), (11, _), (12, _), (13, _)] ⟨rfl, rfl, rfl, rfl, rfl, rfl, rfl, rfl, rfl, rfl, rfl, trivial⟩ ?_))
           refine CV.join (α := Unit) (fun _ => [(1, .pointer (some ⟨p, 0, none⟩)), (2, .pointer (some ⟨r, 0, none⟩)), (4, .pointer (some ⟨ev, 0, none⟩)), (5, .pointer (some ⟨x, 0, none⟩)), (6, .int .i64 (somN d.d)), (8, .int .i64 (stF (somN d.d) (frN (somN d.d) ((d.hs.map (·.t)).take j)) (d.hs.getD j thK.d).t)), (9, .int .i64 j), (10, .pointer (some ⟨t, 0, none⟩)), (11, .pointer (some ⟨y, 0, none⟩)), (12, .int .i64 k), (13, .pointer (some ⟨o, 0, none⟩))]) (fun _ => Hp I w [Blk p (.cells #[.string (bs d.name), .slice d.sA d.ss.length d.sc, .slice d.tA d.hs.length d.tc] 25 (0, 0)), Blk r (.cells #[.string (bs []), .slice none 0 0, .slice none 0 0] 25 (0, 0)), Blk nm (.cells #[.string (bs [111, 102, 102]), .string (bs [111, 110]), .string (bs [95, 120]), .string (bs [83, 116, 97, 116, 101, 51]), .string (bs [105, 102]), .string (bs [111, 110, 95, 49])] 63 (0, 0)), Blk ev (.cells #[.string (bs [115, 116, 97, 114, 116]), .string (bs [105, 114, 113]), .string (bs [111, 110]), .string (bs [100, 114, 105, 118, 101, 114])] 64 (0, 0)), Blk x (.cells #[.string (bs (nmL.getD (d.name.length % 6) [])), .slice sA (nmL.take (somN d.d)).length sc, .slice D.tA D.hs.length D.tc] 25 (0, 0)), OS 9 strK sA sc (nmL.take (somN d.d)), OS 48 thK D.tA D.tc D.hs, Big opA D.hs, Blk t (.cells #[.int .i64 (d.hs.getD j thK.d).t.frm, .string (bs (d.hs.getD j thK.d).t.ev), .bool (d.hs.getD j thK.d).t.gd.used, .int .u64 (d.hs.getD j thK.d).t.gd.reg, .int .u64 (d.hs.getD j thK.d).t.gd.mask, .int .u64 (d.hs.getD j thK.d).t.gd.val, .slice (d.hs.getD j thK.d).A (d.hs.getD j thK.d).t.ops.length (d.hs.getD j thK.d).c, .int .i64 (d.hs.getD j thK.d).t.to] 48 (0, 0)), Blk y (.cells #[.int .i64 (stF (somN d.d) (frN (somN d.d) ((d.hs.map (·.t)).take j)) (d.hs.getD j thK.d).t), .string (bs (ev4.getD ((d.hs.getD j thK.d).t.ev.length % 4) [])), .bool (gM (d.hs.getD j thK.d).t.gd).used, .int .u64 (gM (d.hs.getD j thK.d).t.gd).reg, .int .u64 (gM (d.hs.getD j thK.d).t.gd).mask, .int .u64 (gM (d.hs.getD j thK.d).t.gd).val, .slice A (((d.hs.getD j thK.d).t.ops.take k).map oM).length c, .int .i64 (modM (d.hs.getD j thK.d).t.to (somN d.d))] 48 (0, 0)), OS 59 roK A c (((d.hs.getD j thK.d).t.ops.take k).map oM), Blk o (.cells #[.bool (oM ((d.hs.getD j thK.d).t.ops.getD k roK.d)).wr, .int .u64 (oM ((d.hs.getD j thK.d).t.ops.getD k roK.d)).reg, .int .u64 (oM ((d.hs.getD j thK.d).t.ops.getD k roK.d)).val] 59 (0, 0))]) ?_ ?_
           ·
            skip
            refine CV.seq (CV.region ?_)
            refine RV.s (Step.fieldAddr rfl (F59_0 _ _)) rfl (RV.s (Step.load Tryz.underlying4 rfl rfl (fun w h => h.cell 11 rfl rfl)) rfl (RV.s (Step.not rfl) rfl ?_))
            refine RV.nil (KV.then_n (KV.env [(1, _), (2, _), (4, _), (5, _), (6, _), (8, _), (9, _), (10, _), (11, _), (12, _), (13, _), (115, _)] ⟨rfl, rfl, rfl, rfl, rfl, rfl, rfl, rfl, rfl, rfl, rfl, rfl, trivial⟩ ?_))
            refine KV.cases 115 rfl (fun cc2 => ?_) (fun cc2 => ?_)
            ·
             have hw := neg_t cc2
             refine CV.cond_t rfl (CV.region ?_)
             refine RV.s (Step.fieldAddr rfl (F59_2 _ _)) rfl ?_
             refine RV.op (OV.store 11 [_] #[_, _, _] I43 rfl rfl rfl rfl rfl (Nat.le_of_ble_eq_true rfl) (by simp [Value.oneCell']) rfl gno ?_)
             refine RV.nil (KV.then_n (KV.env [(1, _), (2, _), (4, _), (5, _), (6, _), (8, _), (9, _), (10, _), (11, _), (12, _), (13, _)] ⟨rfl, rfl, rfl, rfl, rfl, rfl, rfl, rfl, rfl, rfl, rfl, trivial⟩ ?_))
             refine KV.sel [0, 0, 0, 0, 0, 0, 0, 0, 0, 0, 0, 0] [_, _, _, _, _, _, _, _, _, _, _, _] rfl ?_
             exact KV.join () ⟨rfl, rfl, rfl, rfl, rfl, rfl, rfl, rfl, rfl, rfl, rfl, trivial⟩ (fun _ h => by first | (rw [oM_t hw]; exact h) | (rw [oM_f hw]; exact h))
            ·
             have hw := neg_f cc2
             refine CV.cond_f rfl (CV.skip (KV.then_n (KV.env [(1, _), (2, _), (4, _), (5, _), (6, _), (8, _), (9, _), (10, _), (11, _), (12, _), (13, _)] ⟨rfl, rfl, rfl, rfl, rfl, rfl, rfl, rfl, rfl, rfl, rfl, trivial⟩ ?_)))
             refine KV.sel [0, 0, 0, 0, 0, 0, 0, 0, 0, 0, 0, 0] [_, _, _, _, _, _, _, _, _, _, _, _] rfl ?_
             exact KV.join () ⟨rfl, rfl, rfl, rfl, rfl, rfl, rfl, rfl, rfl, rfl, rfl, trivial⟩ (fun _ h => by first | (rw [oM_t hw]; exact h) | (rw [oM_f hw]; exact h))
           ·
            intro _
            refine CV.region ?_
            refine RV.s (Step.fieldAddr rfl (F48_3 _ _)) rfl (RV.s (Step.load Tryz.underlying46 rfl rfl (fun w h => h.cell 9 rfl rfl)) rfl (RV.s (Step.loadN _ Tryz.underlying59 rfl I59 rfl rfl (fun w h => h.cells 11 rfl)) rfl ?_))
            refine RV.op (OV.buildSlice (K := roK) ([oM ((d.hs.getD j thK.d).t.ops.getD k roK.d)]) rfl (Bs46_1_0 _ _ _) rfl rfl (by omega) gno rfl (fun b25_3 => ?_))
            refine RV.op (OV.append 10 Tryz.underlying46 I59 rfl rfl rfl rfl rfl rfl (fun w h => h.os 12 rfl) (by simp only [List.length_cons, List.length_nil, List.length_map, List.length_take]; omega) (by simp only [List.length_cons, List.length_nil, List.length_map, List.length_take]; omega) gno rfl (fun A4 c4 => ?_))
            refine RV.s (Step.fieldAddr rfl (F48_3 _ _)) rfl ?_
            refine RV.op (OV.store 9 [_] #[_, _, _, _, _, _, _, _] I46 rfl rfl rfl rfl rfl (Nat.le_of_ble_eq_true rfl) (by simp [Value.oneCell']) rfl gno ?_)
            refine RV.nil (KV.block_n (KV.then_n (KV.env [(1, _), (2, _), (4, _), (5, _), (6, _), (8, _), (9, _), (10, _), (11, _), (12, _)] ⟨rfl, rfl, rfl, rfl, rfl, rfl, rfl, rfl, rfl, rfl, trivial⟩ (CV.region ?_))))
            refine RV.m rfl rfl ?_
            (first | refine RV.op (OV.step gno (Step.add rfl rfl (wI64 (by omega) (by omega))) rfl ?_) | refine RV.op (OV.step gno (Step.add rfl rfl rfl) rfl ?_))
            refine RV.a rfl rfl ?_
            refine RV.nil (KV.then_n (KV.env [(1, _), (2, _), (4, _), (5, _), (6, _), (8, _), (9, _), (10, _), (11, _), (12, _)] ⟨rfl, rfl, rfl, rfl, rfl, rfl, rfl, rfl, rfl, rfl, trivial⟩ ?_))
            refine KV.sel [0, 0, 0, 0, 0, 0, 0, 0, 0, 0, 0] [_, _, _, _, _, _, _, _, _, _, _] rfl ?_
            exact KV.loop3 (x := k) (y := A) (z := c) (k + 1) (A4) (c4) ⟨by omega, by omega⟩ (by omega) ⟨rfl, rfl, rfl, rfl, rfl, rfl, rfl, rfl, rfl, rfl, trivial⟩ (fun _ h => by rw [take_snoc roK.d (show k < (d.hs.getD j thK.d).t.ops.length by omega), List.map_append]; exact h)
          ·
           refine RV.s (Step.pick_t rfl rfl) rfl ?_
           refine RV.nil (KV.then_n (KV.env [(1, _), (2, _), (4, _), (5, _), (6, _), (8, _), (9, _), (10, _), (11, _), (12, _), (105, _)] ⟨rfl, rfl, rfl, rfl, rfl, rfl, rfl, rfl, rfl, rfl, rfl, trivial⟩ (CV.cond_f rfl (CV.exit (KV.then_exit ?_)))))
           refine KV.then_exit (KV.block_hit (KV.then_n (KV.env [(1, _), (2, _), (4, _), (5, _), (6, _), (8, _), (9, _), (11, _)] ⟨rfl, rfl, rfl, rfl, rfl, rfl, rfl, rfl, trivial⟩ ?_)))
           have hop : (((d.hs.getD j thK.d).t.ops.take k).map oM) = (((d.hs.getD j thK.d).t.ops.take 4).map oM) := by rw [take_min hk1.1 hk1.2 (by omega)]
           rw [hop]
           refine CV.region ?_
           refine RV.s (Step.fieldAddr rfl (F25_2 _ _)) rfl (RV.s (Step.load Tryz.underlying23 rfl rfl (fun w h => h.cell 4 rfl rfl)) rfl (RV.s (Step.loadN _ Tryz.underlying48 rfl I48 rfl rfl (fun w h => h.cells 9 rfl)) rfl ?_))
           refine RV.op (OV.buildSlice (K := thK) ([(⟨someT (somN d.d) (stF (somN d.d) (frN (somN d.d) ((d.hs.map (·.t)).take j)) (d.hs.getD j thK.d).t) (d.hs.getD j thK.d).t, A, c⟩ : TH)]) rfl (Bs23_1_0 _ _ _ _ _ _ _ _) rfl rfl (by omega) gno rfl (fun b26_3 => ?_))
           refine RV.op (OV.append 6 Tryz.underlying23 I48 rfl rfl rfl rfl rfl rfl (fun w h => h.os 11 rfl) (by simp only [List.length_cons, List.length_nil]; omega) (by simp only [List.length_cons, List.length_nil]; omega) gno rfl (fun A5 c5 => ?_))
           refine RV.s (Step.fieldAddr rfl (F25_2 _ _)) rfl ?_
           refine RV.op (OV.store 4 [_] #[_, _, _] I23 rfl rfl rfl rfl rfl (Nat.le_of_ble_eq_true rfl) (by simp [Value.oneCell']) rfl gno ?_)
           refine KV.sel [0, 0, 0, 0, 0, 0, 0, 0, 2] [_, _, _, _, _, _, _, _, _] rfl ?_
           refine KV.heap (fun w h => Hp.bigSnoc8 (⟨someT (somN d.d) (stF (somN d.d) (frN (somN d.d) ((d.hs.map (·.t)).take j)) (d.hs.getD j thK.d).t) (d.hs.getD j thK.d).t, A, c⟩ : TH) h rfl) ?_
           refine RV.nil (KV.block_n (KV.then_n (KV.env [(1, _), (2, _), (4, _), (5, _), (6, _), (8, _), (9, _)] ⟨rfl, rfl, rfl, rfl, rfl, rfl, rfl, trivial⟩ (CV.region ?_))))
           refine RV.m rfl rfl ?_
           (first | refine RV.op (OV.step gno (Step.add rfl rfl (wI64 (by omega) (by omega))) rfl ?_) | refine RV.op (OV.step gno (Step.add rfl rfl rfl) rfl ?_))
           refine RV.a rfl rfl ?_
           refine RV.nil (KV.then_n (KV.env [(1, _), (2, _), (4, _), (5, _), (6, _), (8, _), (9, _)] ⟨rfl, rfl, rfl, rfl, rfl, rfl, rfl, trivial⟩ ?_))
           refine KV.sel [0, 0, 0, 0, 0, 0, 0, 0] [_, _, _, _, _, _, _, _] rfl ?_
           exact KV.loop2 (x := j) (y := D) (j + 1) ({ D with tA := A5, tc := c5, hs := D.hs ++ [(⟨someT (somN d.d) (stF (somN d.d) (frN (somN d.d) ((d.hs.map (·.t)).take j)) (d.hs.getD j thK.d).t) (d.hs.getD j thK.d).t, A, c⟩ : TH)] }) ⟨⟨by omega, by omega⟩, by show (D.hs ++ [_]).length = j + 1; rw [List.length_append, hinv.2.1]; rfl, som_next (by omega) hinv.2.2 rfl⟩ (by omega) ⟨rfl, rfl, rfl, rfl, rfl, (by rw [frN_next (by omega)]; rfl), rfl, trivial⟩ (fun _ h => h)
         ·
          refine RV.m rfl rfl (RV.k rfl rfl (RV.k rfl rfl (RV.s (Step.pick_f rfl rfl) rfl ?_)))
          refine RV.nil (KV.then_n (KV.env [(1, _), (2, _), (4, _), (5, _), (6, _), (8, _), (9, _), (10, _), (11, _), (12, _), (105, _)] ⟨rfl, rfl, rfl, rfl, rfl, rfl, rfl, rfl, rfl, rfl, rfl, trivial⟩ (CV.cond_f rfl (CV.exit (KV.then_exit ?_)))))
          refine KV.then_exit (KV.block_hit (KV.then_n (KV.env [(1, _), (2, _), (4, _), (5, _), (6, _), (8, _), (9, _), (11, _)] ⟨rfl, rfl, rfl, rfl, rfl, rfl, rfl, rfl, trivial⟩ ?_)))
          have hop : (((d.hs.getD j thK.d).t.ops.take k).map oM) = (((d.hs.getD j thK.d).t.ops.take 4).map oM) := by rw [take_min hk1.1 hk1.2 (by omega)]
          rw [hop]
          refine CV.region ?_
          refine RV.s (Step.fieldAddr rfl (F25_2 _ _)) rfl (RV.s (Step.load Tryz.underlying23 rfl rfl (fun w h => h.cell 4 rfl rfl)) rfl (RV.s (Step.loadN _ Tryz.underlying48 rfl I48 rfl rfl (fun w h => h.cells 9 rfl)) rfl ?_))
          refine RV.op (OV.buildSlice (K := thK) ([(⟨someT (somN d.d) (stF (somN d.d) (frN (somN d.d) ((d.hs.map (·.t)).take j)) (d.hs.getD j thK.d).t) (d.hs.getD j thK.d).t, A, c⟩ : TH)]) rfl (Bs23_1_0 _ _ _ _ _ _ _ _) rfl rfl (by omega) gno rfl (fun b26_3 => ?_))
          refine RV.op (OV.append 6 Tryz.underlying23 I48 rfl rfl rfl rfl rfl rfl (fun w h => h.os 11 rfl) (by simp only [List.length_cons, List.length_nil]; omega) (by simp only [List.length_cons, List.length_nil]; omega) gno rfl (fun A5 c5 => ?_))
          refine RV.s (Step.fieldAddr rfl (F25_2 _ _)) rfl ?_
          refine RV.op (OV.store 4 [_] #[_, _, _] I23 rfl rfl rfl rfl rfl (Nat.le_of_ble_eq_true rfl) (by simp [Value.oneCell']) rfl gno ?_)
          refine KV.sel [0, 0, 0, 0, 0, 0, 0, 0, 2] [_, _, _, _, _, _, _, _, _] rfl ?_
          refine KV.heap (fun w h => Hp.bigSnoc8 (⟨someT (somN d.d) (stF (somN d.d) (frN (somN d.d) ((d.hs.map (·.t)).take j)) (d.hs.getD j thK.d).t) (d.hs.getD j thK.d).t, A, c⟩ : TH) h rfl) ?_
          refine RV.nil (KV.block_n (KV.then_n (KV.env [(1, _), (2, _), (4, _), (5, _), (6, _), (8, _), (9, _)] ⟨rfl, rfl, rfl, rfl, rfl, rfl, rfl, trivial⟩ (CV.region ?_))))
          refine RV.m rfl rfl ?_
          (first | refine RV.op (OV.step gno (Step.add rfl rfl (wI64 (by omega) (by omega))) rfl ?_) | refine RV.op (OV.step gno (Step.add rfl rfl rfl) rfl ?_))
          refine RV.a rfl rfl ?_
          refine RV.nil (KV.then_n (KV.env [(1, _), (2, _), (4, _), (5, _), (6, _), (8, _), (9, _)] ⟨rfl, rfl, rfl, rfl, rfl, rfl, rfl, trivial⟩ ?_))
          refine KV.sel [0, 0, 0, 0, 0, 0, 0, 0] [_, _, _, _, _, _, _, _] rfl ?_
          exact KV.loop2 (x := j) (y := D) (j + 1) ({ D with tA := A5, tc := c5, hs := D.hs ++ [(⟨someT (somN d.d) (stF (somN d.d) (frN (somN d.d) ((d.hs.map (·.t)).take j)) (d.hs.getD j thK.d).t) (d.hs.getD j thK.d).t, A, c⟩ : TH)] }) ⟨⟨by omega, by omega⟩, by show (D.hs ++ [_]).length = j + 1; rw [List.length_append, hinv.2.1]; rfl, som_next (by omega) hinv.2.2 rfl⟩ (by omega) ⟨rfl, rfl, rfl, rfl, rfl, (by rw [frN_next (by omega)]; rfl), rfl, trivial⟩ (fun _ h => h)
     ·
      refine OV.alloc #[.int .i64 0, .string (Sv.bs []), .bool false, .int .u64 0, .int .u64 0, .int .u64 0, .slice none 0 0, .int .i64 0] I48 rfl gno rfl (fun y => ?_)
      refine AV.next (bl 14 5119) (by kernel_rfl) (fun _ h => h.sel [8, 3] rfl) ?_
      refine AV.all [10] (by kernel_rfl) (by decide) ?_
      refine ⟨⟨_, rfl, ?_⟩, trivial⟩
      ·
       refine OV.callP Tryz.func11 B11 N11 rfl (mod_fn (d.hs.getD j thK.d).t.to (somN d.d) (by omega) (by omega)) gno rfl ?_
       refine AV.next (bl 14 6143) (by kernel_rfl) (fun _ h => h.sel [8, 3] rfl) ?_
       refine AV.u 11 (bl 14 8191) rfl gno (Step.build rfl (Bd48_0_1_4 _ _ _)) rfl (fun _ h => h.sel [8, 3] rfl) ?_
       refine AV.all [13] (by kernel_rfl) (by decide) ?_
       refine ⟨⟨_, rfl, ?_⟩, trivial⟩
       ·
        refine OV.store 9 [_, _, _, _, _, _, _, _] #[_, _, _, _, _, _, _, _] I48 rfl rfl rfl rfl rfl (Nat.le_of_ble_eq_true rfl) (by simp [Value.oneCell']) rfl gno ?_
        refine AV.next (bl 14 16383) (by kernel_rfl) (fun _ h => h.sel [8, 3] rfl) ?_
        refine AV.done (by kernel_rfl) ?_
        refine KV.then_n (KV.env [(1, _), (2, _), (4, _), (5, _), (6, _), (8, _), (9, _), (10, _), (11, _)] ⟨rfl, rfl, rfl, rfl, rfl, rfl, rfl, rfl, rfl, trivial⟩ ?_)
        refine CV.join (α := Unit) (fun _ => [(1, .pointer (some ⟨p, 0, none⟩)), (2, .pointer (some ⟨r, 0, none⟩)), (4, .pointer (some ⟨ev, 0, none⟩)), (5, .pointer (some ⟨x, 0, none⟩)), (6, .int .i64 (somN d.d)), (8, .int .i64 (stF (somN d.d) (frN (somN d.d) ((d.hs.map (·.t)).take j)) (d.hs.getD j thK.d).t)), (9, .int .i64 j), (10, .pointer (some ⟨t, 0, none⟩)), (11, .pointer (some ⟨y, 0, none⟩))]) (fun _ => Hp I w [Blk p (.cells #[.string (bs d.name), .slice d.sA d.ss.length d.sc, .slice d.tA d.hs.length d.tc] 25 (0, 0)), Blk r (.cells #[.string (bs []), .slice none 0 0, .slice none 0 0] 25 (0, 0)), Blk nm (.cells #[.string (bs [111, 102, 102]), .string (bs [111, 110]), .string (bs [95, 120]), .string (bs [83, 116, 97, 116, 101, 51]), .string (bs [105, 102]), .string (bs [111, 110, 95, 49])] 63 (0, 0)), Blk ev (.cells #[.string (bs [115, 116, 97, 114, 116]), .string (bs [105, 114, 113]), .string (bs [111, 110]), .string (bs [100, 114, 105, 118, 101, 114])] 64 (0, 0)), Blk x (.cells #[.string (bs (nmL.getD (d.name.length % 6) [])), .slice sA (nmL.take (somN d.d)).length sc, .slice D.tA D.hs.length D.tc] 25 (0, 0)), OS 9 strK sA sc (nmL.take (somN d.d)), OS 48 thK D.tA D.tc D.hs, Big opA D.hs, Blk t (.cells #[.int .i64 (d.hs.getD j thK.d).t.frm, .string (bs (d.hs.getD j thK.d).t.ev), .bool (d.hs.getD j thK.d).t.gd.used, .int .u64 (d.hs.getD j thK.d).t.gd.reg, .int .u64 (d.hs.getD j thK.d).t.gd.mask, .int .u64 (d.hs.getD j thK.d).t.gd.val, .slice (d.hs.getD j thK.d).A (d.hs.getD j thK.d).t.ops.length (d.hs.getD j thK.d).c, .int .i64 (d.hs.getD j thK.d).t.to] 48 (0, 0)), Blk y (.cells #[.int .i64 (stF (somN d.d) (frN (somN d.d) ((d.hs.map (·.t)).take j)) (d.hs.getD j thK.d).t), .string (bs (ev4.getD ((d.hs.getD j thK.d).t.ev.length % 4) [])), .bool (gM (d.hs.getD j thK.d).t.gd).used, .int .u64 (gM (d.hs.getD j thK.d).t.gd).reg, .int .u64 (gM (d.hs.getD j thK.d).t.gd).mask, .int .u64 (gM (d.hs.getD j thK.d).t.gd).val, .slice none 0 0, .int .i64 (modM (d.hs.getD j thK.d).t.to (somN d.d))] 48 (0, 0))]) ?_ ?_
        ·
         skip
         refine CV.seq (CV.region ?_)
         refine RV.s (Step.fieldAddr rfl (F48_2 _ _)) rfl (RV.s (Step.fieldAddr rfl (F45_0 _ _)) rfl (RV.s (Step.load Tryz.underlying4 rfl rfl (fun w h => h.cell 8 rfl rfl)) rfl ?_))
         refine RV.nil (KV.then_n (KV.env [(1, _), (2, _), (4, _), (5, _), (6, _), (8, _), (9, _), (10, _), (11, _), (83, _)] ⟨rfl, rfl, rfl, rfl, rfl, rfl, rfl, rfl, rfl, rfl, trivial⟩ ?_))
         refine KV.cases 83 rfl (fun cc3 => ?_) (fun cc3 => ?_)
         ·
          have hu : (d.hs.getD j thK.d).t.gd.used = true := cc3
          refine CV.cond_t rfl (CV.region ?_)
          refine RV.s (Step.fieldAddr rfl (F48_2 _ _)) rfl (RV.s (Step.fieldAddr rfl (F45_1 _ _)) rfl (RV.s (Step.load Tryz.underlying43 rfl rfl (fun w h => h.cell 8 rfl rfl)) rfl (RV.s (Step.fieldAddr rfl (F48_2 _ _)) rfl (RV.s (Step.fieldAddr rfl (F45_2 _ _)) rfl (RV.s (Step.load Tryz.underlying43 rfl rfl (fun w h => h.cell 8 rfl rfl)) rfl ?_)))))
          refine RV.s (Step.rem rfl rfl (by omega) (rfl)) rfl ?_
          refine RV.s (Step.fieldAddr rfl (F48_2 _ _)) rfl (RV.s (Step.fieldAddr rfl (F45_3 _ _)) rfl (RV.s (Step.load Tryz.underlying43 rfl rfl (fun w h => h.cell 8 rfl rfl)) rfl ?_))
          refine RV.s (Step.rem rfl rfl (by omega) (rfl)) rfl ?_
          refine RV.s (Step.build rfl (Bd45_0_1_2_3 _ _ _ _)) rfl (RV.s (Step.fieldAddr rfl (F48_2 _ _)) rfl ?_)
          refine RV.op (OV.store 9 [_, _, _, _] #[_, _, _, _, _, _, _, _] I45 rfl rfl rfl rfl rfl (Nat.le_of_ble_eq_true rfl) (by simp [Value.oneCell']) rfl gno ?_)
          refine RV.nil (KV.then_n (KV.env [(1, _), (2, _), (4, _), (5, _), (6, _), (8, _), (9, _), (10, _), (11, _)] ⟨rfl, rfl, rfl, rfl, rfl, rfl, rfl, rfl, rfl, trivial⟩ ?_))
          refine KV.sel [0, 0, 0, 0, 0, 0, 0, 0, 0, 0] [_, _, _, _, _, _, _, _, _, _] rfl ?_
          exact KV.join () ⟨rfl, rfl, rfl, rfl, rfl, rfl, rfl, rfl, rfl, trivial⟩ (fun _ h => by first | (rw [gM_t hu]; exact h) | (rw [gM_f hu]; exact h))
         ·
          have hu : (d.hs.getD j thK.d).t.gd.used = false := cc3
          refine CV.cond_f rfl (CV.skip (KV.then_n (KV.env [(1, _), (2, _), (4, _), (5, _), (6, _), (8, _), (9, _), (10, _), (11, _)] ⟨rfl, rfl, rfl, rfl, rfl, rfl, rfl, rfl, rfl, trivial⟩ ?_)))
          refine KV.sel [0, 0, 0, 0, 0, 0, 0, 0, 0, 0] [_, _, _, _, _, _, _, _, _, _] rfl ?_
          exact KV.join () ⟨rfl, rfl, rfl, rfl, rfl, rfl, rfl, rfl, rfl, trivial⟩ (fun _ h => by first | (rw [gM_t hu]; exact h) | (rw [gM_f hu]; exact h))
        ·
         intro _
         refine CV.seq (CV.seq ?_)
         refine KV.heap (fun w h => h.nilOS (e := 59) (K := roK)) ?_
         refine CV.region ?_
         refine RV.a rfl rfl ?_
         refine RV.nil (KV.then_n (KV.env [(1, _), (2, _), (4, _), (5, _), (6, _), (8, _), (9, _), (10, _), (11, _), (12, _)] ⟨rfl, rfl, rfl, rfl, rfl, rfl, rfl, rfl, rfl, rfl, trivial⟩ (CV.block ?_)))
         refine KV.sel [0, 0, 0, 0, 0, 0, 0, 0, 0, 0, 0] [_, _, _, _, _, _, _, _, _, _, _] rfl ?_
         refine CV.loop3 (fun (k : Nat) (A : Option Addr) (c : Nat) => k ≤ (d.hs.getD j thK.d).t.ops.length ∧ k ≤ 4) (fun (k : Nat) (A : Option Addr) (c : Nat) => 4 - k) (fun (k : Nat) (A : Option Addr) (c : Nat) => [(1, .pointer (some ⟨p, 0, none⟩)), (2, .pointer (some ⟨r, 0, none⟩)), (4, .pointer (some ⟨ev, 0, none⟩)), (5, .pointer (some ⟨x, 0, none⟩)), (6, .int .i64 (somN d.d)), (8, .int .i64 (stF (somN d.d) (frN (somN d.d) ((d.hs.map (·.t)).take j)) (d.hs.getD j thK.d).t)), (9, .int .i64 j), (10, .pointer (some ⟨t, 0, none⟩)), (11, .pointer (some ⟨y, 0, none⟩)), (12, .int .i64 k)]) (fun (k : Nat) (A : Option Addr) (c : Nat) => Hp I w [Blk p (.cells #[.string (bs d.name), .slice d.sA d.ss.length d.sc, .slice d.tA d.hs.length d.tc] 25 (0, 0)), Blk r (.cells #[.string (bs []), .slice none 0 0, .slice none 0 0] 25 (0, 0)), Blk nm (.cells #[.string (bs [111, 102, 102]), .string (bs [111, 110]), .string (bs [95, 120]), .string (bs [83, 116, 97, 116, 101, 51]), .string (bs [105, 102]), .string (bs [111, 110, 95, 49])] 63 (0, 0)), Blk ev (.cells #[.string (bs [115, 116, 97, 114, 116]), .string (bs [105, 114, 113]), .string (bs [111, 110]), .string (bs [100, 114, 105, 118, 101, 114])] 64 (0, 0)), Blk x (.cells #[.string (bs (nmL.getD (d.name.length % 6) [])), .slice sA (nmL.take (somN d.d)).length sc, .slice D.tA D.hs.length D.tc] 25 (0, 0)), OS 9 strK sA sc (nmL.take (somN d.d)), OS 48 thK D.tA D.tc D.hs, Big opA D.hs, Blk t (.cells #[.int .i64 (d.hs.getD j thK.d).t.frm, .string (bs (d.hs.getD j thK.d).t.ev), .bool (d.hs.getD j thK.d).t.gd.used, .int .u64 (d.hs.getD j thK.d).t.gd.reg, .int .u64 (d.hs.getD j thK.d).t.gd.mask, .int .u64 (d.hs.getD j thK.d).t.gd.val, .slice (d.hs.getD j thK.d).A (d.hs.getD j thK.d).t.ops.length (d.hs.getD j thK.d).c, .int .i64 (d.hs.getD j thK.d).t.to] 48 (0, 0)), Blk y (.cells #[.int .i64 (stF (somN d.d) (frN (somN d.d) ((d.hs.map (·.t)).take j)) (d.hs.getD j thK.d).t), .string (bs (ev4.getD ((d.hs.getD j thK.d).t.ev.length % 4) [])), .bool (gM (d.hs.getD j thK.d).t.gd).used, .int .u64 (gM (d.hs.getD j thK.d).t.gd).reg, .int .u64 (gM (d.hs.getD j thK.d).t.gd).mask, .int .u64 (gM (d.hs.getD j thK.d).t.gd).val, .slice A (((d.hs.getD j thK.d).t.ops.take k).map oM).length c, .int .i64 (modM (d.hs.getD j thK.d).t.to (somN d.d))] 48 (0, 0)), OS 59 roK A c (((d.hs.getD j thK.d).t.ops.take k).map oM)]) (0) (none) (0) ⟨Nat.zero_le _, Nat.zero_le _⟩ ⟨rfl, rfl, rfl, rfl, rfl, rfl, rfl, rfl, rfl, rfl, trivial⟩ (fun _ h => h) ?_
         intro k A c hk1
         refine CV.seq (CV.seq (CV.region ?_))
         refine RV.m rfl rfl (RV.s (Step.fieldAddr rfl (F48_3 _ _)) rfl (RV.s (Step.load Tryz.underlying46 rfl rfl (fun w h => h.cell 8 rfl rfl)) rfl (RV.s (Step.lenSl Tryz.underlying46 rfl) rfl ?_)))
         refine RV.op (OV.split gno (Step.lss rfl rfl) rfl (fun k1 => ?_) (fun k1 => ?_))
         ·
          refine RV.m rfl rfl (RV.gw rfl (Step.move rfl) rfl ?_)
          refine RV.op (OV.split (gyes rfl) (Step.lss rfl rfl) rfl (fun k2 => ?_) (fun k2 => ?_))
          ·
           refine RV.s (Step.pick_t rfl rfl) rfl ?_
           refine RV.nil (KV.then_n (KV.env [(1, _), (2, _), (4, _), (5, _), (6, _), (8, _), (9, _), (10, _), (11, _), (12, _), (105, _)] ⟨rfl, rfl, rfl, rfl, rfl, rfl, rfl, rfl, rfl, rfl, rfl, trivial⟩ (CV.cond_t rfl (CV.skip (KV.then_n ?_)))))
           refine KV.env [(1, _), (2, _), (4, _), (5, _), (6, _), (8, _), (9, _), (10, _), (11, _), (12, _)] ⟨rfl, rfl, rfl, rfl, rfl, rfl, rfl, rfl, rfl, rfl, trivial⟩ (CV.seq (CV.block (CV.seq (CV.region ?_))))
           refine RV.s (Step.fieldAddr rfl (F48_3 _ _)) rfl (RV.s (Step.load Tryz.underlying46 rfl rfl (fun w h => h.cell 8 rfl rfl)) rfl (RV.m rfl rfl ?_))
           refine RV.s (Step.idx Tryz.underlying46 I59 (fun w h => (show RS w roK (d.hs.getD j thK.d).A (d.hs.getD j thK.d).t.ops from (DR.keep h hd hI).o j (by omega))) rfl rfl (rfl) _ rfl (by omega)) rfl ?_
           refine RV.s (Step.loadN _ Tryz.underlying59 rfl I59 rfl rfl (fun w h => (show RS w roK (d.hs.getD j thK.d).A (d.hs.getD j thK.d).t.ops from (DR.keep h hd hI).o j (by omega)).cells (by omega))) rfl ?_
           refine RV.op (OV.alloc #[.bool false, .int .u64 0, .int .u64 0] I59 rfl gno rfl (fun o => ?_))
           refine RV.op (OV.store 11 [_, _, _] #[_, _, _] I59 rfl rfl rfl rfl rfl (Nat.le_of_ble_eq_true rfl) (by simp [Value.oneCell']) rfl gno ?_)
           refine RV.nil (KV.then_n (KV.env [(1, _), (2, _), (4, _), (5, _), (6, _), (8, _), (9, _), (10, _), (11, _), (12, _), (13, _)] ⟨rfl, rfl, rfl, rfl, rfl, rfl, rfl, rfl, rfl, rfl, rfl, trivial⟩ ?_))
           refine CV.join (α := Unit) (fun _ => [(1, .pointer (some ⟨p, 0, none⟩)), (2, .pointer (some ⟨r, 0, none⟩)), (4, .pointer (some ⟨ev, 0, none⟩)), (5, .pointer (some ⟨x, 0, none⟩)), (6, .int .i64 (somN d.d)), (8, .int .i64 (stF (somN d.d) (frN (somN d.d) ((d.hs.map (·.t)).take j)) (d.hs.getD j thK.d).t)), (9, .int .i64 j), (10, .pointer (some ⟨t, 0, none⟩)), (11, .pointer (some ⟨y, 0, none⟩)), (12, .int .i64 k), (13, .pointer (some ⟨o, 0, none⟩))]) (fun _ => Hp I w [Blk p (.cells #[.string (bs d.name), .slice d.sA d.ss.length d.sc, .slice d.tA d.hs.length d.tc] 25 (0, 0)), Blk r (.cells #[.string (bs []), .slice none 0 0, .slice none 0 0] 25 (0, 0)), Blk nm (.cells #[.string (bs [111, 102, 102]), .string (bs [111, 110]), .string (bs [95, 120]), .string (bs [83, 116, 97, 116, 101, 51]), .string (bs [105, 102]), .string (bs [111, 110, 95, 49])] 63 (0, 0)), Blk ev (.cells #[.string (bs [115, 116, 97, 114, 116]), .string (bs [105, 114, 113]), .string (bs [111, 110]), .string (bs [100, 114, 105, 118, 101, 114])] 64 (0, 0)), Blk x (.cells #[.string (bs (nmL.getD (d.name.length % 6) [])), .slice sA (nmL.take (somN d.d)).length sc, .slice D.tA D.hs.length D.tc] 25 (0, 0)), OS 9 strK sA sc (nmL.take (somN d.d)), OS 48 thK D.tA D.tc D.hs, Big opA D.hs, Blk t (.cells #[.int .i64 (d.hs.getD j thK.d).t.frm, .string (bs (d.hs.getD j thK.d).t.ev), .bool (d.hs.getD j thK.d).t.gd.used, .int .u64 (d.hs.getD j thK.d).t.gd.reg, .int .u64 (d.hs.getD j thK.d).t.gd.mask, .int .u64 (d.hs.getD j thK.d).t.gd.val, .slice (d.hs.getD j thK.d).A (d.hs.getD j thK.d).t.ops.length (d.hs.getD j thK.d).c, .int .i64 (d.hs.getD j thK.d).t.to] 48 (0, 0)), Blk y (.cells #[.int .i64 (stF (somN d.d) (frN (somN d.d) ((d.hs.map (·.t)).take j)) (d.hs.getD j thK.d).t), .string (bs (ev4.getD ((d.hs.getD j thK.d).t.ev.length % 4) [])), .bool (gM (d.hs.getD j thK.d).t.gd).used, .int .u64 (gM (d.hs.getD j thK.d).t.gd).reg, .int .u64 (gM (d.hs.getD j thK.d).t.gd).mask, .int .u64 (gM (d.hs.getD j thK.d).t.gd).val, .slice A (((d.hs.getD j thK.d).t.ops.take k).map oM).length c, .int .i64 (modM (d.hs.getD j thK.d).t.to (somN d.d))] 48 (0, 0)), OS 59 roK A c (((d.hs.getD j thK.d).t.ops.take k).map oM), Blk o (.cells #[.bool (oM ((d.hs.getD j thK.d).t.ops.getD k roK.d)).wr, .int .u64 (oM ((d.hs.getD j thK.d).t.ops.getD k roK.d)).reg, .int .u64 (oM ((d.hs.getD j thK.d).t.ops.getD k roK.d)).val] 59 (0, 0))]) ?_ ?_
           ·
            skip
            refine CV.seq (CV.region ?_)
            refine RV.s (Step.fieldAddr rfl (F59_0 _ _)) rfl (RV.s (Step.load Tryz.underlying4 rfl rfl (fun w h => h.cell 11 rfl rfl)) rfl (RV.s (Step.not rfl) rfl ?_))
            refine RV.nil (KV.then_n (KV.env [(1, _), (2, _), (4, _), (5, _), (6, _), (8, _), (9, _), (10, _), (11, _), (12, _), (13, _), (115, _)] ⟨rfl, rfl, rfl, rfl, rfl, rfl, rfl, rfl, rfl, rfl, rfl, rfl, trivial⟩ ?_))
            refine KV.cases 115 rfl (fun cc4 => ?_) (fun cc4 => ?_)
            ·
             have hw := neg_t cc4
             refine CV.cond_t rfl (CV.region ?_)
             refine RV.s (Step.fieldAddr rfl (F59_2 _ _)) rfl ?_
             refine RV.op (OV.store 11 [_] #[_, _, _] I43 rfl rfl rfl rfl rfl (Nat.le_of_ble_eq_true rfl) (by simp [Value.oneCell']) rfl gno ?_)
             refine RV.nil (KV.then_n (KV.env [(1, _), (2, _), (4, _), (5, _), (6, _), (8, _), (9, _), (10, _), (11, _), (12, _), (13, _)] ⟨rfl, rfl, rfl, rfl, rfl, rfl, rfl, rfl, rfl, rfl, rfl, trivial⟩ ?_))
             refine KV.sel [0, 0, 0, 0, 0, 0, 0, 0, 0, 0, 0, 0] [_, _, _, _, _, _, _, _, _, _, _, _] rfl ?_
             exact KV.join () ⟨rfl, rfl, rfl, rfl, rfl, rfl, rfl, rfl, rfl, rfl, rfl, trivial⟩ (fun _ h => by first | (rw [oM_t hw]; exact h) | (rw [oM_f hw]; exact h))
            ·
             have hw := neg_f cc4
             refine CV.cond_f rfl (CV.skip (KV.then_n (KV.env [(1, _), (2, _), (4, _), (5, _), (6, _), (8, _), (9, _), (10, _), (11, _), (12, _), (13, _)] ⟨rfl, rfl, rfl, rfl, rfl, rfl, rfl, rfl, rfl, rfl, rfl, trivial⟩ ?_)))
             refine KV.sel [0, 0, 0, 0, 0, 0, 0, 0, 0, 0, 0, 0] [_, _, _, _, _, _, _, _, _, _, _, _] rfl ?_
             exact KV.join () ⟨rfl, rfl, rfl, rfl, rfl, rfl, rfl, rfl, rfl, rfl, rfl, trivial⟩ (fun _ h => by first | (rw [oM_t hw]; exact h) | (rw [oM_f hw]; exact h))
           ·
            intro _
            refine CV.region ?_
            refine RV.s (Step.fieldAddr rfl (F48_3 _ _)) rfl (RV.s (Step.load Tryz.underlying46 rfl rfl (fun w h => h.cell 9 rfl rfl)) rfl (RV.s (Step.loadN _ Tryz.underlying59 rfl I59 rfl rfl (fun w h => h.cells 11 rfl)) rfl ?_))
            refine RV.op (OV.buildSlice (K := roK) ([oM ((d.hs.getD j thK.d).t.ops.getD k roK.d)]) rfl (Bs46_1_0 _ _ _) rfl rfl (by omega) gno rfl (fun b25_3 => ?_))
            refine RV.op (OV.append 10 Tryz.underlying46 I59 rfl rfl rfl rfl rfl rfl (fun w h => h.os 12 rfl) (by simp only [List.length_cons, List.length_nil, List.length_map, List.length_take]; omega) (by simp only [List.length_cons, List.length_nil, List.length_map, List.length_take]; omega) gno rfl (fun A4 c4 => ?_))
            refine RV.s (Step.fieldAddr rfl (F48_3 _ _)) rfl ?_
            refine RV.op (OV.store 9 [_] #[_, _, _, _, _, _, _, _] I46 rfl rfl rfl rfl rfl (Nat.le_of_ble_eq_true rfl) (by simp [Value.oneCell']) rfl gno ?_)
            refine RV.nil (KV.block_n (KV.then_n (KV.env [(1, _), (2, _), (4, _), (5, _), (6, _), (8, _), (9, _), (10, _), (11, _), (12, _)] ⟨rfl, rfl, rfl, rfl, rfl, rfl, rfl, rfl, rfl, rfl, trivial⟩ (CV.region ?_))))
            refine RV.m rfl rfl ?_
            (first | refine RV.op (OV.step gno (Step.add rfl rfl (wI64 (by omega) (by omega))) rfl ?_) | refine RV.op (OV.step gno (Step.add rfl rfl rfl) rfl ?_))
            refine RV.a rfl rfl ?_
            refine RV.nil (KV.then_n (KV.env [(1, _), (2, _), (4, _), (5, _), (6, _), (8, _), (9, _), (10, _), (11, _), (12, _)] ⟨rfl, rfl, rfl, rfl, rfl, rfl, rfl, rfl, rfl, rfl, trivial⟩ ?_))
            refine KV.sel [0, 0, 0, 0, 0, 0, 0, 0, 0, 0, 0] [_, _, _, _, _, _, _, _, _, _, _] rfl ?_
            exact KV.loop3 (x := k) (y := A) (z := c) (k + 1) (A4) (c4) ⟨by omega, by omega⟩ (by omega) ⟨rfl, rfl, rfl, rfl, rfl, rfl, rfl, rfl, rfl, rfl, trivial⟩ (fun _ h => by rw [take_snoc roK.d (show k < (d.hs.getD j thK.d).t.ops.length by omega), List.map_append]; exact h)
          ·
           refine RV.s (Step.pick_t rfl rfl) rfl ?_
           refine RV.nil (KV.then_n (KV.env [(1, _), (2, _), (4, _), (5, _), (6, _), (8, _), (9, _), (10, _), (11, _), (12, _), (105, _)] ⟨rfl, rfl, rfl, rfl, rfl, rfl, rfl, rfl, rfl, rfl, rfl, trivial⟩ (CV.cond_f rfl (CV.exit (KV.then_exit ?_)))))
           refine KV.then_exit (KV.block_hit (KV.then_n (KV.env [(1, _), (2, _), (4, _), (5, _), (6, _), (8, _), (9, _), (11, _)] ⟨rfl, rfl, rfl, rfl, rfl, rfl, rfl, rfl, trivial⟩ ?_)))
           have hop : (((d.hs.getD j thK.d).t.ops.take k).map oM) = (((d.hs.getD j thK.d).t.ops.take 4).map oM) := by rw [take_min hk1.1 hk1.2 (by omega)]
           rw [hop]
           refine CV.region ?_
           refine RV.s (Step.fieldAddr rfl (F25_2 _ _)) rfl (RV.s (Step.load Tryz.underlying23 rfl rfl (fun w h => h.cell 4 rfl rfl)) rfl (RV.s (Step.loadN _ Tryz.underlying48 rfl I48 rfl rfl (fun w h => h.cells 9 rfl)) rfl ?_))
           refine RV.op (OV.buildSlice (K := thK) ([(⟨someT (somN d.d) (stF (somN d.d) (frN (somN d.d) ((d.hs.map (·.t)).take j)) (d.hs.getD j thK.d).t) (d.hs.getD j thK.d).t, A, c⟩ : TH)]) rfl (Bs23_1_0 _ _ _ _ _ _ _ _) rfl rfl (by omega) gno rfl (fun b26_3 => ?_))
           refine RV.op (OV.append 6 Tryz.underlying23 I48 rfl rfl rfl rfl rfl rfl (fun w h => h.os 11 rfl) (by simp only [List.length_cons, List.length_nil]; omega) (by simp only [List.length_cons, List.length_nil]; omega) gno rfl (fun A5 c5 => ?_))
           refine RV.s (Step.fieldAddr rfl (F25_2 _ _)) rfl ?_
           refine RV.op (OV.store 4 [_] #[_, _, _] I23 rfl rfl rfl rfl rfl (Nat.le_of_ble_eq_true rfl) (by simp [Value.oneCell']) rfl gno ?_)
           refine KV.sel [0, 0, 0, 0, 0, 0, 0, 0, 2] [_, _, _, _, _, _, _, _, _] rfl ?_
           refine KV.heap (fun w h => Hp.bigSnoc8 (⟨someT (somN d.d) (stF (somN d.d) (frN (somN d.d) ((d.hs.map (·.t)).take j)) (d.hs.getD j thK.d).t) (d.hs.getD j thK.d).t, A, c⟩ : TH) h rfl) ?_
           refine RV.nil (KV.block_n (KV.then_n (KV.env [(1, _), (2, _), (4, _), (5, _), (6, _), (8, _), (9, _)] ⟨rfl, rfl, rfl, rfl, rfl, rfl, rfl, trivial⟩ (CV.region ?_))))
           refine RV.m rfl rfl ?_
           (first | refine RV.op (OV.step gno (Step.add rfl rfl (wI64 (by omega) (by omega))) rfl ?_) | refine RV.op (OV.step gno (Step.add rfl rfl rfl) rfl ?_))
           refine RV.a rfl rfl ?_
           refine RV.nil (KV.then_n (KV.env [(1, _), (2, _), (4, _), (5, _), (6, _), (8, _), (9, _)] ⟨rfl, rfl, rfl, rfl, rfl, rfl, rfl, trivial⟩ ?_))
           refine KV.sel [0, 0, 0, 0, 0, 0, 0, 0] [_, _, _, _, _, _, _, _] rfl ?_
           exact KV.loop2 (x := j) (y := D) (j + 1) ({ D with tA := A5, tc := c5, hs := D.hs ++ [(⟨someT (somN d.d) (stF (somN d.d) (frN (somN d.d) ((d.hs.map (·.t)).take j)) (d.hs.getD j thK.d).t) (d.hs.getD j thK.d).t, A, c⟩ : TH)] }) ⟨⟨by omega, by omega⟩, by show (D.hs ++ [_]).length = j + 1; rw [List.length_append, hinv.2.1]; rfl, som_next (by omega) hinv.2.2 rfl⟩ (by omega) ⟨rfl, rfl, rfl, rfl, rfl, (by rw [frN_next (by omega)]; rfl), rfl, trivial⟩ (fun _ h => h)
         ·
          refine RV.m rfl rfl (RV.k rfl rfl (RV.k rfl rfl (RV.s (Step.pick_f rfl rfl) rfl ?_)))
          refine RV.nil (KV.then_n (KV.env [(1, _), (2, _), (4, _), (5, _), (6, _), (8, _), (9, _), (10, _), (11, _), (12, _), (105, _)] ⟨rfl, rfl, rfl, rfl, rfl, rfl, rfl, rfl, rfl, rfl, rfl, trivial⟩ (CV.cond_f rfl (CV.exit (KV.then_exit ?_)))))
          refine KV.then_exit (KV.block_hit (KV.then_n (KV.env [(1, _), (2, _), (4, _), (5, _), (6, _), (8, _), (9, _), (11, _)] ⟨rfl, rfl, rfl, rfl, rfl, rfl, rfl, rfl, trivial⟩ ?_)))
          have hop : (((d.hs.getD j thK.d).t.ops.take k).map oM) = (((d.hs.getD j thK.d).t.ops.take 4).map oM) := by rw [take_min hk1.1 hk1.2 (by omega)]
          rw [hop]
          refine CV.region ?_
          refine RV.s (Step.fieldAddr rfl (F25_2 _ _)) rfl (RV.s (Step.load Tryz.underlying23 rfl rfl (fun w h => h.cell 4 rfl rfl)) rfl (RV.s (Step.loadN _ Tryz.underlying48 rfl I48 rfl rfl (fun w h => h.cells 9 rfl)) rfl ?_))
          refine RV.op (OV.buildSlice (K := thK) ([(⟨someT (somN d.d) (stF (somN d.d) (frN (somN d.d) ((d.hs.map (·.t)).take j)) (d.hs.getD j thK.d).t) (d.hs.getD j thK.d).t, A, c⟩ : TH)]) rfl (Bs23_1_0 _ _ _ _ _ _ _ _) rfl rfl (by omega) gno rfl (fun b26_3 => ?_))
          refine RV.op (OV.append 6 Tryz.underlying23 I48 rfl rfl rfl rfl rfl rfl (fun w h => h.os 11 rfl) (by simp only [List.length_cons, List.length_nil]; omega) (by simp only [List.length_cons, List.length_nil]; omega) gno rfl (fun A5 c5 => ?_))
          refine RV.s (Step.fieldAddr rfl (F25_2 _ _)) rfl ?_
          refine RV.op (OV.store 4 [_] #[_, _, _] I23 rfl rfl rfl rfl rfl (Nat.le_of_ble_eq_true rfl) (by simp [Value.oneCell']) rfl gno ?_)
          refine KV.sel [0, 0, 0, 0, 0, 0, 0, 0, 2] [_, _, _, _, _, _, _, _, _] rfl ?_
          refine KV.heap (fun w h => Hp.bigSnoc8 (⟨someT (somN d.d) (stF (somN d.d) (frN (somN d.d) ((d.hs.map (·.t)).take j)) (d.hs.getD j thK.d).t) (d.hs.getD j thK.d).t, A, c⟩ : TH) h rfl) ?_
          refine RV.nil (KV.block_n (KV.then_n (KV.env [(1, _), (2, _), (4, _), (5, _), (6, _), (8, _), (9, _)] ⟨rfl, rfl, rfl, rfl, rfl, rfl, rfl, trivial⟩ (CV.region ?_))))
          refine RV.m rfl rfl ?_
          (first | refine RV.op (OV.step gno (Step.add rfl rfl (wI64 (by omega) (by omega))) rfl ?_) | refine RV.op (OV.step gno (Step.add rfl rfl rfl) rfl ?_))
          refine RV.a rfl rfl ?_
          refine RV.nil (KV.then_n (KV.env [(1, _), (2, _), (4, _), (5, _), (6, _), (8, _), (9, _)] ⟨rfl, rfl, rfl, rfl, rfl, rfl, rfl, trivial⟩ ?_))
          refine KV.sel [0, 0, 0, 0, 0, 0, 0, 0] [_, _, _, _, _, _, _, _] rfl ?_
          exact KV.loop2 (x := j) (y := D) (j + 1) ({ D with tA := A5, tc := c5, hs := D.hs ++ [(⟨someT (somN d.d) (stF (somN d.d) (frN (somN d.d) ((d.hs.map (·.t)).take j)) (d.hs.getD j thK.d).t) (d.hs.getD j thK.d).t, A, c⟩ : TH)] }) ⟨⟨by omega, by omega⟩, by show (D.hs ++ [_]).length = j + 1; rw [List.length_append, hinv.2.1]; rfl, som_next (by omega) hinv.2.2 rfl⟩ (by omega) ⟨rfl, rfl, rfl, rfl, rfl, (by rw [frN_next (by omega)]; rfl), rfl, trivial⟩ (fun _ h => h)
   ·
    refine RV.s (Step.pick_t rfl rfl) rfl ?_
    refine RV.nil (KV.then_n (KV.env [(1, _), (2, _), (4, _), (5, _), (6, _), (8, _), (9, _), (49, _)] ⟨rfl, rfl, rfl, rfl, rfl, rfl, rfl, rfl, trivial⟩ (CV.cond_f rfl (CV.exit (KV.then_exit ?_)))))
    refine KV.then_exit (KV.block_hit (KV.then_n (KV.env [(2, _), (5, _)] ⟨rfl, rfl, trivial⟩ (CV.seq (CV.region ?_)))))
    refine RV.s (Step.loadN _ Tryz.underlying25 rfl I25 rfl rfl (fun w h => h.cells 4 rfl)) rfl ?_
    refine RV.op (OV.store 1 [_, _, _] #[_, _, _] I25 rfl rfl rfl rfl rfl (Nat.le_of_ble_eq_true rfl) (by simp [Value.oneCell']) rfl gno ?_)
    refine RV.nil (KV.then_n (KV.env [(2, _)] ⟨rfl, trivial⟩ (CV.ret ?_)))
    refine KV.sel [1, 4, 4, 4] [_, _, _, _] rfl ?_
    exact KV.retC1 [_, _, _] rfl rfl Tryz.underlying25 rfl I25 rfl (fun w h => h.cells 0 rfl) _ (fun _ h => h.sel [1, 1, 1] rfl) ⟨⟨(nmL.getD (d.name.length % 6) []), sA, sc, nmL.take (somN d.d), D.tA, D.tc, D.hs⟩, rfl, by show (⟨(nmL.getD (d.name.length % 6) []), nmL.take (somN d.d), D.hs.map (·.t)⟩ : Dv) = ⟨(nmL.getD (d.name.length % 6) []), nmL.take (somN d.d), somF (somN d.d) 0 ((d.hs.map (·.t)).take 20)⟩; rw [hinv.2.2, take_min (l := (d.hs.map (·.t))) (n := 20) (by rw [List.length_map]; omega) (by omega) (by rw [List.length_map]; omega)], rfl⟩
  ·
   refine RV.m rfl rfl (RV.k rfl rfl (RV.k rfl rfl (RV.s (Step.pick_f rfl rfl) rfl ?_)))
   refine RV.nil (KV.then_n (KV.env [(1, _), (2, _), (4, _), (5, _), (6, _), (8, _), (9, _), (49, _)] ⟨rfl, rfl, rfl, rfl, rfl, rfl, rfl, rfl, trivial⟩ (CV.cond_f rfl (CV.exit (KV.then_exit ?_)))))
   refine KV.then_exit (KV.block_hit (KV.then_n (KV.env [(2, _), (5, _)] ⟨rfl, rfl, trivial⟩ (CV.seq (CV.region ?_)))))
   refine RV.s (Step.loadN _ Tryz.underlying25 rfl I25 rfl rfl (fun w h => h.cells 4 rfl)) rfl ?_
   refine RV.op (OV.store 1 [_, _, _] #[_, _, _] I25 rfl rfl rfl rfl rfl (Nat.le_of_ble_eq_true rfl) (by simp [Value.oneCell']) rfl gno ?_)
   refine RV.nil (KV.then_n (KV.env [(2, _)] ⟨rfl, trivial⟩ (CV.ret ?_)))
   refine KV.sel [1, 4, 4, 4] [_, _, _, _] rfl ?_
   exact KV.retC1 [_, _, _] rfl rfl Tryz.underlying25 rfl I25 rfl (fun w h => h.cells 0 rfl) _ (fun _ h => h.sel [1, 1, 1] rfl) ⟨⟨(nmL.getD (d.name.length % 6) []), sA, sc, nmL.take (somN d.d), D.tA, D.tc, D.hs⟩, rfl, by show (⟨(nmL.getD (d.name.length % 6) []), nmL.take (somN d.d), D.hs.map (·.t)⟩ : Dv) = ⟨(nmL.getD (d.name.length % 6) []), nmL.take (somN d.d), somF (somN d.d) 0 ((d.hs.map (·.t)).take 20)⟩; rw [hinv.2.2, take_min (l := (d.hs.map (·.t))) (n := 20) (by rw [List.length_map]; omega) (by omega) (by rw [List.length_map]; omega)], rfl⟩
end Go.Proofs.YtplmfekhdaefaaaGreatDoor
