/-
  Walks, part 18.
-/
import Derived.Test.YtplmfekhdaefaaaDoorTabA
import Derived.Test.YtplmfekhdaefaaaDoorW17
import Derived.Test.YtplmfekhdaefaaaDoorDmB
set_option linter.unusedSimpArgs false
set_option linter.unusedVariables false
namespace Go.Proofs.YtplmfekhdaefaaaDoor
open Go.Sv Go.Drv
set_option maxRecDepth 100000 in
set_option maxHeartbeats 16000000 in
theorem some_fn (d : DH) {w : World} (hd : DR w d) (hl : d.ss.length ≤ 1000000) : Fx Tryd.prog 17 [.agg #[.string (bs d.name), .slice d.sA d.ss.length d.sc, .slice d.tA d.hs.length d.tc]] w [] no (fun v L => ∃ d2 : DH, v = .agg #[.string (bs d2.name), .slice d2.sA d2.ss.length d2.sc, .slice d2.tA d2.hs.length d2.tc] ∧ d2.d = someM d.d ∧ L = dL d2) := by
  refine Sv.Fx.body Tryd.func17 rfl T17 rfl ?_
  intro I hro hI
  refine KV.env [(0, _)] ⟨rfl, trivial⟩ ?_
  have hn := somN_le d.d
  refine CV.seq ?_
  -- region 0 law.go:39
  refine CV.region ?_
  refine RV.op (OV.box (t := 26) #[_, _, _] rfl rfl gno rfl (fun p => ?_))
  refine RV.op (OV.alloc #[.string (Sv.bs []), .slice none 0 0, .slice none 0 0] I26 rfl gno rfl (fun r => ?_))
  refine RV.nil ?_
  refine KV.then_n ?_
  refine KV.env [(1, _), (2, _)] ⟨rfl, rfl, trivial⟩ ?_
  refine CV.seq ?_
  -- region 1 law.go:40
  refine CV.region ?_
  refine RV.op (OV.step gno (Step.build (vs := [(0, .string (Sv.bs [111, 102, 102])), (1, .string (Sv.bs [111, 110])), (2, .string (Sv.bs [95, 120])), (3, .string (Sv.bs [83, 116, 97, 116, 101, 51])), (4, .string (Sv.bs [105, 102])), (5, .string (Sv.bs [111, 110, 95, 49]))]) rfl (Ba102_6 _ _ _ _ _ _)) rfl ?_)
  refine RV.op (OV.alloc #[.string (Sv.bs []), .string (Sv.bs []), .string (Sv.bs []), .string (Sv.bs []), .string (Sv.bs []), .string (Sv.bs [])] I102 rfl gno rfl (fun nm => ?_))
  refine RV.op (OV.store 2 [_, _, _, _, _, _] #[_, _, _, _, _, _] I102 rfl rfl rfl rfl rfl (Nat.le_of_ble_eq_true rfl) (by simp [Value.oneCell']) rfl gno ?_)
  refine RV.nil ?_
  refine KV.then_n ?_
  refine KV.env [(1, _), (2, _), (3, _)] ⟨rfl, rfl, rfl, trivial⟩ ?_
  refine CV.seq ?_
  -- region 2 law.go:41
  refine CV.region ?_
  refine RV.op (OV.step gno (Step.build (vs := [(0, .string (Sv.bs [115, 116, 97, 114, 116])), (1, .string (Sv.bs [105, 114, 113])), (2, .string (Sv.bs [111, 110])), (3, .string (Sv.bs [100, 114, 105, 118, 101, 114]))]) rfl (Ba103_4 _ _ _ _)) rfl ?_)
  refine RV.op (OV.alloc #[.string (Sv.bs []), .string (Sv.bs []), .string (Sv.bs []), .string (Sv.bs [])] I103 rfl gno rfl (fun ev => ?_))
  refine RV.op (OV.store 3 [_, _, _, _] #[_, _, _, _] I103 rfl rfl rfl rfl rfl (Nat.le_of_ble_eq_true rfl) (by simp [Value.oneCell']) rfl gno ?_)
  refine RV.nil ?_
  refine KV.then_n ?_
  refine KV.env [(1, _), (2, _), (3, _), (4, _)] ⟨rfl, rfl, rfl, rfl, trivial⟩ ?_
  refine CV.seq ?_
  -- region 3 law.go:42
  refine CV.region ?_
  refine RV.op (OV.step gno (Step.fieldAddr rfl (F26_0 _ _)) rfl ?_)
  refine RV.op (OV.step gno (Step.load Tryd.underlying9 rfl rfl (fun w h => h.cell 0 rfl rfl)) rfl ?_)
  refine RV.op (OV.step gno (Step.lenStr Tryd.underlying9 rfl) rfl ?_)
  refine RV.op (OV.step gno (Step.rem rfl rfl (by omega) (tmodN _ 6)) rfl ?_)
  refine RV.op (OV.step gno (Step.idxArr Tryd.underlying102 I9 rfl rfl _ rfl (by omega)) rfl ?_)
  refine RV.op (OV.step gno (Step.load Tryd.underlying9 rfl rfl (fun w h => h.cell 2 rfl (strs_get nmL (show d.name.length % 6 < 6 by omega)))) rfl ?_)
  refine RV.op (OV.step gno (Step.build rfl (Bd26_0 _)) rfl ?_)
  refine RV.op (OV.alloc #[.string (Sv.bs []), .slice none 0 0, .slice none 0 0] I26 rfl gno rfl (fun x => ?_))
  refine RV.op (OV.store 4 [_, _, _] #[_, _, _] I26 rfl rfl rfl rfl rfl (Nat.le_of_ble_eq_true rfl) (by simp [Value.oneCell']) rfl gno ?_)
  refine RV.nil ?_
  refine KV.then_n ?_
  refine KV.env [(1, _), (2, _), (3, _), (4, _), (5, _)] ⟨rfl, rfl, rfl, rfl, rfl, trivial⟩ ?_
  refine CV.seq ?_
  -- region 4 law.go:43
  refine CV.region ?_
  refine RV.op (OV.step gno (Step.fieldAddr rfl (F26_1 _ _)) rfl ?_)
  refine RV.op (OV.step gno (Step.load Tryd.underlying23 rfl rfl (fun w h => h.cell 0 rfl rfl)) rfl ?_)
  refine RV.op (OV.step gno (Step.lenSl Tryd.underlying23 rfl) rfl ?_)
  refine RV.op (OV.step gno (Step.rem rfl rfl (by omega) (tmodN _ 6)) rfl ?_)
  refine RV.op (OV.step gno (Step.add rfl rfl ((show IntKind.i64.wrap (1 + ((d.ss.length % 6 : Nat) : Int)) = (((somN d.d) : Nat) : Int) from by rw [wI64 (by omega) (by omega)]; show _ = ((1 + d.ss.length % 6 : Nat) : Int); omega))) rfl ?_)
  refine RV.op (OV.step gno (Step.assign rfl) rfl ?_)
  refine RV.nil ?_
  refine KV.then_n ?_
  refine KV.env [(1, _), (2, _), (3, _), (4, _), (5, _), (6, _)] ⟨rfl, rfl, rfl, rfl, rfl, rfl, trivial⟩ ?_
  refine CV.seq ?_
  refine CV.seq ?_
  -- region 5 law.go:44
  refine KV.heap (fun w h => h.nilOS (e := 9) (K := strK)) ?_
  refine CV.region ?_
  refine RV.op (OV.step gno (Step.assign rfl) rfl ?_)
  refine RV.nil ?_
  refine KV.then_n ?_
  refine KV.env [(1, _), (2, _), (3, _), (4, _), (5, _), (6, _), (7, _)] ⟨rfl, rfl, rfl, rfl, rfl, rfl, rfl, trivial⟩ ?_
  refine CV.block ?_
  -- loop L6; live [1, 2, 3, 4, 5, 6, 7]
  refine KV.sel [0, 0, 0, 0, 0, 0] [_, _, _, _, _, _] rfl ?_
  refine CV.loop3 (fun (j : Nat) (sA : Option Addr) (sc : Nat) => j ≤ (somN d.d)) (fun (j : Nat) (sA : Option Addr) (sc : Nat) => (somN d.d) - j) (fun (j : Nat) (sA : Option Addr) (sc : Nat) => [(1, .pointer (some ⟨p, 0, none⟩)), (2, .pointer (some ⟨r, 0, none⟩)), (3, .pointer (some ⟨nm, 0, none⟩)), (4, .pointer (some ⟨ev, 0, none⟩)), (5, .pointer (some ⟨x, 0, none⟩)), (6, .int .i64 (somN d.d)), (7, .int .i64 j)]) (fun (j : Nat) (sA : Option Addr) (sc : Nat) => Hp I w [Blk p (.cells #[.string (bs d.name), .slice d.sA d.ss.length d.sc, .slice d.tA d.hs.length d.tc] 26 (0, 0)), Blk r (.cells #[.string (bs []), .slice none 0 0, .slice none 0 0] 26 (0, 0)), Blk nm (.cells #[.string (bs [111, 102, 102]), .string (bs [111, 110]), .string (bs [95, 120]), .string (bs [83, 116, 97, 116, 101, 51]), .string (bs [105, 102]), .string (bs [111, 110, 95, 49])] 102 (0, 0)), Blk ev (.cells #[.string (bs [115, 116, 97, 114, 116]), .string (bs [105, 114, 113]), .string (bs [111, 110]), .string (bs [100, 114, 105, 118, 101, 114])] 103 (0, 0)), Blk x (.cells #[.string (bs (nmL.getD (d.name.length % 6) [])), .slice sA (nmL.take j).length sc, .slice none 0 0] 26 (0, 0)), OS 9 strK sA sc (nmL.take j)]) (0) (none) (0) (Nat.zero_le _) ⟨rfl, rfl, rfl, rfl, rfl, rfl, rfl, trivial⟩ (fun _ h => h) ?_
  intro j sA sc hinv
  refine CV.seq ?_
  refine CV.seq ?_
  -- region 6 law.go:44
  refine CV.region ?_
  refine RV.op (OV.step gno (Step.move rfl) rfl ?_)
  refine RV.op (OV.step gno (Step.move rfl) rfl ?_)
  refine RV.op (OV.split gno (Step.lss rfl rfl) rfl (fun hj6 => ?_) (fun hj6 => ?_))
  · -- True
    refine RV.nil ?_
    refine KV.then_n ?_
    refine KV.env [(1, _), (2, _), (3, _), (4, _), (5, _), (6, _), (7, _), (30, _)] ⟨rfl, rfl, rfl, rfl, rfl, rfl, rfl, rfl, trivial⟩ ?_
    refine CV.cond_t rfl ?_
    refine CV.skip ?_
    refine KV.then_n ?_
    refine KV.env [(1, _), (2, _), (3, _), (4, _), (5, _), (6, _), (7, _)] ⟨rfl, rfl, rfl, rfl, rfl, rfl, rfl, trivial⟩ ?_
    refine CV.seq ?_
    refine CV.block ?_
    -- region 8 law.go:45
    refine CV.any (Hp I w [Blk nm (.cells #[.string (bs [111, 102, 102]), .string (bs [111, 110]), .string (bs [95, 120]), .string (bs [83, 116, 97, 116, 101, 51]), .string (bs [105, 102]), .string (bs [111, 110, 95, 49])] 102 (0, 0))]) (by kernel_rfl) (fun _ h => h.drew) 9 rfl ?_
    refine AV.take 0 #[true, false, false, false, false, false, false, false, false] rfl (by kernel_rfl) (by kernel_rfl) (by kernel_rfl) (fun _ _ _ h => h) gno (Step.fieldAddr rfl (F26_1 _ _)) rfl (fun _ h => h.sel [2] rfl) (by kernel_rfl) ?_
    refine AV.take 2 #[true, false, true, false, false, false, false, false, false] rfl (by kernel_rfl) (by kernel_rfl) (by kernel_rfl) (fun _ _ _ h => h) gno (Step.move rfl) rfl (fun _ h => h.sel [2] rfl) (by kernel_rfl) ?_
    refine AV.take 3 #[true, false, true, true, false, false, false, false, false] rfl (by kernel_rfl) (by kernel_rfl) (by kernel_rfl) (fun _ _ _ h => h) gno (Step.idxArr Tryd.underlying102 I9 rfl rfl _ rfl (by omega)) rfl (fun _ h => h.sel [2] rfl) (by kernel_rfl) ?_
    refine AV.take 4 #[true, false, true, true, true, false, false, false, false] rfl (by kernel_rfl) (by kernel_rfl) (by kernel_rfl) (fun _ _ _ h => h) gno (Step.load Tryd.underlying9 rfl rfl (fun w h => h.cell 0 rfl (strs_get nmL (show j < 6 by omega)))) rfl (fun _ h => h.sel [2] rfl) (by kernel_rfl) ?_
    refine AV.all [1, 5] (by kernel_rfl) (by decide) ?_
    refine ⟨⟨_, rfl, ?_⟩, ⟨⟨_, rfl, ?_⟩, trivial⟩⟩
    · -- 1 comes up
      refine OV.step gno (Step.load Tryd.underlying23 rfl rfl (fun w h => h.cell 4 rfl rfl)) rfl ?_
      refine AV.next #[true, true, true, true, true, false, false, false, false] (by kernel_rfl) (fun _ h => h.sel [2] rfl) ?_
      refine AV.all [5] (by kernel_rfl) (by decide) ?_
      refine ⟨⟨_, rfl, ?_⟩, trivial⟩
      · -- 5 comes up
        refine OV.buildSlice (K := strK) ([nmL.getD j []]) rfl (Bs23_1_0 _) rfl rfl (by omega) gno rfl (fun b8_5 => ?_)
        refine AV.next #[true, true, true, true, true, true, false, false, false] (by kernel_rfl) (fun _ h => h.sel [2] rfl) ?_
        refine AV.all [6] (by kernel_rfl) (by decide) ?_
        refine ⟨⟨_, rfl, ?_⟩, trivial⟩
        · -- 6 comes up
          refine OV.append 5 Tryd.underlying23 I9 rfl rfl rfl rfl rfl rfl (fun w h => h.os 6 rfl) (by simp only [List.length_cons, List.length_nil, List.length_take]; omega) (by simp only [List.length_cons, List.length_nil, List.length_take]; omega) gno rfl (fun A2 c2 => ?_)
          refine AV.next #[true, true, true, true, true, true, true, false, false] (by kernel_rfl) (fun _ h => h.sel [2] rfl) ?_
          refine AV.take 7 #[true, true, true, true, true, true, true, true, false] rfl (by kernel_rfl) (by kernel_rfl) (by kernel_rfl) (fun _ _ _ h => h) gno (Step.fieldAddr rfl (F26_1 _ _)) rfl (fun _ h => h.sel [2] rfl) (by kernel_rfl) ?_
          refine AV.all [8] (by kernel_rfl) (by decide) ?_
          refine ⟨⟨_, rfl, ?_⟩, trivial⟩
          · -- 8 comes up
            refine OV.store 4 [_] #[_, _, _] I23 rfl rfl rfl rfl rfl (Nat.le_of_ble_eq_true rfl) (by simp [Value.oneCell']) rfl gno ?_
            refine AV.next #[true, true, true, true, true, true, true, true, true] (by kernel_rfl) (fun _ h => h.sel [2] rfl) ?_
            refine AV.done (by kernel_rfl) ?_
            refine KV.block_n ?_
            refine KV.then_n ?_
            refine KV.env [(1, _), (2, _), (3, _), (4, _), (5, _), (6, _), (7, _)] ⟨rfl, rfl, rfl, rfl, rfl, rfl, rfl, trivial⟩ ?_
            -- region 7 law.go:44
            refine CV.region ?_
            refine RV.op (OV.step gno (Step.move rfl) rfl ?_)
            (first | refine RV.op (OV.step gno (Step.add rfl rfl (wI64 (by omega) (by omega))) rfl ?_) | refine RV.op (OV.step gno (Step.add rfl rfl rfl) rfl ?_))
            refine RV.op (OV.step gno (Step.assign rfl) rfl ?_)
            refine RV.nil ?_
            refine KV.then_n ?_
            refine KV.env [(1, _), (2, _), (3, _), (4, _), (5, _), (6, _), (7, _)] ⟨rfl, rfl, rfl, rfl, rfl, rfl, rfl, trivial⟩ ?_
            refine KV.sel [0, 0, 0, 0, 0, 0] [_, _, _, _, _, _] rfl ?_
            exact KV.loop3 (x := j) (y := sA) (z := sc) (j + 1) (A2) (c2) (by omega) (by omega) ⟨rfl, rfl, rfl, rfl, rfl, rfl, rfl, trivial⟩ (fun _ h => by rw [take_snoc ([] : Bs) (show j < 6 by omega)]; exact h)
    · -- 5 comes up
      refine OV.buildSlice (K := strK) ([nmL.getD j []]) rfl (Bs23_1_0 _) rfl rfl (by omega) gno rfl (fun b8_5 => ?_)
      refine AV.next #[true, false, true, true, true, true, false, false, false] (by kernel_rfl) (fun _ h => h.sel [2] rfl) ?_
      refine AV.all [1] (by kernel_rfl) (by decide) ?_
      refine ⟨⟨_, rfl, ?_⟩, trivial⟩
      · -- 1 comes up
        refine OV.step gno (Step.load Tryd.underlying23 rfl rfl (fun w h => h.cell 4 rfl rfl)) rfl ?_
        refine AV.next #[true, true, true, true, true, true, false, false, false] (by kernel_rfl) (fun _ h => h.sel [2] rfl) ?_
        refine AV.all [6] (by kernel_rfl) (by decide) ?_
        refine ⟨⟨_, rfl, ?_⟩, trivial⟩
        · -- 6 comes up
          refine OV.append 5 Tryd.underlying23 I9 rfl rfl rfl rfl rfl rfl (fun w h => h.os 6 rfl) (by simp only [List.length_cons, List.length_nil, List.length_take]; omega) (by simp only [List.length_cons, List.length_nil, List.length_take]; omega) gno rfl (fun A2 c2 => ?_)
          refine AV.next #[true, true, true, true, true, true, true, false, false] (by kernel_rfl) (fun _ h => h.sel [2] rfl) ?_
          refine AV.take 7 #[true, true, true, true, true, true, true, true, false] rfl (by kernel_rfl) (by kernel_rfl) (by kernel_rfl) (fun _ _ _ h => h) gno (Step.fieldAddr rfl (F26_1 _ _)) rfl (fun _ h => h.sel [2] rfl) (by kernel_rfl) ?_
          refine AV.all [8] (by kernel_rfl) (by decide) ?_
          refine ⟨⟨_, rfl, ?_⟩, trivial⟩
          · -- 8 comes up
            refine OV.store 4 [_] #[_, _, _] I23 rfl rfl rfl rfl rfl (Nat.le_of_ble_eq_true rfl) (by simp [Value.oneCell']) rfl gno ?_
            refine AV.next #[true, true, true, true, true, true, true, true, true] (by kernel_rfl) (fun _ h => h.sel [2] rfl) ?_
            refine AV.done (by kernel_rfl) ?_
            refine KV.block_n ?_
            refine KV.then_n ?_
            refine KV.env [(1, _), (2, _), (3, _), (4, _), (5, _), (6, _), (7, _)] ⟨rfl, rfl, rfl, rfl, rfl, rfl, rfl, trivial⟩ ?_
            -- region 7 law.go:44
            refine CV.region ?_
            refine RV.op (OV.step gno (Step.move rfl) rfl ?_)
            (first | refine RV.op (OV.step gno (Step.add rfl rfl (wI64 (by omega) (by omega))) rfl ?_) | refine RV.op (OV.step gno (Step.add rfl rfl rfl) rfl ?_))
            refine RV.op (OV.step gno (Step.assign rfl) rfl ?_)
            refine RV.nil ?_
            refine KV.then_n ?_
            refine KV.env [(1, _), (2, _), (3, _), (4, _), (5, _), (6, _), (7, _)] ⟨rfl, rfl, rfl, rfl, rfl, rfl, rfl, trivial⟩ ?_
            refine KV.sel [0, 0, 0, 0, 0, 0] [_, _, _, _, _, _] rfl ?_
            exact KV.loop3 (x := j) (y := sA) (z := sc) (j + 1) (A2) (c2) (by omega) (by omega) ⟨rfl, rfl, rfl, rfl, rfl, rfl, rfl, trivial⟩ (fun _ h => by rw [take_snoc ([] : Bs) (show j < 6 by omega)]; exact h)
  · -- False
    refine RV.nil ?_
    refine KV.then_n ?_
    refine KV.env [(1, _), (2, _), (3, _), (4, _), (5, _), (6, _), (7, _), (30, _)] ⟨rfl, rfl, rfl, rfl, rfl, rfl, rfl, rfl, trivial⟩ ?_
    refine CV.cond_f rfl ?_
    refine CV.exit ?_
    refine KV.then_exit ?_
    refine KV.then_exit ?_
    refine KV.block_hit ?_
    refine KV.then_n ?_
    refine KV.env [(1, _), (2, _), (4, _), (5, _), (6, _)] ⟨rfl, rfl, rfl, rfl, rfl, trivial⟩ ?_
    refine CV.seq ?_
    -- region 9 law.go:47
    obtain rfl : j = (somN d.d) := by omega
    refine KV.heap (fun w h => (h.nilOS (e := 61) (K := thK)).newBig (F := opA) 0 thD fun w => OS.emp w) ?_
    refine CV.region ?_
    refine RV.op (OV.step gno (Step.assign rfl) rfl ?_)
    refine RV.nil ?_
    refine KV.then_n ?_
    refine KV.env [(1, _), (2, _), (4, _), (5, _), (6, _), (8, _)] ⟨rfl, rfl, rfl, rfl, rfl, rfl, trivial⟩ ?_
    refine CV.seq ?_
    refine CV.seq ?_
    -- region 10 law.go:48
    refine CV.region ?_
    refine RV.op (OV.step gno (Step.assign rfl) rfl ?_)
    refine RV.nil ?_
    refine KV.then_n ?_
    refine KV.env [(1, _), (2, _), (4, _), (5, _), (6, _), (8, _), (9, _)] ⟨rfl, rfl, rfl, rfl, rfl, rfl, rfl, trivial⟩ ?_
    refine CV.block ?_
    -- loop L11; live [1, 2, 4, 5, 6, 8, 9]
    refine KV.sel [0, 0, 0, 0, 0, 0, 0, 0] [_, _, _, _, _, _, _, _] rfl ?_
    refine CV.loop2 (fun (j : Nat) (D : DH) => (j ≤ d.hs.length ∧ j ≤ 20) ∧ D.hs.length = j ∧ D.hs.map (·.t) = somF (somN d.d) 0 ((d.hs.map (·.t)).take j)) (fun (j : Nat) (D : DH) => 20 - j) (fun (j : Nat) (D : DH) => [(1, .pointer (some ⟨p, 0, none⟩)), (2, .pointer (some ⟨r, 0, none⟩)), (4, .pointer (some ⟨ev, 0, none⟩)), (5, .pointer (some ⟨x, 0, none⟩)), (6, .int .i64 (somN d.d)), (8, .int .i64 (frN (somN d.d) ((d.hs.map (·.t)).take j))), (9, .int .i64 j)]) (fun (j : Nat) (D : DH) => Hp I w [Blk p (.cells #[.string (bs d.name), .slice d.sA d.ss.length d.sc, .slice d.tA d.hs.length d.tc] 26 (0, 0)), Blk r (.cells #[.string (bs []), .slice none 0 0, .slice none 0 0] 26 (0, 0)), Blk nm (.cells #[.string (bs [111, 102, 102]), .string (bs [111, 110]), .string (bs [95, 120]), .string (bs [83, 116, 97, 116, 101, 51]), .string (bs [105, 102]), .string (bs [111, 110, 95, 49])] 102 (0, 0)), Blk ev (.cells #[.string (bs [115, 116, 97, 114, 116]), .string (bs [105, 114, 113]), .string (bs [111, 110]), .string (bs [100, 114, 105, 118, 101, 114])] 103 (0, 0)), Blk x (.cells #[.string (bs (nmL.getD (d.name.length % 6) [])), .slice sA (nmL.take (somN d.d)).length sc, .slice D.tA D.hs.length D.tc] 26 (0, 0)), OS 9 strK sA sc (nmL.take (somN d.d)), OS 61 thK D.tA D.tc D.hs, Big opA D.hs]) (0) (dh0) ⟨⟨Nat.zero_le _, Nat.zero_le _⟩, rfl, rfl⟩ ⟨rfl, rfl, rfl, rfl, rfl, rfl, rfl, trivial⟩ (fun _ h => h) ?_
    intro j D hinv
    refine CV.seq ?_
    refine CV.seq ?_
    -- region 11 law.go:48
    refine CV.region ?_
    refine RV.op (OV.step gno (Step.move rfl) rfl ?_)
    refine RV.op (OV.step gno (Step.fieldAddr rfl (F26_2 _ _)) rfl ?_)
    refine RV.op (OV.step gno (Step.load Tryd.underlying24 rfl rfl (fun w h => h.cell 0 rfl rfl)) rfl ?_)
    refine RV.op (OV.step gno (Step.lenSl Tryd.underlying24 rfl) rfl ?_)
    refine RV.op (OV.split gno (Step.lss rfl rfl) rfl (fun hj1 => ?_) (fun hj1 => ?_))
    · -- True
      refine RV.op (OV.step gno (Step.move rfl) rfl ?_)
      refine RV.op (OV.step (gyes rfl) (Step.move rfl) rfl ?_)
      refine RV.op (OV.split (gyes rfl) (Step.lss rfl rfl) rfl (fun hj2 => ?_) (fun hj2 => ?_))
      · -- True
        refine RV.op (OV.step gno (Step.pick_t rfl rfl) rfl ?_)
        refine RV.nil ?_
        refine KV.then_n ?_
        refine KV.env [(1, _), (2, _), (4, _), (5, _), (6, _), (8, _), (9, _), (49, _)] ⟨rfl, rfl, rfl, rfl, rfl, rfl, rfl, rfl, trivial⟩ ?_
        refine CV.cond_t rfl ?_
        refine CV.skip ?_
        refine KV.then_n ?_
        refine KV.env [(1, _), (2, _), (4, _), (5, _), (6, _), (8, _), (9, _)] ⟨rfl, rfl, rfl, rfl, rfl, rfl, rfl, trivial⟩ ?_
        refine CV.seq ?_
        refine CV.block ?_
        refine CV.seq ?_
        -- region 13 law.go:49
        refine CV.region ?_
        refine RV.op (OV.step gno (Step.fieldAddr rfl (F26_2 _ _)) rfl ?_)
        refine RV.op (OV.step gno (Step.load Tryd.underlying24 rfl rfl (fun w h => h.cell 0 rfl rfl)) rfl ?_)
        refine RV.op (OV.step gno (Step.move rfl) rfl ?_)
        refine RV.op (OV.step gno (Step.idx Tryd.underlying24 I61 (fun w h => (DR.keep h hd hI).t) rfl rfl (rfl) _ rfl (by omega)) rfl ?_)
        refine RV.op (OV.step gno (Step.loadN _ Tryd.underlying61 rfl I61 rfl rfl (fun w h => ((DR.keep h hd hI).t).cells (by omega))) rfl ?_)
        refine RV.op (OV.alloc #[.int .i64 0, .string (Sv.bs []), .bool false, .int .u64 0, .int .u64 0, .int .u64 0, .slice none 0 0, .int .i64 0] I61 rfl gno rfl (fun t => ?_))
        refine RV.op (OV.store 8 [_, _, _, _, _, _, _, _] #[_, _, _, _, _, _, _, _] I61 rfl rfl rfl rfl rfl (Nat.le_of_ble_eq_true rfl) (by simp [Value.oneCell']) rfl gno ?_)
        refine RV.nil ?_
        refine KV.then_n ?_
        refine KV.env [(1, _), (2, _), (4, _), (5, _), (6, _), (8, _), (9, _), (10, _)] ⟨rfl, rfl, rfl, rfl, rfl, rfl, rfl, rfl, trivial⟩ ?_
        -- join; live [1, 2, 4, 5, 6, 8, 9, 10]
        refine CV.join (α := Unit) (fun _ => [(1, .pointer (some ⟨p, 0, none⟩)), (2, .pointer (some ⟨r, 0, none⟩)), (4, .pointer (some ⟨ev, 0, none⟩)), (5, .pointer (some ⟨x, 0, none⟩)), (6, .int .i64 (somN d.d)), (8, .int .i64 (stF (somN d.d) (frN (somN d.d) ((d.hs.map (·.t)).take j)) (d.hs.getD j thK.d).t)), (9, .int .i64 j), (10, .pointer (some ⟨t, 0, none⟩))]) (fun _ => Hp I w [Blk p (.cells #[.string (bs d.name), .slice d.sA d.ss.length d.sc, .slice d.tA d.hs.length d.tc] 26 (0, 0)), Blk r (.cells #[.string (bs []), .slice none 0 0, .slice none 0 0] 26 (0, 0)), Blk nm (.cells #[.string (bs [111, 102, 102]), .string (bs [111, 110]), .string (bs [95, 120]), .string (bs [83, 116, 97, 116, 101, 51]), .string (bs [105, 102]), .string (bs [111, 110, 95, 49])] 102 (0, 0)), Blk ev (.cells #[.string (bs [115, 116, 97, 114, 116]), .string (bs [105, 114, 113]), .string (bs [111, 110]), .string (bs [100, 114, 105, 118, 101, 114])] 103 (0, 0)), Blk x (.cells #[.string (bs (nmL.getD (d.name.length % 6) [])), .slice sA (nmL.take (somN d.d)).length sc, .slice D.tA D.hs.length D.tc] 26 (0, 0)), OS 9 strK sA sc (nmL.take (somN d.d)), OS 61 thK D.tA D.tc D.hs, Big opA D.hs, Blk t (.cells #[.int .i64 (d.hs.getD j thK.d).t.frm, .string (bs (d.hs.getD j thK.d).t.ev), .bool (d.hs.getD j thK.d).t.gd.used, .int .u64 (d.hs.getD j thK.d).t.gd.reg, .int .u64 (d.hs.getD j thK.d).t.gd.mask, .int .u64 (d.hs.getD j thK.d).t.gd.val, .slice (d.hs.getD j thK.d).A (d.hs.getD j thK.d).t.ops.length (d.hs.getD j thK.d).c, .int .i64 (d.hs.getD j thK.d).t.to] 61 (0, 0))]) ?_ ?_
        · skip
          refine CV.seq ?_
          -- region 14 law.go:50
          refine CV.region ?_
          refine RV.op (OV.step gno (Step.move rfl) rfl ?_)
          refine RV.op (OV.step gno (Step.move rfl) rfl ?_)
          (first | refine RV.op (OV.step gno (Step.sub rfl rfl (wI64 (by omega) (by omega))) rfl ?_) | refine RV.op (OV.step gno (Step.sub rfl rfl rfl) rfl ?_))
          refine RV.op (OV.split gno (Step.lss rfl rfl) rfl (fun c1 => ?_) (fun c1 => ?_))
          · -- True
            refine RV.op (OV.step gno (Step.move rfl) rfl ?_)
            refine RV.op (OV.step (gyes rfl) (Step.fieldAddr rfl (F61_0 _ _)) rfl ?_)
            refine RV.op (OV.step (gyes rfl) (Step.load Tryd.underlying3 rfl rfl (fun w h => h.cell 8 rfl rfl)) rfl ?_)
            refine RV.op (OV.callP Tryd.func14 B14 N14 rfl (mod_fn _ 3 (by omega) (by omega)) (gyes rfl) rfl ?_)
            refine RV.op (OV.split (gyes rfl) (Step.eql rfl rfl) rfl (fun c2 => ?_) (fun c2 => ?_))
            · -- True
              refine RV.op (OV.step gno (Step.pick_t rfl rfl) rfl ?_)
              refine RV.nil ?_
              refine KV.then_n ?_
              refine KV.env [(1, _), (2, _), (4, _), (5, _), (6, _), (8, _), (9, _), (10, _), (66, _)] ⟨rfl, rfl, rfl, rfl, rfl, rfl, rfl, rfl, rfl, trivial⟩ ?_
              refine CV.cond_t rfl ?_
              -- region 15 law.go:51
              refine CV.region ?_
              refine RV.op (OV.step gno (Step.move rfl) rfl ?_)
              (first | refine RV.op (OV.step gno (Step.add rfl rfl (wI64 (by omega) (by omega))) rfl ?_) | refine RV.op (OV.step gno (Step.add rfl rfl rfl) rfl ?_))
              refine RV.op (OV.step gno (Step.assign rfl) rfl ?_)
              refine RV.nil ?_
              refine KV.then_n ?_
              refine KV.env [(1, _), (2, _), (4, _), (5, _), (6, _), (8, _), (9, _), (10, _)] ⟨rfl, rfl, rfl, rfl, rfl, rfl, rfl, rfl, trivial⟩ ?_
              refine KV.sel [0, 0, 0, 0, 0, 0, 0, 0, 0] [_, _, _, _, _, _, _, _, _] rfl ?_
              exact KV.join () ⟨rfl, rfl, rfl, rfl, rfl, (by first | (rw [stF_t c1 c2]; rfl) | (rw [stF_f1 c1]; rfl) | (rw [stF_f2 c2]; rfl)), rfl, rfl, trivial⟩ (fun _ h => h)
            · -- False
              refine RV.op (OV.step gno (Step.pick_t rfl rfl) rfl ?_)
              refine RV.nil ?_
              refine KV.then_n ?_
              refine KV.env [(1, _), (2, _), (4, _), (5, _), (6, _), (8, _), (9, _), (10, _), (66, _)] ⟨rfl, rfl, rfl, rfl, rfl, rfl, rfl, rfl, rfl, trivial⟩ ?_
              refine CV.cond_f rfl ?_
              refine CV.skip ?_
              refine KV.then_n ?_
              refine KV.env [(1, _), (2, _), (4, _), (5, _), (6, _), (8, _), (9, _), (10, _)] ⟨rfl, rfl, rfl, rfl, rfl, rfl, rfl, rfl, trivial⟩ ?_
              refine KV.sel [0, 0, 0, 0, 0, 0, 0, 0, 0] [_, _, _, _, _, _, _, _, _] rfl ?_
              exact KV.join () ⟨rfl, rfl, rfl, rfl, rfl, (by first | (rw [stF_t c1 c2]; rfl) | (rw [stF_f1 c1]; rfl) | (rw [stF_f2 c2]; rfl)), rfl, rfl, trivial⟩ (fun _ h => h)
          · -- False
            refine RV.op (OV.step gno (Step.move rfl) rfl ?_)
            refine RV.op (OV.skip rfl rfl ?_)
            refine RV.op (OV.skip rfl rfl ?_)
            refine RV.op (OV.skip rfl rfl ?_)
            refine RV.op (OV.skip rfl rfl ?_)
            refine RV.op (OV.step gno (Step.pick_f rfl rfl) rfl ?_)
            refine RV.nil ?_
            refine KV.then_n ?_
            refine KV.env [(1, _), (2, _), (4, _), (5, _), (6, _), (8, _), (9, _), (10, _), (66, _)] ⟨rfl, rfl, rfl, rfl, rfl, rfl, rfl, rfl, rfl, trivial⟩ ?_
            refine CV.cond_f rfl ?_
            refine CV.skip ?_
            refine KV.then_n ?_
            refine KV.env [(1, _), (2, _), (4, _), (5, _), (6, _), (8, _), (9, _), (10, _)] ⟨rfl, rfl, rfl, rfl, rfl, rfl, rfl, rfl, trivial⟩ ?_
            refine KV.sel [0, 0, 0, 0, 0, 0, 0, 0, 0] [_, _, _, _, _, _, _, _, _] rfl ?_
            exact KV.join () ⟨rfl, rfl, rfl, rfl, rfl, (by first | (rw [stF_t c1 c2]; rfl) | (rw [stF_f1 c1]; rfl) | (rw [stF_f2 c2]; rfl)), rfl, rfl, trivial⟩ (fun _ h => h)
        · intro _
          refine CV.seq ?_
          -- region 16 law.go:53
          refine CV.any (Hp I w [Blk t (.cells #[.int .i64 (d.hs.getD j thK.d).t.frm, .string (bs (d.hs.getD j thK.d).t.ev), .bool (d.hs.getD j thK.d).t.gd.used, .int .u64 (d.hs.getD j thK.d).t.gd.reg, .int .u64 (d.hs.getD j thK.d).t.gd.mask, .int .u64 (d.hs.getD j thK.d).t.gd.val, .slice (d.hs.getD j thK.d).A (d.hs.getD j thK.d).t.ops.length (d.hs.getD j thK.d).c, .int .i64 (d.hs.getD j thK.d).t.to] 61 (0, 0)), Blk ev (.cells #[.string (bs [115, 116, 97, 114, 116]), .string (bs [105, 114, 113]), .string (bs [111, 110]), .string (bs [100, 114, 105, 118, 101, 114])] 103 (0, 0))]) (by kernel_rfl) (fun _ h => h.drew) 14 rfl ?_
          refine AV.take 0 #[true, false, false, false, false, false, false, false, false, false, false, false, false, false] rfl (by kernel_rfl) (by kernel_rfl) (by kernel_rfl) (fun _ _ _ h => h) gno (Step.move rfl) rfl (fun _ h => h.sel [8, 3] rfl) (by kernel_rfl) ?_
          refine AV.take 1 #[true, true, false, false, false, false, false, false, false, false, false, false, false, false] rfl (by kernel_rfl) (by kernel_rfl) (by kernel_rfl) (fun _ _ _ h => h) gno (Step.fieldAddr rfl (F61_1 _ _)) rfl (fun _ h => h.sel [8, 3] rfl) (by kernel_rfl) ?_
          refine AV.take 2 #[true, true, true, false, false, false, false, false, false, false, false, false, false, false] rfl (by kernel_rfl) (by kernel_rfl) (by kernel_rfl) (fun _ _ _ h => h) gno (Step.load Tryd.underlying9 rfl rfl (fun w h => h.cell 0 rfl rfl)) rfl (fun _ h => h.sel [8, 3] rfl) (by kernel_rfl) ?_
          refine AV.take 3 #[true, true, true, true, false, false, false, false, false, false, false, false, false, false] rfl (by kernel_rfl) (by kernel_rfl) (by kernel_rfl) (fun _ _ _ h => h) gno (Step.lenStr Tryd.underlying9 rfl) rfl (fun _ h => h.sel [8, 3] rfl) (by kernel_rfl) ?_
          refine AV.take 4 #[true, true, true, true, true, false, false, false, false, false, false, false, false, false] rfl (by kernel_rfl) (by kernel_rfl) (by kernel_rfl) (fun _ _ _ h => h) gno (Step.rem rfl rfl (by omega) (tmodN _ 4)) rfl (fun _ h => h.sel [8, 3] rfl) (by kernel_rfl) ?_
          refine AV.take 5 #[true, true, true, true, true, true, false, false, false, false, false, false, false, false] rfl (by kernel_rfl) (by kernel_rfl) (by kernel_rfl) (fun _ _ _ h => h) gno (Step.idxArr Tryd.underlying103 I9 rfl rfl _ rfl (by omega)) rfl (fun _ h => h.sel [8, 3] rfl) (by kernel_rfl) ?_
          refine AV.take 6 #[true, true, true, true, true, true, true, false, false, false, false, false, false, false] rfl (by kernel_rfl) (by kernel_rfl) (by kernel_rfl) (fun _ _ _ h => h) gno (Step.load Tryd.underlying9 rfl rfl (fun w h => h.cell 1 rfl (strs_get ev4 (show (d.hs.getD j thK.d).t.ev.length % 4 < 4 by omega)))) rfl (fun _ h => h.sel [8, 3] rfl) (by kernel_rfl) ?_
          refine AV.take 7 #[true, true, true, true, true, true, true, true, false, false, false, false, false, false] rfl (by kernel_rfl) (by kernel_rfl) (by kernel_rfl) (fun _ _ _ h => h) gno (Step.fieldAddr rfl (F61_4 _ _)) rfl (fun _ h => h.sel [8, 3] rfl) (by kernel_rfl) ?_
          refine AV.take 8 #[true, true, true, true, true, true, true, true, true, false, false, false, false, false] rfl (by kernel_rfl) (by kernel_rfl) (by kernel_rfl) (fun _ _ _ h => h) gno (Step.load Tryd.underlying3 rfl rfl (fun w h => h.cell 0 rfl rfl)) rfl (fun _ h => h.sel [8, 3] rfl) (by kernel_rfl) ?_
          refine AV.take 9 #[true, true, true, true, true, true, true, true, true, true, false, false, false, false] rfl (by kernel_rfl) (by kernel_rfl) (by kernel_rfl) (fun _ _ _ h => h) gno (Step.move rfl) rfl (fun _ h => h.sel [8, 3] rfl) (by kernel_rfl) ?_
          refine AV.all [10, 12] (by kernel_rfl) (by decide) ?_
          refine ⟨⟨_, rfl, ?_⟩, ⟨⟨_, rfl, ?_⟩, trivial⟩⟩
          · -- 10 comes up
            refine OV.callP Tryd.func14 B14 N14 rfl (mod_fn (d.hs.getD j thK.d).t.to (somN d.d) (by omega) (by omega)) gno rfl ?_
            refine AV.next #[true, true, true, true, true, true, true, true, true, true, true, false, false, false] (by kernel_rfl) (fun _ h => h.sel [8, 3] rfl) ?_
            refine AV.take 11 #[true, true, true, true, true, true, true, true, true, true, true, true, false, false] rfl (by kernel_rfl) (by kernel_rfl) (by kernel_rfl) (fun _ _ _ h => h) gno (Step.build rfl (Bd61_0_1_4 _ _ _)) rfl (fun _ h => h.sel [8, 3] rfl) (by kernel_rfl) ?_
            refine AV.all [12] (by kernel_rfl) (by decide) ?_
            refine ⟨⟨_, rfl, ?_⟩, trivial⟩
            · -- 12 comes up
              refine OV.alloc #[.int .i64 0, .string (Sv.bs []), .bool false, .int .u64 0, .int .u64 0, .int .u64 0, .slice none 0 0, .int .i64 0] I61 rfl gno rfl (fun y => ?_)
              refine AV.next #[true, true, true, true, true, true, true, true, true, true, true, true, true, false] (by kernel_rfl) (fun _ h => h.sel [8, 3] rfl) ?_
              refine AV.all [13] (by kernel_rfl) (by decide) ?_
              refine ⟨⟨_, rfl, ?_⟩, trivial⟩
              · -- 13 comes up
                refine OV.store 9 [_, _, _, _, _, _, _, _] #[_, _, _, _, _, _, _, _] I61 rfl rfl rfl rfl rfl (Nat.le_of_ble_eq_true rfl) (by simp [Value.oneCell']) rfl gno ?_
                refine AV.next #[true, true, true, true, true, true, true, true, true, true, true, true, true, true] (by kernel_rfl) (fun _ h => h.sel [8, 3] rfl) ?_
                refine AV.done (by kernel_rfl) ?_
                refine KV.then_n ?_
                refine KV.env [(1, _), (2, _), (4, _), (5, _), (6, _), (8, _), (9, _), (10, _), (11, _)] ⟨rfl, rfl, rfl, rfl, rfl, rfl, rfl, rfl, rfl, trivial⟩ ?_
                -- join; live [1, 2, 4, 5, 6, 8, 9, 10, 11]
                refine CV.join (α := Unit) (fun _ => [(1, .pointer (some ⟨p, 0, none⟩)), (2, .pointer (some ⟨r, 0, none⟩)), (4, .pointer (some ⟨ev, 0, none⟩)), (5, .pointer (some ⟨x, 0, none⟩)), (6, .int .i64 (somN d.d)), (8, .int .i64 (stF (somN d.d) (frN (somN d.d) ((d.hs.map (·.t)).take j)) (d.hs.getD j thK.d).t)), (9, .int .i64 j), (10, .pointer (some ⟨t, 0, none⟩)), (11, .pointer (some ⟨y, 0, none⟩))]) (fun _ => Hp I w [Blk p (.cells #[.string (bs d.name), .slice d.sA d.ss.length d.sc, .slice d.tA d.hs.length d.tc] 26 (0, 0)), Blk r (.cells #[.string (bs []), .slice none 0 0, .slice none 0 0] 26 (0, 0)), Blk nm (.cells #[.string (bs [111, 102, 102]), .string (bs [111, 110]), .string (bs [95, 120]), .string (bs [83, 116, 97, 116, 101, 51]), .string (bs [105, 102]), .string (bs [111, 110, 95, 49])] 102 (0, 0)), Blk ev (.cells #[.string (bs [115, 116, 97, 114, 116]), .string (bs [105, 114, 113]), .string (bs [111, 110]), .string (bs [100, 114, 105, 118, 101, 114])] 103 (0, 0)), Blk x (.cells #[.string (bs (nmL.getD (d.name.length % 6) [])), .slice sA (nmL.take (somN d.d)).length sc, .slice D.tA D.hs.length D.tc] 26 (0, 0)), OS 9 strK sA sc (nmL.take (somN d.d)), OS 61 thK D.tA D.tc D.hs, Big opA D.hs, Blk t (.cells #[.int .i64 (d.hs.getD j thK.d).t.frm, .string (bs (d.hs.getD j thK.d).t.ev), .bool (d.hs.getD j thK.d).t.gd.used, .int .u64 (d.hs.getD j thK.d).t.gd.reg, .int .u64 (d.hs.getD j thK.d).t.gd.mask, .int .u64 (d.hs.getD j thK.d).t.gd.val, .slice (d.hs.getD j thK.d).A (d.hs.getD j thK.d).t.ops.length (d.hs.getD j thK.d).c, .int .i64 (d.hs.getD j thK.d).t.to] 61 (0, 0)), Blk y (.cells #[.int .i64 (stF (somN d.d) (frN (somN d.d) ((d.hs.map (·.t)).take j)) (d.hs.getD j thK.d).t), .string (bs (ev4.getD ((d.hs.getD j thK.d).t.ev.length % 4) [])), .bool (gM (d.hs.getD j thK.d).t.gd).used, .int .u64 (gM (d.hs.getD j thK.d).t.gd).reg, .int .u64 (gM (d.hs.getD j thK.d).t.gd).mask, .int .u64 (gM (d.hs.getD j thK.d).t.gd).val, .slice none 0 0, .int .i64 (modM (d.hs.getD j thK.d).t.to (somN d.d))] 61 (0, 0))]) ?_ ?_
                · skip
                  refine CV.seq ?_
                  -- region 17 law.go:54
                  refine CV.region ?_
                  refine RV.op (OV.step gno (Step.fieldAddr rfl (F61_2 _ _)) rfl ?_)
                  refine RV.op (OV.step gno (Step.fieldAddr rfl (F59_0 _ _)) rfl ?_)
                  refine RV.op (OV.step gno (Step.load Tryd.underlying4 rfl rfl (fun w h => h.cell 8 rfl rfl)) rfl ?_)
                  refine RV.nil ?_
                  refine KV.then_n ?_
                  refine KV.env [(1, _), (2, _), (4, _), (5, _), (6, _), (8, _), (9, _), (10, _), (11, _), (83, _)] ⟨rfl, rfl, rfl, rfl, rfl, rfl, rfl, rfl, rfl, rfl, trivial⟩ ?_
                  refine KV.cases 83 rfl (fun cc1 => ?_) (fun cc1 => ?_)
                  · -- True
                    have hu : (d.hs.getD j thK.d).t.gd.used = true := cc1
                    refine CV.cond_t rfl ?_
                    -- region 18 law.go:55
                    refine CV.region ?_
                    refine RV.op (OV.step gno (Step.fieldAddr rfl (F61_2 _ _)) rfl ?_)
                    refine RV.op (OV.step gno (Step.fieldAddr rfl (F59_1 _ _)) rfl ?_)
                    refine RV.op (OV.step gno (Step.load Tryd.underlying51 rfl rfl (fun w h => h.cell 8 rfl rfl)) rfl ?_)
                    refine RV.op (OV.step gno (Step.fieldAddr rfl (F61_2 _ _)) rfl ?_)
                    refine RV.op (OV.step gno (Step.fieldAddr rfl (F59_2 _ _)) rfl ?_)
                    refine RV.op (OV.step gno (Step.load Tryd.underlying51 rfl rfl (fun w h => h.cell 8 rfl rfl)) rfl ?_)
                    refine RV.op (OV.step gno (Step.rem rfl rfl (by omega) (rfl)) rfl ?_)
                    refine RV.op (OV.step gno (Step.fieldAddr rfl (F61_2 _ _)) rfl ?_)
                    refine RV.op (OV.step gno (Step.fieldAddr rfl (F59_3 _ _)) rfl ?_)
                    refine RV.op (OV.step gno (Step.load Tryd.underlying51 rfl rfl (fun w h => h.cell 8 rfl rfl)) rfl ?_)
                    refine RV.op (OV.step gno (Step.rem rfl rfl (by omega) (rfl)) rfl ?_)
                    refine RV.op (OV.step gno (Step.build rfl (Bd59_0_1_2_3 _ _ _ _)) rfl ?_)
                    refine RV.op (OV.step gno (Step.fieldAddr rfl (F61_2 _ _)) rfl ?_)
                    refine RV.op (OV.store 9 [_, _, _, _] #[_, _, _, _, _, _, _, _] I59 rfl rfl rfl rfl rfl (Nat.le_of_ble_eq_true rfl) (by simp [Value.oneCell']) rfl gno ?_)
                    refine RV.nil ?_
                    refine KV.then_n ?_
                    refine KV.env [(1, _), (2, _), (4, _), (5, _), (6, _), (8, _), (9, _), (10, _), (11, _)] ⟨rfl, rfl, rfl, rfl, rfl, rfl, rfl, rfl, rfl, trivial⟩ ?_
                    refine KV.sel [0, 0, 0, 0, 0, 0, 0, 0, 0, 0] [_, _, _, _, _, _, _, _, _, _] rfl ?_
                    exact KV.join () ⟨rfl, rfl, rfl, rfl, rfl, rfl, rfl, rfl, rfl, trivial⟩ (fun _ h => by first | (rw [gM_t hu]; exact h) | (rw [gM_f hu]; exact h))
                  · -- False
                    have hu : (d.hs.getD j thK.d).t.gd.used = false := cc1
                    refine CV.cond_f rfl ?_
                    refine CV.skip ?_
                    refine KV.then_n ?_
                    refine KV.env [(1, _), (2, _), (4, _), (5, _), (6, _), (8, _), (9, _), (10, _), (11, _)] ⟨rfl, rfl, rfl, rfl, rfl, rfl, rfl, rfl, rfl, trivial⟩ ?_
                    refine KV.sel [0, 0, 0, 0, 0, 0, 0, 0, 0, 0] [_, _, _, _, _, _, _, _, _, _] rfl ?_
                    exact KV.join () ⟨rfl, rfl, rfl, rfl, rfl, rfl, rfl, rfl, rfl, trivial⟩ (fun _ h => by first | (rw [gM_t hu]; exact h) | (rw [gM_f hu]; exact h))
                · intro _
                  refine CV.seq ?_
                  refine CV.seq ?_
                  -- region 19 law.go:57
                  refine KV.heap (fun w h => h.nilOS (e := 71) (K := roK)) ?_
                  refine CV.region ?_
                  refine RV.op (OV.step gno (Step.assign rfl) rfl ?_)
                  refine RV.nil ?_
                  refine KV.then_n ?_
                  refine KV.env [(1, _), (2, _), (4, _), (5, _), (6, _), (8, _), (9, _), (10, _), (11, _), (12, _)] ⟨rfl, rfl, rfl, rfl, rfl, rfl, rfl, rfl, rfl, rfl, trivial⟩ ?_
                  refine CV.block ?_
                  -- loop L20; live [1, 2, 4, 5, 6, 8, 9, 10, 11, 12]
                  refine KV.sel [0, 0, 0, 0, 0, 0, 0, 0, 0, 0, 0] [_, _, _, _, _, _, _, _, _, _, _] rfl ?_
                  refine CV.loop3 (fun (k : Nat) (A : Option Addr) (c : Nat) => k ≤ (d.hs.getD j thK.d).t.ops.length ∧ k ≤ 4) (fun (k : Nat) (A : Option Addr) (c : Nat) => 4 - k) (fun (k : Nat) (A : Option Addr) (c : Nat) => [(1, .pointer (some ⟨p, 0, none⟩)), (2, .pointer (some ⟨r, 0, none⟩)), (4, .pointer (some ⟨ev, 0, none⟩)), (5, .pointer (some ⟨x, 0, none⟩)), (6, .int .i64 (somN d.d)), (8, .int .i64 (stF (somN d.d) (frN (somN d.d) ((d.hs.map (·.t)).take j)) (d.hs.getD j thK.d).t)), (9, .int .i64 j), (10, .pointer (some ⟨t, 0, none⟩)), (11, .pointer (some ⟨y, 0, none⟩)), (12, .int .i64 k)]) (fun (k : Nat) (A : Option Addr) (c : Nat) => Hp I w [Blk p (.cells #[.string (bs d.name), .slice d.sA d.ss.length d.sc, .slice d.tA d.hs.length d.tc] 26 (0, 0)), Blk r (.cells #[.string (bs []), .slice none 0 0, .slice none 0 0] 26 (0, 0)), Blk nm (.cells #[.string (bs [111, 102, 102]), .string (bs [111, 110]), .string (bs [95, 120]), .string (bs [83, 116, 97, 116, 101, 51]), .string (bs [105, 102]), .string (bs [111, 110, 95, 49])] 102 (0, 0)), Blk ev (.cells #[.string (bs [115, 116, 97, 114, 116]), .string (bs [105, 114, 113]), .string (bs [111, 110]), .string (bs [100, 114, 105, 118, 101, 114])] 103 (0, 0)), Blk x (.cells #[.string (bs (nmL.getD (d.name.length % 6) [])), .slice sA (nmL.take (somN d.d)).length sc, .slice D.tA D.hs.length D.tc] 26 (0, 0)), OS 9 strK sA sc (nmL.take (somN d.d)), OS 61 thK D.tA D.tc D.hs, Big opA D.hs, Blk t (.cells #[.int .i64 (d.hs.getD j thK.d).t.frm, .string (bs (d.hs.getD j thK.d).t.ev), .bool (d.hs.getD j thK.d).t.gd.used, .int .u64 (d.hs.getD j thK.d).t.gd.reg, .int .u64 (d.hs.getD j thK.d).t.gd.mask, .int .u64 (d.hs.getD j thK.d).t.gd.val, .slice (d.hs.getD j thK.d).A (d.hs.getD j thK.d).t.ops.length (d.hs.getD j thK.d).c, .int .i64 (d.hs.getD j thK.d).t.to] 61 (0, 0)), Blk y (.cells #[.int .i64 (stF (somN d.d) (frN (somN d.d) ((d.hs.map (·.t)).take j)) (d.hs.getD j thK.d).t), .string (bs (ev4.getD ((d.hs.getD j thK.d).t.ev.length % 4) [])), .bool (gM (d.hs.getD j thK.d).t.gd).used, .int .u64 (gM (d.hs.getD j thK.d).t.gd).reg, .int .u64 (gM (d.hs.getD j thK.d).t.gd).mask, .int .u64 (gM (d.hs.getD j thK.d).t.gd).val, .slice A (((d.hs.getD j thK.d).t.ops.take k).map oM).length c, .int .i64 (modM (d.hs.getD j thK.d).t.to (somN d.d))] 61 (0, 0)), OS 71 roK A c (((d.hs.getD j thK.d).t.ops.take k).map oM)]) (0) (none) (0) ⟨Nat.zero_le _, Nat.zero_le _⟩ ⟨rfl, rfl, rfl, rfl, rfl, rfl, rfl, rfl, rfl, rfl, trivial⟩ (fun _ h => h) ?_
                  intro k A c hk1
                  refine CV.seq ?_
                  refine CV.seq ?_
                  -- region 20 law.go:57
                  refine CV.region ?_
                  refine RV.op (OV.step gno (Step.move rfl) rfl ?_)
                  refine RV.op (OV.step gno (Step.fieldAddr rfl (F61_3 _ _)) rfl ?_)
                  refine RV.op (OV.step gno (Step.load Tryd.underlying46 rfl rfl (fun w h => h.cell 8 rfl rfl)) rfl ?_)
                  refine RV.op (OV.step gno (Step.lenSl Tryd.underlying46 rfl) rfl ?_)
                  refine RV.op (OV.split gno (Step.lss rfl rfl) rfl (fun k1 => ?_) (fun k1 => ?_))
                  · -- True
                    refine RV.op (OV.step gno (Step.move rfl) rfl ?_)
                    refine RV.op (OV.step (gyes rfl) (Step.move rfl) rfl ?_)
                    refine RV.op (OV.split (gyes rfl) (Step.lss rfl rfl) rfl (fun k2 => ?_) (fun k2 => ?_))
                    · -- True
                      refine RV.op (OV.step gno (Step.pick_t rfl rfl) rfl ?_)
                      refine RV.nil ?_
                      refine KV.then_n ?_
                      refine KV.env [(1, _), (2, _), (4, _), (5, _), (6, _), (8, _), (9, _), (10, _), (11, _), (12, _), (105, _)] ⟨rfl, rfl, rfl, rfl, rfl, rfl, rfl, rfl, rfl, rfl, rfl, trivial⟩ ?_
                      refine CV.cond_t rfl ?_
                      refine CV.skip ?_
                      refine KV.then_n ?_
                      refine KV.env [(1, _), (2, _), (4, _), (5, _), (6, _), (8, _), (9, _), (10, _), (11, _), (12, _)] ⟨rfl, rfl, rfl, rfl, rfl, rfl, rfl, rfl, rfl, rfl, trivial⟩ ?_
                      refine CV.seq ?_
                      refine CV.block ?_
                      refine CV.seq ?_
                      -- region 22 law.go:58
                      refine CV.region ?_
                      refine RV.op (OV.step gno (Step.fieldAddr rfl (F61_3 _ _)) rfl ?_)
                      refine RV.op (OV.step gno (Step.load Tryd.underlying46 rfl rfl (fun w h => h.cell 8 rfl rfl)) rfl ?_)
                      refine RV.op (OV.step gno (Step.move rfl) rfl ?_)
                      refine RV.op (OV.step gno (Step.idx Tryd.underlying46 I71 (fun w h => (show RS w roK (d.hs.getD j thK.d).A (d.hs.getD j thK.d).t.ops from (DR.keep h hd hI).o j (by omega))) rfl rfl (rfl) _ rfl (by omega)) rfl ?_)
                      refine RV.op (OV.step gno (Step.loadN _ Tryd.underlying71 rfl I71 rfl rfl (fun w h => (show RS w roK (d.hs.getD j thK.d).A (d.hs.getD j thK.d).t.ops from (DR.keep h hd hI).o j (by omega)).cells (by omega))) rfl ?_)
                      refine RV.op (OV.alloc #[.bool false, .int .u64 0, .int .u64 0] I71 rfl gno rfl (fun o => ?_))
                      refine RV.op (OV.store 11 [_, _, _] #[_, _, _] I71 rfl rfl rfl rfl rfl (Nat.le_of_ble_eq_true rfl) (by simp [Value.oneCell']) rfl gno ?_)
                      refine RV.nil ?_
                      refine KV.then_n ?_
                      refine KV.env [(1, _), (2, _), (4, _), (5, _), (6, _), (8, _), (9, _), (10, _), (11, _), (12, _), (13, _)] ⟨rfl, rfl, rfl, rfl, rfl, rfl, rfl, rfl, rfl, rfl, rfl, trivial⟩ ?_
                      -- join; live [1, 2, 4, 5, 6, 8, 9, 10, 11, 12, 13]
                      refine CV.join (α := Unit) (fun _ => [(1, .pointer (some ⟨p, 0, none⟩)), (2, .pointer (some ⟨r, 0, none⟩)), (4, .pointer (some ⟨ev, 0, none⟩)), (5, .pointer (some ⟨x, 0, none⟩)), (6, .int .i64 (somN d.d)), (8, .int .i64 (stF (somN d.d) (frN (somN d.d) ((d.hs.map (·.t)).take j)) (d.hs.getD j thK.d).t)), (9, .int .i64 j), (10, .pointer (some ⟨t, 0, none⟩)), (11, .pointer (some ⟨y, 0, none⟩)), (12, .int .i64 k), (13, .pointer (some ⟨o, 0, none⟩))]) (fun _ => Hp I w [Blk p (.cells #[.string (bs d.name), .slice d.sA d.ss.length d.sc, .slice d.tA d.hs.length d.tc] 26 (0, 0)), Blk r (.cells #[.string (bs []), .slice none 0 0, .slice none 0 0] 26 (0, 0)), Blk nm (.cells #[.string (bs [111, 102, 102]), .string (bs [111, 110]), .string (bs [95, 120]), .string (bs [83, 116, 97, 116, 101, 51]), .string (bs [105, 102]), .string (bs [111, 110, 95, 49])] 102 (0, 0)), Blk ev (.cells #[.string (bs [115, 116, 97, 114, 116]), .string (bs [105, 114, 113]), .string (bs [111, 110]), .string (bs [100, 114, 105, 118, 101, 114])] 103 (0, 0)), Blk x (.cells #[.string (bs (nmL.getD (d.name.length % 6) [])), .slice sA (nmL.take (somN d.d)).length sc, .slice D.tA D.hs.length D.tc] 26 (0, 0)), OS 9 strK sA sc (nmL.take (somN d.d)), OS 61 thK D.tA D.tc D.hs, Big opA D.hs, Blk t (.cells #[.int .i64 (d.hs.getD j thK.d).t.frm, .string (bs (d.hs.getD j thK.d).t.ev), .bool (d.hs.getD j thK.d).t.gd.used, .int .u64 (d.hs.getD j thK.d).t.gd.reg, .int .u64 (d.hs.getD j thK.d).t.gd.mask, .int .u64 (d.hs.getD j thK.d).t.gd.val, .slice (d.hs.getD j thK.d).A (d.hs.getD j thK.d).t.ops.length (d.hs.getD j thK.d).c, .int .i64 (d.hs.getD j thK.d).t.to] 61 (0, 0)), Blk y (.cells #[.int .i64 (stF (somN d.d) (frN (somN d.d) ((d.hs.map (·.t)).take j)) (d.hs.getD j thK.d).t), .string (bs (ev4.getD ((d.hs.getD j thK.d).t.ev.length % 4) [])), .bool (gM (d.hs.getD j thK.d).t.gd).used, .int .u64 (gM (d.hs.getD j thK.d).t.gd).reg, .int .u64 (gM (d.hs.getD j thK.d).t.gd).mask, .int .u64 (gM (d.hs.getD j thK.d).t.gd).val, .slice A (((d.hs.getD j thK.d).t.ops.take k).map oM).length c, .int .i64 (modM (d.hs.getD j thK.d).t.to (somN d.d))] 61 (0, 0)), OS 71 roK A c (((d.hs.getD j thK.d).t.ops.take k).map oM), Blk o (.cells #[.bool (oM ((d.hs.getD j thK.d).t.ops.getD k roK.d)).wr, .int .u64 (oM ((d.hs.getD j thK.d).t.ops.getD k roK.d)).reg, .int .u64 (oM ((d.hs.getD j thK.d).t.ops.getD k roK.d)).val] 71 (0, 0))]) ?_ ?_
                      · skip
                        refine CV.seq ?_
                        -- region 23 law.go:59
                        refine CV.region ?_
                        refine RV.op (OV.step gno (Step.fieldAddr rfl (F71_0 _ _)) rfl ?_)
                        refine RV.op (OV.step gno (Step.load Tryd.underlying4 rfl rfl (fun w h => h.cell 11 rfl rfl)) rfl ?_)
                        refine RV.op (OV.step gno (Step.not rfl) rfl ?_)
                        refine RV.nil ?_
                        refine KV.then_n ?_
                        refine KV.env [(1, _), (2, _), (4, _), (5, _), (6, _), (8, _), (9, _), (10, _), (11, _), (12, _), (13, _), (115, _)] ⟨rfl, rfl, rfl, rfl, rfl, rfl, rfl, rfl, rfl, rfl, rfl, rfl, trivial⟩ ?_
                        refine KV.cases 115 rfl (fun cc2 => ?_) (fun cc2 => ?_)
                        · -- True
                          have hw := neg_t cc2
                          refine CV.cond_t rfl ?_
                          -- region 24 law.go:60
                          refine CV.region ?_
                          refine RV.op (OV.step gno (Step.fieldAddr rfl (F71_2 _ _)) rfl ?_)
                          refine RV.op (OV.store 11 [_] #[_, _, _] I51 rfl rfl rfl rfl rfl (Nat.le_of_ble_eq_true rfl) (by simp [Value.oneCell']) rfl gno ?_)
                          refine RV.nil ?_
                          refine KV.then_n ?_
                          refine KV.env [(1, _), (2, _), (4, _), (5, _), (6, _), (8, _), (9, _), (10, _), (11, _), (12, _), (13, _)] ⟨rfl, rfl, rfl, rfl, rfl, rfl, rfl, rfl, rfl, rfl, rfl, trivial⟩ ?_
                          refine KV.sel [0, 0, 0, 0, 0, 0, 0, 0, 0, 0, 0, 0] [_, _, _, _, _, _, _, _, _, _, _, _] rfl ?_
                          exact KV.join () ⟨rfl, rfl, rfl, rfl, rfl, rfl, rfl, rfl, rfl, rfl, rfl, trivial⟩ (fun _ h => by first | (rw [oM_t hw]; exact h) | (rw [oM_f hw]; exact h))
                        · -- False
                          have hw := neg_f cc2
                          refine CV.cond_f rfl ?_
                          refine CV.skip ?_
                          refine KV.then_n ?_
                          refine KV.env [(1, _), (2, _), (4, _), (5, _), (6, _), (8, _), (9, _), (10, _), (11, _), (12, _), (13, _)] ⟨rfl, rfl, rfl, rfl, rfl, rfl, rfl, rfl, rfl, rfl, rfl, trivial⟩ ?_
                          refine KV.sel [0, 0, 0, 0, 0, 0, 0, 0, 0, 0, 0, 0] [_, _, _, _, _, _, _, _, _, _, _, _] rfl ?_
                          exact KV.join () ⟨rfl, rfl, rfl, rfl, rfl, rfl, rfl, rfl, rfl, rfl, rfl, trivial⟩ (fun _ h => by first | (rw [oM_t hw]; exact h) | (rw [oM_f hw]; exact h))
                      · intro _
                        -- region 25 law.go:62
                        refine CV.region ?_
                        refine RV.op (OV.step gno (Step.fieldAddr rfl (F61_3 _ _)) rfl ?_)
                        refine RV.op (OV.step gno (Step.load Tryd.underlying46 rfl rfl (fun w h => h.cell 9 rfl rfl)) rfl ?_)
                        refine RV.op (OV.step gno (Step.loadN _ Tryd.underlying71 rfl I71 rfl rfl (fun w h => h.cells 11 rfl)) rfl ?_)
                        refine RV.op (OV.buildSlice (K := roK) ([oM ((d.hs.getD j thK.d).t.ops.getD k roK.d)]) rfl (Bs46_1_0 _ _ _) rfl rfl (by omega) gno rfl (fun b25_3 => ?_))
                        refine RV.op (OV.append 10 Tryd.underlying46 I71 rfl rfl rfl rfl rfl rfl (fun w h => h.os 12 rfl) (by simp only [List.length_cons, List.length_nil, List.length_map, List.length_take]; omega) (by simp only [List.length_cons, List.length_nil, List.length_map, List.length_take]; omega) gno rfl (fun A4 c4 => ?_))
                        refine RV.op (OV.step gno (Step.fieldAddr rfl (F61_3 _ _)) rfl ?_)
                        refine RV.op (OV.store 9 [_] #[_, _, _, _, _, _, _, _] I46 rfl rfl rfl rfl rfl (Nat.le_of_ble_eq_true rfl) (by simp [Value.oneCell']) rfl gno ?_)
                        refine RV.nil ?_
                        refine KV.block_n ?_
                        refine KV.then_n ?_
                        refine KV.env [(1, _), (2, _), (4, _), (5, _), (6, _), (8, _), (9, _), (10, _), (11, _), (12, _)] ⟨rfl, rfl, rfl, rfl, rfl, rfl, rfl, rfl, rfl, rfl, trivial⟩ ?_
                        -- region 21 law.go:57
                        refine CV.region ?_
                        refine RV.op (OV.step gno (Step.move rfl) rfl ?_)
                        (first | refine RV.op (OV.step gno (Step.add rfl rfl (wI64 (by omega) (by omega))) rfl ?_) | refine RV.op (OV.step gno (Step.add rfl rfl rfl) rfl ?_))
                        refine RV.op (OV.step gno (Step.assign rfl) rfl ?_)
                        refine RV.nil ?_
                        refine KV.then_n ?_
                        refine KV.env [(1, _), (2, _), (4, _), (5, _), (6, _), (8, _), (9, _), (10, _), (11, _), (12, _)] ⟨rfl, rfl, rfl, rfl, rfl, rfl, rfl, rfl, rfl, rfl, trivial⟩ ?_
                        refine KV.sel [0, 0, 0, 0, 0, 0, 0, 0, 0, 0, 0] [_, _, _, _, _, _, _, _, _, _, _] rfl ?_
                        exact KV.loop3 (x := k) (y := A) (z := c) (k + 1) (A4) (c4) ⟨by omega, by omega⟩ (by omega) ⟨rfl, rfl, rfl, rfl, rfl, rfl, rfl, rfl, rfl, rfl, trivial⟩ (fun _ h => by rw [take_snoc roK.d (show k < (d.hs.getD j thK.d).t.ops.length by omega), List.map_append]; exact h)
                    · -- False
                      refine RV.op (OV.step gno (Step.pick_t rfl rfl) rfl ?_)
                      refine RV.nil ?_
                      refine KV.then_n ?_
                      refine KV.env [(1, _), (2, _), (4, _), (5, _), (6, _), (8, _), (9, _), (10, _), (11, _), (12, _), (105, _)] ⟨rfl, rfl, rfl, rfl, rfl, rfl, rfl, rfl, rfl, rfl, rfl, trivial⟩ ?_
                      refine CV.cond_f rfl ?_
                      refine CV.exit ?_
                      refine KV.then_exit ?_
                      refine KV.then_exit ?_
                      refine KV.block_hit ?_
                      refine KV.then_n ?_
                      refine KV.env [(1, _), (2, _), (4, _), (5, _), (6, _), (8, _), (9, _), (11, _)] ⟨rfl, rfl, rfl, rfl, rfl, rfl, rfl, rfl, trivial⟩ ?_
                      -- region 26 law.go:64
                      have hop : (((d.hs.getD j thK.d).t.ops.take k).map oM) = (((d.hs.getD j thK.d).t.ops.take 4).map oM) := by rw [take_min hk1.1 hk1.2 (by omega)]
                      rw [hop]
                      refine CV.region ?_
                      refine RV.op (OV.step gno (Step.fieldAddr rfl (F26_2 _ _)) rfl ?_)
                      refine RV.op (OV.step gno (Step.load Tryd.underlying24 rfl rfl (fun w h => h.cell 4 rfl rfl)) rfl ?_)
                      refine RV.op (OV.step gno (Step.loadN _ Tryd.underlying61 rfl I61 rfl rfl (fun w h => h.cells 9 rfl)) rfl ?_)
                      refine RV.op (OV.buildSlice (K := thK) ([(⟨someT (somN d.d) (stF (somN d.d) (frN (somN d.d) ((d.hs.map (·.t)).take j)) (d.hs.getD j thK.d).t) (d.hs.getD j thK.d).t, A, c⟩ : TH)]) rfl (Bs24_1_0 _ _ _ _ _ _ _ _) rfl rfl (by omega) gno rfl (fun b26_3 => ?_))
                      refine RV.op (OV.append 6 Tryd.underlying24 I61 rfl rfl rfl rfl rfl rfl (fun w h => h.os 11 rfl) (by simp only [List.length_cons, List.length_nil]; omega) (by simp only [List.length_cons, List.length_nil]; omega) gno rfl (fun A5 c5 => ?_))
                      refine RV.op (OV.step gno (Step.fieldAddr rfl (F26_2 _ _)) rfl ?_)
                      refine RV.op (OV.store 4 [_] #[_, _, _] I24 rfl rfl rfl rfl rfl (Nat.le_of_ble_eq_true rfl) (by simp [Value.oneCell']) rfl gno ?_)
                      refine KV.sel [0, 0, 0, 0, 0, 0, 0, 0, 2] [_, _, _, _, _, _, _, _, _] rfl ?_
                      refine KV.heap (fun w h => Hp.bigSnoc8 (⟨someT (somN d.d) (stF (somN d.d) (frN (somN d.d) ((d.hs.map (·.t)).take j)) (d.hs.getD j thK.d).t) (d.hs.getD j thK.d).t, A, c⟩ : TH) h rfl) ?_
                      refine RV.nil ?_
                      refine KV.block_n ?_
                      refine KV.then_n ?_
                      refine KV.env [(1, _), (2, _), (4, _), (5, _), (6, _), (8, _), (9, _)] ⟨rfl, rfl, rfl, rfl, rfl, rfl, rfl, trivial⟩ ?_
                      -- region 12 law.go:48
                      refine CV.region ?_
                      refine RV.op (OV.step gno (Step.move rfl) rfl ?_)
                      (first | refine RV.op (OV.step gno (Step.add rfl rfl (wI64 (by omega) (by omega))) rfl ?_) | refine RV.op (OV.step gno (Step.add rfl rfl rfl) rfl ?_))
                      refine RV.op (OV.step gno (Step.assign rfl) rfl ?_)
                      refine RV.nil ?_
                      refine KV.then_n ?_
                      refine KV.env [(1, _), (2, _), (4, _), (5, _), (6, _), (8, _), (9, _)] ⟨rfl, rfl, rfl, rfl, rfl, rfl, rfl, trivial⟩ ?_
                      refine KV.sel [0, 0, 0, 0, 0, 0, 0, 0] [_, _, _, _, _, _, _, _] rfl ?_
                      exact KV.loop2 (x := j) (y := D) (j + 1) ({ D with tA := A5, tc := c5, hs := D.hs ++ [(⟨someT (somN d.d) (stF (somN d.d) (frN (somN d.d) ((d.hs.map (·.t)).take j)) (d.hs.getD j thK.d).t) (d.hs.getD j thK.d).t, A, c⟩ : TH)] }) ⟨⟨by omega, by omega⟩, by show (D.hs ++ [_]).length = j + 1; rw [List.length_append, hinv.2.1]; rfl, som_next (by omega) hinv.2.2 rfl⟩ (by omega) ⟨rfl, rfl, rfl, rfl, rfl, (by rw [frN_next (by omega)]; rfl), rfl, trivial⟩ (fun _ h => h)
                  · -- False
                    refine RV.op (OV.step gno (Step.move rfl) rfl ?_)
                    refine RV.op (OV.skip rfl rfl ?_)
                    refine RV.op (OV.skip rfl rfl ?_)
                    refine RV.op (OV.step gno (Step.pick_f rfl rfl) rfl ?_)
                    refine RV.nil ?_
                    refine KV.then_n ?_
                    refine KV.env [(1, _), (2, _), (4, _), (5, _), (6, _), (8, _), (9, _), (10, _), (11, _), (12, _), (105, _)] ⟨rfl, rfl, rfl, rfl, rfl, rfl, rfl, rfl, rfl, rfl, rfl, trivial⟩ ?_
                    refine CV.cond_f rfl ?_
                    refine CV.exit ?_
                    refine KV.then_exit ?_
                    refine KV.then_exit ?_
                    refine KV.block_hit ?_
                    refine KV.then_n ?_
                    refine KV.env [(1, _), (2, _), (4, _), (5, _), (6, _), (8, _), (9, _), (11, _)] ⟨rfl, rfl, rfl, rfl, rfl, rfl, rfl, rfl, trivial⟩ ?_
                    -- region 26 law.go:64
                    have hop : (((d.hs.getD j thK.d).t.ops.take k).map oM) = (((d.hs.getD j thK.d).t.ops.take 4).map oM) := by rw [take_min hk1.1 hk1.2 (by omega)]
                    rw [hop]
                    refine CV.region ?_
                    refine RV.op (OV.step gno (Step.fieldAddr rfl (F26_2 _ _)) rfl ?_)
                    refine RV.op (OV.step gno (Step.load Tryd.underlying24 rfl rfl (fun w h => h.cell 4 rfl rfl)) rfl ?_)
                    refine RV.op (OV.step gno (Step.loadN _ Tryd.underlying61 rfl I61 rfl rfl (fun w h => h.cells 9 rfl)) rfl ?_)
                    refine RV.op (OV.buildSlice (K := thK) ([(⟨someT (somN d.d) (stF (somN d.d) (frN (somN d.d) ((d.hs.map (·.t)).take j)) (d.hs.getD j thK.d).t) (d.hs.getD j thK.d).t, A, c⟩ : TH)]) rfl (Bs24_1_0 _ _ _ _ _ _ _ _) rfl rfl (by omega) gno rfl (fun b26_3 => ?_))
                    refine RV.op (OV.append 6 Tryd.underlying24 I61 rfl rfl rfl rfl rfl rfl (fun w h => h.os 11 rfl) (by simp only [List.length_cons, List.length_nil]; omega) (by simp only [List.length_cons, List.length_nil]; omega) gno rfl (fun A5 c5 => ?_))
                    refine RV.op (OV.step gno (Step.fieldAddr rfl (F26_2 _ _)) rfl ?_)
                    refine RV.op (OV.store 4 [_] #[_, _, _] I24 rfl rfl rfl rfl rfl (Nat.le_of_ble_eq_true rfl) (by simp [Value.oneCell']) rfl gno ?_)
                    refine KV.sel [0, 0, 0, 0, 0, 0, 0, 0, 2] [_, _, _, _, _, _, _, _, _] rfl ?_
                    refine KV.heap (fun w h => Hp.bigSnoc8 (⟨someT (somN d.d) (stF (somN d.d) (frN (somN d.d) ((d.hs.map (·.t)).take j)) (d.hs.getD j thK.d).t) (d.hs.getD j thK.d).t, A, c⟩ : TH) h rfl) ?_
                    refine RV.nil ?_
                    refine KV.block_n ?_
                    refine KV.then_n ?_
                    refine KV.env [(1, _), (2, _), (4, _), (5, _), (6, _), (8, _), (9, _)] ⟨rfl, rfl, rfl, rfl, rfl, rfl, rfl, trivial⟩ ?_
                    -- region 12 law.go:48
                    refine CV.region ?_
                    refine RV.op (OV.step gno (Step.move rfl) rfl ?_)
                    (first | refine RV.op (OV.step gno (Step.add rfl rfl (wI64 (by omega) (by omega))) rfl ?_) | refine RV.op (OV.step gno (Step.add rfl rfl rfl) rfl ?_))
                    refine RV.op (OV.step gno (Step.assign rfl) rfl ?_)
                    refine RV.nil ?_
                    refine KV.then_n ?_
                    refine KV.env [(1, _), (2, _), (4, _), (5, _), (6, _), (8, _), (9, _)] ⟨rfl, rfl, rfl, rfl, rfl, rfl, rfl, trivial⟩ ?_
                    refine KV.sel [0, 0, 0, 0, 0, 0, 0, 0] [_, _, _, _, _, _, _, _] rfl ?_
                    exact KV.loop2 (x := j) (y := D) (j + 1) ({ D with tA := A5, tc := c5, hs := D.hs ++ [(⟨someT (somN d.d) (stF (somN d.d) (frN (somN d.d) ((d.hs.map (·.t)).take j)) (d.hs.getD j thK.d).t) (d.hs.getD j thK.d).t, A, c⟩ : TH)] }) ⟨⟨by omega, by omega⟩, by show (D.hs ++ [_]).length = j + 1; rw [List.length_append, hinv.2.1]; rfl, som_next (by omega) hinv.2.2 rfl⟩ (by omega) ⟨rfl, rfl, rfl, rfl, rfl, (by rw [frN_next (by omega)]; rfl), rfl, trivial⟩ (fun _ h => h)
          · -- 12 comes up
            refine OV.alloc #[.int .i64 0, .string (Sv.bs []), .bool false, .int .u64 0, .int .u64 0, .int .u64 0, .slice none 0 0, .int .i64 0] I61 rfl gno rfl (fun y => ?_)
            refine AV.next #[true, true, true, true, true, true, true, true, true, true, false, false, true, false] (by kernel_rfl) (fun _ h => h.sel [8, 3] rfl) ?_
            refine AV.all [10] (by kernel_rfl) (by decide) ?_
            refine ⟨⟨_, rfl, ?_⟩, trivial⟩
            · -- 10 comes up
              refine OV.callP Tryd.func14 B14 N14 rfl (mod_fn (d.hs.getD j thK.d).t.to (somN d.d) (by omega) (by omega)) gno rfl ?_
              refine AV.next #[true, true, true, true, true, true, true, true, true, true, true, false, true, false] (by kernel_rfl) (fun _ h => h.sel [8, 3] rfl) ?_
              refine AV.take 11 #[true, true, true, true, true, true, true, true, true, true, true, true, true, false] rfl (by kernel_rfl) (by kernel_rfl) (by kernel_rfl) (fun _ _ _ h => h) gno (Step.build rfl (Bd61_0_1_4 _ _ _)) rfl (fun _ h => h.sel [8, 3] rfl) (by kernel_rfl) ?_
              refine AV.all [13] (by kernel_rfl) (by decide) ?_
              refine ⟨⟨_, rfl, ?_⟩, trivial⟩
              · -- 13 comes up
                refine OV.store 9 [_, _, _, _, _, _, _, _] #[_, _, _, _, _, _, _, _] I61 rfl rfl rfl rfl rfl (Nat.le_of_ble_eq_true rfl) (by simp [Value.oneCell']) rfl gno ?_
                refine AV.next #[true, true, true, true, true, true, true, true, true, true, true, true, true, true] (by kernel_rfl) (fun _ h => h.sel [8, 3] rfl) ?_
                refine AV.done (by kernel_rfl) ?_
                refine KV.then_n ?_
                refine KV.env [(1, _), (2, _), (4, _), (5, _), (6, _), (8, _), (9, _), (10, _), (11, _)] ⟨rfl, rfl, rfl, rfl, rfl, rfl, rfl, rfl, rfl, trivial⟩ ?_
                -- join; live [1, 2, 4, 5, 6, 8, 9, 10, 11]
                refine CV.join (α := Unit) (fun _ => [(1, .pointer (some ⟨p, 0, none⟩)), (2, .pointer (some ⟨r, 0, none⟩)), (4, .pointer (some ⟨ev, 0, none⟩)), (5, .pointer (some ⟨x, 0, none⟩)), (6, .int .i64 (somN d.d)), (8, .int .i64 (stF (somN d.d) (frN (somN d.d) ((d.hs.map (·.t)).take j)) (d.hs.getD j thK.d).t)), (9, .int .i64 j), (10, .pointer (some ⟨t, 0, none⟩)), (11, .pointer (some ⟨y, 0, none⟩))]) (fun _ => Hp I w [Blk p (.cells #[.string (bs d.name), .slice d.sA d.ss.length d.sc, .slice d.tA d.hs.length d.tc] 26 (0, 0)), Blk r (.cells #[.string (bs []), .slice none 0 0, .slice none 0 0] 26 (0, 0)), Blk nm (.cells #[.string (bs [111, 102, 102]), .string (bs [111, 110]), .string (bs [95, 120]), .string (bs [83, 116, 97, 116, 101, 51]), .string (bs [105, 102]), .string (bs [111, 110, 95, 49])] 102 (0, 0)), Blk ev (.cells #[.string (bs [115, 116, 97, 114, 116]), .string (bs [105, 114, 113]), .string (bs [111, 110]), .string (bs [100, 114, 105, 118, 101, 114])] 103 (0, 0)), Blk x (.cells #[.string (bs (nmL.getD (d.name.length % 6) [])), .slice sA (nmL.take (somN d.d)).length sc, .slice D.tA D.hs.length D.tc] 26 (0, 0)), OS 9 strK sA sc (nmL.take (somN d.d)), OS 61 thK D.tA D.tc D.hs, Big opA D.hs, Blk t (.cells #[.int .i64 (d.hs.getD j thK.d).t.frm, .string (bs (d.hs.getD j thK.d).t.ev), .bool (d.hs.getD j thK.d).t.gd.used, .int .u64 (d.hs.getD j thK.d).t.gd.reg, .int .u64 (d.hs.getD j thK.d).t.gd.mask, .int .u64 (d.hs.getD j thK.d).t.gd.val, .slice (d.hs.getD j thK.d).A (d.hs.getD j thK.d).t.ops.length (d.hs.getD j thK.d).c, .int .i64 (d.hs.getD j thK.d).t.to] 61 (0, 0)), Blk y (.cells #[.int .i64 (stF (somN d.d) (frN (somN d.d) ((d.hs.map (·.t)).take j)) (d.hs.getD j thK.d).t), .string (bs (ev4.getD ((d.hs.getD j thK.d).t.ev.length % 4) [])), .bool (gM (d.hs.getD j thK.d).t.gd).used, .int .u64 (gM (d.hs.getD j thK.d).t.gd).reg, .int .u64 (gM (d.hs.getD j thK.d).t.gd).mask, .int .u64 (gM (d.hs.getD j thK.d).t.gd).val, .slice none 0 0, .int .i64 (modM (d.hs.getD j thK.d).t.to (somN d.d))] 61 (0, 0))]) ?_ ?_
                · skip
                  refine CV.seq ?_
                  -- region 17 law.go:54
                  refine CV.region ?_
                  refine RV.op (OV.step gno (Step.fieldAddr rfl (F61_2 _ _)) rfl ?_)
                  refine RV.op (OV.step gno (Step.fieldAddr rfl (F59_0 _ _)) rfl ?_)
                  refine RV.op (OV.step gno (Step.load Tryd.underlying4 rfl rfl (fun w h => h.cell 8 rfl rfl)) rfl ?_)
                  refine RV.nil ?_
                  refine KV.then_n ?_
                  refine KV.env [(1, _), (2, _), (4, _), (5, _), (6, _), (8, _), (9, _), (10, _), (11, _), (83, _)] ⟨rfl, rfl, rfl, rfl, rfl, rfl, rfl, rfl, rfl, rfl, trivial⟩ ?_
                  refine KV.cases 83 rfl (fun cc3 => ?_) (fun cc3 => ?_)
                  · -- True
                    have hu : (d.hs.getD j thK.d).t.gd.used = true := cc3
                    refine CV.cond_t rfl ?_
                    -- region 18 law.go:55
                    refine CV.region ?_
                    refine RV.op (OV.step gno (Step.fieldAddr rfl (F61_2 _ _)) rfl ?_)
                    refine RV.op (OV.step gno (Step.fieldAddr rfl (F59_1 _ _)) rfl ?_)
                    refine RV.op (OV.step gno (Step.load Tryd.underlying51 rfl rfl (fun w h => h.cell 8 rfl rfl)) rfl ?_)
                    refine RV.op (OV.step gno (Step.fieldAddr rfl (F61_2 _ _)) rfl ?_)
                    refine RV.op (OV.step gno (Step.fieldAddr rfl (F59_2 _ _)) rfl ?_)
                    refine RV.op (OV.step gno (Step.load Tryd.underlying51 rfl rfl (fun w h => h.cell 8 rfl rfl)) rfl ?_)
                    refine RV.op (OV.step gno (Step.rem rfl rfl (by omega) (rfl)) rfl ?_)
                    refine RV.op (OV.step gno (Step.fieldAddr rfl (F61_2 _ _)) rfl ?_)
                    refine RV.op (OV.step gno (Step.fieldAddr rfl (F59_3 _ _)) rfl ?_)
                    refine RV.op (OV.step gno (Step.load Tryd.underlying51 rfl rfl (fun w h => h.cell 8 rfl rfl)) rfl ?_)
                    refine RV.op (OV.step gno (Step.rem rfl rfl (by omega) (rfl)) rfl ?_)
                    refine RV.op (OV.step gno (Step.build rfl (Bd59_0_1_2_3 _ _ _ _)) rfl ?_)
                    refine RV.op (OV.step gno (Step.fieldAddr rfl (F61_2 _ _)) rfl ?_)
                    refine RV.op (OV.store 9 [_, _, _, _] #[_, _, _, _, _, _, _, _] I59 rfl rfl rfl rfl rfl (Nat.le_of_ble_eq_true rfl) (by simp [Value.oneCell']) rfl gno ?_)
                    refine RV.nil ?_
                    refine KV.then_n ?_
                    refine KV.env [(1, _), (2, _), (4, _), (5, _), (6, _), (8, _), (9, _), (10, _), (11, _)] ⟨rfl, rfl, rfl, rfl, rfl, rfl, rfl, rfl, rfl, trivial⟩ ?_
                    refine KV.sel [0, 0, 0, 0, 0, 0, 0, 0, 0, 0] [_, _, _, _, _, _, _, _, _, _] rfl ?_
                    exact KV.join () ⟨rfl, rfl, rfl, rfl, rfl, rfl, rfl, rfl, rfl, trivial⟩ (fun _ h => by first | (rw [gM_t hu]; exact h) | (rw [gM_f hu]; exact h))
                  · -- False
                    have hu : (d.hs.getD j thK.d).t.gd.used = false := cc3
                    refine CV.cond_f rfl ?_
                    refine CV.skip ?_
                    refine KV.then_n ?_
                    refine KV.env [(1, _), (2, _), (4, _), (5, _), (6, _), (8, _), (9, _), (10, _), (11, _)] ⟨rfl, rfl, rfl, rfl, rfl, rfl, rfl, rfl, rfl, trivial⟩ ?_
                    refine KV.sel [0, 0, 0, 0, 0, 0, 0, 0, 0, 0] [_, _, _, _, _, _, _, _, _, _] rfl ?_
                    exact KV.join () ⟨rfl, rfl, rfl, rfl, rfl, rfl, rfl, rfl, rfl, trivial⟩ (fun _ h => by first | (rw [gM_t hu]; exact h) | (rw [gM_f hu]; exact h))
                · intro _
                  refine CV.seq ?_
                  refine CV.seq ?_
                  -- region 19 law.go:57
                  refine KV.heap (fun w h => h.nilOS (e := 71) (K := roK)) ?_
                  refine CV.region ?_
                  refine RV.op (OV.step gno (Step.assign rfl) rfl ?_)
                  refine RV.nil ?_
                  refine KV.then_n ?_
                  refine KV.env [(1, _), (2, _), (4, _), (5, _), (6, _), (8, _), (9, _), (10, _), (11, _), (12, _)] ⟨rfl, rfl, rfl, rfl, rfl, rfl, rfl, rfl, rfl, rfl, trivial⟩ ?_
                  refine CV.block ?_
                  -- loop L20; live [1, 2, 4, 5, 6, 8, 9, 10, 11, 12]
                  refine KV.sel [0, 0, 0, 0, 0, 0, 0, 0, 0, 0, 0] [_, _, _, _, _, _, _, _, _, _, _] rfl ?_
                  refine CV.loop3 (fun (k : Nat) (A : Option Addr) (c : Nat) => k ≤ (d.hs.getD j thK.d).t.ops.length ∧ k ≤ 4) (fun (k : Nat) (A : Option Addr) (c : Nat) => 4 - k) (fun (k : Nat) (A : Option Addr) (c : Nat) => [(1, .pointer (some ⟨p, 0, none⟩)), (2, .pointer (some ⟨r, 0, none⟩)), (4, .pointer (some ⟨ev, 0, none⟩)), (5, .pointer (some ⟨x, 0, none⟩)), (6, .int .i64 (somN d.d)), (8, .int .i64 (stF (somN d.d) (frN (somN d.d) ((d.hs.map (·.t)).take j)) (d.hs.getD j thK.d).t)), (9, .int .i64 j), (10, .pointer (some ⟨t, 0, none⟩)), (11, .pointer (some ⟨y, 0, none⟩)), (12, .int .i64 k)]) (fun (k : Nat) (A : Option Addr) (c : Nat) => Hp I w [Blk p (.cells #[.string (bs d.name), .slice d.sA d.ss.length d.sc, .slice d.tA d.hs.length d.tc] 26 (0, 0)), Blk r (.cells #[.string (bs []), .slice none 0 0, .slice none 0 0] 26 (0, 0)), Blk nm (.cells #[.string (bs [111, 102, 102]), .string (bs [111, 110]), .string (bs [95, 120]), .string (bs [83, 116, 97, 116, 101, 51]), .string (bs [105, 102]), .string (bs [111, 110, 95, 49])] 102 (0, 0)), Blk ev (.cells #[.string (bs [115, 116, 97, 114, 116]), .string (bs [105, 114, 113]), .string (bs [111, 110]), .string (bs [100, 114, 105, 118, 101, 114])] 103 (0, 0)), Blk x (.cells #[.string (bs (nmL.getD (d.name.length % 6) [])), .slice sA (nmL.take (somN d.d)).length sc, .slice D.tA D.hs.length D.tc] 26 (0, 0)), OS 9 strK sA sc (nmL.take (somN d.d)), OS 61 thK D.tA D.tc D.hs, Big opA D.hs, Blk t (.cells #[.int .i64 (d.hs.getD j thK.d).t.frm, .string (bs (d.hs.getD j thK.d).t.ev), .bool (d.hs.getD j thK.d).t.gd.used, .int .u64 (d.hs.getD j thK.d).t.gd.reg, .int .u64 (d.hs.getD j thK.d).t.gd.mask, .int .u64 (d.hs.getD j thK.d).t.gd.val, .slice (d.hs.getD j thK.d).A (d.hs.getD j thK.d).t.ops.length (d.hs.getD j thK.d).c, .int .i64 (d.hs.getD j thK.d).t.to] 61 (0, 0)), Blk y (.cells #[.int .i64 (stF (somN d.d) (frN (somN d.d) ((d.hs.map (·.t)).take j)) (d.hs.getD j thK.d).t), .string (bs (ev4.getD ((d.hs.getD j thK.d).t.ev.length % 4) [])), .bool (gM (d.hs.getD j thK.d).t.gd).used, .int .u64 (gM (d.hs.getD j thK.d).t.gd).reg, .int .u64 (gM (d.hs.getD j thK.d).t.gd).mask, .int .u64 (gM (d.hs.getD j thK.d).t.gd).val, .slice A (((d.hs.getD j thK.d).t.ops.take k).map oM).length c, .int .i64 (modM (d.hs.getD j thK.d).t.to (somN d.d))] 61 (0, 0)), OS 71 roK A c (((d.hs.getD j thK.d).t.ops.take k).map oM)]) (0) (none) (0) ⟨Nat.zero_le _, Nat.zero_le _⟩ ⟨rfl, rfl, rfl, rfl, rfl, rfl, rfl, rfl, rfl, rfl, trivial⟩ (fun _ h => h) ?_
                  intro k A c hk1
                  refine CV.seq ?_
                  refine CV.seq ?_
                  -- region 20 law.go:57
                  refine CV.region ?_
                  refine RV.op (OV.step gno (Step.move rfl) rfl ?_)
                  refine RV.op (OV.step gno (Step.fieldAddr rfl (F61_3 _ _)) rfl ?_)
                  refine RV.op (OV.step gno (Step.load Tryd.underlying46 rfl rfl (fun w h => h.cell 8 rfl rfl)) rfl ?_)
                  refine RV.op (OV.step gno (Step.lenSl Tryd.underlying46 rfl) rfl ?_)
                  refine RV.op (OV.split gno (Step.lss rfl rfl) rfl (fun k1 => ?_) (fun k1 => ?_))
                  · -- True
                    refine RV.op (OV.step gno (Step.move rfl) rfl ?_)
                    refine RV.op (OV.step (gyes rfl) (Step.move rfl) rfl ?_)
                    refine RV.op (OV.split (gyes rfl) (Step.lss rfl rfl) rfl (fun k2 => ?_) (fun k2 => ?_))
                    · -- True
                      refine RV.op (OV.step gno (Step.pick_t rfl rfl) rfl ?_)
                      refine RV.nil ?_
                      refine KV.then_n ?_
                      refine KV.env [(1, _), (2, _), (4, _), (5, _), (6, _), (8, _), (9, _), (10, _), (11, _), (12, _), (105, _)] ⟨rfl, rfl, rfl, rfl, rfl, rfl, rfl, rfl, rfl, rfl, rfl, trivial⟩ ?_
                      refine CV.cond_t rfl ?_
                      refine CV.skip ?_
                      refine KV.then_n ?_
                      refine KV.env [(1, _), (2, _), (4, _), (5, _), (6, _), (8, _), (9, _), (10, _), (11, _), (12, _)] ⟨rfl, rfl, rfl, rfl, rfl, rfl, rfl, rfl, rfl, rfl, trivial⟩ ?_
                      refine CV.seq ?_
                      refine CV.block ?_
                      refine CV.seq ?_
                      -- region 22 law.go:58
                      refine CV.region ?_
                      refine RV.op (OV.step gno (Step.fieldAddr rfl (F61_3 _ _)) rfl ?_)
                      refine RV.op (OV.step gno (Step.load Tryd.underlying46 rfl rfl (fun w h => h.cell 8 rfl rfl)) rfl ?_)
                      refine RV.op (OV.step gno (Step.move rfl) rfl ?_)
                      refine RV.op (OV.step gno (Step.idx Tryd.underlying46 I71 (fun w h => (show RS w roK (d.hs.getD j thK.d).A (d.hs.getD j thK.d).t.ops from (DR.keep h hd hI).o j (by omega))) rfl rfl (rfl) _ rfl (by omega)) rfl ?_)
                      refine RV.op (OV.step gno (Step.loadN _ Tryd.underlying71 rfl I71 rfl rfl (fun w h => (show RS w roK (d.hs.getD j thK.d).A (d.hs.getD j thK.d).t.ops from (DR.keep h hd hI).o j (by omega)).cells (by omega))) rfl ?_)
                      refine RV.op (OV.alloc #[.bool false, .int .u64 0, .int .u64 0] I71 rfl gno rfl (fun o => ?_))
                      refine RV.op (OV.store 11 [_, _, _] #[_, _, _] I71 rfl rfl rfl rfl rfl (Nat.le_of_ble_eq_true rfl) (by simp [Value.oneCell']) rfl gno ?_)
                      refine RV.nil ?_
                      refine KV.then_n ?_
                      refine KV.env [(1, _), (2, _), (4, _), (5, _), (6, _), (8, _), (9, _), (10, _), (11, _), (12, _), (13, _)] ⟨rfl, rfl, rfl, rfl, rfl, rfl, rfl, rfl, rfl, rfl, rfl, trivial⟩ ?_
                      -- join; live [1, 2, 4, 5, 6, 8, 9, 10, 11, 12, 13]
                      refine CV.join (α := Unit) (fun _ => [(1, .pointer (some ⟨p, 0, none⟩)), (2, .pointer (some ⟨r, 0, none⟩)), (4, .pointer (some ⟨ev, 0, none⟩)), (5, .pointer (some ⟨x, 0, none⟩)), (6, .int .i64 (somN d.d)), (8, .int .i64 (stF (somN d.d) (frN (somN d.d) ((d.hs.map (·.t)).take j)) (d.hs.getD j thK.d).t)), (9, .int .i64 j), (10, .pointer (some ⟨t, 0, none⟩)), (11, .pointer (some ⟨y, 0, none⟩)), (12, .int .i64 k), (13, .pointer (some ⟨o, 0, none⟩))]) (fun _ => Hp I w [Blk p (.cells #[.string (bs d.name), .slice d.sA d.ss.length d.sc, .slice d.tA d.hs.length d.tc] 26 (0, 0)), Blk r (.cells #[.string (bs []), .slice none 0 0, .slice none 0 0] 26 (0, 0)), Blk nm (.cells #[.string (bs [111, 102, 102]), .string (bs [111, 110]), .string (bs [95, 120]), .string (bs [83, 116, 97, 116, 101, 51]), .string (bs [105, 102]), .string (bs [111, 110, 95, 49])] 102 (0, 0)), Blk ev (.cells #[.string (bs [115, 116, 97, 114, 116]), .string (bs [105, 114, 113]), .string (bs [111, 110]), .string (bs [100, 114, 105, 118, 101, 114])] 103 (0, 0)), Blk x (.cells #[.string (bs (nmL.getD (d.name.length % 6) [])), .slice sA (nmL.take (somN d.d)).length sc, .slice D.tA D.hs.length D.tc] 26 (0, 0)), OS 9 strK sA sc (nmL.take (somN d.d)), OS 61 thK D.tA D.tc D.hs, Big opA D.hs, Blk t (.cells #[.int .i64 (d.hs.getD j thK.d).t.frm, .string (bs (d.hs.getD j thK.d).t.ev), .bool (d.hs.getD j thK.d).t.gd.used, .int .u64 (d.hs.getD j thK.d).t.gd.reg, .int .u64 (d.hs.getD j thK.d).t.gd.mask, .int .u64 (d.hs.getD j thK.d).t.gd.val, .slice (d.hs.getD j thK.d).A (d.hs.getD j thK.d).t.ops.length (d.hs.getD j thK.d).c, .int .i64 (d.hs.getD j thK.d).t.to] 61 (0, 0)), Blk y (.cells #[.int .i64 (stF (somN d.d) (frN (somN d.d) ((d.hs.map (·.t)).take j)) (d.hs.getD j thK.d).t), .string (bs (ev4.getD ((d.hs.getD j thK.d).t.ev.length % 4) [])), .bool (gM (d.hs.getD j thK.d).t.gd).used, .int .u64 (gM (d.hs.getD j thK.d).t.gd).reg, .int .u64 (gM (d.hs.getD j thK.d).t.gd).mask, .int .u64 (gM (d.hs.getD j thK.d).t.gd).val, .slice A (((d.hs.getD j thK.d).t.ops.take k).map oM).length c, .int .i64 (modM (d.hs.getD j thK.d).t.to (somN d.d))] 61 (0, 0)), OS 71 roK A c (((d.hs.getD j thK.d).t.ops.take k).map oM), Blk o (.cells #[.bool (oM ((d.hs.getD j thK.d).t.ops.getD k roK.d)).wr, .int .u64 (oM ((d.hs.getD j thK.d).t.ops.getD k roK.d)).reg, .int .u64 (oM ((d.hs.getD j thK.d).t.ops.getD k roK.d)).val] 71 (0, 0))]) ?_ ?_
                      · skip
                        refine CV.seq ?_
                        -- region 23 law.go:59
                        refine CV.region ?_
                        refine RV.op (OV.step gno (Step.fieldAddr rfl (F71_0 _ _)) rfl ?_)
                        refine RV.op (OV.step gno (Step.load Tryd.underlying4 rfl rfl (fun w h => h.cell 11 rfl rfl)) rfl ?_)
                        refine RV.op (OV.step gno (Step.not rfl) rfl ?_)
                        refine RV.nil ?_
                        refine KV.then_n ?_
                        refine KV.env [(1, _), (2, _), (4, _), (5, _), (6, _), (8, _), (9, _), (10, _), (11, _), (12, _), (13, _), (115, _)] ⟨rfl, rfl, rfl, rfl, rfl, rfl, rfl, rfl, rfl, rfl, rfl, rfl, trivial⟩ ?_
                        refine KV.cases 115 rfl (fun cc4 => ?_) (fun cc4 => ?_)
                        · -- True
                          have hw := neg_t cc4
                          refine CV.cond_t rfl ?_
                          -- region 24 law.go:60
                          refine CV.region ?_
                          refine RV.op (OV.step gno (Step.fieldAddr rfl (F71_2 _ _)) rfl ?_)
                          refine RV.op (OV.store 11 [_] #[_, _, _] I51 rfl rfl rfl rfl rfl (Nat.le_of_ble_eq_true rfl) (by simp [Value.oneCell']) rfl gno ?_)
                          refine RV.nil ?_
                          refine KV.then_n ?_
                          refine KV.env [(1, _), (2, _), (4, _), (5, _), (6, _), (8, _), (9, _), (10, _), (11, _), (12, _), (13, _)] ⟨rfl, rfl, rfl, rfl, rfl, rfl, rfl, rfl, rfl, rfl, rfl, trivial⟩ ?_
                          refine KV.sel [0, 0, 0, 0, 0, 0, 0, 0, 0, 0, 0, 0] [_, _, _, _, _, _, _, _, _, _, _, _] rfl ?_
                          exact KV.join () ⟨rfl, rfl, rfl, rfl, rfl, rfl, rfl, rfl, rfl, rfl, rfl, trivial⟩ (fun _ h => by first | (rw [oM_t hw]; exact h) | (rw [oM_f hw]; exact h))
                        · -- False
                          have hw := neg_f cc4
                          refine CV.cond_f rfl ?_
                          refine CV.skip ?_
                          refine KV.then_n ?_
                          refine KV.env [(1, _), (2, _), (4, _), (5, _), (6, _), (8, _), (9, _), (10, _), (11, _), (12, _), (13, _)] ⟨rfl, rfl, rfl, rfl, rfl, rfl, rfl, rfl, rfl, rfl, rfl, trivial⟩ ?_
                          refine KV.sel [0, 0, 0, 0, 0, 0, 0, 0, 0, 0, 0, 0] [_, _, _, _, _, _, _, _, _, _, _, _] rfl ?_
                          exact KV.join () ⟨rfl, rfl, rfl, rfl, rfl, rfl, rfl, rfl, rfl, rfl, rfl, trivial⟩ (fun _ h => by first | (rw [oM_t hw]; exact h) | (rw [oM_f hw]; exact h))
                      · intro _
                        -- region 25 law.go:62
                        refine CV.region ?_
                        refine RV.op (OV.step gno (Step.fieldAddr rfl (F61_3 _ _)) rfl ?_)
                        refine RV.op (OV.step gno (Step.load Tryd.underlying46 rfl rfl (fun w h => h.cell 9 rfl rfl)) rfl ?_)
                        refine RV.op (OV.step gno (Step.loadN _ Tryd.underlying71 rfl I71 rfl rfl (fun w h => h.cells 11 rfl)) rfl ?_)
                        refine RV.op (OV.buildSlice (K := roK) ([oM ((d.hs.getD j thK.d).t.ops.getD k roK.d)]) rfl (Bs46_1_0 _ _ _) rfl rfl (by omega) gno rfl (fun b25_3 => ?_))
                        refine RV.op (OV.append 10 Tryd.underlying46 I71 rfl rfl rfl rfl rfl rfl (fun w h => h.os 12 rfl) (by simp only [List.length_cons, List.length_nil, List.length_map, List.length_take]; omega) (by simp only [List.length_cons, List.length_nil, List.length_map, List.length_take]; omega) gno rfl (fun A4 c4 => ?_))
                        refine RV.op (OV.step gno (Step.fieldAddr rfl (F61_3 _ _)) rfl ?_)
                        refine RV.op (OV.store 9 [_] #[_, _, _, _, _, _, _, _] I46 rfl rfl rfl rfl rfl (Nat.le_of_ble_eq_true rfl) (by simp [Value.oneCell']) rfl gno ?_)
                        refine RV.nil ?_
                        refine KV.block_n ?_
                        refine KV.then_n ?_
                        refine KV.env [(1, _), (2, _), (4, _), (5, _), (6, _), (8, _), (9, _), (10, _), (11, _), (12, _)] ⟨rfl, rfl, rfl, rfl, rfl, rfl, rfl, rfl, rfl, rfl, trivial⟩ ?_
                        -- region 21 law.go:57
                        refine CV.region ?_
                        refine RV.op (OV.step gno (Step.move rfl) rfl ?_)
                        (first | refine RV.op (OV.step gno (Step.add rfl rfl (wI64 (by omega) (by omega))) rfl ?_) | refine RV.op (OV.step gno (Step.add rfl rfl rfl) rfl ?_))
                        refine RV.op (OV.step gno (Step.assign rfl) rfl ?_)
                        refine RV.nil ?_
                        refine KV.then_n ?_
                        refine KV.env [(1, _), (2, _), (4, _), (5, _), (6, _), (8, _), (9, _), (10, _), (11, _), (12, _)] ⟨rfl, rfl, rfl, rfl, rfl, rfl, rfl, rfl, rfl, rfl, trivial⟩ ?_
                        refine KV.sel [0, 0, 0, 0, 0, 0, 0, 0, 0, 0, 0] [_, _, _, _, _, _, _, _, _, _, _] rfl ?_
                        exact KV.loop3 (x := k) (y := A) (z := c) (k + 1) (A4) (c4) ⟨by omega, by omega⟩ (by omega) ⟨rfl, rfl, rfl, rfl, rfl, rfl, rfl, rfl, rfl, rfl, trivial⟩ (fun _ h => by rw [take_snoc roK.d (show k < (d.hs.getD j thK.d).t.ops.length by omega), List.map_append]; exact h)
                    · -- False
                      refine RV.op (OV.step gno (Step.pick_t rfl rfl) rfl ?_)
                      refine RV.nil ?_
                      refine KV.then_n ?_
                      refine KV.env [(1, _), (2, _), (4, _), (5, _), (6, _), (8, _), (9, _), (10, _), (11, _), (12, _), (105, _)] ⟨rfl, rfl, rfl, rfl, rfl, rfl, rfl, rfl, rfl, rfl, rfl, trivial⟩ ?_
                      refine CV.cond_f rfl ?_
                      refine CV.exit ?_
                      refine KV.then_exit ?_
                      refine KV.then_exit ?_
                      refine KV.block_hit ?_
                      refine KV.then_n ?_
                      refine KV.env [(1, _), (2, _), (4, _), (5, _), (6, _), (8, _), (9, _), (11, _)] ⟨rfl, rfl, rfl, rfl, rfl, rfl, rfl, rfl, trivial⟩ ?_
                      -- region 26 law.go:64
                      have hop : (((d.hs.getD j thK.d).t.ops.take k).map oM) = (((d.hs.getD j thK.d).t.ops.take 4).map oM) := by rw [take_min hk1.1 hk1.2 (by omega)]
                      rw [hop]
                      refine CV.region ?_
                      refine RV.op (OV.step gno (Step.fieldAddr rfl (F26_2 _ _)) rfl ?_)
                      refine RV.op (OV.step gno (Step.load Tryd.underlying24 rfl rfl (fun w h => h.cell 4 rfl rfl)) rfl ?_)
                      refine RV.op (OV.step gno (Step.loadN _ Tryd.underlying61 rfl I61 rfl rfl (fun w h => h.cells 9 rfl)) rfl ?_)
                      refine RV.op (OV.buildSlice (K := thK) ([(⟨someT (somN d.d) (stF (somN d.d) (frN (somN d.d) ((d.hs.map (·.t)).take j)) (d.hs.getD j thK.d).t) (d.hs.getD j thK.d).t, A, c⟩ : TH)]) rfl (Bs24_1_0 _ _ _ _ _ _ _ _) rfl rfl (by omega) gno rfl (fun b26_3 => ?_))
                      refine RV.op (OV.append 6 Tryd.underlying24 I61 rfl rfl rfl rfl rfl rfl (fun w h => h.os 11 rfl) (by simp only [List.length_cons, List.length_nil]; omega) (by simp only [List.length_cons, List.length_nil]; omega) gno rfl (fun A5 c5 => ?_))
                      refine RV.op (OV.step gno (Step.fieldAddr rfl (F26_2 _ _)) rfl ?_)
                      refine RV.op (OV.store 4 [_] #[_, _, _] I24 rfl rfl rfl rfl rfl (Nat.le_of_ble_eq_true rfl) (by simp [Value.oneCell']) rfl gno ?_)
                      refine KV.sel [0, 0, 0, 0, 0, 0, 0, 0, 2] [_, _, _, _, _, _, _, _, _] rfl ?_
                      refine KV.heap (fun w h => Hp.bigSnoc8 (⟨someT (somN d.d) (stF (somN d.d) (frN (somN d.d) ((d.hs.map (·.t)).take j)) (d.hs.getD j thK.d).t) (d.hs.getD j thK.d).t, A, c⟩ : TH) h rfl) ?_
                      refine RV.nil ?_
                      refine KV.block_n ?_
                      refine KV.then_n ?_
                      refine KV.env [(1, _), (2, _), (4, _), (5, _), (6, _), (8, _), (9, _)] ⟨rfl, rfl, rfl, rfl, rfl, rfl, rfl, trivial⟩ ?_
                      -- region 12 law.go:48
                      refine CV.region ?_
                      refine RV.op (OV.step gno (Step.move rfl) rfl ?_)
                      (first | refine RV.op (OV.step gno (Step.add rfl rfl (wI64 (by omega) (by omega))) rfl ?_) | refine RV.op (OV.step gno (Step.add rfl rfl rfl) rfl ?_))
                      refine RV.op (OV.step gno (Step.assign rfl) rfl ?_)
                      refine RV.nil ?_
                      refine KV.then_n ?_
                      refine KV.env [(1, _), (2, _), (4, _), (5, _), (6, _), (8, _), (9, _)] ⟨rfl, rfl, rfl, rfl, rfl, rfl, rfl, trivial⟩ ?_
                      refine KV.sel [0, 0, 0, 0, 0, 0, 0, 0] [_, _, _, _, _, _, _, _] rfl ?_
                      exact KV.loop2 (x := j) (y := D) (j + 1) ({ D with tA := A5, tc := c5, hs := D.hs ++ [(⟨someT (somN d.d) (stF (somN d.d) (frN (somN d.d) ((d.hs.map (·.t)).take j)) (d.hs.getD j thK.d).t) (d.hs.getD j thK.d).t, A, c⟩ : TH)] }) ⟨⟨by omega, by omega⟩, by show (D.hs ++ [_]).length = j + 1; rw [List.length_append, hinv.2.1]; rfl, som_next (by omega) hinv.2.2 rfl⟩ (by omega) ⟨rfl, rfl, rfl, rfl, rfl, (by rw [frN_next (by omega)]; rfl), rfl, trivial⟩ (fun _ h => h)
                  · -- False
                    refine RV.op (OV.step gno (Step.move rfl) rfl ?_)
                    refine RV.op (OV.skip rfl rfl ?_)
                    refine RV.op (OV.skip rfl rfl ?_)
                    refine RV.op (OV.step gno (Step.pick_f rfl rfl) rfl ?_)
                    refine RV.nil ?_
                    refine KV.then_n ?_
                    refine KV.env [(1, _), (2, _), (4, _), (5, _), (6, _), (8, _), (9, _), (10, _), (11, _), (12, _), (105, _)] ⟨rfl, rfl, rfl, rfl, rfl, rfl, rfl, rfl, rfl, rfl, rfl, trivial⟩ ?_
                    refine CV.cond_f rfl ?_
                    refine CV.exit ?_
                    refine KV.then_exit ?_
                    refine KV.then_exit ?_
                    refine KV.block_hit ?_
                    refine KV.then_n ?_
                    refine KV.env [(1, _), (2, _), (4, _), (5, _), (6, _), (8, _), (9, _), (11, _)] ⟨rfl, rfl, rfl, rfl, rfl, rfl, rfl, rfl, trivial⟩ ?_
                    -- region 26 law.go:64
                    have hop : (((d.hs.getD j thK.d).t.ops.take k).map oM) = (((d.hs.getD j thK.d).t.ops.take 4).map oM) := by rw [take_min hk1.1 hk1.2 (by omega)]
                    rw [hop]
                    refine CV.region ?_
                    refine RV.op (OV.step gno (Step.fieldAddr rfl (F26_2 _ _)) rfl ?_)
                    refine RV.op (OV.step gno (Step.load Tryd.underlying24 rfl rfl (fun w h => h.cell 4 rfl rfl)) rfl ?_)
                    refine RV.op (OV.step gno (Step.loadN _ Tryd.underlying61 rfl I61 rfl rfl (fun w h => h.cells 9 rfl)) rfl ?_)
                    refine RV.op (OV.buildSlice (K := thK) ([(⟨someT (somN d.d) (stF (somN d.d) (frN (somN d.d) ((d.hs.map (·.t)).take j)) (d.hs.getD j thK.d).t) (d.hs.getD j thK.d).t, A, c⟩ : TH)]) rfl (Bs24_1_0 _ _ _ _ _ _ _ _) rfl rfl (by omega) gno rfl (fun b26_3 => ?_))
                    refine RV.op (OV.append 6 Tryd.underlying24 I61 rfl rfl rfl rfl rfl rfl (fun w h => h.os 11 rfl) (by simp only [List.length_cons, List.length_nil]; omega) (by simp only [List.length_cons, List.length_nil]; omega) gno rfl (fun A5 c5 => ?_))
                    refine RV.op (OV.step gno (Step.fieldAddr rfl (F26_2 _ _)) rfl ?_)
                    refine RV.op (OV.store 4 [_] #[_, _, _] I24 rfl rfl rfl rfl rfl (Nat.le_of_ble_eq_true rfl) (by simp [Value.oneCell']) rfl gno ?_)
                    refine KV.sel [0, 0, 0, 0, 0, 0, 0, 0, 2] [_, _, _, _, _, _, _, _, _] rfl ?_
                    refine KV.heap (fun w h => Hp.bigSnoc8 (⟨someT (somN d.d) (stF (somN d.d) (frN (somN d.d) ((d.hs.map (·.t)).take j)) (d.hs.getD j thK.d).t) (d.hs.getD j thK.d).t, A, c⟩ : TH) h rfl) ?_
                    refine RV.nil ?_
                    refine KV.block_n ?_
                    refine KV.then_n ?_
                    refine KV.env [(1, _), (2, _), (4, _), (5, _), (6, _), (8, _), (9, _)] ⟨rfl, rfl, rfl, rfl, rfl, rfl, rfl, trivial⟩ ?_
                    -- region 12 law.go:48
                    refine CV.region ?_
                    refine RV.op (OV.step gno (Step.move rfl) rfl ?_)
                    (first | refine RV.op (OV.step gno (Step.add rfl rfl (wI64 (by omega) (by omega))) rfl ?_) | refine RV.op (OV.step gno (Step.add rfl rfl rfl) rfl ?_))
                    refine RV.op (OV.step gno (Step.assign rfl) rfl ?_)
                    refine RV.nil ?_
                    refine KV.then_n ?_
                    refine KV.env [(1, _), (2, _), (4, _), (5, _), (6, _), (8, _), (9, _)] ⟨rfl, rfl, rfl, rfl, rfl, rfl, rfl, trivial⟩ ?_
                    refine KV.sel [0, 0, 0, 0, 0, 0, 0, 0] [_, _, _, _, _, _, _, _] rfl ?_
                    exact KV.loop2 (x := j) (y := D) (j + 1) ({ D with tA := A5, tc := c5, hs := D.hs ++ [(⟨someT (somN d.d) (stF (somN d.d) (frN (somN d.d) ((d.hs.map (·.t)).take j)) (d.hs.getD j thK.d).t) (d.hs.getD j thK.d).t, A, c⟩ : TH)] }) ⟨⟨by omega, by omega⟩, by show (D.hs ++ [_]).length = j + 1; rw [List.length_append, hinv.2.1]; rfl, som_next (by omega) hinv.2.2 rfl⟩ (by omega) ⟨rfl, rfl, rfl, rfl, rfl, (by rw [frN_next (by omega)]; rfl), rfl, trivial⟩ (fun _ h => h)
      · -- False
        refine RV.op (OV.step gno (Step.pick_t rfl rfl) rfl ?_)
        refine RV.nil ?_
        refine KV.then_n ?_
        refine KV.env [(1, _), (2, _), (4, _), (5, _), (6, _), (8, _), (9, _), (49, _)] ⟨rfl, rfl, rfl, rfl, rfl, rfl, rfl, rfl, trivial⟩ ?_
        refine CV.cond_f rfl ?_
        refine CV.exit ?_
        refine KV.then_exit ?_
        refine KV.then_exit ?_
        refine KV.block_hit ?_
        refine KV.then_n ?_
        refine KV.env [(2, _), (5, _)] ⟨rfl, rfl, trivial⟩ ?_
        refine CV.seq ?_
        -- region 27 law.go:66
        refine CV.region ?_
        refine RV.op (OV.step gno (Step.loadN _ Tryd.underlying26 rfl I26 rfl rfl (fun w h => h.cells 4 rfl)) rfl ?_)
        refine RV.op (OV.store 1 [_, _, _] #[_, _, _] I26 rfl rfl rfl rfl rfl (Nat.le_of_ble_eq_true rfl) (by simp [Value.oneCell']) rfl gno ?_)
        refine RV.nil ?_
        refine KV.then_n ?_
        refine KV.env [(2, _)] ⟨rfl, trivial⟩ ?_
        refine CV.ret ?_
        -- return at r27
        refine KV.sel [1, 4, 4, 4] [_, _, _, _] rfl ?_
        exact KV.retC1 [_, _, _] rfl rfl Tryd.underlying26 rfl I26 rfl (fun w h => h.cells 0 rfl) _ (fun _ h => h.sel [1, 1, 1] rfl) ⟨⟨(nmL.getD (d.name.length % 6) []), sA, sc, nmL.take (somN d.d), D.tA, D.tc, D.hs⟩, rfl, by show (⟨(nmL.getD (d.name.length % 6) []), nmL.take (somN d.d), D.hs.map (·.t)⟩ : Dv) = ⟨(nmL.getD (d.name.length % 6) []), nmL.take (somN d.d), somF (somN d.d) 0 ((d.hs.map (·.t)).take 20)⟩; rw [hinv.2.2, take_min (l := (d.hs.map (·.t))) (n := 20) (by rw [List.length_map]; omega) (by omega) (by rw [List.length_map]; omega)], rfl⟩
    · -- False
      refine RV.op (OV.step gno (Step.move rfl) rfl ?_)
      refine RV.op (OV.skip rfl rfl ?_)
      refine RV.op (OV.skip rfl rfl ?_)
      refine RV.op (OV.step gno (Step.pick_f rfl rfl) rfl ?_)
      refine RV.nil ?_
      refine KV.then_n ?_
      refine KV.env [(1, _), (2, _), (4, _), (5, _), (6, _), (8, _), (9, _), (49, _)] ⟨rfl, rfl, rfl, rfl, rfl, rfl, rfl, rfl, trivial⟩ ?_
      refine CV.cond_f rfl ?_
      refine CV.exit ?_
      refine KV.then_exit ?_
      refine KV.then_exit ?_
      refine KV.block_hit ?_
      refine KV.then_n ?_
      refine KV.env [(2, _), (5, _)] ⟨rfl, rfl, trivial⟩ ?_
      refine CV.seq ?_
      -- region 27 law.go:66
      refine CV.region ?_
      refine RV.op (OV.step gno (Step.loadN _ Tryd.underlying26 rfl I26 rfl rfl (fun w h => h.cells 4 rfl)) rfl ?_)
      refine RV.op (OV.store 1 [_, _, _] #[_, _, _] I26 rfl rfl rfl rfl rfl (Nat.le_of_ble_eq_true rfl) (by simp [Value.oneCell']) rfl gno ?_)
      refine RV.nil ?_
      refine KV.then_n ?_
      refine KV.env [(2, _)] ⟨rfl, trivial⟩ ?_
      refine CV.ret ?_
      -- return at r27
      refine KV.sel [1, 4, 4, 4] [_, _, _, _] rfl ?_
      exact KV.retC1 [_, _, _] rfl rfl Tryd.underlying26 rfl I26 rfl (fun w h => h.cells 0 rfl) _ (fun _ h => h.sel [1, 1, 1] rfl) ⟨⟨(nmL.getD (d.name.length % 6) []), sA, sc, nmL.take (somN d.d), D.tA, D.tc, D.hs⟩, rfl, by show (⟨(nmL.getD (d.name.length % 6) []), nmL.take (somN d.d), D.hs.map (·.t)⟩ : Dv) = ⟨(nmL.getD (d.name.length % 6) []), nmL.take (somN d.d), somF (somN d.d) 0 ((d.hs.map (·.t)).take 20)⟩; rw [hinv.2.2, take_min (l := (d.hs.map (·.t))) (n := 20) (by rw [List.length_map]; omega) (by omega) (by rw [List.length_map]; omega)], rfl⟩
end Go.Proofs.YtplmfekhdaefaaaDoor
