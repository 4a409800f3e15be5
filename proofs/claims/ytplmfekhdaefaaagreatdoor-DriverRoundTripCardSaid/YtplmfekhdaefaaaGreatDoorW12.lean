/-
 Walks, part 12.
-/
import Derived.Test.YtplmfekhdaefaaaGreatDoorTabA
import Derived.Test.YtplmfekhdaefaaaGreatDoorW11
set_option linter.unusedSimpArgs false
set_option linter.unusedVariables false
namespace Go.Proofs.YtplmfekhdaefaaaGreatDoor
open Go.Sv Go.Drv
def cpT (h : TH) (A : Option Addr) (c : Nat) : TH := { h with A := A, c := c }
theorem take_cp {H : List TH} {j : Nat} {x : TH} (h : j < H.length) : (H.set j x).take (j + 1) = H.take j ++ [x] := by
 rw [List.take_add_one, List.take_set_of_le (Nat.le_refl _)]
 simp [List.getElem?_set, h]
structure CpI (d : DH) (H : List TH) (j : Nat) : Prop where
 le : j ≤ d.hs.length
 len : H.length = d.hs.length
 t : H.map (·.t) = d.hs.map (·.t)
 r : H.drop j = d.hs.drop j
theorem CpI.at {d : DH} {H : List TH} {j : Nat} (h : CpI d H j) (hj : j < d.hs.length) : H.getD j thK.d = d.hs.getD j thK.d := by
 have h1 := h.r
 rw [dropTH (by rw [h.len]; exact hj), dropTH hj] at h1
 exact (List.cons.inj h1).1
theorem CpI.next {d : DH} {H : List TH} {j : Nat} (h : CpI d H j) (hj : j < d.hs.length) (A : Option Addr) (c : Nat) : CpI d (H.set j (cpT (H.getD j thK.d) A c)) (j + 1) := by
 have hjH : j < H.length := by rw [h.len]; exact hj
 refine ⟨hj, by rw [List.length_set]; exact h.len, ?_, ?_⟩
 ·
  rw [← h.t]
  apply List.ext_getElem?
  intro k
  rw [List.getElem?_map, List.getElem?_map, List.getElem?_set]
  split
  ·
   rename_i e; subst e
   rw [List.getElem?_eq_getElem hjH]
   simp [List.getD, List.getElem?_eq_getElem hjH, cpT]
  ·
   rfl
 ·
  rw [List.drop_set_of_lt (by omega)]
  have h1 := h.r
  rw [dropTH hjH, dropTH hj] at h1
  exact (List.cons.inj h1).2

set_option maxRecDepth 100000 in
set_option maxHeartbeats 4000000 in
theorem copy_fn (d : DH) {w : World} (hd : DR w d) (hl1 : d.ss.length ≤ 1000000) (hl2 : d.hs.length ≤ 1000000) (hl3 : ∀ i, i < d.hs.length → (th d.hs i).t.ops.length ≤ 1000000) : Fx Tryz.prog 42 [.agg #[.string (bs d.name), .slice d.sA d.ss.length d.sc, .slice d.tA d.hs.length d.tc]] w [] no (fun v L => ∃ d2 : DH, d2.d = d.d ∧ v = .agg #[.string (bs d2.name), .slice d2.sA d2.ss.length d2.sc, .slice d2.tA d2.hs.length d2.tc] ∧ L = dL d2) := by
 refine Sv.Fx.body Tryz.func42 rfl T42 rfl ?_
 intro I hro hI
 refine KV.env [(0, _)] ⟨rfl, trivial⟩ (CV.seq (CV.region ?_))
 refine RV.op (OV.box (t := 25) #[_, _, _] rfl rfl gno rfl (fun b => ?_))
 refine RV.op (OV.alloc #[.string (Sv.bs []), .slice none 0 0, .slice none 0 0] I25 rfl gno rfl (fun p => ?_))
 refine RV.nil (KV.then_n (KV.env [(1, _), (2, _)] ⟨rfl, rfl, trivial⟩ (CV.seq (CV.region ?_))))
 refine RV.s (Step.fieldAddr rfl (F25_1 _ _)) rfl (RV.s (Step.load Tryz.underlying22 rfl rfl (fun w h => h.cell 0 rfl rfl)) rfl ?_)
 refine RV.op (OV.call [] (F := [_, _]) Tryz.func65 B65 N65 rfl rfl (fun w h => cloneS_fn (DR.keep h hd hI).s rfl hl1) (fun _ hb => hb.elim) gno rfl (fun v L' hp => ?_))
 obtain ⟨sA2, sc2, rfl, rfl⟩ := hp
 refine RV.s (Step.fieldAddr rfl (F25_1 _ _)) rfl ?_
 refine RV.op (OV.store 0 [_] #[_, _, _] I22 rfl rfl rfl rfl rfl (Nat.le_of_ble_eq_true rfl) (by simp [Value.oneCell']) rfl gno ?_)
 refine RV.nil (KV.then_n (KV.env [(1, _), (2, _)] ⟨rfl, rfl, trivial⟩ (CV.seq (CV.region ?_))))
 refine RV.s (Step.fieldAddr rfl (F25_2 _ _)) rfl (RV.s (Step.load Tryz.underlying23 rfl rfl (fun w h => h.cell 0 rfl rfl)) rfl ?_)
 refine RV.op (OV.call [] (F := [_, _, _]) Tryz.func66 B66 N66 rfl rfl (fun w h => cloneT_fn (DR.keep h hd hI).t rfl hl2) (fun _ hb => hb.elim) gno rfl (fun v L' hp => ?_))
 obtain ⟨tA2, tc2, rfl, rfl⟩ := hp
 refine RV.s (Step.fieldAddr rfl (F25_2 _ _)) rfl ?_
 refine RV.op (OV.store 0 [_] #[_, _, _] I23 rfl rfl rfl rfl rfl (Nat.le_of_ble_eq_true rfl) (by simp [Value.oneCell']) rfl gno ?_)
 refine RV.nil (KV.then_n (KV.env [(1, _), (2, _)] ⟨rfl, rfl, trivial⟩ (CV.seq (CV.seq ?_))))
 refine KV.heap (fun w h => h.newBig (F := opA) 0 thD fun w => OS.emp w) ?_
 refine CV.region ?_
 refine RV.s (Step.fieldAddr rfl (F25_2 _ _)) rfl (RV.s (Step.load Tryz.underlying23 rfl rfl (fun w h => h.cell 0 rfl rfl)) rfl (RV.s (Step.lenSl Tryz.underlying23 rfl) rfl (RV.m rfl rfl ?_)))
 refine RV.nil (KV.then_n (KV.env [(1, _), (2, _), (14, _), (15, _)] ⟨rfl, rfl, rfl, rfl, trivial⟩ (CV.block ?_)))
 refine KV.sel [0, 0, 0, 0, 0] [_, _, _, _, _] rfl ?_
 refine CV.loop2 (fun (j : Nat) (H : List TH) => CpI d H j) (fun (j : Nat) (H : List TH) => d.hs.length - j) (fun (j : Nat) (H : List TH) => [(1, .pointer (some ⟨b, 0, none⟩)), (2, .pointer (some ⟨p, 0, none⟩)), (14, .int .i64 d.hs.length), (15, .int .i64 j)]) (fun (j : Nat) (H : List TH) => Hp I w [Blk b (.cells #[.string (bs d.name), .slice sA2 d.ss.length sc2, .slice tA2 d.hs.length tc2] 25 (0, 0)), Blk p (.cells #[.string (bs []), .slice none 0 0, .slice none 0 0] 25 (0, 0)), OS 9 strK sA2 sc2 d.ss, OS 48 thK tA2 tc2 H, Big opA (H.take j)]) (0) (d.hs) ⟨Nat.zero_le _, rfl, rfl, rfl⟩ ⟨rfl, rfl, rfl, rfl, trivial⟩ (fun _ h => h) ?_
 intro j H hinv
 refine CV.seq (CV.region ?_)
 refine RV.op (OV.split gno (Step.lss rfl rfl) rfl (fun hj => ?_) (fun hj => ?_))
 ·
  refine RV.nil (KV.then_n (KV.env [(1, _), (2, _), (14, _), (15, _), (16, _)] ⟨rfl, rfl, rfl, rfl, rfl, trivial⟩ (CV.seq (CV.cond_t rfl (CV.skip ?_)))))
  refine KV.then_n (KV.env [(1, _), (2, _), (14, _), (15, _)] ⟨rfl, rfl, rfl, rfl, trivial⟩ (CV.seq (CV.block (CV.seq (CV.region ?_)))))
  refine RV.m rfl rfl (RV.a rfl rfl ?_)
  refine RV.nil (KV.then_n (KV.env [(1, _), (2, _), (3, _), (14, _), (15, _)] ⟨rfl, rfl, rfl, rfl, rfl, trivial⟩ ?_))
  have hHl := hinv.len
  rw [← hinv.len]
  refine CV.any (Hp I w [Blk b (.cells #[.string (bs d.name), .slice sA2 d.ss.length sc2, .slice tA2 H.length tc2] 25 (0, 0))]) (by kernel_rfl) (fun _ h => h.drew) 13 rfl ?_
  refine AV.u 0 (bl 13 1) rfl gno (Step.fieldAddr rfl (F25_2 _ _)) rfl (fun _ h => h.sel [0] rfl) ?_
  refine AV.u 1 (bl 13 3) rfl gno (Step.load Tryz.underlying23 rfl rfl (fun w h => h.cell 0 rfl rfl)) rfl (fun _ h => h.sel [0] rfl) ?_
  refine AV.u 2 (bl 13 7) rfl gno (Step.move rfl) rfl (fun _ h => h.sel [0] rfl) ?_
  refine AV.u 3 (bl 13 15) rfl gno (Step.fieldAddr rfl (F25_2 _ _)) rfl (fun _ h => h.sel [0] rfl) ?_
  refine AV.u 4 (bl 13 31) rfl gno (Step.load Tryz.underlying23 rfl rfl (fun w h => h.cell 0 rfl rfl)) rfl (fun _ h => h.sel [0] rfl) ?_
  refine AV.u 5 (bl 13 63) rfl gno (Step.move rfl) rfl (fun _ h => h.sel [0] rfl) ?_
  refine AV.all [6] (by kernel_rfl) (by decide) ?_
  refine ⟨⟨_, rfl, ?_⟩, trivial⟩
  ·
   refine OV.step gno (Step.idx Tryz.underlying23 I48 (fun w h => h.os 3 rfl) rfl rfl (rfl) _ rfl (by omega)) rfl ?_
   refine AV.next (bl 13 127) (by kernel_rfl) (fun _ h => h.sel [0] rfl) ?_
   refine AV.u 7 (bl 13 255) rfl gno (Step.fieldAddr rfl (F48_3 _ _)) rfl (fun _ h => h.sel [0] rfl) ?_
   refine AV.all [8] (by kernel_rfl) (by decide) ?_
   refine ⟨⟨_, rfl, ?_⟩, trivial⟩
   ·
    refine OV.step gno (Step.load Tryz.underlying46 rfl rfl (fun w h => (h.os 3 rfl).cell (by omega) rfl)) rfl ?_
    refine AV.next (bl 13 511) (by kernel_rfl) (fun _ h => h.sel [0] rfl) ?_
    refine AV.all [9] (by kernel_rfl) (by decide) ?_
    refine ⟨⟨_, rfl, ?_⟩, trivial⟩
    ·
     refine OV.call [] (F := [_, _, _, _, _]) Tryz.func67 B67 N67 rfl rfl (fun w h => cloneO_fn (hinv.at (by omega) ▸ ((DR.keep h hd hI).o j (by omega))) rfl (hinv.at (by omega) ▸ hl3 j (by omega))) (fun _ hb => hb.elim) gno rfl (fun v L' hp => ?_)
     obtain ⟨A3, c3, rfl, rfl⟩ := hp
     refine AV.next (bl 13 1023) (by kernel_rfl) (fun _ h => h.sel [0] rfl) ?_
     refine AV.all [10] (by kernel_rfl) (by decide) ?_
     refine ⟨⟨_, rfl, ?_⟩, trivial⟩
     ·
      refine OV.step gno (Step.idx Tryz.underlying23 I48 (fun w h => h.os 3 rfl) rfl rfl (rfl) _ rfl (by omega)) rfl ?_
      refine AV.next (bl 13 2047) (by kernel_rfl) (fun _ h => h.sel [0] rfl) ?_
      refine AV.u 11 (bl 13 4095) rfl gno (Step.fieldAddr rfl (F48_3 _ _)) rfl (fun _ h => h.sel [0] rfl) ?_
      refine AV.all [12] (by kernel_rfl) (by decide) ?_
      refine ⟨⟨_, rfl, ?_⟩, trivial⟩
      ·
       refine OV.storeE 3 (j) (cpT (H.getD j thK.d) A3 c3) (j := 6) [_] I46 rfl rfl rfl rfl rfl rfl (by omega) rfl (Nat.le_of_ble_eq_true rfl) gno ?_
       refine KV.sel [0, 0, 0, 0, 0, 0] [_, _, _, _, _, _] rfl ?_
       refine KV.heap (fun w h => Hp.bigSnoc (L := [_, _, _, _, _]) (F := opA) (h' := cpT (H.getD j thK.d) A3 c3) (k := 4) h rfl) ?_
       refine AV.next (bl 13 8191) (by kernel_rfl) (fun _ h => h.sel [0] rfl) ?_
       refine AV.done (by kernel_rfl) ?_
       refine KV.block_n (KV.then_n (KV.env [(1, _), (2, _), (14, _), (15, _)] ⟨rfl, rfl, rfl, rfl, trivial⟩ (CV.region ?_)))
       (first | refine RV.op (OV.step gno (Step.add rfl rfl (wI64 (by omega) (by omega))) rfl ?_) | refine RV.op (OV.step gno (Step.add rfl rfl rfl) rfl ?_))
       refine RV.m rfl rfl ?_
       refine RV.nil (KV.then_n (KV.env [(1, _), (2, _), (14, _), (15, _)] ⟨rfl, rfl, rfl, rfl, trivial⟩ ?_))
       refine KV.sel [0, 0, 0, 0, 0] [_, _, _, _, _] rfl ?_
       exact KV.loop2 (x := j) (y := H) (j + 1) (H.set j (cpT (H.getD j thK.d) A3 c3)) (hinv.next (by omega) A3 c3) (by omega) ⟨rfl, rfl, rfl, rfl, trivial⟩ (fun _ h => by rw [take_cp (by omega)]; exact h)
 ·
  refine RV.nil (KV.then_n (KV.env [(1, _), (2, _), (14, _), (15, _), (16, _)] ⟨rfl, rfl, rfl, rfl, rfl, trivial⟩ (CV.seq (CV.cond_f rfl (CV.exit ?_)))))
  refine KV.then_exit (KV.then_exit (KV.block_hit (KV.then_n (KV.env [(1, _), (2, _)] ⟨rfl, rfl, trivial⟩ (CV.seq ?_)))))
  refine CV.region ?_
  refine RV.s (Step.loadN _ Tryz.underlying25 rfl I25 rfl rfl (fun w h => h.cells 0 rfl)) rfl ?_
  refine RV.op (OV.store 1 [_, _, _] #[_, _, _] I25 rfl rfl rfl rfl rfl (Nat.le_of_ble_eq_true rfl) (by simp [Value.oneCell']) rfl gno ?_)
  refine RV.nil (KV.then_n (KV.env [(2, _)] ⟨rfl, trivial⟩ (CV.ret ?_)))
  refine KV.sel [1, 1, 1, 1] [_, _, _, _] rfl ?_
  obtain rfl : j = d.hs.length := by have := hinv.le; omega
  exact KV.retC1 [_, _, _] rfl rfl Tryz.underlying25 rfl I25 rfl (fun w h => h.cells 0 rfl) _ (fun _ h => h.sel [1, 1, 1] rfl) ⟨⟨d.name, sA2, sc2, d.ss, tA2, tc2, H⟩, by unfold DH.d; rw [hinv.t], by rw [hinv.len], by rw [List.take_of_length_le (by rw [hinv.len]; exact Nat.le_refl _)]; rfl⟩
end Go.Proofs.YtplmfekhdaefaaaGreatDoor
