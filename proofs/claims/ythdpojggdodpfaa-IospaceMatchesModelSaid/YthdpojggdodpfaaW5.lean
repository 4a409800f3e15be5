/-
  Walks, part 5.
-/
import Derived.Test.YthdpojggdodpfaaTabs
import Derived.Test.YthdpojggdodpfaaW4
set_option linter.unusedSimpArgs false
set_option linter.unusedVariables false
namespace Go.Proofs.Ythdpojggdodpfaa
open Go.Sv Go.Ios
set_option maxRecDepth 100000 in
set_option maxHeartbeats 4000000 in
theorem map_fn (b : Nat) (s : BS) {w : World} (hk : s.ok) (z p0 q0 o : Int) (hp0 : isU p0) : Fx Try.prog 11 [.pointer (some ⟨b, 0, none⟩), .int .i64 z, .agg #[.int .u64 p0, .int .u64 q0], .int .i64 o] w (busL b s) no (fun r L => (¬ ((0 ≤ z ∧ z < 3) ∧ okR p0 q0 ∧ 0 ≤ o ∧ o < 256) → r = .int .i64 1 ∧ L = busL b s) ∧ ∀ m : Nat, z = m → (0 ≤ z ∧ z < 3) ∧ okR p0 q0 ∧ 0 ≤ o ∧ o < 256 → (busy (s.sp m).hs p0 q0 → r = .int .i64 17 ∧ L = busL b s) ∧ (¬ busy (s.sp m).hs p0 q0 → (s.total = 256 → r = .int .i64 8 ∧ L = busL b s) ∧ (s.total ≠ 256 → r = .int .i64 0 ∧ ∃ bp A c, L = busL b (mapG s m ⟨bp, p0, q0, o, none, 0, []⟩ A c)))) := by
  refine Sv.Fx.body Try.func11 rfl T11 rfl ?_
  intro I hro hI
  refine KV.env [(0, _), (1, _), (2, _), (3, _)] ⟨rfl, rfl, rfl, rfl, trivial⟩ ?_
  have hw := hk.wf
  have hw3 := hw.sp
  refine CV.seq ?_
  -- region 0 iospace.go:73
  refine CV.region ?_
  refine RV.op (OV.box (t := 32) #[_, _] rfl rfl gno rfl (fun b0_0 => ?_))
  refine RV.op (OV.step gno (Step.assign rfl) rfl ?_)
  refine RV.nil ?_
  refine KV.then_n ?_
  refine KV.env [(0, _), (1, _), (3, _), (6, _)] ⟨rfl, rfl, rfl, rfl, trivial⟩ ?_
  refine CV.seq ?_
  refine CV.seq ?_
  -- region 1 iospace.go:74
  refine CV.region ?_
  refine RV.op (OV.step gno (Step.move rfl) rfl ?_)
  refine RV.op (OV.call [] Try.func23 B23 N23 rfl rfl (fun w h => (validSpace_fn z).fn w) (fun _ hb => hb.elim) gno rfl (fun v L' hp => ?_))
  obtain ⟨rfl, rfl⟩ := hp
  simp only [List.append_nil]
  by_cases hz : 0 ≤ z ∧ z < 3
  · rw [decide_eq_true hz]
    obtain ⟨m, rfl⟩ := Int.eq_ofNat_of_zero_le hz.1
    have hm : m < 3 := by omega
    have hlm := hk.len hm
    have hsp := aft_spec (s.sp m).hs p0
    have hso := hk.sp m hm
    refine RV.op (OV.step gno (Step.not rfl) rfl ?_)
    refine RV.op (OV.step gno (Step.move rfl) rfl ?_)
    refine RV.op (OV.step (gyes rfl) (Step.loadN _ Try.underlying32 rfl I32 rfl rfl (fun w h => h.cells 4 rfl)) rfl ?_)
    refine RV.op (OV.call [] (F := [_, _, _, _, _]) Try.func24 B24 N24 rfl rfl (fun w h => validRange_fn p0 q0 hp0) (fun _ hb => hb.elim) (gyes rfl) rfl (fun v L' hp => ?_))
    obtain ⟨rfl, rfl⟩ := hp
    simp only [List.append_nil]
    by_cases hr : okR p0 q0
    · rw [decide_eq_true hr]
      refine RV.op (OV.step (gyes rfl) (Step.not rfl) rfl ?_)
      refine RV.op (OV.step gno (Step.pick_f rfl rfl) rfl ?_)
      refine RV.op (OV.step gno (Step.move rfl) rfl ?_)
      refine RV.op (OV.step (gyes rfl) (Step.move rfl) rfl ?_)
      refine RV.op (OV.call [] Try.func25 B25 N25 rfl rfl (fun w h => (validOwner_fn o).fn w) (fun _ hb => hb.elim) (gyes rfl) rfl (fun v L' hp => ?_))
      obtain ⟨rfl, rfl⟩ := hp
      simp only [List.append_nil]
      by_cases ho : 0 ≤ o ∧ o < 256
      · rw [decide_eq_true ho]
        refine RV.op (OV.step (gyes rfl) (Step.not rfl) rfl ?_)
        refine RV.op (OV.step gno (Step.pick_f rfl rfl) rfl ?_)
        refine RV.nil ?_
        refine KV.then_n ?_
        refine KV.env [(0, _), (1, _), (3, _), (6, _), (22, _)] ⟨rfl, rfl, rfl, rfl, rfl, trivial⟩ ?_
        refine CV.cond_f rfl ?_
        refine CV.skip ?_
        refine KV.then_n ?_
        refine KV.env [(0, _), (1, _), (3, _), (6, _)] ⟨rfl, rfl, rfl, rfl, trivial⟩ ?_
        refine CV.seq ?_
        -- region 3 iospace.go:77
        refine CV.region ?_
        refine RV.op (OV.step gno (Step.move rfl) rfl ?_)
        refine RV.op (OV.step gno (Step.move rfl) rfl ?_)
        refine RV.op (OV.step gno (Step.fieldAddr rfl (F32_0 _ _)) rfl ?_)
        refine RV.op (OV.step gno (Step.load Try.underlying22 rfl rfl (fun w h => h.cell 4 rfl rfl)) rfl ?_)
        refine RV.op (OV.call [0, 0, 0, 0] (F := [_]) Try.func26 B26 N26 rfl rfl (fun w h => after_fn b s hk hm p0) (fun _ hb => hb.elim) gno rfl (fun v L' hp => ?_))
        obtain ⟨rfl, rfl⟩ := hp
        refine RV.op (OV.step gno (Step.assign rfl) rfl ?_)
        refine RV.nil ?_
        refine KV.then_n ?_
        refine KV.env [(0, _), (1, _), (3, _), (6, _), (9, _)] ⟨rfl, rfl, rfl, rfl, rfl, trivial⟩ ?_
        refine CV.seq ?_
        refine CV.seq ?_
        -- region 4 iospace.go:78
        refine KV.sel [1, 1, 1, 1, 0] [_, _, _, _, _] rfl ?_
        refine CV.any (Hp I w (busL b s ++ [Blk b0_0 (.cells #[.int .u64 p0, .int .u64 q0] 32 (0, 0))])) (by kernel_rfl) (fun _ h => h.drew) 25 rfl ?_
        refine AV.take 0 #[true, false, false, false, false, false, false, false, false, false, false, false, false, false, false, false, false, false, false, false, false, false, false, false, false] rfl (by kernel_rfl) (by kernel_rfl) (by kernel_rfl) (fun _ _ _ h => h) gno (Step.move rfl) rfl (fun _ h => h.sel [0, 0, 0, 0, 0] rfl) (by kernel_rfl) ?_
        refine AV.take 1 #[true, true, false, false, false, false, false, false, false, false, false, false, false, false, false, false, false, false, false, false, false, false, false, false, false] rfl (by kernel_rfl) (by kernel_rfl) (by kernel_rfl) (fun _ _ _ h => h) gno (Step.move rfl) rfl (fun _ h => h.sel [0, 0, 0, 0, 0] rfl) (by kernel_rfl) ?_
        refine AV.take 2 #[true, true, true, false, false, false, false, false, false, false, false, false, false, false, false, false, false, false, false, false, false, false, false, false, false] rfl (by kernel_rfl) (by kernel_rfl) (by kernel_rfl) (fun _ _ _ h => h) gno (Step.move rfl) rfl (fun _ h => h.sel [0, 0, 0, 0, 0] rfl) (by kernel_rfl) ?_
        refine AV.take 3 #[true, true, true, true, false, false, false, false, false, false, false, false, false, false, false, false, false, false, false, false, false, false, false, false, false] rfl (by kernel_rfl) (by kernel_rfl) (by kernel_rfl) (fun _ _ _ h => h) gno (Step.nilCheck rfl) rfl (fun _ h => h.sel [0, 0, 0, 0, 0] rfl) (by kernel_rfl) ?_
        refine AV.take 4 #[true, true, true, true, true, false, false, false, false, false, false, false, false, false, false, false, false, false, false, false, false, false, false, false, false] rfl (by kernel_rfl) (by kernel_rfl) (by kernel_rfl) (fun _ _ _ h => h) gno (Step.fieldAddr rfl (F71_0 _ _)) rfl (fun _ h => h.sel [0, 0, 0, 0, 0] rfl) (by kernel_rfl) ?_
        refine AV.take 5 #[true, true, true, true, true, true, false, false, false, false, false, false, false, false, false, false, false, false, false, false, false, false, false, false, false] rfl (by kernel_rfl) (by kernel_rfl) (by kernel_rfl) (fun _ _ _ h => h) gno (Step.idxArr Try.underlying68 I67 rfl rfl _ rfl (by first | omega | (rw [List.length_map]; omega))) rfl (fun _ h => h.sel [0, 0, 0, 0, 0] rfl) (by kernel_rfl) ?_
        refine AV.take 6 #[true, true, true, true, true, true, true, false, false, false, false, false, false, false, false, false, false, false, false, false, false, false, false, false, false] rfl (by kernel_rfl) (by kernel_rfl) (by kernel_rfl) (fun _ _ _ h => h) gno (Step.load Try.underlying67 rfl rfl (fun w h => h.cell 0 rfl (busC_sp hw hm))) rfl (fun _ h => h.sel [0, 0, 0, 0, 0] rfl) (by kernel_rfl) ?_
        refine AV.take 7 #[true, true, true, true, true, true, true, true, false, false, false, false, false, false, false, false, false, false, false, false, false, false, false, false, false] rfl (by kernel_rfl) (by kernel_rfl) (by kernel_rfl) (fun _ _ _ h => h) gno (Step.lenSl Try.underlying67 rfl) rfl (fun _ h => h.sel [0, 0, 0, 0, 0] rfl) (by kernel_rfl) ?_
        refine AV.take 8 #[true, true, true, true, true, true, true, true, true, false, false, false, false, false, false, false, false, false, false, false, false, false, false, false, false] rfl (by kernel_rfl) (by kernel_rfl) (by kernel_rfl) (fun _ _ _ h => h) gno (Step.lss rfl rfl) rfl (fun _ h => h.sel [0, 0, 0, 0, 0] rfl) (by kernel_rfl) ?_
        refine AV.take 9 #[true, true, true, true, true, true, true, true, true, true, false, false, false, false, false, false, false, false, false, false, false, false, false, false, false] rfl (by kernel_rfl) (by kernel_rfl) (by kernel_rfl) (fun _ _ _ h => h) gno (Step.move rfl) rfl (fun _ h => h.sel [0, 0, 0, 0, 0] rfl) (by kernel_rfl) ?_
        refine KV.cases 37 rfl (fun cc1 => ?_) (fun cc1 => ?_)
        · -- True
          have ha : (aftM (s.sp m).hs p0) < (s.sp m).hs.length := by have := of_decide_eq_true cc1; omega
          refine AV.take 10 #[true, true, true, true, true, true, true, true, true, true, true, false, false, false, false, false, false, false, false, false, false, false, false, false, false] rfl (by kernel_rfl) (by kernel_rfl) (by kernel_rfl) (fun _ _ _ h => h) (gyes rfl) (Step.move rfl) rfl (fun _ h => h.sel [0, 0, 0, 0, 0] rfl) (by kernel_rfl) ?_
          refine AV.take 11 #[true, true, true, true, true, true, true, true, true, true, true, true, false, false, false, false, false, false, false, false, false, false, false, false, false] rfl (by kernel_rfl) (by kernel_rfl) (by kernel_rfl) (fun _ _ _ h => h) (gyes rfl) (Step.move rfl) rfl (fun _ h => h.sel [0, 0, 0, 0, 0] rfl) (by kernel_rfl) ?_
          refine AV.take 12 #[true, true, true, true, true, true, true, true, true, true, true, true, true, false, false, false, false, false, false, false, false, false, false, false, false] rfl (by kernel_rfl) (by kernel_rfl) (by kernel_rfl) (fun _ _ _ h => h) (gyes rfl) (Step.nilCheck rfl) rfl (fun _ h => h.sel [0, 0, 0, 0, 0] rfl) (by kernel_rfl) ?_
          refine AV.take 13 #[true, true, true, true, true, true, true, true, true, true, true, true, true, true, false, false, false, false, false, false, false, false, false, false, false] rfl (by kernel_rfl) (by kernel_rfl) (by kernel_rfl) (fun _ _ _ h => h) (gyes rfl) (Step.fieldAddr rfl (F71_0 _ _)) rfl (fun _ h => h.sel [0, 0, 0, 0, 0] rfl) (by kernel_rfl) ?_
          refine AV.take 14 #[true, true, true, true, true, true, true, true, true, true, true, true, true, true, true, false, false, false, false, false, false, false, false, false, false] rfl (by kernel_rfl) (by kernel_rfl) (by kernel_rfl) (fun _ _ _ h => h) (gyes rfl) (Step.idxArr Try.underlying68 I67 rfl rfl _ rfl (by first | omega | (rw [List.length_map]; omega))) rfl (fun _ h => h.sel [0, 0, 0, 0, 0] rfl) (by kernel_rfl) ?_
          refine AV.take 15 #[true, true, true, true, true, true, true, true, true, true, true, true, true, true, true, true, false, false, false, false, false, false, false, false, false] rfl (by kernel_rfl) (by kernel_rfl) (by kernel_rfl) (fun _ _ _ h => h) (gyes rfl) (Step.load Try.underlying67 rfl rfl (fun w h => h.cell 0 rfl (busC_sp hw hm))) rfl (fun _ h => h.sel [0, 0, 0, 0, 0] rfl) (by kernel_rfl) ?_
          refine AV.take 16 #[true, true, true, true, true, true, true, true, true, true, true, true, true, true, true, true, true, false, false, false, false, false, false, false, false] rfl (by kernel_rfl) (by kernel_rfl) (by kernel_rfl) (fun _ _ _ h => h) (gyes rfl) (Step.move rfl) rfl (fun _ h => h.sel [0, 0, 0, 0, 0] rfl) (by kernel_rfl) ?_
          refine AV.take 17 #[true, true, true, true, true, true, true, true, true, true, true, true, true, true, true, true, true, true, false, false, false, false, false, false, false] rfl (by kernel_rfl) (by kernel_rfl) (by kernel_rfl) (fun _ _ _ h => h) (gyes rfl) (Step.idx Try.underlying67 I78 (fun w h => (show SpR w (s.sp m) from Hp.spr h (k := 1) rfl (m := m) (by omega)).1) rfl rfl ((List.length_map _).symm) _ rfl (by first | omega | (rw [List.length_map]; omega))) rfl (fun _ h => h.sel [0, 0, 0, 0, 0] rfl) (by kernel_rfl) ?_
          refine AV.take 18 #[true, true, true, true, true, true, true, true, true, true, true, true, true, true, true, true, true, true, true, false, false, false, false, false, false] rfl (by kernel_rfl) (by kernel_rfl) (by kernel_rfl) (fun _ _ _ h => h) (gyes rfl) (Step.load Try.underlying78 rfl rfl (fun w h => (show SpR w (s.sp m) from Hp.spr h (k := 1) rfl (m := m) (by omega)).ptr ha)) rfl (fun _ h => h.sel [0, 0, 0, 0, 0] rfl) (by kernel_rfl) ?_
          refine AV.take 19 #[true, true, true, true, true, true, true, true, true, true, true, true, true, true, true, true, true, true, true, true, false, false, false, false, false] rfl (by kernel_rfl) (by kernel_rfl) (by kernel_rfl) (fun _ _ _ h => h) (gyes rfl) (Step.nilCheck rfl) rfl (fun _ h => h.sel [0, 0, 0, 0, 0] rfl) (by kernel_rfl) ?_
          refine AV.take 20 #[true, true, true, true, true, true, true, true, true, true, true, true, true, true, true, true, true, true, true, true, true, false, false, false, false] rfl (by kernel_rfl) (by kernel_rfl) (by kernel_rfl) (fun _ _ _ h => h) (gyes rfl) (Step.fieldAddr rfl (F77_0 _ _)) rfl (fun _ h => h.sel [0, 0, 0, 0, 0] rfl) (by kernel_rfl) ?_
          refine AV.take 21 #[true, true, true, true, true, true, true, true, true, true, true, true, true, true, true, true, true, true, true, true, true, true, false, false, false] rfl (by kernel_rfl) (by kernel_rfl) (by kernel_rfl) (fun _ _ _ h => h) (gyes rfl) (Step.loadN _ Try.underlying32 rfl I32 rfl rfl (fun w h => ((show SpR w (s.sp m) from Hp.spr h (k := 1) rfl (m := m) (by omega)).2 (aftM (s.sp m).hs p0) ha).rng)) rfl (fun _ h => h.sel [0, 0, 0, 0, 0] rfl) (by kernel_rfl) ?_
          refine AV.take 22 #[true, true, true, true, true, true, true, true, true, true, true, true, true, true, true, true, true, true, true, true, true, true, true, false, false] rfl (by kernel_rfl) (by kernel_rfl) (by kernel_rfl) (fun _ _ _ h => h) (gyes rfl) (Step.loadN _ Try.underlying32 rfl I32 rfl rfl (fun w h => h.cells 4 rfl)) rfl (fun _ h => h.sel [0, 0, 0, 0, 0] rfl) (by kernel_rfl) ?_
          refine AV.all [23] (by kernel_rfl) (by decide) ?_
          refine ⟨⟨_, rfl, ?_⟩, trivial⟩
          · -- 23 comes up
            refine OV.call [] (F := [_, _, _, _, _]) Try.func27 B27 N27 rfl rfl (fun w h => overlap_fn (hso.each _ ha).b (hso.each _ ha).r hp0 hr) (fun _ hb => hb.elim) (gyes rfl) rfl (fun v L' hp => ?_)
            obtain ⟨rfl, rfl⟩ := hp
            simp only [List.append_nil]
            refine AV.next #[true, true, true, true, true, true, true, true, true, true, true, true, true, true, true, true, true, true, true, true, true, true, true, true, false] (by kernel_rfl) (fun _ h => h.sel [0, 0, 0, 0, 0] rfl) ?_
            refine AV.take 24 #[true, true, true, true, true, true, true, true, true, true, true, true, true, true, true, true, true, true, true, true, true, true, true, true, true] rfl (by kernel_rfl) (by kernel_rfl) (by kernel_rfl) (fun _ _ _ h => h) gno (Step.pick_t rfl rfl) rfl (fun _ h => h.sel [0, 0, 0, 0, 0] rfl) (by kernel_rfl) ?_
            refine AV.done (by kernel_rfl) ?_
            refine KV.then_n ?_
            refine KV.env [(0, _), (1, _), (3, _), (6, _), (9, _), (52, _)] ⟨rfl, rfl, rfl, rfl, rfl, rfl, trivial⟩ ?_
            refine KV.cases 52 rfl (fun cc2 => ?_) (fun cc2 => ?_)
            · -- True
              refine CV.cond_t rfl ?_
              refine CV.seq ?_
              -- region 5 iospace.go:79
              refine CV.region ?_
              refine RV.op (OV.step gno (Step.assign rfl) rfl ?_)
              refine RV.nil ?_
              refine KV.then_n ?_
              refine KV.env [(8, _)] ⟨rfl, trivial⟩ ?_
              refine CV.ret ?_
              refine KV.then_ret ?_
              -- return at r5
              refine KV.sel [0, 0, 0, 0] [_, _, _, _] rfl ?_
              have hgd : ((0 ≤ (m : Int) ∧ (m : Int) < 3) ∧ okR p0 q0 ∧ 0 ≤ o ∧ o < 256) := ⟨hz, hr, ho⟩
              have hbu : busy (s.sp m).hs p0 q0 := ⟨ha, of_decide_eq_true (by assumption)⟩
              refine KV.ret1 rfl rfl _ (fun _ h => h) ⟨fun h => absurd hgd h, fun m2 e2 _ => ?_⟩
              obtain rfl : m = m2 := by omega
              exact ⟨fun _ => ⟨rfl, rfl⟩, fun h => absurd hbu h⟩
            · -- False
              refine CV.cond_f rfl ?_
              refine CV.skip ?_
              refine KV.then_n ?_
              refine KV.env [(0, _), (1, _), (3, _), (6, _), (9, _)] ⟨rfl, rfl, rfl, rfl, rfl, trivial⟩ ?_
              refine CV.seq ?_
              refine CV.seq ?_
              -- region 6 iospace.go:81
              refine CV.region ?_
              refine RV.op (OV.step gno (Step.move rfl) rfl ?_)
              refine RV.op (OV.step gno (Step.nilCheck rfl) rfl ?_)
              refine RV.op (OV.step gno (Step.fieldAddr rfl (F71_1 _ _)) rfl ?_)
              refine RV.op (OV.step gno (Step.load Try.underlying3 rfl rfl (fun w h => h.cell 0 rfl (busC_tot hw))) rfl ?_)
              refine RV.op (OV.split gno (Step.eql rfl rfl) rfl (fun ht => ?_) (fun ht => ?_))
              · -- True
                refine RV.nil ?_
                refine KV.then_n ?_
                refine KV.env [(0, _), (1, _), (3, _), (6, _), (9, _), (57, _)] ⟨rfl, rfl, rfl, rfl, rfl, rfl, trivial⟩ ?_
                refine CV.cond_t rfl ?_
                refine CV.seq ?_
                -- region 7 iospace.go:82
                refine CV.region ?_
                refine RV.op (OV.step gno (Step.assign rfl) rfl ?_)
                refine RV.nil ?_
                refine KV.then_n ?_
                refine KV.env [(8, _)] ⟨rfl, trivial⟩ ?_
                refine CV.ret ?_
                refine KV.then_ret ?_
                -- return at r7
                refine KV.sel [0, 0, 0, 0] [_, _, _, _] rfl ?_
                have hgd : ((0 ≤ (m : Int) ∧ (m : Int) < 3) ∧ okR p0 q0 ∧ 0 ≤ o ∧ o < 256) := ⟨hz, hr, ho⟩
                have hbu : ¬ busy (s.sp m).hs p0 q0 := fun k => by first | exact ha k.1 | exact absurd k.2 (of_decide_eq_false (by assumption))
                refine KV.ret1 rfl rfl _ (fun _ h => h) ⟨fun h => absurd hgd h, fun m2 e2 _ => ?_⟩
                obtain rfl : m = m2 := by omega
                exact ⟨fun h => absurd h hbu, fun _ => ⟨fun _ => ⟨rfl, rfl⟩, fun h => absurd ht h⟩⟩
              · -- False
                refine RV.nil ?_
                refine KV.then_n ?_
                refine KV.env [(0, _), (1, _), (3, _), (6, _), (9, _), (57, _)] ⟨rfl, rfl, rfl, rfl, rfl, rfl, trivial⟩ ?_
                refine CV.cond_f rfl ?_
                refine CV.skip ?_
                refine KV.then_n ?_
                refine KV.env [(0, _), (1, _), (3, _), (6, _), (9, _)] ⟨rfl, rfl, rfl, rfl, rfl, trivial⟩ ?_
                -- join; live [0]
                refine CV.join3 (fun (A2 : Option Addr) (c2 : Nat) (bp : Nat) => [(0, .pointer (some ⟨b, 0, none⟩))]) (fun (A2 : Option Addr) (c2 : Nat) (bp : Nat) => Hp I w (busL b { s with sps := s.sps.set m ⟨A2, c2, insL (s.sp m).hs (aftM (s.sp m).hs p0) ⟨bp, p0, q0, o, none, 0, []⟩⟩ })) ?_ ?_
                · skip
                  -- region 8 iospace.go:84
                  refine KV.sel [0, 0, 0, 0, 0] [_, _, _, _, _] rfl ?_
                  refine KV.heap (fun w h => openSp h (m := m) (by omega)) ?_
                  refine CV.any (Hp I w [Blk b0_0 (.cells #[.int .u64 p0, .int .u64 q0] 32 (0, 0))]) (by kernel_rfl) (fun _ h => h.drew) 19 rfl ?_
                  refine AV.take 0 #[true, false, false, false, false, false, false, false, false, false, false, false, false, false, false, false, false, false, false] rfl (by kernel_rfl) (by kernel_rfl) (by kernel_rfl) (fun _ _ _ h => h) gno (Step.move rfl) rfl (fun _ h => h.sel [6] rfl) (by kernel_rfl) ?_
                  refine AV.take 1 #[true, true, false, false, false, false, false, false, false, false, false, false, false, false, false, false, false, false, false] rfl (by kernel_rfl) (by kernel_rfl) (by kernel_rfl) (fun _ _ _ h => h) gno (Step.move rfl) rfl (fun _ h => h.sel [6] rfl) (by kernel_rfl) ?_
                  refine AV.take 2 #[true, true, true, false, false, false, false, false, false, false, false, false, false, false, false, false, false, false, false] rfl (by kernel_rfl) (by kernel_rfl) (by kernel_rfl) (fun _ _ _ h => h) gno (Step.move rfl) rfl (fun _ h => h.sel [6] rfl) (by kernel_rfl) ?_
                  refine AV.take 3 #[true, true, true, true, false, false, false, false, false, false, false, false, false, false, false, false, false, false, false] rfl (by kernel_rfl) (by kernel_rfl) (by kernel_rfl) (fun _ _ _ h => h) gno (Step.move rfl) rfl (fun _ h => h.sel [6] rfl) (by kernel_rfl) ?_
                  refine AV.take 4 #[true, true, true, true, true, false, false, false, false, false, false, false, false, false, false, false, false, false, false] rfl (by kernel_rfl) (by kernel_rfl) (by kernel_rfl) (fun _ _ _ h => h) gno (Step.nilCheck rfl) rfl (fun _ h => h.sel [6] rfl) (by kernel_rfl) ?_
                  refine AV.take 5 #[true, true, true, true, true, true, false, false, false, false, false, false, false, false, false, false, false, false, false] rfl (by kernel_rfl) (by kernel_rfl) (by kernel_rfl) (fun _ _ _ h => h) gno (Step.fieldAddr rfl (F71_0 _ _)) rfl (fun _ h => h.sel [6] rfl) (by kernel_rfl) ?_
                  refine AV.take 6 #[true, true, true, true, true, true, true, false, false, false, false, false, false, false, false, false, false, false, false] rfl (by kernel_rfl) (by kernel_rfl) (by kernel_rfl) (fun _ _ _ h => h) gno (Step.idxArr Try.underlying68 I67 rfl rfl _ rfl (by first | omega | (rw [List.length_map]; omega))) rfl (fun _ h => h.sel [6] rfl) (by kernel_rfl) ?_
                  refine AV.take 8 #[true, true, true, true, true, true, true, false, true, false, false, false, false, false, false, false, false, false, false] rfl (by kernel_rfl) (by kernel_rfl) (by kernel_rfl) (fun _ _ _ h => h) gno (Step.move rfl) rfl (fun _ h => h.sel [6] rfl) (by kernel_rfl) ?_
                  refine AV.take 9 #[true, true, true, true, true, true, true, false, true, true, false, false, false, false, false, false, false, false, false] rfl (by kernel_rfl) (by kernel_rfl) (by kernel_rfl) (fun _ _ _ h => h) gno (Step.loadN _ Try.underlying32 rfl I32 rfl rfl (fun w h => h.cells 0 rfl)) rfl (fun _ h => h.sel [6] rfl) (by kernel_rfl) ?_
                  refine AV.take 10 #[true, true, true, true, true, true, true, false, true, true, true, false, false, false, false, false, false, false, false] rfl (by kernel_rfl) (by kernel_rfl) (by kernel_rfl) (fun _ _ _ h => h) gno (Step.move rfl) rfl (fun _ h => h.sel [6] rfl) (by kernel_rfl) ?_
                  refine AV.take 11 #[true, true, true, true, true, true, true, false, true, true, true, true, false, false, false, false, false, false, false] rfl (by kernel_rfl) (by kernel_rfl) (by kernel_rfl) (fun _ _ _ h => h) gno (Step.build rfl (Bd77_0_1 _ _ _)) rfl (fun _ h => h.sel [6] rfl) (by kernel_rfl) ?_
                  refine AV.take 15 #[true, true, true, true, true, true, true, false, true, true, true, true, false, false, false, true, false, false, false] rfl (by kernel_rfl) (by kernel_rfl) (by kernel_rfl) (fun _ _ _ h => h) gno (Step.nilCheck rfl) rfl (fun _ h => h.sel [6] rfl) (by kernel_rfl) ?_
                  refine AV.take 16 #[true, true, true, true, true, true, true, false, true, true, true, true, false, false, false, true, true, false, false] rfl (by kernel_rfl) (by kernel_rfl) (by kernel_rfl) (fun _ _ _ h => h) gno (Step.fieldAddr rfl (F71_0 _ _)) rfl (fun _ h => h.sel [6] rfl) (by kernel_rfl) ?_
                  refine AV.all [7, 12] (by kernel_rfl) (by decide) ?_
                  refine ⟨⟨_, rfl, ?_⟩, ⟨⟨_, rfl, ?_⟩, trivial⟩⟩
                  · -- 7 comes up
                    refine OV.step gno (Step.load Try.underlying67 rfl rfl (fun w h => h.cell 0 rfl (busC_sp hw hm))) rfl ?_
                    refine AV.next #[true, true, true, true, true, true, true, true, true, true, true, true, false, false, false, true, true, false, false] (by kernel_rfl) (fun _ h => h.sel [6] rfl) ?_
                    refine AV.all [12] (by kernel_rfl) (by decide) ?_
                    refine ⟨⟨_, rfl, ?_⟩, trivial⟩
                    · -- 12 comes up
                      refine OV.box (t := 77) #[_, _, _, _] rfl rfl gno rfl (fun bp => ?_)
                      refine AV.next #[true, true, true, true, true, true, true, true, true, true, true, true, true, false, false, true, true, false, false] (by kernel_rfl) (fun _ h => h.sel [6] rfl) ?_
                      refine AV.all [13] (by kernel_rfl) (by decide) ?_
                      refine ⟨⟨_, rfl, ?_⟩, trivial⟩
                      · -- 13 comes up
                        refine OV.buildSlice (K := ptrK) ([some bp]) rfl (Bs67_1_0 _) rfl rfl (by omega) gno rfl (fun By => ?_)
                        refine AV.next #[true, true, true, true, true, true, true, true, true, true, true, true, true, true, false, true, true, false, false] (by kernel_rfl) (fun _ h => h.sel [6] rfl) ?_
                        refine AV.all [14] (by kernel_rfl) (by decide) ?_
                        refine ⟨⟨_, rfl, ?_⟩, trivial⟩
                        · -- 14 comes up
                          refine OV.call [1, 7] (F := [_, _, _, _, _, _, _]) Try.func28 B28 N28 rfl rfl (fun w h => insert_fn (ps := (s.sp m).hs.map fun h => some h.p) (i := (aftM (s.sp m).hs p0)) (List.length_map _).symm (by rw [List.length_map]; exact hsp.1) (by rw [List.length_map]; omega)) (fun _ hb => hb.elim) gno rfl (fun v L' hp => ?_)
                          obtain ⟨A2, c2, rfl, rfl⟩ := hp
                          rw [List.length_map, show (s.sp m).hs.length + 1 = (insL (s.sp m).hs (aftM (s.sp m).hs p0) (⟨bp, p0, q0, o, none, 0, []⟩ : MH)).length from (insL_length _ hsp.1).symm]
                          refine AV.next #[true, true, true, true, true, true, true, true, true, true, true, true, true, true, true, true, true, false, false] (by kernel_rfl) (fun _ h => h.sel [5] rfl) ?_
                          refine AV.take 17 #[true, true, true, true, true, true, true, true, true, true, true, true, true, true, true, true, true, true, false] rfl (by kernel_rfl) (by kernel_rfl) (by kernel_rfl) (fun _ _ _ h => h) gno (Step.idxArr Try.underlying68 I67 rfl rfl _ rfl (by first | omega | (rw [List.length_map]; omega))) rfl (fun _ h => h.sel [5] rfl) (by kernel_rfl) ?_
                          refine AV.all [18] (by kernel_rfl) (by decide) ?_
                          refine ⟨⟨_, rfl, ?_⟩, trivial⟩
                          · -- 18 comes up
                            refine OV.store 0 [_] (busC { s with sps := s.sps.set m ⟨A2, c2, insL (s.sp m).hs (aftM (s.sp m).hs p0) ⟨bp, p0, q0, o, none, 0, []⟩⟩ }).toArray I67 rfl rfl rfl rfl rfl (by show _ + 1 ≤ (busC _).toArray.size; rw [List.size_toArray, busC_len hw]; omega) (by simp [Value.oneCell']) (set_of hw (by omega) (set_sp hw hm ⟨A2, c2, insL (s.sp m).hs (aftM (s.sp m).hs p0) ⟨bp, p0, q0, o, none, 0, []⟩⟩)) gno ?_
                            refine AV.next #[true, true, true, true, true, true, true, true, true, true, true, true, true, true, true, true, true, true, true] (by kernel_rfl) (fun _ h => h.sel [5] rfl) ?_
                            refine AV.done (by kernel_rfl) ?_
                            refine KV.then_n ?_
                            refine KV.env [(0, _)] ⟨rfl, trivial⟩ ?_
                            refine KV.sel [0, 6, 0, 0, 0, 0, 1] [_, _, _, _, _, _, _] rfl ?_
                            exact KV.join3 (A2) (c2) (bp) ⟨rfl, trivial⟩ (fun _ h => mapClose hw3 hm h)
                  · -- 12 comes up
                    refine OV.box (t := 77) #[_, _, _, _] rfl rfl gno rfl (fun bp => ?_)
                    refine AV.next #[true, true, true, true, true, true, true, false, true, true, true, true, true, false, false, true, true, false, false] (by kernel_rfl) (fun _ h => h.sel [6] rfl) ?_
                    refine AV.all [7, 13] (by kernel_rfl) (by decide) ?_
                    refine ⟨⟨_, rfl, ?_⟩, ⟨⟨_, rfl, ?_⟩, trivial⟩⟩
                    · -- 7 comes up
                      refine OV.step gno (Step.load Try.underlying67 rfl rfl (fun w h => h.cell 0 rfl (busC_sp hw hm))) rfl ?_
                      refine AV.next #[true, true, true, true, true, true, true, true, true, true, true, true, true, false, false, true, true, false, false] (by kernel_rfl) (fun _ h => h.sel [6] rfl) ?_
                      refine AV.all [13] (by kernel_rfl) (by decide) ?_
                      refine ⟨⟨_, rfl, ?_⟩, trivial⟩
                      · -- 13 comes up
                        refine OV.buildSlice (K := ptrK) ([some bp]) rfl (Bs67_1_0 _) rfl rfl (by omega) gno rfl (fun By => ?_)
                        refine AV.next #[true, true, true, true, true, true, true, true, true, true, true, true, true, true, false, true, true, false, false] (by kernel_rfl) (fun _ h => h.sel [6] rfl) ?_
                        refine AV.all [14] (by kernel_rfl) (by decide) ?_
                        refine ⟨⟨_, rfl, ?_⟩, trivial⟩
                        · -- 14 comes up
                          refine OV.call [1, 7] (F := [_, _, _, _, _, _, _]) Try.func28 B28 N28 rfl rfl (fun w h => insert_fn (ps := (s.sp m).hs.map fun h => some h.p) (i := (aftM (s.sp m).hs p0)) (List.length_map _).symm (by rw [List.length_map]; exact hsp.1) (by rw [List.length_map]; omega)) (fun _ hb => hb.elim) gno rfl (fun v L' hp => ?_)
                          obtain ⟨A2, c2, rfl, rfl⟩ := hp
                          rw [List.length_map, show (s.sp m).hs.length + 1 = (insL (s.sp m).hs (aftM (s.sp m).hs p0) (⟨bp, p0, q0, o, none, 0, []⟩ : MH)).length from (insL_length _ hsp.1).symm]
                          refine AV.next #[true, true, true, true, true, true, true, true, true, true, true, true, true, true, true, true, true, false, false] (by kernel_rfl) (fun _ h => h.sel [5] rfl) ?_
                          refine AV.take 17 #[true, true, true, true, true, true, true, true, true, true, true, true, true, true, true, true, true, true, false] rfl (by kernel_rfl) (by kernel_rfl) (by kernel_rfl) (fun _ _ _ h => h) gno (Step.idxArr Try.underlying68 I67 rfl rfl _ rfl (by first | omega | (rw [List.length_map]; omega))) rfl (fun _ h => h.sel [5] rfl) (by kernel_rfl) ?_
                          refine AV.all [18] (by kernel_rfl) (by decide) ?_
                          refine ⟨⟨_, rfl, ?_⟩, trivial⟩
                          · -- 18 comes up
                            refine OV.store 0 [_] (busC { s with sps := s.sps.set m ⟨A2, c2, insL (s.sp m).hs (aftM (s.sp m).hs p0) ⟨bp, p0, q0, o, none, 0, []⟩⟩ }).toArray I67 rfl rfl rfl rfl rfl (by show _ + 1 ≤ (busC _).toArray.size; rw [List.size_toArray, busC_len hw]; omega) (by simp [Value.oneCell']) (set_of hw (by omega) (set_sp hw hm ⟨A2, c2, insL (s.sp m).hs (aftM (s.sp m).hs p0) ⟨bp, p0, q0, o, none, 0, []⟩⟩)) gno ?_
                            refine AV.next #[true, true, true, true, true, true, true, true, true, true, true, true, true, true, true, true, true, true, true] (by kernel_rfl) (fun _ h => h.sel [5] rfl) ?_
                            refine AV.done (by kernel_rfl) ?_
                            refine KV.then_n ?_
                            refine KV.env [(0, _)] ⟨rfl, trivial⟩ ?_
                            refine KV.sel [0, 6, 0, 0, 0, 0, 1] [_, _, _, _, _, _, _] rfl ?_
                            exact KV.join3 (A2) (c2) (bp) ⟨rfl, trivial⟩ (fun _ h => mapClose hw3 hm h)
                    · -- 13 comes up
                      refine OV.buildSlice (K := ptrK) ([some bp]) rfl (Bs67_1_0 _) rfl rfl (by omega) gno rfl (fun By => ?_)
                      refine AV.next #[true, true, true, true, true, true, true, false, true, true, true, true, true, true, false, true, true, false, false] (by kernel_rfl) (fun _ h => h.sel [6] rfl) ?_
                      refine AV.all [7] (by kernel_rfl) (by decide) ?_
                      refine ⟨⟨_, rfl, ?_⟩, trivial⟩
                      · -- 7 comes up
                        refine OV.step gno (Step.load Try.underlying67 rfl rfl (fun w h => h.cell 0 rfl (busC_sp hw hm))) rfl ?_
                        refine AV.next #[true, true, true, true, true, true, true, true, true, true, true, true, true, true, false, true, true, false, false] (by kernel_rfl) (fun _ h => h.sel [6] rfl) ?_
                        refine AV.all [14] (by kernel_rfl) (by decide) ?_
                        refine ⟨⟨_, rfl, ?_⟩, trivial⟩
                        · -- 14 comes up
                          refine OV.call [1, 7] (F := [_, _, _, _, _, _, _]) Try.func28 B28 N28 rfl rfl (fun w h => insert_fn (ps := (s.sp m).hs.map fun h => some h.p) (i := (aftM (s.sp m).hs p0)) (List.length_map _).symm (by rw [List.length_map]; exact hsp.1) (by rw [List.length_map]; omega)) (fun _ hb => hb.elim) gno rfl (fun v L' hp => ?_)
                          obtain ⟨A2, c2, rfl, rfl⟩ := hp
                          rw [List.length_map, show (s.sp m).hs.length + 1 = (insL (s.sp m).hs (aftM (s.sp m).hs p0) (⟨bp, p0, q0, o, none, 0, []⟩ : MH)).length from (insL_length _ hsp.1).symm]
                          refine AV.next #[true, true, true, true, true, true, true, true, true, true, true, true, true, true, true, true, true, false, false] (by kernel_rfl) (fun _ h => h.sel [5] rfl) ?_
                          refine AV.take 17 #[true, true, true, true, true, true, true, true, true, true, true, true, true, true, true, true, true, true, false] rfl (by kernel_rfl) (by kernel_rfl) (by kernel_rfl) (fun _ _ _ h => h) gno (Step.idxArr Try.underlying68 I67 rfl rfl _ rfl (by first | omega | (rw [List.length_map]; omega))) rfl (fun _ h => h.sel [5] rfl) (by kernel_rfl) ?_
                          refine AV.all [18] (by kernel_rfl) (by decide) ?_
                          refine ⟨⟨_, rfl, ?_⟩, trivial⟩
                          · -- 18 comes up
                            refine OV.store 0 [_] (busC { s with sps := s.sps.set m ⟨A2, c2, insL (s.sp m).hs (aftM (s.sp m).hs p0) ⟨bp, p0, q0, o, none, 0, []⟩⟩ }).toArray I67 rfl rfl rfl rfl rfl (by show _ + 1 ≤ (busC _).toArray.size; rw [List.size_toArray, busC_len hw]; omega) (by simp [Value.oneCell']) (set_of hw (by omega) (set_sp hw hm ⟨A2, c2, insL (s.sp m).hs (aftM (s.sp m).hs p0) ⟨bp, p0, q0, o, none, 0, []⟩⟩)) gno ?_
                            refine AV.next #[true, true, true, true, true, true, true, true, true, true, true, true, true, true, true, true, true, true, true] (by kernel_rfl) (fun _ h => h.sel [5] rfl) ?_
                            refine AV.done (by kernel_rfl) ?_
                            refine KV.then_n ?_
                            refine KV.env [(0, _)] ⟨rfl, trivial⟩ ?_
                            refine KV.sel [0, 6, 0, 0, 0, 0, 1] [_, _, _, _, _, _, _] rfl ?_
                            exact KV.join3 (A2) (c2) (bp) ⟨rfl, trivial⟩ (fun _ h => mapClose hw3 hm h)
                · intro A2 c2 bp
                  have hw1 : BS.wf ({ s with sps := s.sps.set m ⟨A2, c2, insL (s.sp m).hs (aftM (s.sp m).hs p0) ⟨bp, p0, q0, o, none, 0, []⟩⟩ } : BS) := ⟨by show (s.sps.set m _).length = 3; rw [List.length_set]; exact hw3, hw.en⟩
                  refine CV.seq ?_
                  -- region 9 iospace.go:85
                  refine CV.region ?_
                  refine RV.op (OV.step gno (Step.move rfl) rfl ?_)
                  refine RV.op (OV.step gno (Step.nilCheck rfl) rfl ?_)
                  refine RV.op (OV.step gno (Step.fieldAddr rfl (F71_1 _ _)) rfl ?_)
                  refine RV.op (OV.step gno (Step.load Try.underlying3 rfl rfl (fun w h => h.cell 0 rfl (busC_tot hw1))) rfl ?_)
                  refine RV.op (OV.step gno (Step.add rfl rfl (wI64 (by have := hk.tot; have := hk.max; show _ ≤ s.total + 1; omega) (by have := hk.tot; have := hk.max; show s.total + 1 ≤ _; omega))) rfl ?_)
                  refine RV.op (OV.step gno (Step.nilCheck rfl) rfl ?_)
                  refine RV.op (OV.step gno (Step.fieldAddr rfl (F71_1 _ _)) rfl ?_)
                  refine RV.op (OV.store 0 [_] (busC (mapG s m ⟨bp, p0, q0, o, none, 0, []⟩ A2 c2)).toArray I3 rfl rfl rfl rfl rfl (by show _ + 1 ≤ (busC _).toArray.size; rw [List.size_toArray, busC_len hw1]; omega) (by simp [Value.oneCell']) (set_of hw1 (by omega) (set_tot hw1 _)) gno ?_)
                  refine RV.nil ?_
                  refine KV.then_n ?_
                  refine KV.env [] trivial ?_
                  refine CV.seq ?_
                  -- region 10 iospace.go:86
                  refine CV.region ?_
                  refine RV.op (OV.step gno (Step.assign rfl) rfl ?_)
                  refine RV.nil ?_
                  refine KV.then_n ?_
                  refine KV.env [(8, _)] ⟨rfl, trivial⟩ ?_
                  refine CV.ret ?_
                  -- return at r10
                  refine KV.sel [0, 0, 0, 0] [_, _, _, _] rfl ?_
                  have hgd : ((0 ≤ (m : Int) ∧ (m : Int) < 3) ∧ okR p0 q0 ∧ 0 ≤ o ∧ o < 256) := ⟨hz, hr, ho⟩
                  have hbu : ¬ busy (s.sp m).hs p0 q0 := fun k => by first | exact ha k.1 | exact absurd k.2 (of_decide_eq_false (by assumption))
                  refine KV.ret1 rfl rfl _ (fun _ h => h) ⟨fun h => absurd hgd h, fun m2 e2 _ => ?_⟩
                  obtain rfl : m = m2 := by omega
                  exact ⟨fun h => absurd h hbu, fun _ => ⟨fun h => absurd h ht, fun _ => ⟨rfl, _, _, _, rfl⟩⟩⟩
        · -- False
          have ha : ¬ (aftM (s.sp m).hs p0) < (s.sp m).hs.length := by have := of_decide_eq_false cc1; omega
          refine AV.takeSkip 10 #[true, true, true, true, true, true, true, true, true, true, true, false, false, false, false, false, false, false, false, false, false, false, false, false, false] rfl (by kernel_rfl) (by kernel_rfl) (by kernel_rfl) (fun _ _ _ h => h) rfl rfl (fun _ h => h.sel [0, 0, 0, 0, 0] rfl) (by kernel_rfl) ?_
          refine AV.takeSkip 11 #[true, true, true, true, true, true, true, true, true, true, true, true, false, false, false, false, false, false, false, false, false, false, false, false, false] rfl (by kernel_rfl) (by kernel_rfl) (by kernel_rfl) (fun _ _ _ h => h) rfl rfl (fun _ h => h.sel [0, 0, 0, 0, 0] rfl) (by kernel_rfl) ?_
          refine AV.takeSkip 12 #[true, true, true, true, true, true, true, true, true, true, true, true, true, false, false, false, false, false, false, false, false, false, false, false, false] rfl (by kernel_rfl) (by kernel_rfl) (by kernel_rfl) (fun _ _ _ h => h) rfl rfl (fun _ h => h.sel [0, 0, 0, 0, 0] rfl) (by kernel_rfl) ?_
          refine AV.takeSkip 13 #[true, true, true, true, true, true, true, true, true, true, true, true, true, true, false, false, false, false, false, false, false, false, false, false, false] rfl (by kernel_rfl) (by kernel_rfl) (by kernel_rfl) (fun _ _ _ h => h) rfl rfl (fun _ h => h.sel [0, 0, 0, 0, 0] rfl) (by kernel_rfl) ?_
          refine AV.takeSkip 14 #[true, true, true, true, true, true, true, true, true, true, true, true, true, true, true, false, false, false, false, false, false, false, false, false, false] rfl (by kernel_rfl) (by kernel_rfl) (by kernel_rfl) (fun _ _ _ h => h) rfl rfl (fun _ h => h.sel [0, 0, 0, 0, 0] rfl) (by kernel_rfl) ?_
          refine AV.takeSkip 15 #[true, true, true, true, true, true, true, true, true, true, true, true, true, true, true, true, false, false, false, false, false, false, false, false, false] rfl (by kernel_rfl) (by kernel_rfl) (by kernel_rfl) (fun _ _ _ h => h) rfl rfl (fun _ h => h.sel [0, 0, 0, 0, 0] rfl) (by kernel_rfl) ?_
          refine AV.takeSkip 16 #[true, true, true, true, true, true, true, true, true, true, true, true, true, true, true, true, true, false, false, false, false, false, false, false, false] rfl (by kernel_rfl) (by kernel_rfl) (by kernel_rfl) (fun _ _ _ h => h) rfl rfl (fun _ h => h.sel [0, 0, 0, 0, 0] rfl) (by kernel_rfl) ?_
          refine AV.takeSkip 17 #[true, true, true, true, true, true, true, true, true, true, true, true, true, true, true, true, true, true, false, false, false, false, false, false, false] rfl (by kernel_rfl) (by kernel_rfl) (by kernel_rfl) (fun _ _ _ h => h) rfl rfl (fun _ h => h.sel [0, 0, 0, 0, 0] rfl) (by kernel_rfl) ?_
          refine AV.takeSkip 18 #[true, true, true, true, true, true, true, true, true, true, true, true, true, true, true, true, true, true, true, false, false, false, false, false, false] rfl (by kernel_rfl) (by kernel_rfl) (by kernel_rfl) (fun _ _ _ h => h) rfl rfl (fun _ h => h.sel [0, 0, 0, 0, 0] rfl) (by kernel_rfl) ?_
          refine AV.takeSkip 19 #[true, true, true, true, true, true, true, true, true, true, true, true, true, true, true, true, true, true, true, true, false, false, false, false, false] rfl (by kernel_rfl) (by kernel_rfl) (by kernel_rfl) (fun _ _ _ h => h) rfl rfl (fun _ h => h.sel [0, 0, 0, 0, 0] rfl) (by kernel_rfl) ?_
          refine AV.takeSkip 20 #[true, true, true, true, true, true, true, true, true, true, true, true, true, true, true, true, true, true, true, true, true, false, false, false, false] rfl (by kernel_rfl) (by kernel_rfl) (by kernel_rfl) (fun _ _ _ h => h) rfl rfl (fun _ h => h.sel [0, 0, 0, 0, 0] rfl) (by kernel_rfl) ?_
          refine AV.takeSkip 21 #[true, true, true, true, true, true, true, true, true, true, true, true, true, true, true, true, true, true, true, true, true, true, false, false, false] rfl (by kernel_rfl) (by kernel_rfl) (by kernel_rfl) (fun _ _ _ h => h) rfl rfl (fun _ h => h.sel [0, 0, 0, 0, 0] rfl) (by kernel_rfl) ?_
          refine AV.takeSkip 22 #[true, true, true, true, true, true, true, true, true, true, true, true, true, true, true, true, true, true, true, true, true, true, true, false, false] rfl (by kernel_rfl) (by kernel_rfl) (by kernel_rfl) (fun _ _ _ h => h) rfl rfl (fun _ h => h.sel [0, 0, 0, 0, 0] rfl) (by kernel_rfl) ?_
          refine AV.takeSkip 23 #[true, true, true, true, true, true, true, true, true, true, true, true, true, true, true, true, true, true, true, true, true, true, true, true, false] rfl (by kernel_rfl) (by kernel_rfl) (by kernel_rfl) (fun _ _ _ h => h) rfl rfl (fun _ h => h.sel [0, 0, 0, 0, 0] rfl) (by kernel_rfl) ?_
          refine AV.take 24 #[true, true, true, true, true, true, true, true, true, true, true, true, true, true, true, true, true, true, true, true, true, true, true, true, true] rfl (by kernel_rfl) (by kernel_rfl) (by kernel_rfl) (fun _ _ _ h => h) gno (Step.pick_f rfl rfl) rfl (fun _ h => h.sel [0, 0, 0, 0, 0] rfl) (by kernel_rfl) ?_
          refine AV.done (by kernel_rfl) ?_
          refine KV.then_n ?_
          refine KV.env [(0, _), (1, _), (3, _), (6, _), (9, _), (52, _)] ⟨rfl, rfl, rfl, rfl, rfl, rfl, trivial⟩ ?_
          refine CV.cond_f rfl ?_
          refine CV.skip ?_
          refine KV.then_n ?_
          refine KV.env [(0, _), (1, _), (3, _), (6, _), (9, _)] ⟨rfl, rfl, rfl, rfl, rfl, trivial⟩ ?_
          refine CV.seq ?_
          refine CV.seq ?_
          -- region 6 iospace.go:81
          refine CV.region ?_
          refine RV.op (OV.step gno (Step.move rfl) rfl ?_)
          refine RV.op (OV.step gno (Step.nilCheck rfl) rfl ?_)
          refine RV.op (OV.step gno (Step.fieldAddr rfl (F71_1 _ _)) rfl ?_)
          refine RV.op (OV.step gno (Step.load Try.underlying3 rfl rfl (fun w h => h.cell 0 rfl (busC_tot hw))) rfl ?_)
          refine RV.op (OV.split gno (Step.eql rfl rfl) rfl (fun ht => ?_) (fun ht => ?_))
          · -- True
            refine RV.nil ?_
            refine KV.then_n ?_
            refine KV.env [(0, _), (1, _), (3, _), (6, _), (9, _), (57, _)] ⟨rfl, rfl, rfl, rfl, rfl, rfl, trivial⟩ ?_
            refine CV.cond_t rfl ?_
            refine CV.seq ?_
            -- region 7 iospace.go:82
            refine CV.region ?_
            refine RV.op (OV.step gno (Step.assign rfl) rfl ?_)
            refine RV.nil ?_
            refine KV.then_n ?_
            refine KV.env [(8, _)] ⟨rfl, trivial⟩ ?_
            refine CV.ret ?_
            refine KV.then_ret ?_
            -- return at r7
            refine KV.sel [0, 0, 0, 0] [_, _, _, _] rfl ?_
            have hgd : ((0 ≤ (m : Int) ∧ (m : Int) < 3) ∧ okR p0 q0 ∧ 0 ≤ o ∧ o < 256) := ⟨hz, hr, ho⟩
            have hbu : ¬ busy (s.sp m).hs p0 q0 := fun k => by first | exact ha k.1 | exact absurd k.2 (of_decide_eq_false (by assumption))
            refine KV.ret1 rfl rfl _ (fun _ h => h) ⟨fun h => absurd hgd h, fun m2 e2 _ => ?_⟩
            obtain rfl : m = m2 := by omega
            exact ⟨fun h => absurd h hbu, fun _ => ⟨fun _ => ⟨rfl, rfl⟩, fun h => absurd ht h⟩⟩
          · -- False
            refine RV.nil ?_
            refine KV.then_n ?_
            refine KV.env [(0, _), (1, _), (3, _), (6, _), (9, _), (57, _)] ⟨rfl, rfl, rfl, rfl, rfl, rfl, trivial⟩ ?_
            refine CV.cond_f rfl ?_
            refine CV.skip ?_
            refine KV.then_n ?_
            refine KV.env [(0, _), (1, _), (3, _), (6, _), (9, _)] ⟨rfl, rfl, rfl, rfl, rfl, trivial⟩ ?_
            -- join; live [0]
            refine CV.join3 (fun (A2 : Option Addr) (c2 : Nat) (bp : Nat) => [(0, .pointer (some ⟨b, 0, none⟩))]) (fun (A2 : Option Addr) (c2 : Nat) (bp : Nat) => Hp I w (busL b { s with sps := s.sps.set m ⟨A2, c2, insL (s.sp m).hs (aftM (s.sp m).hs p0) ⟨bp, p0, q0, o, none, 0, []⟩⟩ })) ?_ ?_
            · skip
              -- region 8 iospace.go:84
              refine KV.sel [0, 0, 0, 0, 0] [_, _, _, _, _] rfl ?_
              refine KV.heap (fun w h => openSp h (m := m) (by omega)) ?_
              refine CV.any (Hp I w [Blk b0_0 (.cells #[.int .u64 p0, .int .u64 q0] 32 (0, 0))]) (by kernel_rfl) (fun _ h => h.drew) 19 rfl ?_
              refine AV.take 0 #[true, false, false, false, false, false, false, false, false, false, false, false, false, false, false, false, false, false, false] rfl (by kernel_rfl) (by kernel_rfl) (by kernel_rfl) (fun _ _ _ h => h) gno (Step.move rfl) rfl (fun _ h => h.sel [6] rfl) (by kernel_rfl) ?_
              refine AV.take 1 #[true, true, false, false, false, false, false, false, false, false, false, false, false, false, false, false, false, false, false] rfl (by kernel_rfl) (by kernel_rfl) (by kernel_rfl) (fun _ _ _ h => h) gno (Step.move rfl) rfl (fun _ h => h.sel [6] rfl) (by kernel_rfl) ?_
              refine AV.take 2 #[true, true, true, false, false, false, false, false, false, false, false, false, false, false, false, false, false, false, false] rfl (by kernel_rfl) (by kernel_rfl) (by kernel_rfl) (fun _ _ _ h => h) gno (Step.move rfl) rfl (fun _ h => h.sel [6] rfl) (by kernel_rfl) ?_
              refine AV.take 3 #[true, true, true, true, false, false, false, false, false, false, false, false, false, false, false, false, false, false, false] rfl (by kernel_rfl) (by kernel_rfl) (by kernel_rfl) (fun _ _ _ h => h) gno (Step.move rfl) rfl (fun _ h => h.sel [6] rfl) (by kernel_rfl) ?_
              refine AV.take 4 #[true, true, true, true, true, false, false, false, false, false, false, false, false, false, false, false, false, false, false] rfl (by kernel_rfl) (by kernel_rfl) (by kernel_rfl) (fun _ _ _ h => h) gno (Step.nilCheck rfl) rfl (fun _ h => h.sel [6] rfl) (by kernel_rfl) ?_
              refine AV.take 5 #[true, true, true, true, true, true, false, false, false, false, false, false, false, false, false, false, false, false, false] rfl (by kernel_rfl) (by kernel_rfl) (by kernel_rfl) (fun _ _ _ h => h) gno (Step.fieldAddr rfl (F71_0 _ _)) rfl (fun _ h => h.sel [6] rfl) (by kernel_rfl) ?_
              refine AV.take 6 #[true, true, true, true, true, true, true, false, false, false, false, false, false, false, false, false, false, false, false] rfl (by kernel_rfl) (by kernel_rfl) (by kernel_rfl) (fun _ _ _ h => h) gno (Step.idxArr Try.underlying68 I67 rfl rfl _ rfl (by first | omega | (rw [List.length_map]; omega))) rfl (fun _ h => h.sel [6] rfl) (by kernel_rfl) ?_
              refine AV.take 8 #[true, true, true, true, true, true, true, false, true, false, false, false, false, false, false, false, false, false, false] rfl (by kernel_rfl) (by kernel_rfl) (by kernel_rfl) (fun _ _ _ h => h) gno (Step.move rfl) rfl (fun _ h => h.sel [6] rfl) (by kernel_rfl) ?_
              refine AV.take 9 #[true, true, true, true, true, true, true, false, true, true, false, false, false, false, false, false, false, false, false] rfl (by kernel_rfl) (by kernel_rfl) (by kernel_rfl) (fun _ _ _ h => h) gno (Step.loadN _ Try.underlying32 rfl I32 rfl rfl (fun w h => h.cells 0 rfl)) rfl (fun _ h => h.sel [6] rfl) (by kernel_rfl) ?_
              refine AV.take 10 #[true, true, true, true, true, true, true, false, true, true, true, false, false, false, false, false, false, false, false] rfl (by kernel_rfl) (by kernel_rfl) (by kernel_rfl) (fun _ _ _ h => h) gno (Step.move rfl) rfl (fun _ h => h.sel [6] rfl) (by kernel_rfl) ?_
              refine AV.take 11 #[true, true, true, true, true, true, true, false, true, true, true, true, false, false, false, false, false, false, false] rfl (by kernel_rfl) (by kernel_rfl) (by kernel_rfl) (fun _ _ _ h => h) gno (Step.build rfl (Bd77_0_1 _ _ _)) rfl (fun _ h => h.sel [6] rfl) (by kernel_rfl) ?_
              refine AV.take 15 #[true, true, true, true, true, true, true, false, true, true, true, true, false, false, false, true, false, false, false] rfl (by kernel_rfl) (by kernel_rfl) (by kernel_rfl) (fun _ _ _ h => h) gno (Step.nilCheck rfl) rfl (fun _ h => h.sel [6] rfl) (by kernel_rfl) ?_
              refine AV.take 16 #[true, true, true, true, true, true, true, false, true, true, true, true, false, false, false, true, true, false, false] rfl (by kernel_rfl) (by kernel_rfl) (by kernel_rfl) (fun _ _ _ h => h) gno (Step.fieldAddr rfl (F71_0 _ _)) rfl (fun _ h => h.sel [6] rfl) (by kernel_rfl) ?_
              refine AV.all [7, 12] (by kernel_rfl) (by decide) ?_
              refine ⟨⟨_, rfl, ?_⟩, ⟨⟨_, rfl, ?_⟩, trivial⟩⟩
              · -- 7 comes up
                refine OV.step gno (Step.load Try.underlying67 rfl rfl (fun w h => h.cell 0 rfl (busC_sp hw hm))) rfl ?_
                refine AV.next #[true, true, true, true, true, true, true, true, true, true, true, true, false, false, false, true, true, false, false] (by kernel_rfl) (fun _ h => h.sel [6] rfl) ?_
                refine AV.all [12] (by kernel_rfl) (by decide) ?_
                refine ⟨⟨_, rfl, ?_⟩, trivial⟩
                · -- 12 comes up
                  refine OV.box (t := 77) #[_, _, _, _] rfl rfl gno rfl (fun bp => ?_)
                  refine AV.next #[true, true, true, true, true, true, true, true, true, true, true, true, true, false, false, true, true, false, false] (by kernel_rfl) (fun _ h => h.sel [6] rfl) ?_
                  refine AV.all [13] (by kernel_rfl) (by decide) ?_
                  refine ⟨⟨_, rfl, ?_⟩, trivial⟩
                  · -- 13 comes up
                    refine OV.buildSlice (K := ptrK) ([some bp]) rfl (Bs67_1_0 _) rfl rfl (by omega) gno rfl (fun By => ?_)
                    refine AV.next #[true, true, true, true, true, true, true, true, true, true, true, true, true, true, false, true, true, false, false] (by kernel_rfl) (fun _ h => h.sel [6] rfl) ?_
                    refine AV.all [14] (by kernel_rfl) (by decide) ?_
                    refine ⟨⟨_, rfl, ?_⟩, trivial⟩
                    · -- 14 comes up
                      refine OV.call [1, 7] (F := [_, _, _, _, _, _, _]) Try.func28 B28 N28 rfl rfl (fun w h => insert_fn (ps := (s.sp m).hs.map fun h => some h.p) (i := (aftM (s.sp m).hs p0)) (List.length_map _).symm (by rw [List.length_map]; exact hsp.1) (by rw [List.length_map]; omega)) (fun _ hb => hb.elim) gno rfl (fun v L' hp => ?_)
                      obtain ⟨A2, c2, rfl, rfl⟩ := hp
                      rw [List.length_map, show (s.sp m).hs.length + 1 = (insL (s.sp m).hs (aftM (s.sp m).hs p0) (⟨bp, p0, q0, o, none, 0, []⟩ : MH)).length from (insL_length _ hsp.1).symm]
                      refine AV.next #[true, true, true, true, true, true, true, true, true, true, true, true, true, true, true, true, true, false, false] (by kernel_rfl) (fun _ h => h.sel [5] rfl) ?_
                      refine AV.take 17 #[true, true, true, true, true, true, true, true, true, true, true, true, true, true, true, true, true, true, false] rfl (by kernel_rfl) (by kernel_rfl) (by kernel_rfl) (fun _ _ _ h => h) gno (Step.idxArr Try.underlying68 I67 rfl rfl _ rfl (by first | omega | (rw [List.length_map]; omega))) rfl (fun _ h => h.sel [5] rfl) (by kernel_rfl) ?_
                      refine AV.all [18] (by kernel_rfl) (by decide) ?_
                      refine ⟨⟨_, rfl, ?_⟩, trivial⟩
                      · -- 18 comes up
                        refine OV.store 0 [_] (busC { s with sps := s.sps.set m ⟨A2, c2, insL (s.sp m).hs (aftM (s.sp m).hs p0) ⟨bp, p0, q0, o, none, 0, []⟩⟩ }).toArray I67 rfl rfl rfl rfl rfl (by show _ + 1 ≤ (busC _).toArray.size; rw [List.size_toArray, busC_len hw]; omega) (by simp [Value.oneCell']) (set_of hw (by omega) (set_sp hw hm ⟨A2, c2, insL (s.sp m).hs (aftM (s.sp m).hs p0) ⟨bp, p0, q0, o, none, 0, []⟩⟩)) gno ?_
                        refine AV.next #[true, true, true, true, true, true, true, true, true, true, true, true, true, true, true, true, true, true, true] (by kernel_rfl) (fun _ h => h.sel [5] rfl) ?_
                        refine AV.done (by kernel_rfl) ?_
                        refine KV.then_n ?_
                        refine KV.env [(0, _)] ⟨rfl, trivial⟩ ?_
                        refine KV.sel [0, 6, 0, 0, 0, 0, 1] [_, _, _, _, _, _, _] rfl ?_
                        exact KV.join3 (A2) (c2) (bp) ⟨rfl, trivial⟩ (fun _ h => mapClose hw3 hm h)
              · -- 12 comes up
                refine OV.box (t := 77) #[_, _, _, _] rfl rfl gno rfl (fun bp => ?_)
                refine AV.next #[true, true, true, true, true, true, true, false, true, true, true, true, true, false, false, true, true, false, false] (by kernel_rfl) (fun _ h => h.sel [6] rfl) ?_
                refine AV.all [7, 13] (by kernel_rfl) (by decide) ?_
                refine ⟨⟨_, rfl, ?_⟩, ⟨⟨_, rfl, ?_⟩, trivial⟩⟩
                · -- 7 comes up
                  refine OV.step gno (Step.load Try.underlying67 rfl rfl (fun w h => h.cell 0 rfl (busC_sp hw hm))) rfl ?_
                  refine AV.next #[true, true, true, true, true, true, true, true, true, true, true, true, true, false, false, true, true, false, false] (by kernel_rfl) (fun _ h => h.sel [6] rfl) ?_
                  refine AV.all [13] (by kernel_rfl) (by decide) ?_
                  refine ⟨⟨_, rfl, ?_⟩, trivial⟩
                  · -- 13 comes up
                    refine OV.buildSlice (K := ptrK) ([some bp]) rfl (Bs67_1_0 _) rfl rfl (by omega) gno rfl (fun By => ?_)
                    refine AV.next #[true, true, true, true, true, true, true, true, true, true, true, true, true, true, false, true, true, false, false] (by kernel_rfl) (fun _ h => h.sel [6] rfl) ?_
                    refine AV.all [14] (by kernel_rfl) (by decide) ?_
                    refine ⟨⟨_, rfl, ?_⟩, trivial⟩
                    · -- 14 comes up
                      refine OV.call [1, 7] (F := [_, _, _, _, _, _, _]) Try.func28 B28 N28 rfl rfl (fun w h => insert_fn (ps := (s.sp m).hs.map fun h => some h.p) (i := (aftM (s.sp m).hs p0)) (List.length_map _).symm (by rw [List.length_map]; exact hsp.1) (by rw [List.length_map]; omega)) (fun _ hb => hb.elim) gno rfl (fun v L' hp => ?_)
                      obtain ⟨A2, c2, rfl, rfl⟩ := hp
                      rw [List.length_map, show (s.sp m).hs.length + 1 = (insL (s.sp m).hs (aftM (s.sp m).hs p0) (⟨bp, p0, q0, o, none, 0, []⟩ : MH)).length from (insL_length _ hsp.1).symm]
                      refine AV.next #[true, true, true, true, true, true, true, true, true, true, true, true, true, true, true, true, true, false, false] (by kernel_rfl) (fun _ h => h.sel [5] rfl) ?_
                      refine AV.take 17 #[true, true, true, true, true, true, true, true, true, true, true, true, true, true, true, true, true, true, false] rfl (by kernel_rfl) (by kernel_rfl) (by kernel_rfl) (fun _ _ _ h => h) gno (Step.idxArr Try.underlying68 I67 rfl rfl _ rfl (by first | omega | (rw [List.length_map]; omega))) rfl (fun _ h => h.sel [5] rfl) (by kernel_rfl) ?_
                      refine AV.all [18] (by kernel_rfl) (by decide) ?_
                      refine ⟨⟨_, rfl, ?_⟩, trivial⟩
                      · -- 18 comes up
                        refine OV.store 0 [_] (busC { s with sps := s.sps.set m ⟨A2, c2, insL (s.sp m).hs (aftM (s.sp m).hs p0) ⟨bp, p0, q0, o, none, 0, []⟩⟩ }).toArray I67 rfl rfl rfl rfl rfl (by show _ + 1 ≤ (busC _).toArray.size; rw [List.size_toArray, busC_len hw]; omega) (by simp [Value.oneCell']) (set_of hw (by omega) (set_sp hw hm ⟨A2, c2, insL (s.sp m).hs (aftM (s.sp m).hs p0) ⟨bp, p0, q0, o, none, 0, []⟩⟩)) gno ?_
                        refine AV.next #[true, true, true, true, true, true, true, true, true, true, true, true, true, true, true, true, true, true, true] (by kernel_rfl) (fun _ h => h.sel [5] rfl) ?_
                        refine AV.done (by kernel_rfl) ?_
                        refine KV.then_n ?_
                        refine KV.env [(0, _)] ⟨rfl, trivial⟩ ?_
                        refine KV.sel [0, 6, 0, 0, 0, 0, 1] [_, _, _, _, _, _, _] rfl ?_
                        exact KV.join3 (A2) (c2) (bp) ⟨rfl, trivial⟩ (fun _ h => mapClose hw3 hm h)
                · -- 13 comes up
                  refine OV.buildSlice (K := ptrK) ([some bp]) rfl (Bs67_1_0 _) rfl rfl (by omega) gno rfl (fun By => ?_)
                  refine AV.next #[true, true, true, true, true, true, true, false, true, true, true, true, true, true, false, true, true, false, false] (by kernel_rfl) (fun _ h => h.sel [6] rfl) ?_
                  refine AV.all [7] (by kernel_rfl) (by decide) ?_
                  refine ⟨⟨_, rfl, ?_⟩, trivial⟩
                  · -- 7 comes up
                    refine OV.step gno (Step.load Try.underlying67 rfl rfl (fun w h => h.cell 0 rfl (busC_sp hw hm))) rfl ?_
                    refine AV.next #[true, true, true, true, true, true, true, true, true, true, true, true, true, true, false, true, true, false, false] (by kernel_rfl) (fun _ h => h.sel [6] rfl) ?_
                    refine AV.all [14] (by kernel_rfl) (by decide) ?_
                    refine ⟨⟨_, rfl, ?_⟩, trivial⟩
                    · -- 14 comes up
                      refine OV.call [1, 7] (F := [_, _, _, _, _, _, _]) Try.func28 B28 N28 rfl rfl (fun w h => insert_fn (ps := (s.sp m).hs.map fun h => some h.p) (i := (aftM (s.sp m).hs p0)) (List.length_map _).symm (by rw [List.length_map]; exact hsp.1) (by rw [List.length_map]; omega)) (fun _ hb => hb.elim) gno rfl (fun v L' hp => ?_)
                      obtain ⟨A2, c2, rfl, rfl⟩ := hp
                      rw [List.length_map, show (s.sp m).hs.length + 1 = (insL (s.sp m).hs (aftM (s.sp m).hs p0) (⟨bp, p0, q0, o, none, 0, []⟩ : MH)).length from (insL_length _ hsp.1).symm]
                      refine AV.next #[true, true, true, true, true, true, true, true, true, true, true, true, true, true, true, true, true, false, false] (by kernel_rfl) (fun _ h => h.sel [5] rfl) ?_
                      refine AV.take 17 #[true, true, true, true, true, true, true, true, true, true, true, true, true, true, true, true, true, true, false] rfl (by kernel_rfl) (by kernel_rfl) (by kernel_rfl) (fun _ _ _ h => h) gno (Step.idxArr Try.underlying68 I67 rfl rfl _ rfl (by first | omega | (rw [List.length_map]; omega))) rfl (fun _ h => h.sel [5] rfl) (by kernel_rfl) ?_
                      refine AV.all [18] (by kernel_rfl) (by decide) ?_
                      refine ⟨⟨_, rfl, ?_⟩, trivial⟩
                      · -- 18 comes up
                        refine OV.store 0 [_] (busC { s with sps := s.sps.set m ⟨A2, c2, insL (s.sp m).hs (aftM (s.sp m).hs p0) ⟨bp, p0, q0, o, none, 0, []⟩⟩ }).toArray I67 rfl rfl rfl rfl rfl (by show _ + 1 ≤ (busC _).toArray.size; rw [List.size_toArray, busC_len hw]; omega) (by simp [Value.oneCell']) (set_of hw (by omega) (set_sp hw hm ⟨A2, c2, insL (s.sp m).hs (aftM (s.sp m).hs p0) ⟨bp, p0, q0, o, none, 0, []⟩⟩)) gno ?_
                        refine AV.next #[true, true, true, true, true, true, true, true, true, true, true, true, true, true, true, true, true, true, true] (by kernel_rfl) (fun _ h => h.sel [5] rfl) ?_
                        refine AV.done (by kernel_rfl) ?_
                        refine KV.then_n ?_
                        refine KV.env [(0, _)] ⟨rfl, trivial⟩ ?_
                        refine KV.sel [0, 6, 0, 0, 0, 0, 1] [_, _, _, _, _, _, _] rfl ?_
                        exact KV.join3 (A2) (c2) (bp) ⟨rfl, trivial⟩ (fun _ h => mapClose hw3 hm h)
            · intro A2 c2 bp
              have hw1 : BS.wf ({ s with sps := s.sps.set m ⟨A2, c2, insL (s.sp m).hs (aftM (s.sp m).hs p0) ⟨bp, p0, q0, o, none, 0, []⟩⟩ } : BS) := ⟨by show (s.sps.set m _).length = 3; rw [List.length_set]; exact hw3, hw.en⟩
              refine CV.seq ?_
              -- region 9 iospace.go:85
              refine CV.region ?_
              refine RV.op (OV.step gno (Step.move rfl) rfl ?_)
              refine RV.op (OV.step gno (Step.nilCheck rfl) rfl ?_)
              refine RV.op (OV.step gno (Step.fieldAddr rfl (F71_1 _ _)) rfl ?_)
              refine RV.op (OV.step gno (Step.load Try.underlying3 rfl rfl (fun w h => h.cell 0 rfl (busC_tot hw1))) rfl ?_)
              refine RV.op (OV.step gno (Step.add rfl rfl (wI64 (by have := hk.tot; have := hk.max; show _ ≤ s.total + 1; omega) (by have := hk.tot; have := hk.max; show s.total + 1 ≤ _; omega))) rfl ?_)
              refine RV.op (OV.step gno (Step.nilCheck rfl) rfl ?_)
              refine RV.op (OV.step gno (Step.fieldAddr rfl (F71_1 _ _)) rfl ?_)
              refine RV.op (OV.store 0 [_] (busC (mapG s m ⟨bp, p0, q0, o, none, 0, []⟩ A2 c2)).toArray I3 rfl rfl rfl rfl rfl (by show _ + 1 ≤ (busC _).toArray.size; rw [List.size_toArray, busC_len hw1]; omega) (by simp [Value.oneCell']) (set_of hw1 (by omega) (set_tot hw1 _)) gno ?_)
              refine RV.nil ?_
              refine KV.then_n ?_
              refine KV.env [] trivial ?_
              refine CV.seq ?_
              -- region 10 iospace.go:86
              refine CV.region ?_
              refine RV.op (OV.step gno (Step.assign rfl) rfl ?_)
              refine RV.nil ?_
              refine KV.then_n ?_
              refine KV.env [(8, _)] ⟨rfl, trivial⟩ ?_
              refine CV.ret ?_
              -- return at r10
              refine KV.sel [0, 0, 0, 0] [_, _, _, _] rfl ?_
              have hgd : ((0 ≤ (m : Int) ∧ (m : Int) < 3) ∧ okR p0 q0 ∧ 0 ≤ o ∧ o < 256) := ⟨hz, hr, ho⟩
              have hbu : ¬ busy (s.sp m).hs p0 q0 := fun k => by first | exact ha k.1 | exact absurd k.2 (of_decide_eq_false (by assumption))
              refine KV.ret1 rfl rfl _ (fun _ h => h) ⟨fun h => absurd hgd h, fun m2 e2 _ => ?_⟩
              obtain rfl : m = m2 := by omega
              exact ⟨fun h => absurd h hbu, fun _ => ⟨fun h => absurd h ht, fun _ => ⟨rfl, _, _, _, rfl⟩⟩⟩
      · rw [decide_eq_false ho]
        refine RV.op (OV.step (gyes rfl) (Step.not rfl) rfl ?_)
        refine RV.op (OV.step gno (Step.pick_f rfl rfl) rfl ?_)
        refine RV.nil ?_
        refine KV.then_n ?_
        refine KV.env [(0, _), (1, _), (3, _), (6, _), (22, _)] ⟨rfl, rfl, rfl, rfl, rfl, trivial⟩ ?_
        refine CV.cond_t rfl ?_
        refine CV.seq ?_
        -- region 2 iospace.go:75
        refine CV.region ?_
        refine RV.op (OV.step gno (Step.assign rfl) rfl ?_)
        refine RV.nil ?_
        refine KV.then_n ?_
        refine KV.env [(8, _)] ⟨rfl, trivial⟩ ?_
        refine CV.ret ?_
        refine KV.then_ret ?_
        -- return at r2
        refine KV.sel [0, 0, 0, 0] [_, _, _, _] rfl ?_
        refine KV.ret1 rfl rfl _ (fun _ h => h) ⟨fun _ => ⟨rfl, rfl⟩, fun m2 _ hg => ?_⟩
        exfalso
        first | exact hz hg.1 | exact hr hg.2.1 | exact ho hg.2.2
    · rw [decide_eq_false hr]
      refine RV.op (OV.step (gyes rfl) (Step.not rfl) rfl ?_)
      refine RV.op (OV.step gno (Step.pick_f rfl rfl) rfl ?_)
      refine RV.op (OV.step gno (Step.move rfl) rfl ?_)
      refine RV.op (OV.skip rfl rfl ?_)
      refine RV.op (OV.skip rfl rfl ?_)
      refine RV.op (OV.skip rfl rfl ?_)
      refine RV.op (OV.step gno (Step.pick_t rfl rfl) rfl ?_)
      refine RV.nil ?_
      refine KV.then_n ?_
      refine KV.env [(0, _), (1, _), (3, _), (6, _), (22, _)] ⟨rfl, rfl, rfl, rfl, rfl, trivial⟩ ?_
      refine CV.cond_t rfl ?_
      refine CV.seq ?_
      -- region 2 iospace.go:75
      refine CV.region ?_
      refine RV.op (OV.step gno (Step.assign rfl) rfl ?_)
      refine RV.nil ?_
      refine KV.then_n ?_
      refine KV.env [(8, _)] ⟨rfl, trivial⟩ ?_
      refine CV.ret ?_
      refine KV.then_ret ?_
      -- return at r2
      refine KV.sel [0, 0, 0, 0] [_, _, _, _] rfl ?_
      refine KV.ret1 rfl rfl _ (fun _ h => h) ⟨fun _ => ⟨rfl, rfl⟩, fun m2 _ hg => ?_⟩
      exfalso
      first | exact hz hg.1 | exact hr hg.2.1 | exact ho hg.2.2
  · rw [decide_eq_false hz]
    refine RV.op (OV.step gno (Step.not rfl) rfl ?_)
    refine RV.op (OV.step gno (Step.move rfl) rfl ?_)
    refine RV.op (OV.skip rfl rfl ?_)
    refine RV.op (OV.skip rfl rfl ?_)
    refine RV.op (OV.skip rfl rfl ?_)
    refine RV.op (OV.step gno (Step.pick_t rfl rfl) rfl ?_)
    refine RV.op (OV.step gno (Step.move rfl) rfl ?_)
    refine RV.op (OV.skip rfl rfl ?_)
    refine RV.op (OV.skip rfl rfl ?_)
    refine RV.op (OV.skip rfl rfl ?_)
    refine RV.op (OV.step gno (Step.pick_t rfl rfl) rfl ?_)
    refine RV.nil ?_
    refine KV.then_n ?_
    refine KV.env [(0, _), (1, _), (3, _), (6, _), (22, _)] ⟨rfl, rfl, rfl, rfl, rfl, trivial⟩ ?_
    refine CV.cond_t rfl ?_
    refine CV.seq ?_
    -- region 2 iospace.go:75
    refine CV.region ?_
    refine RV.op (OV.step gno (Step.assign rfl) rfl ?_)
    refine RV.nil ?_
    refine KV.then_n ?_
    refine KV.env [(8, _)] ⟨rfl, trivial⟩ ?_
    refine CV.ret ?_
    refine KV.then_ret ?_
    -- return at r2
    refine KV.sel [0, 0, 0, 0] [_, _, _, _] rfl ?_
    refine KV.ret1 rfl rfl _ (fun _ h => h) ⟨fun _ => ⟨rfl, rfl⟩, fun m2 _ hg => ?_⟩
    exfalso
    first | exact hz hg.1 | exact hr hg.2.1 | exact ho hg.2.2
end Go.Proofs.Ythdpojggdodpfaa
