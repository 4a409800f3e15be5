/-
  Walks, part 18.
-/
import Derived.Test.YthdpojggdodpfaaTabs
import Derived.Test.YthdpojggdodpfaaW16
set_option linter.unusedSimpArgs false
set_option linter.unusedVariables false
namespace Go.Proofs.Ythdpojggdodpfaa
open Go.Sv Go.Ios
set_option maxRecDepth 100000 in
set_option maxHeartbeats 4000000 in
theorem rmap_fn (b : Nat) (s : RB) {w : World} (hk : s.ok) (z p0 q0 o : Int) (hp0 : isU p0) : Fx Try.prog 35 [.pointer (some ⟨b, 0, none⟩), .int .i64 z, .agg #[.int .u64 p0, .int .u64 q0], .int .i64 o] w (rbL b s) no (fun r L => (¬ ((0 ≤ z ∧ z < 3) ∧ okR p0 q0 ∧ 0 ≤ o ∧ o < 256) → r = .int .i64 1 ∧ L = rbL b s) ∧ ((0 ≤ z ∧ z < 3) ∧ okR p0 q0 ∧ 0 ≤ o ∧ o < 256 → ((∃ i, i < s.ms.length ∧ busyR s.ms z p0 q0 i) → r = .int .i64 17 ∧ L = rbL b s) ∧ ((∀ i, i < s.ms.length → ¬ busyR s.ms z p0 q0 i) → (s.ms.length = 256 → r = .int .i64 8 ∧ L = rbL b s) ∧ (s.ms.length ≠ 256 → r = .int .i64 0 ∧ ∃ A A2 c2, L = rbL b (radd s (rnew z p0 q0 o A) A2 c2))))) := by
  refine Sv.Fx.body Try.func35 rfl T35 rfl ?_
  intro I hro hI
  refine KV.env [(0, _), (1, _), (2, _), (3, _)] ⟨rfl, rfl, rfl, rfl, trivial⟩ ?_
  have hw := hk.en
  have hmx := hk.max
  have hfx := hk.fl
  refine CV.seq ?_
  -- region 0 iospace.go:44
  refine CV.region ?_
  refine RV.op (OV.box (t := 32) #[_, _] rfl rfl gno rfl (fun b0_0 => ?_))
  refine RV.op (OV.step gno (Step.assign rfl) rfl ?_)
  refine RV.nil ?_
  refine KV.then_n ?_
  refine KV.env [(0, _), (1, _), (3, _), (6, _)] ⟨rfl, rfl, rfl, rfl, trivial⟩ ?_
  refine CV.seq ?_
  refine CV.seq ?_
  -- region 1 iospace.go:45
  refine CV.region ?_
  refine RV.op (OV.step gno (Step.move rfl) rfl ?_)
  refine RV.op (OV.call [] Try.func52 B52 N52 rfl rfl (fun w h => (ordinary_fn z).fn w) (fun _ hb => hb.elim) gno rfl (fun v L' hp => ?_))
  obtain ⟨rfl, rfl⟩ := hp
  simp only [List.append_nil]
  by_cases hz : 0 ≤ z ∧ z < 3
  · rw [decide_eq_true hz]
    refine RV.op (OV.step gno (Step.not rfl) rfl ?_)
    refine RV.op (OV.step gno (Step.move rfl) rfl ?_)
    refine RV.op (OV.step (gyes rfl) (Step.loadN _ Try.underlying32 rfl I32 rfl rfl (fun w h => h.cells 5 rfl)) rfl ?_)
    refine RV.op (OV.call [] (F := [_, _, _, _, _, _]) Try.func53 B53 N53 rfl rfl (fun w h => rvalid_fn p0 q0 hp0) (fun _ hb => hb.elim) (gyes rfl) rfl (fun v L' hp => ?_))
    obtain ⟨rfl, rfl⟩ := hp
    simp only [List.append_nil]
    by_cases hr : okR p0 q0
    · rw [decide_eq_true hr]
      refine RV.op (OV.step (gyes rfl) (Step.not rfl) rfl ?_)
      refine RV.op (OV.step gno (Step.pick_f rfl rfl) rfl ?_)
      refine RV.op (OV.step gno (Step.move rfl) rfl ?_)
      refine RV.op (OV.step (gyes rfl) (Step.move rfl) rfl ?_)
      refine RV.op (OV.split (gyes rfl) (Step.lss rfl rfl) rfl (fun h1 => ?_) (fun h1 => ?_))
      · -- True
        refine RV.op (OV.step gno (Step.pick_f rfl rfl) rfl ?_)
        refine RV.op (OV.step gno (Step.move rfl) rfl ?_)
        refine RV.op (OV.skip rfl rfl ?_)
        refine RV.op (OV.skip rfl rfl ?_)
        refine RV.op (OV.step gno (Step.pick_t rfl rfl) rfl ?_)
        refine RV.nil ?_
        refine KV.then_n ?_
        refine KV.env [(0, _), (1, _), (3, _), (6, _), (25, _)] ⟨rfl, rfl, rfl, rfl, rfl, trivial⟩ ?_
        refine CV.cond_t rfl ?_
        refine CV.seq ?_
        -- region 2 iospace.go:46
        refine CV.region ?_
        refine RV.op (OV.step gno (Step.assign rfl) rfl ?_)
        refine RV.nil ?_
        refine KV.then_n ?_
        refine KV.env [(8, _)] ⟨rfl, trivial⟩ ?_
        refine CV.ret ?_
        refine KV.then_ret ?_
        -- return at r2
        refine KV.sel [0, 0, 0, 0, 0] [_, _, _, _, _] rfl ?_
        have hbad : ¬ ((0 ≤ z ∧ z < 3) ∧ okR p0 q0 ∧ 0 ≤ o ∧ o < 256) := by first | exact fun k => hz k.1 | exact fun k => hr k.2.1 | (intro k; omega)
        exact KV.ret1 rfl rfl _ (fun _ h => h) ⟨fun _ => ⟨rfl, rfl⟩, fun h => absurd h hbad⟩
      · -- False
        refine RV.op (OV.step gno (Step.pick_f rfl rfl) rfl ?_)
        refine RV.op (OV.step gno (Step.move rfl) rfl ?_)
        refine RV.op (OV.step (gyes rfl) (Step.move rfl) rfl ?_)
        refine RV.op (OV.split (gyes rfl) (Step.geq rfl rfl) rfl (fun h2 => ?_) (fun h2 => ?_))
        · -- True
          refine RV.op (OV.step gno (Step.pick_f rfl rfl) rfl ?_)
          refine RV.nil ?_
          refine KV.then_n ?_
          refine KV.env [(0, _), (1, _), (3, _), (6, _), (25, _)] ⟨rfl, rfl, rfl, rfl, rfl, trivial⟩ ?_
          refine CV.cond_t rfl ?_
          refine CV.seq ?_
          -- region 2 iospace.go:46
          refine CV.region ?_
          refine RV.op (OV.step gno (Step.assign rfl) rfl ?_)
          refine RV.nil ?_
          refine KV.then_n ?_
          refine KV.env [(8, _)] ⟨rfl, trivial⟩ ?_
          refine CV.ret ?_
          refine KV.then_ret ?_
          -- return at r2
          refine KV.sel [0, 0, 0, 0, 0] [_, _, _, _, _] rfl ?_
          have hbad : ¬ ((0 ≤ z ∧ z < 3) ∧ okR p0 q0 ∧ 0 ≤ o ∧ o < 256) := by first | exact fun k => hz k.1 | exact fun k => hr k.2.1 | (intro k; omega)
          exact KV.ret1 rfl rfl _ (fun _ h => h) ⟨fun _ => ⟨rfl, rfl⟩, fun h => absurd h hbad⟩
        · -- False
          refine RV.op (OV.step gno (Step.pick_f rfl rfl) rfl ?_)
          refine RV.nil ?_
          refine KV.then_n ?_
          refine KV.env [(0, _), (1, _), (3, _), (6, _), (25, _)] ⟨rfl, rfl, rfl, rfl, rfl, trivial⟩ ?_
          refine CV.cond_f rfl ?_
          refine CV.skip ?_
          refine KV.then_n ?_
          refine KV.env [(0, _), (1, _), (3, _), (6, _)] ⟨rfl, rfl, rfl, rfl, trivial⟩ ?_
          refine CV.seq ?_
          refine CV.seq ?_
          -- region 3 iospace.go:48
          refine CV.region ?_
          refine RV.op (OV.step gno (Step.assign rfl) rfl ?_)
          refine RV.nil ?_
          refine KV.then_n ?_
          refine KV.env [(0, _), (1, _), (3, _), (6, _), (9, _)] ⟨rfl, rfl, rfl, rfl, rfl, trivial⟩ ?_
          refine CV.block ?_
          -- loop L4; live [0, 1, 3, 6, 9]
          refine KV.sel [0, 0, 0, 0, 0, 0] [_, _, _, _, _, _] rfl ?_
          refine CV.loopI (fun (j : Nat) => j ≤ s.ms.length ∧ ∀ k, k < j → ¬ busyR s.ms z p0 q0 k) (fun (j : Nat) => s.ms.length - j) (fun (j : Nat) => [(0, .pointer (some ⟨b, 0, none⟩)), (1, .int .i64 z), (3, .int .i64 o), (6, .pointer (some ⟨b0_0, 0, none⟩)), (9, .int .i64 j)]) (fun (j : Nat) => Hp I w (rbL b s ++ [Blk b0_0 (.cells #[.int .u64 p0, .int .u64 q0] 32 (0, 0))])) (0) ⟨Nat.zero_le _, fun i hi => by omega⟩ ⟨rfl, rfl, rfl, rfl, rfl, trivial⟩ (fun _ h => h) ?_
          intro j hinv
          refine CV.seq ?_
          refine CV.seq ?_
          -- region 4 iospace.go:48
          refine CV.region ?_
          refine RV.op (OV.step gno (Step.move rfl) rfl ?_)
          refine RV.op (OV.step gno (Step.move rfl) rfl ?_)
          refine RV.op (OV.step gno (Step.nilCheck rfl) rfl ?_)
          refine RV.op (OV.step gno (Step.fieldAddr rfl (F56_0 _ _)) rfl ?_)
          refine RV.op (OV.step gno (Step.load Try.underlying51 rfl rfl (fun w h => h.cell 0 rfl (rbC_m hw))) rfl ?_)
          refine RV.op (OV.step gno (Step.lenSl Try.underlying51 rfl) rfl ?_)
          refine RV.op (OV.split gno (Step.lss rfl rfl) rfl (fun hj => ?_) (fun hj => ?_))
          · -- True
            refine RV.nil ?_
            refine KV.then_n ?_
            refine KV.env [(0, _), (1, _), (3, _), (6, _), (9, _), (32, _)] ⟨rfl, rfl, rfl, rfl, rfl, rfl, trivial⟩ ?_
            refine CV.cond_t rfl ?_
            refine CV.skip ?_
            refine KV.then_n ?_
            refine KV.env [(0, _), (1, _), (3, _), (6, _), (9, _)] ⟨rfl, rfl, rfl, rfl, rfl, trivial⟩ ?_
            refine CV.seq ?_
            refine CV.block ?_
            refine CV.seq ?_
            -- region 6 iospace.go:49
            refine KV.sel [0, 0, 0, 0, 0, 0] [_, _, _, _, _, _] rfl ?_
            refine CV.any (Hp I w (rbL b s ++ [Blk b0_0 (.cells #[.int .u64 p0, .int .u64 q0] 32 (0, 0))])) (by kernel_rfl) (fun _ h => h.drew) 22 rfl ?_
            refine AV.take 0 #[true, false, false, false, false, false, false, false, false, false, false, false, false, false, false, false, false, false, false, false, false, false] rfl (by kernel_rfl) (by kernel_rfl) (by kernel_rfl) (fun _ _ _ h => h) gno (Step.move rfl) rfl (fun _ h => h.sel [0, 0, 0, 0, 0, 0] rfl) (by kernel_rfl) ?_
            refine AV.take 1 #[true, true, false, false, false, false, false, false, false, false, false, false, false, false, false, false, false, false, false, false, false, false] rfl (by kernel_rfl) (by kernel_rfl) (by kernel_rfl) (fun _ _ _ h => h) gno (Step.nilCheck rfl) rfl (fun _ h => h.sel [0, 0, 0, 0, 0, 0] rfl) (by kernel_rfl) ?_
            refine AV.take 2 #[true, true, true, false, false, false, false, false, false, false, false, false, false, false, false, false, false, false, false, false, false, false] rfl (by kernel_rfl) (by kernel_rfl) (by kernel_rfl) (fun _ _ _ h => h) gno (Step.fieldAddr rfl (F56_0 _ _)) rfl (fun _ h => h.sel [0, 0, 0, 0, 0, 0] rfl) (by kernel_rfl) ?_
            refine AV.take 3 #[true, true, true, true, false, false, false, false, false, false, false, false, false, false, false, false, false, false, false, false, false, false] rfl (by kernel_rfl) (by kernel_rfl) (by kernel_rfl) (fun _ _ _ h => h) gno (Step.load Try.underlying51 rfl rfl (fun w h => h.cell 0 rfl (rbC_m hw))) rfl (fun _ h => h.sel [0, 0, 0, 0, 0, 0] rfl) (by kernel_rfl) ?_
            refine AV.take 4 #[true, true, true, true, true, false, false, false, false, false, false, false, false, false, false, false, false, false, false, false, false, false] rfl (by kernel_rfl) (by kernel_rfl) (by kernel_rfl) (fun _ _ _ h => h) gno (Step.move rfl) rfl (fun _ h => h.sel [0, 0, 0, 0, 0, 0] rfl) (by kernel_rfl) ?_
            refine AV.take 5 #[true, true, true, true, true, true, false, false, false, false, false, false, false, false, false, false, false, false, false, false, false, false] rfl (by kernel_rfl) (by kernel_rfl) (by kernel_rfl) (fun _ _ _ h => h) gno (Step.idx Try.underlying51 I94 (fun w h => h.os 1 rfl) rfl rfl (rfl) _ rfl (by omega)) rfl (fun _ h => h.sel [0, 0, 0, 0, 0, 0] rfl) (by kernel_rfl) ?_
            refine AV.take 6 #[true, true, true, true, true, true, true, false, false, false, false, false, false, false, false, false, false, false, false, false, false, false] rfl (by kernel_rfl) (by kernel_rfl) (by kernel_rfl) (fun _ _ _ h => h) gno (Step.fieldAddr rfl (F94_0 _ _)) rfl (fun _ h => h.sel [0, 0, 0, 0, 0, 0] rfl) (by kernel_rfl) ?_
            refine AV.take 7 #[true, true, true, true, true, true, true, true, false, false, false, false, false, false, false, false, false, false, false, false, false, false] rfl (by kernel_rfl) (by kernel_rfl) (by kernel_rfl) (fun _ _ _ h => h) gno (Step.load Try.underlying3 rfl rfl (fun w h => (h.os 1 rfl).cell0 (by omega) rfl)) rfl (fun _ h => h.sel [0, 0, 0, 0, 0, 0] rfl) (by kernel_rfl) ?_
            refine AV.take 8 #[true, true, true, true, true, true, true, true, true, false, false, false, false, false, false, false, false, false, false, false, false, false] rfl (by kernel_rfl) (by kernel_rfl) (by kernel_rfl) (fun _ _ _ h => h) gno (Step.move rfl) rfl (fun _ h => h.sel [0, 0, 0, 0, 0, 0] rfl) (by kernel_rfl) ?_
            refine AV.take 9 #[true, true, true, true, true, true, true, true, true, true, false, false, false, false, false, false, false, false, false, false, false, false] rfl (by kernel_rfl) (by kernel_rfl) (by kernel_rfl) (fun _ _ _ h => h) gno (Step.eql rfl rfl) rfl (fun _ h => h.sel [0, 0, 0, 0, 0, 0] rfl) (by kernel_rfl) ?_
            refine AV.take 10 #[true, true, true, true, true, true, true, true, true, true, true, false, false, false, false, false, false, false, false, false, false, false] rfl (by kernel_rfl) (by kernel_rfl) (by kernel_rfl) (fun _ _ _ h => h) gno (Step.move rfl) rfl (fun _ h => h.sel [0, 0, 0, 0, 0, 0] rfl) (by kernel_rfl) ?_
            refine KV.cases 45 rfl (fun cc1 => ?_) (fun cc1 => ?_)
            · -- True
              have e1 := of_decide_eq_true cc1
              refine AV.take 11 #[true, true, true, true, true, true, true, true, true, true, true, true, false, false, false, false, false, false, false, false, false, false] rfl (by kernel_rfl) (by kernel_rfl) (by kernel_rfl) (fun _ _ _ h => h) (gyes rfl) (Step.move rfl) rfl (fun _ h => h.sel [0, 0, 0, 0, 0, 0] rfl) (by kernel_rfl) ?_
              refine AV.take 12 #[true, true, true, true, true, true, true, true, true, true, true, true, true, false, false, false, false, false, false, false, false, false] rfl (by kernel_rfl) (by kernel_rfl) (by kernel_rfl) (fun _ _ _ h => h) (gyes rfl) (Step.nilCheck rfl) rfl (fun _ h => h.sel [0, 0, 0, 0, 0, 0] rfl) (by kernel_rfl) ?_
              refine AV.take 13 #[true, true, true, true, true, true, true, true, true, true, true, true, true, true, false, false, false, false, false, false, false, false] rfl (by kernel_rfl) (by kernel_rfl) (by kernel_rfl) (fun _ _ _ h => h) (gyes rfl) (Step.fieldAddr rfl (F56_0 _ _)) rfl (fun _ h => h.sel [0, 0, 0, 0, 0, 0] rfl) (by kernel_rfl) ?_
              refine AV.take 14 #[true, true, true, true, true, true, true, true, true, true, true, true, true, true, true, false, false, false, false, false, false, false] rfl (by kernel_rfl) (by kernel_rfl) (by kernel_rfl) (fun _ _ _ h => h) (gyes rfl) (Step.load Try.underlying51 rfl rfl (fun w h => h.cell 0 rfl (rbC_m hw))) rfl (fun _ h => h.sel [0, 0, 0, 0, 0, 0] rfl) (by kernel_rfl) ?_
              refine AV.take 15 #[true, true, true, true, true, true, true, true, true, true, true, true, true, true, true, true, false, false, false, false, false, false] rfl (by kernel_rfl) (by kernel_rfl) (by kernel_rfl) (fun _ _ _ h => h) (gyes rfl) (Step.move rfl) rfl (fun _ h => h.sel [0, 0, 0, 0, 0, 0] rfl) (by kernel_rfl) ?_
              refine AV.take 16 #[true, true, true, true, true, true, true, true, true, true, true, true, true, true, true, true, true, false, false, false, false, false] rfl (by kernel_rfl) (by kernel_rfl) (by kernel_rfl) (fun _ _ _ h => h) (gyes rfl) (Step.idx Try.underlying51 I94 (fun w h => h.os 1 rfl) rfl rfl (rfl) _ rfl (by omega)) rfl (fun _ h => h.sel [0, 0, 0, 0, 0, 0] rfl) (by kernel_rfl) ?_
              refine AV.take 17 #[true, true, true, true, true, true, true, true, true, true, true, true, true, true, true, true, true, true, false, false, false, false] rfl (by kernel_rfl) (by kernel_rfl) (by kernel_rfl) (fun _ _ _ h => h) (gyes rfl) (Step.fieldAddr rfl (F94_1 _ _)) rfl (fun _ h => h.sel [0, 0, 0, 0, 0, 0] rfl) (by kernel_rfl) ?_
              refine AV.take 18 #[true, true, true, true, true, true, true, true, true, true, true, true, true, true, true, true, true, true, true, false, false, false] rfl (by kernel_rfl) (by kernel_rfl) (by kernel_rfl) (fun _ _ _ h => h) (gyes rfl) (Step.loadN _ Try.underlying32 rfl I32 rfl rfl (fun w h => rngR (h.os 1 rfl) (i := j) (by omega))) rfl (fun _ h => h.sel [0, 0, 0, 0, 0, 0] rfl) (by kernel_rfl) ?_
              refine AV.take 19 #[true, true, true, true, true, true, true, true, true, true, true, true, true, true, true, true, true, true, true, true, false, false] rfl (by kernel_rfl) (by kernel_rfl) (by kernel_rfl) (fun _ _ _ h => h) (gyes rfl) (Step.loadN _ Try.underlying32 rfl I32 rfl rfl (fun w h => h.cells 5 rfl)) rfl (fun _ h => h.sel [0, 0, 0, 0, 0, 0] rfl) (by kernel_rfl) ?_
              refine AV.all [20] (by kernel_rfl) (by decide) ?_
              refine ⟨⟨_, rfl, ?_⟩, trivial⟩
              · -- 20 comes up
                refine OV.call [] (F := [_, _, _, _, _, _]) Try.func54 B54 N54 rfl rfl (fun w h => roverlap_fn (b := (rh s.ms j).base) (l := (rh s.ms j).len) (b2 := p0) (l2 := q0) (hk.each j (by omega)).b hp0) (fun _ hb => hb.elim) (gyes rfl) rfl (fun v L' hp => ?_)
                obtain ⟨rfl, rfl⟩ := hp
                simp only [List.append_nil]
                refine AV.next #[true, true, true, true, true, true, true, true, true, true, true, true, true, true, true, true, true, true, true, true, true, false] (by kernel_rfl) (fun _ h => h.sel [0, 0, 0, 0, 0, 0] rfl) ?_
                refine AV.take 21 #[true, true, true, true, true, true, true, true, true, true, true, true, true, true, true, true, true, true, true, true, true, true] rfl (by kernel_rfl) (by kernel_rfl) (by kernel_rfl) (fun _ _ _ h => h) gno (Step.pick_t rfl rfl) rfl (fun _ h => h.sel [0, 0, 0, 0, 0, 0] rfl) (by kernel_rfl) ?_
                refine AV.done (by kernel_rfl) ?_
                refine KV.then_n ?_
                refine KV.env [(0, _), (1, _), (3, _), (6, _), (9, _), (56, _)] ⟨rfl, rfl, rfl, rfl, rfl, rfl, trivial⟩ ?_
                refine KV.cases 56 rfl (fun cc2 => ?_) (fun cc2 => ?_)
                · -- True
                  have e2 := of_decide_eq_true cc2
                  refine CV.cond_t rfl ?_
                  refine CV.seq ?_
                  -- region 7 iospace.go:50
                  refine CV.region ?_
                  refine RV.op (OV.step gno (Step.assign rfl) rfl ?_)
                  refine RV.nil ?_
                  refine KV.then_n ?_
                  refine KV.env [(8, _)] ⟨rfl, trivial⟩ ?_
                  refine CV.ret ?_
                  refine KV.block_ret ?_
                  refine KV.then_ret ?_
                  refine KV.then_ret ?_
                  refine KV.block_ret ?_
                  refine KV.then_ret ?_
                  -- return at r7
                  refine KV.sel [0, 0, 0, 0, 0] [_, _, _, _, _] rfl ?_
                  have hgd : ((0 ≤ z ∧ z < 3) ∧ okR p0 q0 ∧ 0 ≤ o ∧ o < 256) := ⟨hz, hr, by omega, by omega⟩
                  exact KV.ret1 rfl rfl _ (fun _ h => h) ⟨fun h => absurd hgd h, fun _ => ⟨fun _ => ⟨rfl, rfl⟩, fun h => absurd ⟨e1, e2⟩ (h j (by omega))⟩⟩
                · -- False
                  have e2 := of_decide_eq_false cc2
                  refine CV.cond_f rfl ?_
                  refine CV.skip ?_
                  refine KV.block_n ?_
                  refine KV.then_n ?_
                  refine KV.env [(0, _), (1, _), (3, _), (6, _), (9, _)] ⟨rfl, rfl, rfl, rfl, rfl, trivial⟩ ?_
                  -- region 5 iospace.go:48
                  refine CV.region ?_
                  refine RV.op (OV.step gno (Step.move rfl) rfl ?_)
                  (first | refine RV.op (OV.step gno (Step.add rfl rfl (wI64 (by omega) (by omega))) rfl ?_) | refine RV.op (OV.step gno (Step.add rfl rfl rfl) rfl ?_))
                  refine RV.op (OV.step gno (Step.assign rfl) rfl ?_)
                  refine RV.nil ?_
                  refine KV.then_n ?_
                  refine KV.env [(0, _), (1, _), (3, _), (6, _), (9, _)] ⟨rfl, rfl, rfl, rfl, rfl, trivial⟩ ?_
                  refine KV.sel [0, 0, 0, 0, 0, 0] [_, _, _, _, _, _] rfl ?_
                  have hnb : ¬ busyR s.ms z p0 q0 j := fun k => by first | exact e2 k.2 | exact e1 k.1
                  exact KV.loopI (z := j) (j + 1) ⟨by omega, fun i hi => by by_cases e : i = j; (subst e; exact hnb); exact hinv.2 i (by omega)⟩ (by omega) ⟨rfl, rfl, rfl, rfl, rfl, trivial⟩ (fun _ h => h)
            · -- False
              have e1 := of_decide_eq_false cc1
              refine AV.takeSkip 11 #[true, true, true, true, true, true, true, true, true, true, true, true, false, false, false, false, false, false, false, false, false, false] rfl (by kernel_rfl) (by kernel_rfl) (by kernel_rfl) (fun _ _ _ h => h) rfl rfl (fun _ h => h.sel [0, 0, 0, 0, 0, 0] rfl) (by kernel_rfl) ?_
              refine AV.takeSkip 12 #[true, true, true, true, true, true, true, true, true, true, true, true, true, false, false, false, false, false, false, false, false, false] rfl (by kernel_rfl) (by kernel_rfl) (by kernel_rfl) (fun _ _ _ h => h) rfl rfl (fun _ h => h.sel [0, 0, 0, 0, 0, 0] rfl) (by kernel_rfl) ?_
              refine AV.takeSkip 13 #[true, true, true, true, true, true, true, true, true, true, true, true, true, true, false, false, false, false, false, false, false, false] rfl (by kernel_rfl) (by kernel_rfl) (by kernel_rfl) (fun _ _ _ h => h) rfl rfl (fun _ h => h.sel [0, 0, 0, 0, 0, 0] rfl) (by kernel_rfl) ?_
              refine AV.takeSkip 14 #[true, true, true, true, true, true, true, true, true, true, true, true, true, true, true, false, false, false, false, false, false, false] rfl (by kernel_rfl) (by kernel_rfl) (by kernel_rfl) (fun _ _ _ h => h) rfl rfl (fun _ h => h.sel [0, 0, 0, 0, 0, 0] rfl) (by kernel_rfl) ?_
              refine AV.takeSkip 15 #[true, true, true, true, true, true, true, true, true, true, true, true, true, true, true, true, false, false, false, false, false, false] rfl (by kernel_rfl) (by kernel_rfl) (by kernel_rfl) (fun _ _ _ h => h) rfl rfl (fun _ h => h.sel [0, 0, 0, 0, 0, 0] rfl) (by kernel_rfl) ?_
              refine AV.takeSkip 16 #[true, true, true, true, true, true, true, true, true, true, true, true, true, true, true, true, true, false, false, false, false, false] rfl (by kernel_rfl) (by kernel_rfl) (by kernel_rfl) (fun _ _ _ h => h) rfl rfl (fun _ h => h.sel [0, 0, 0, 0, 0, 0] rfl) (by kernel_rfl) ?_
              refine AV.takeSkip 17 #[true, true, true, true, true, true, true, true, true, true, true, true, true, true, true, true, true, true, false, false, false, false] rfl (by kernel_rfl) (by kernel_rfl) (by kernel_rfl) (fun _ _ _ h => h) rfl rfl (fun _ h => h.sel [0, 0, 0, 0, 0, 0] rfl) (by kernel_rfl) ?_
              refine AV.takeSkip 18 #[true, true, true, true, true, true, true, true, true, true, true, true, true, true, true, true, true, true, true, false, false, false] rfl (by kernel_rfl) (by kernel_rfl) (by kernel_rfl) (fun _ _ _ h => h) rfl rfl (fun _ h => h.sel [0, 0, 0, 0, 0, 0] rfl) (by kernel_rfl) ?_
              refine AV.takeSkip 19 #[true, true, true, true, true, true, true, true, true, true, true, true, true, true, true, true, true, true, true, true, false, false] rfl (by kernel_rfl) (by kernel_rfl) (by kernel_rfl) (fun _ _ _ h => h) rfl rfl (fun _ h => h.sel [0, 0, 0, 0, 0, 0] rfl) (by kernel_rfl) ?_
              refine AV.takeSkip 20 #[true, true, true, true, true, true, true, true, true, true, true, true, true, true, true, true, true, true, true, true, true, false] rfl (by kernel_rfl) (by kernel_rfl) (by kernel_rfl) (fun _ _ _ h => h) rfl rfl (fun _ h => h.sel [0, 0, 0, 0, 0, 0] rfl) (by kernel_rfl) ?_
              refine AV.take 21 #[true, true, true, true, true, true, true, true, true, true, true, true, true, true, true, true, true, true, true, true, true, true] rfl (by kernel_rfl) (by kernel_rfl) (by kernel_rfl) (fun _ _ _ h => h) gno (Step.pick_f rfl rfl) rfl (fun _ h => h.sel [0, 0, 0, 0, 0, 0] rfl) (by kernel_rfl) ?_
              refine AV.done (by kernel_rfl) ?_
              refine KV.then_n ?_
              refine KV.env [(0, _), (1, _), (3, _), (6, _), (9, _), (56, _)] ⟨rfl, rfl, rfl, rfl, rfl, rfl, trivial⟩ ?_
              refine CV.cond_f rfl ?_
              refine CV.skip ?_
              refine KV.block_n ?_
              refine KV.then_n ?_
              refine KV.env [(0, _), (1, _), (3, _), (6, _), (9, _)] ⟨rfl, rfl, rfl, rfl, rfl, trivial⟩ ?_
              -- region 5 iospace.go:48
              refine CV.region ?_
              refine RV.op (OV.step gno (Step.move rfl) rfl ?_)
              (first | refine RV.op (OV.step gno (Step.add rfl rfl (wI64 (by omega) (by omega))) rfl ?_) | refine RV.op (OV.step gno (Step.add rfl rfl rfl) rfl ?_))
              refine RV.op (OV.step gno (Step.assign rfl) rfl ?_)
              refine RV.nil ?_
              refine KV.then_n ?_
              refine KV.env [(0, _), (1, _), (3, _), (6, _), (9, _)] ⟨rfl, rfl, rfl, rfl, rfl, trivial⟩ ?_
              refine KV.sel [0, 0, 0, 0, 0, 0] [_, _, _, _, _, _] rfl ?_
              have hnb : ¬ busyR s.ms z p0 q0 j := fun k => by first | exact e2 k.2 | exact e1 k.1
              exact KV.loopI (z := j) (j + 1) ⟨by omega, fun i hi => by by_cases e : i = j; (subst e; exact hnb); exact hinv.2 i (by omega)⟩ (by omega) ⟨rfl, rfl, rfl, rfl, rfl, trivial⟩ (fun _ h => h)
          · -- False
            refine RV.nil ?_
            refine KV.then_n ?_
            refine KV.env [(0, _), (1, _), (3, _), (6, _), (9, _), (32, _)] ⟨rfl, rfl, rfl, rfl, rfl, rfl, trivial⟩ ?_
            refine CV.cond_f rfl ?_
            refine CV.exit ?_
            refine KV.then_exit ?_
            refine KV.then_exit ?_
            refine KV.block_hit ?_
            refine KV.then_n ?_
            refine KV.env [(0, _), (1, _), (3, _), (6, _)] ⟨rfl, rfl, rfl, rfl, trivial⟩ ?_
            refine CV.seq ?_
            refine CV.seq ?_
            -- region 8 iospace.go:53
            refine CV.region ?_
            refine RV.op (OV.step gno (Step.move rfl) rfl ?_)
            refine RV.op (OV.step gno (Step.nilCheck rfl) rfl ?_)
            refine RV.op (OV.step gno (Step.fieldAddr rfl (F56_0 _ _)) rfl ?_)
            refine RV.op (OV.step gno (Step.load Try.underlying51 rfl rfl (fun w h => h.cell 0 rfl (rbC_m hw))) rfl ?_)
            refine RV.op (OV.step gno (Step.lenSl Try.underlying51 rfl) rfl ?_)
            refine RV.op (OV.split gno (Step.geq rfl rfl) rfl (fun hq => ?_) (fun hq => ?_))
            · -- True
              refine RV.nil ?_
              refine KV.then_n ?_
              refine KV.env [(0, _), (1, _), (3, _), (6, _), (62, _)] ⟨rfl, rfl, rfl, rfl, rfl, trivial⟩ ?_
              refine CV.cond_t rfl ?_
              refine CV.seq ?_
              -- region 9 iospace.go:54
              refine CV.region ?_
              refine RV.op (OV.step gno (Step.assign rfl) rfl ?_)
              refine RV.nil ?_
              refine KV.then_n ?_
              refine KV.env [(8, _)] ⟨rfl, trivial⟩ ?_
              refine CV.ret ?_
              refine KV.then_ret ?_
              -- return at r9
              refine KV.sel [0, 0, 0, 0, 0] [_, _, _, _, _] rfl ?_
              have hgd : ((0 ≤ z ∧ z < 3) ∧ okR p0 q0 ∧ 0 ≤ o ∧ o < 256) := ⟨hz, hr, by omega, by omega⟩
              exact KV.ret1 rfl rfl _ (fun _ h => h) ⟨fun h => absurd hgd h, fun _ => ⟨fun ⟨i, h3, h4⟩ => absurd h4 (hinv.2 i (by omega)), fun _ => ⟨fun _ => ⟨rfl, rfl⟩, fun h => absurd (by omega) h⟩⟩⟩
            · -- False
              refine RV.nil ?_
              refine KV.then_n ?_
              refine KV.env [(0, _), (1, _), (3, _), (6, _), (62, _)] ⟨rfl, rfl, rfl, rfl, rfl, trivial⟩ ?_
              refine CV.cond_f rfl ?_
              refine CV.skip ?_
              refine KV.then_n ?_
              refine KV.env [(0, _), (1, _), (3, _), (6, _)] ⟨rfl, rfl, rfl, rfl, trivial⟩ ?_
              -- join; live []
              refine CV.join3 (fun (A2 : Option Addr) (c2 : Nat) (By : Option Addr) => []) (fun (A2 : Option Addr) (c2 : Nat) (By : Option Addr) => Hp I w (rbL b (radd s (rnew z p0 q0 o By) A2 c2))) ?_ ?_
              · skip
                -- region 10 iospace.go:56
                have hr2 := hr
                unfold okR at hr2
                refine KV.sel [0, 0, 0, 0, 0, 0] [_, _, _, _, _, _] rfl ?_
                refine CV.any (Hp I w [Blk b0_0 (.cells #[.int .u64 p0, .int .u64 q0] 32 (0, 0))]) (by kernel_rfl) (fun _ h => h.drew) 17 rfl ?_
                refine AV.take 0 #[true, false, false, false, false, false, false, false, false, false, false, false, false, false, false, false, false] rfl (by kernel_rfl) (by kernel_rfl) (by kernel_rfl) (fun _ _ _ h => h) gno (Step.move rfl) rfl (fun _ h => h.sel [5] rfl) (by kernel_rfl) ?_
                refine AV.take 1 #[true, true, false, false, false, false, false, false, false, false, false, false, false, false, false, false, false] rfl (by kernel_rfl) (by kernel_rfl) (by kernel_rfl) (fun _ _ _ h => h) gno (Step.move rfl) rfl (fun _ h => h.sel [5] rfl) (by kernel_rfl) ?_
                refine AV.take 2 #[true, true, true, false, false, false, false, false, false, false, false, false, false, false, false, false, false] rfl (by kernel_rfl) (by kernel_rfl) (by kernel_rfl) (fun _ _ _ h => h) gno (Step.nilCheck rfl) rfl (fun _ h => h.sel [5] rfl) (by kernel_rfl) ?_
                refine AV.take 3 #[true, true, true, true, false, false, false, false, false, false, false, false, false, false, false, false, false] rfl (by kernel_rfl) (by kernel_rfl) (by kernel_rfl) (fun _ _ _ h => h) gno (Step.fieldAddr rfl (F56_0 _ _)) rfl (fun _ h => h.sel [5] rfl) (by kernel_rfl) ?_
                refine AV.take 5 #[true, true, true, true, false, true, false, false, false, false, false, false, false, false, false, false, false] rfl (by kernel_rfl) (by kernel_rfl) (by kernel_rfl) (fun _ _ _ h => h) gno (Step.move rfl) rfl (fun _ h => h.sel [5] rfl) (by kernel_rfl) ?_
                refine AV.take 6 #[true, true, true, true, false, true, true, false, false, false, false, false, false, false, false, false, false] rfl (by kernel_rfl) (by kernel_rfl) (by kernel_rfl) (fun _ _ _ h => h) gno (Step.loadN _ Try.underlying32 rfl I32 rfl rfl (fun w h => h.cells 0 rfl)) rfl (fun _ h => h.sel [5] rfl) (by kernel_rfl) ?_
                refine AV.take 7 #[true, true, true, true, false, true, true, true, false, false, false, false, false, false, false, false, false] rfl (by kernel_rfl) (by kernel_rfl) (by kernel_rfl) (fun _ _ _ h => h) gno (Step.move rfl) rfl (fun _ h => h.sel [5] rfl) (by kernel_rfl) ?_
                refine AV.take 8 #[true, true, true, true, false, true, true, true, true, false, false, false, false, false, false, false, false] rfl (by kernel_rfl) (by kernel_rfl) (by kernel_rfl) (fun _ _ _ h => h) gno (Step.fieldAddr rfl (F32_1 _ _)) rfl (fun _ h => h.sel [5] rfl) (by kernel_rfl) ?_
                refine AV.take 9 #[true, true, true, true, false, true, true, true, true, true, false, false, false, false, false, false, false] rfl (by kernel_rfl) (by kernel_rfl) (by kernel_rfl) (fun _ _ _ h => h) gno (Step.load Try.underlying22 rfl rfl (fun w h => h.cell 0 rfl rfl)) rfl (fun _ h => h.sel [5] rfl) (by kernel_rfl) ?_
                refine AV.all [4, 10] (by kernel_rfl) (by decide) ?_
                refine ⟨⟨_, rfl, ?_⟩, ⟨⟨_, rfl, ?_⟩, trivial⟩⟩
                · -- 4 comes up
                  refine OV.step gno (Step.load Try.underlying51 rfl rfl (fun w h => h.cell 0 rfl (rbC_m hw))) rfl ?_
                  refine AV.next #[true, true, true, true, true, true, true, true, true, true, false, false, false, false, false, false, false] (by kernel_rfl) (fun _ h => h.sel [5] rfl) ?_
                  refine AV.all [10] (by kernel_rfl) (by decide) ?_
                  refine ⟨⟨_, rfl, ?_⟩, trivial⟩
                  · -- 10 comes up
                    refine OV.make (K := intK .u8) (q0.toNat) (q0.toNat) (0) Try.underlying23 I5 rfl rfl rfl (by omega) (by omega) (by omega) (by omega) (by omega) gno rfl (fun By => ?_)
                    refine AV.next #[true, true, true, true, true, true, true, true, true, true, true, false, false, false, false, false, false] (by kernel_rfl) (fun _ h => h.sel [5] rfl) ?_
                    refine AV.take 11 #[true, true, true, true, true, true, true, true, true, true, true, true, false, false, false, false, false] rfl (by kernel_rfl) (by kernel_rfl) (by kernel_rfl) (fun _ _ _ h => h) gno (Step.build rfl (Bd94_0_1_2_3 _ _ _ _ _ _ _)) rfl (fun _ h => h.sel [5] rfl) (by kernel_rfl) ?_
                    refine AV.all [12] (by kernel_rfl) (by decide) ?_
                    refine ⟨⟨_, rfl, ?_⟩, trivial⟩
                    · -- 12 comes up
                      refine OV.buildSlice (K := rhK) ([(rnew z p0 q0 o By)]) rfl (Bs51_1_0 _ _ _ _ _) rfl (by simp [flat, rhK, rnew]) (by omega) gno rfl (fun b10_12 => ?_)
                      refine AV.next #[true, true, true, true, true, true, true, true, true, true, true, true, true, false, false, false, false] (by kernel_rfl) (fun _ h => h.sel [5] rfl) ?_
                      refine AV.all [13] (by kernel_rfl) (by decide) ?_
                      refine ⟨⟨_, rfl, ?_⟩, trivial⟩
                      · -- 13 comes up
                        refine OV.append 1 Try.underlying51 I94 rfl rfl rfl rfl rfl rfl (fun w h => h.os 7 rfl) (by simp only [List.length_cons, List.length_nil]; omega) (by simp only [List.length_cons, List.length_nil]; omega) gno rfl (fun A2 c2 => ?_)
                        refine AV.next #[true, true, true, true, true, true, true, true, true, true, true, true, true, true, false, false, false] (by kernel_rfl) (fun _ h => h.sel [5] rfl) ?_
                        refine AV.take 14 #[true, true, true, true, true, true, true, true, true, true, true, true, true, true, true, false, false] rfl (by kernel_rfl) (by kernel_rfl) (by kernel_rfl) (fun _ _ _ h => h) gno (Step.nilCheck rfl) rfl (fun _ h => h.sel [5] rfl) (by kernel_rfl) ?_
                        refine AV.take 15 #[true, true, true, true, true, true, true, true, true, true, true, true, true, true, true, true, false] rfl (by kernel_rfl) (by kernel_rfl) (by kernel_rfl) (fun _ _ _ h => h) gno (Step.fieldAddr rfl (F56_0 _ _)) rfl (fun _ h => h.sel [5] rfl) (by kernel_rfl) ?_
                        refine AV.all [16] (by kernel_rfl) (by decide) ?_
                        refine ⟨⟨_, rfl, ?_⟩, trivial⟩
                        · -- 16 comes up
                          refine OV.store 0 [_] (rbC (radd s (rnew z p0 q0 o By) A2 c2)).toArray I51 rfl rfl rfl rfl rfl (by show _ + 1 ≤ (rbC _).toArray.size; rw [List.size_toArray, rbC_len hw]; omega) (by simp [Value.oneCell']) (rset_of hw (by omega) (rset_m hw A2 c2 (s.ms ++ [(rnew z p0 q0 o By)]))) gno ?_
                          refine AV.next #[true, true, true, true, true, true, true, true, true, true, true, true, true, true, true, true, true] (by kernel_rfl) (fun _ h => h.sel [5] rfl) ?_
                          refine AV.done (by kernel_rfl) ?_
                          refine KV.then_n ?_
                          refine KV.env [] trivial ?_
                          refine KV.sel [0, 0, 0, 0, 0, 1] [_, _, _, _, _, _] rfl ?_
                          exact KV.join3 (A2) (c2) (By) trivial (fun _ h => addR (r := (rnew z p0 q0 o By)) h)
                · -- 10 comes up
                  refine OV.make (K := intK .u8) (q0.toNat) (q0.toNat) (0) Try.underlying23 I5 rfl rfl rfl (by omega) (by omega) (by omega) (by omega) (by omega) gno rfl (fun By => ?_)
                  refine AV.next #[true, true, true, true, false, true, true, true, true, true, true, false, false, false, false, false, false] (by kernel_rfl) (fun _ h => h.sel [5] rfl) ?_
                  refine AV.take 11 #[true, true, true, true, false, true, true, true, true, true, true, true, false, false, false, false, false] rfl (by kernel_rfl) (by kernel_rfl) (by kernel_rfl) (fun _ _ _ h => h) gno (Step.build rfl (Bd94_0_1_2_3 _ _ _ _ _ _ _)) rfl (fun _ h => h.sel [5] rfl) (by kernel_rfl) ?_
                  refine AV.all [4, 12] (by kernel_rfl) (by decide) ?_
                  refine ⟨⟨_, rfl, ?_⟩, ⟨⟨_, rfl, ?_⟩, trivial⟩⟩
                  · -- 4 comes up
                    refine OV.step gno (Step.load Try.underlying51 rfl rfl (fun w h => h.cell 0 rfl (rbC_m hw))) rfl ?_
                    refine AV.next #[true, true, true, true, true, true, true, true, true, true, true, true, false, false, false, false, false] (by kernel_rfl) (fun _ h => h.sel [5] rfl) ?_
                    refine AV.all [12] (by kernel_rfl) (by decide) ?_
                    refine ⟨⟨_, rfl, ?_⟩, trivial⟩
                    · -- 12 comes up
                      refine OV.buildSlice (K := rhK) ([(rnew z p0 q0 o By)]) rfl (Bs51_1_0 _ _ _ _ _) rfl (by simp [flat, rhK, rnew]) (by omega) gno rfl (fun b10_12 => ?_)
                      refine AV.next #[true, true, true, true, true, true, true, true, true, true, true, true, true, false, false, false, false] (by kernel_rfl) (fun _ h => h.sel [5] rfl) ?_
                      refine AV.all [13] (by kernel_rfl) (by decide) ?_
                      refine ⟨⟨_, rfl, ?_⟩, trivial⟩
                      · -- 13 comes up
                        refine OV.append 1 Try.underlying51 I94 rfl rfl rfl rfl rfl rfl (fun w h => h.os 7 rfl) (by simp only [List.length_cons, List.length_nil]; omega) (by simp only [List.length_cons, List.length_nil]; omega) gno rfl (fun A2 c2 => ?_)
                        refine AV.next #[true, true, true, true, true, true, true, true, true, true, true, true, true, true, false, false, false] (by kernel_rfl) (fun _ h => h.sel [5] rfl) ?_
                        refine AV.take 14 #[true, true, true, true, true, true, true, true, true, true, true, true, true, true, true, false, false] rfl (by kernel_rfl) (by kernel_rfl) (by kernel_rfl) (fun _ _ _ h => h) gno (Step.nilCheck rfl) rfl (fun _ h => h.sel [5] rfl) (by kernel_rfl) ?_
                        refine AV.take 15 #[true, true, true, true, true, true, true, true, true, true, true, true, true, true, true, true, false] rfl (by kernel_rfl) (by kernel_rfl) (by kernel_rfl) (fun _ _ _ h => h) gno (Step.fieldAddr rfl (F56_0 _ _)) rfl (fun _ h => h.sel [5] rfl) (by kernel_rfl) ?_
                        refine AV.all [16] (by kernel_rfl) (by decide) ?_
                        refine ⟨⟨_, rfl, ?_⟩, trivial⟩
                        · -- 16 comes up
                          refine OV.store 0 [_] (rbC (radd s (rnew z p0 q0 o By) A2 c2)).toArray I51 rfl rfl rfl rfl rfl (by show _ + 1 ≤ (rbC _).toArray.size; rw [List.size_toArray, rbC_len hw]; omega) (by simp [Value.oneCell']) (rset_of hw (by omega) (rset_m hw A2 c2 (s.ms ++ [(rnew z p0 q0 o By)]))) gno ?_
                          refine AV.next #[true, true, true, true, true, true, true, true, true, true, true, true, true, true, true, true, true] (by kernel_rfl) (fun _ h => h.sel [5] rfl) ?_
                          refine AV.done (by kernel_rfl) ?_
                          refine KV.then_n ?_
                          refine KV.env [] trivial ?_
                          refine KV.sel [0, 0, 0, 0, 0, 1] [_, _, _, _, _, _] rfl ?_
                          exact KV.join3 (A2) (c2) (By) trivial (fun _ h => addR (r := (rnew z p0 q0 o By)) h)
                  · -- 12 comes up
                    refine OV.buildSlice (K := rhK) ([(rnew z p0 q0 o By)]) rfl (Bs51_1_0 _ _ _ _ _) rfl (by simp [flat, rhK, rnew]) (by omega) gno rfl (fun b10_12 => ?_)
                    refine AV.next #[true, true, true, true, false, true, true, true, true, true, true, true, true, false, false, false, false] (by kernel_rfl) (fun _ h => h.sel [5] rfl) ?_
                    refine AV.all [4] (by kernel_rfl) (by decide) ?_
                    refine ⟨⟨_, rfl, ?_⟩, trivial⟩
                    · -- 4 comes up
                      refine OV.step gno (Step.load Try.underlying51 rfl rfl (fun w h => h.cell 0 rfl (rbC_m hw))) rfl ?_
                      refine AV.next #[true, true, true, true, true, true, true, true, true, true, true, true, true, false, false, false, false] (by kernel_rfl) (fun _ h => h.sel [5] rfl) ?_
                      refine AV.all [13] (by kernel_rfl) (by decide) ?_
                      refine ⟨⟨_, rfl, ?_⟩, trivial⟩
                      · -- 13 comes up
                        refine OV.append 1 Try.underlying51 I94 rfl rfl rfl rfl rfl rfl (fun w h => h.os 7 rfl) (by simp only [List.length_cons, List.length_nil]; omega) (by simp only [List.length_cons, List.length_nil]; omega) gno rfl (fun A2 c2 => ?_)
                        refine AV.next #[true, true, true, true, true, true, true, true, true, true, true, true, true, true, false, false, false] (by kernel_rfl) (fun _ h => h.sel [5] rfl) ?_
                        refine AV.take 14 #[true, true, true, true, true, true, true, true, true, true, true, true, true, true, true, false, false] rfl (by kernel_rfl) (by kernel_rfl) (by kernel_rfl) (fun _ _ _ h => h) gno (Step.nilCheck rfl) rfl (fun _ h => h.sel [5] rfl) (by kernel_rfl) ?_
                        refine AV.take 15 #[true, true, true, true, true, true, true, true, true, true, true, true, true, true, true, true, false] rfl (by kernel_rfl) (by kernel_rfl) (by kernel_rfl) (fun _ _ _ h => h) gno (Step.fieldAddr rfl (F56_0 _ _)) rfl (fun _ h => h.sel [5] rfl) (by kernel_rfl) ?_
                        refine AV.all [16] (by kernel_rfl) (by decide) ?_
                        refine ⟨⟨_, rfl, ?_⟩, trivial⟩
                        · -- 16 comes up
                          refine OV.store 0 [_] (rbC (radd s (rnew z p0 q0 o By) A2 c2)).toArray I51 rfl rfl rfl rfl rfl (by show _ + 1 ≤ (rbC _).toArray.size; rw [List.size_toArray, rbC_len hw]; omega) (by simp [Value.oneCell']) (rset_of hw (by omega) (rset_m hw A2 c2 (s.ms ++ [(rnew z p0 q0 o By)]))) gno ?_
                          refine AV.next #[true, true, true, true, true, true, true, true, true, true, true, true, true, true, true, true, true] (by kernel_rfl) (fun _ h => h.sel [5] rfl) ?_
                          refine AV.done (by kernel_rfl) ?_
                          refine KV.then_n ?_
                          refine KV.env [] trivial ?_
                          refine KV.sel [0, 0, 0, 0, 0, 1] [_, _, _, _, _, _] rfl ?_
                          exact KV.join3 (A2) (c2) (By) trivial (fun _ h => addR (r := (rnew z p0 q0 o By)) h)
              · intro A2 c2 By
                refine CV.seq ?_
                -- region 11 iospace.go:57
                refine CV.region ?_
                refine RV.op (OV.step gno (Step.assign rfl) rfl ?_)
                refine RV.nil ?_
                refine KV.then_n ?_
                refine KV.env [(8, _)] ⟨rfl, trivial⟩ ?_
                refine CV.ret ?_
                -- return at r11
                refine KV.sel [0, 0, 0, 0, 0] [_, _, _, _, _] rfl ?_
                have hgd : ((0 ≤ z ∧ z < 3) ∧ okR p0 q0 ∧ 0 ≤ o ∧ o < 256) := ⟨hz, hr, by omega, by omega⟩
                exact KV.ret1 rfl rfl _ (fun _ h => h) ⟨fun h => absurd hgd h, fun _ => ⟨fun ⟨i, h3, h4⟩ => absurd h4 (hinv.2 i (by omega)), fun _ => ⟨fun h => absurd h (by omega), fun _ => ⟨rfl, _, _, _, rfl⟩⟩⟩⟩
    · rw [decide_eq_false hr]
      refine RV.op (OV.step (gyes rfl) (Step.not rfl) rfl ?_)
      refine RV.op (OV.step gno (Step.pick_f rfl rfl) rfl ?_)
      refine RV.op (OV.step gno (Step.move rfl) rfl ?_)
      refine RV.op (OV.skip rfl rfl ?_)
      refine RV.op (OV.skip rfl rfl ?_)
      refine RV.op (OV.step gno (Step.pick_t rfl rfl) rfl ?_)
      refine RV.op (OV.step gno (Step.move rfl) rfl ?_)
      refine RV.op (OV.skip rfl rfl ?_)
      refine RV.op (OV.skip rfl rfl ?_)
      refine RV.op (OV.step gno (Step.pick_t rfl rfl) rfl ?_)
      refine RV.nil ?_
      refine KV.then_n ?_
      refine KV.env [(0, _), (1, _), (3, _), (6, _), (25, _)] ⟨rfl, rfl, rfl, rfl, rfl, trivial⟩ ?_
      refine CV.cond_t rfl ?_
      refine CV.seq ?_
      -- region 2 iospace.go:46
      refine CV.region ?_
      refine RV.op (OV.step gno (Step.assign rfl) rfl ?_)
      refine RV.nil ?_
      refine KV.then_n ?_
      refine KV.env [(8, _)] ⟨rfl, trivial⟩ ?_
      refine CV.ret ?_
      refine KV.then_ret ?_
      -- return at r2
      refine KV.sel [0, 0, 0, 0, 0] [_, _, _, _, _] rfl ?_
      have hbad : ¬ ((0 ≤ z ∧ z < 3) ∧ okR p0 q0 ∧ 0 ≤ o ∧ o < 256) := by first | exact fun k => hz k.1 | exact fun k => hr k.2.1 | (intro k; omega)
      exact KV.ret1 rfl rfl _ (fun _ h => h) ⟨fun _ => ⟨rfl, rfl⟩, fun h => absurd h hbad⟩
  · rw [decide_eq_false hz]
    refine RV.op (OV.step gno (Step.not rfl) rfl ?_)
    refine RV.op (OV.step gno (Step.move rfl) rfl ?_)
    refine RV.op (OV.skip rfl rfl ?_)
    refine RV.op (OV.skip rfl rfl ?_)
    refine RV.op (OV.skip rfl rfl ?_)
    refine RV.op (OV.step gno (Step.pick_t rfl rfl) rfl ?_)
    refine RV.op (OV.step gno (Step.move rfl) rfl ?_)
    refine RV.op (OV.skip rfl rfl ?_)
    refine RV.op (OV.skip rfl rfl ?_)
    refine RV.op (OV.step gno (Step.pick_t rfl rfl) rfl ?_)
    refine RV.op (OV.step gno (Step.move rfl) rfl ?_)
    refine RV.op (OV.skip rfl rfl ?_)
    refine RV.op (OV.skip rfl rfl ?_)
    refine RV.op (OV.step gno (Step.pick_t rfl rfl) rfl ?_)
    refine RV.nil ?_
    refine KV.then_n ?_
    refine KV.env [(0, _), (1, _), (3, _), (6, _), (25, _)] ⟨rfl, rfl, rfl, rfl, rfl, trivial⟩ ?_
    refine CV.cond_t rfl ?_
    refine CV.seq ?_
    -- region 2 iospace.go:46
    refine CV.region ?_
    refine RV.op (OV.step gno (Step.assign rfl) rfl ?_)
    refine RV.nil ?_
    refine KV.then_n ?_
    refine KV.env [(8, _)] ⟨rfl, trivial⟩ ?_
    refine CV.ret ?_
    refine KV.then_ret ?_
    -- return at r2
    refine KV.sel [0, 0, 0, 0, 0] [_, _, _, _, _] rfl ?_
    have hbad : ¬ ((0 ≤ z ∧ z < 3) ∧ okR p0 q0 ∧ 0 ≤ o ∧ o < 256) := by first | exact fun k => hz k.1 | exact fun k => hr k.2.1 | (intro k; omega)
    exact KV.ret1 rfl rfl _ (fun _ h => h) ⟨fun _ => ⟨rfl, rfl⟩, fun h => absurd h hbad⟩
end Go.Proofs.Ythdpojggdodpfaa
