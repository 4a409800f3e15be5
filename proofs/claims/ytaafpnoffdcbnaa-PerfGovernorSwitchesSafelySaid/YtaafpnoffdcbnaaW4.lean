/-
  Walks, part 4.
-/
import Derived.Test.YtaafpnoffdcbnaaTab4
import Derived.Test.YtaafpnoffdcbnaaW3
set_option linter.unusedSimpArgs false
set_option linter.unusedVariables false
namespace Go.Proofs.Ytaafpnoffdcbnaa
open Go.Sv Go.Perf
def tw : List Pt := [⟨100, 900, 10⟩, ⟨200, 1000, 25⟩]
theorem aw1 : transM tw 0 1 = ([⟨true, 1000⟩, ⟨false, 200⟩], 0) := by decide +kernel
theorem aw2 : transM tw 1 0 = ([⟨false, 100⟩, ⟨true, 900⟩], 0) := by decide +kernel
theorem aw3 : findM tw 101 = (1, 0) := by decide +kernel
theorem aw4 : chkM [] = 1 := by decide +kernel
theorem aw5 : safeM tw 0 [⟨true, 1000⟩, ⟨false, 200⟩] = true := by decide +kernel

set_option maxRecDepth 100000 in
set_option maxHeartbeats 1000000 in
theorem awake_fn {w : World} : Fx Try.prog 12 [] w [] no (fun v L => v = .bool true ∧ L = []) := by
  refine Sv.Fx.body Try.func12 rfl T12 rfl ?_
  intro I hro hI
  refine KV.env [] trivial ?_
  refine CV.seq ?_
  -- region 0 law.go:12
  refine CV.region ?_
  refine RV.op (OV.step gno (Step.assign rfl) rfl ?_)
  refine RV.nil ?_
  refine KV.then_n ?_
  refine KV.env [] trivial ?_
  refine CV.seq ?_
  -- region 1 law.go:13
  refine CV.region ?_
  refine RV.op (OV.step gno (Step.build rfl (Bd25_0_1_2 _ _ _)) rfl ?_)
  refine RV.op (OV.step gno (Step.build rfl (Bd25_0_1_2 _ _ _)) rfl ?_)
  refine RV.op (OV.buildSlice (K := ptK) (tw) rfl (Bs22_2_0_1 _ _ _ _ _ _) rfl rfl (by omega) gno rfl (fun b1_2 => ?_))
  refine RV.op (OV.step gno (Step.assign rfl) rfl ?_)
  refine RV.nil ?_
  refine KV.then_n ?_
  refine KV.env [(1, _)] ⟨rfl, trivial⟩ ?_
  refine CV.seq ?_
  -- region 2 law.go:14
  refine CV.region ?_
  refine RV.op (OV.step gno (Step.move rfl) rfl ?_)
  refine RV.op (OV.call [] (F := [_]) Try.func19 B19 N19 rfl rfl (fun w h => trans_fn (h.os 0 rfl) rfl (by decide) 0 1) (fun _ hb => hb.elim) gno rfl (fun v L' hp => ?_))
  obtain ⟨a, ca, rfl, rfl⟩ := hp
  rw [aw1]
  refine RV.op (OV.step gno (Step.move rfl) rfl ?_)
  refine RV.op (OV.step gno (Step.extract0 rfl rfl) rfl ?_)
  refine RV.op (OV.step gno (Step.extract0 rfl rfl) rfl ?_)
  refine RV.op (OV.step gno (Step.assign rfl) rfl ?_)
  refine RV.op (OV.step gno (Step.assign rfl) rfl ?_)
  refine RV.nil ?_
  refine KV.then_n ?_
  refine KV.env [(1, _), (2, _), (3, _)] ⟨rfl, rfl, rfl, trivial⟩ ?_
  refine CV.seq ?_
  -- region 3 law.go:15
  refine CV.region ?_
  refine RV.op (OV.step gno (Step.move rfl) rfl ?_)
  refine RV.op (OV.call [] (F := [_, _]) Try.func19 B19 N19 rfl rfl (fun w h => trans_fn (h.os 0 rfl) rfl (by decide) 1 0) (fun _ hb => hb.elim) gno rfl (fun v L' hp => ?_))
  obtain ⟨b, cb, rfl, rfl⟩ := hp
  rw [aw2]
  refine RV.op (OV.step gno (Step.move rfl) rfl ?_)
  refine RV.op (OV.step gno (Step.extract0 rfl rfl) rfl ?_)
  refine RV.op (OV.step gno (Step.extract0 rfl rfl) rfl ?_)
  refine RV.op (OV.step gno (Step.assign rfl) rfl ?_)
  refine RV.op (OV.step gno (Step.assign rfl) rfl ?_)
  refine RV.nil ?_
  refine KV.then_n ?_
  refine KV.env [(1, _), (2, _), (3, _), (4, _), (5, _)] ⟨rfl, rfl, rfl, rfl, rfl, trivial⟩ ?_
  refine CV.seq ?_
  -- region 4 law.go:16
  refine CV.region ?_
  refine RV.op (OV.step gno (Step.move rfl) rfl ?_)
  refine RV.op (OV.call [] (F := [_, _, _]) Try.func15 B15 N15 rfl rfl (fun w h => find_fn (h.os 0 rfl) rfl (by decide) 101) (fun _ hb => hb.elim) gno rfl (fun v L' hp => ?_))
  obtain ⟨rfl, rfl⟩ := hp
  simp only [List.append_nil]
  rw [aw3]
  refine RV.op (OV.step gno (Step.move rfl) rfl ?_)
  refine RV.op (OV.step gno (Step.extract0 rfl rfl) rfl ?_)
  refine RV.op (OV.step gno (Step.extract0 rfl rfl) rfl ?_)
  refine RV.op (OV.step gno (Step.assign rfl) rfl ?_)
  refine RV.op (OV.step gno (Step.assign rfl) rfl ?_)
  refine RV.nil ?_
  refine KV.then_n ?_
  refine KV.env [(1, _), (2, _), (3, _), (4, _), (5, _), (6, _), (7, _)] ⟨rfl, rfl, rfl, rfl, rfl, rfl, rfl, trivial⟩ ?_
  refine CV.seq ?_
  -- region 5 law.go:17
  refine CV.region ?_
  refine RV.op (OV.step gno (Step.move rfl) rfl ?_)
  refine RV.op (OV.split gno (Step.eql rfl rfl) rfl (fun e1 => ?_) (fun e1 => ?_))
  · -- True
    refine RV.op (OV.step gno (Step.move rfl) rfl ?_)
    refine RV.op (OV.step (gyes rfl) (Step.move rfl) rfl ?_)
    refine RV.op (OV.split (gyes rfl) (Step.eql rfl rfl) rfl (fun e4 => ?_) (fun e4 => ?_))
    · -- True
      refine RV.op (OV.step gno (Step.pick_t rfl rfl) rfl ?_)
      refine RV.op (OV.step gno (Step.move rfl) rfl ?_)
      refine RV.op (OV.step (gyes rfl) (Step.move rfl) rfl ?_)
      refine RV.op (OV.split (gyes rfl) (Step.eql rfl rfl) rfl (fun e8 => ?_) (fun e8 => ?_))
      · -- True
        refine RV.op (OV.step gno (Step.pick_t rfl rfl) rfl ?_)
        refine RV.op (OV.step gno (Step.move rfl) rfl ?_)
        refine RV.op (OV.step (gyes rfl) (Step.move rfl) rfl ?_)
        refine RV.op (OV.split (gyes rfl) (Step.eql rfl rfl) rfl (fun e12 => ?_) (fun e12 => ?_))
        · -- True
          refine RV.op (OV.step gno (Step.pick_t rfl rfl) rfl ?_)
          refine RV.op (OV.step gno (Step.move rfl) rfl ?_)
          refine RV.op (OV.step (gyes rfl) (Step.move rfl) rfl ?_)
          refine RV.op (OV.step (gyes rfl) (Step.build rfl (Bd40_0_1 _ _)) rfl ?_)
          refine RV.op (OV.step (gyes rfl) (Step.build rfl (Bd40_1 _)) rfl ?_)
          refine RV.op (OV.buildSlice (K := popK) ([⟨_, _⟩, ⟨_, _⟩]) rfl (Bs35_2_0_1 _ _ _ _) rfl rfl (by omega) (gyes rfl) rfl (fun b5_18 => ?_))
          refine RV.op (OV.call [] (F := [_, _, _, _]) Try.func21 B21 N21 rfl rfl (fun w h => equal_fn (h.os 1 rfl) (h.os 3 rfl) (by decide) (by decide)) (fun _ hb => hb.elim) (gyes rfl) rfl (fun v L' hp => ?_))
          obtain ⟨rfl, rfl⟩ := hp
          simp only [List.append_nil]
          rw [decide_eq_true (by decide)]
          refine RV.op (OV.step gno (Step.pick_t rfl rfl) rfl ?_)
          refine RV.op (OV.step gno (Step.move rfl) rfl ?_)
          refine RV.op (OV.step (gyes rfl) (Step.move rfl) rfl ?_)
          refine RV.op (OV.step (gyes rfl) (Step.build rfl (Bd40_1 _)) rfl ?_)
          refine RV.op (OV.step (gyes rfl) (Step.build rfl (Bd40_0_1 _ _)) rfl ?_)
          refine RV.op (OV.buildSlice (K := popK) ([⟨_, _⟩, ⟨_, _⟩]) rfl (Bs35_2_0_1 _ _ _ _) rfl rfl (by omega) (gyes rfl) rfl (fun b5_25 => ?_))
          refine RV.op (OV.call [] (F := [_, _, _, _, _]) Try.func21 B21 N21 rfl rfl (fun w h => equal_fn (h.os 2 rfl) (h.os 4 rfl) (by decide) (by decide)) (fun _ hb => hb.elim) (gyes rfl) rfl (fun v L' hp => ?_))
          obtain ⟨rfl, rfl⟩ := hp
          simp only [List.append_nil]
          rw [decide_eq_true (by decide)]
          refine RV.op (OV.step gno (Step.pick_t rfl rfl) rfl ?_)
          refine RV.op (OV.step gno (Step.move rfl) rfl ?_)
          refine RV.op (OV.call [] (F := [_, _, _, _, _]) Try.func17 B17 N17 rfl rfl (fun w h => check_fn (A := none) (c := 0) RS.nil rfl (by decide)) (fun _ hb => hb.elim) (gyes rfl) rfl (fun v L' hp => ?_))
          obtain ⟨rfl, rfl⟩ := hp
          simp only [List.append_nil]
          rw [aw4]
          refine RV.op (OV.split (gyes rfl) (Step.eql rfl rfl) rfl (fun e30 => ?_) (fun e30 => ?_))
          · -- True
            refine RV.op (OV.step gno (Step.pick_t rfl rfl) rfl ?_)
            refine RV.op (OV.step gno (Step.move rfl) rfl ?_)
            refine RV.op (OV.step (gyes rfl) (Step.move rfl) rfl ?_)
            refine RV.op (OV.step (gyes rfl) (Step.move rfl) rfl ?_)
            refine RV.op (OV.call [] (F := [_, _, _, _, _]) Try.func22 B22 N22 rfl rfl (fun w h => safe_fn (h.os 0 rfl) rfl (by decide) (h.os 1 rfl) rfl (by decide) 0) (fun _ hb => hb.elim) (gyes rfl) rfl (fun v L' hp => ?_))
            obtain ⟨rfl, rfl⟩ := hp
            simp only [List.append_nil]
            rw [aw5]
            refine RV.op (OV.step gno (Step.pick_t rfl rfl) rfl ?_)
            refine RV.op (OV.step gno (Step.assign rfl) rfl ?_)
            refine RV.nil ?_
            refine KV.then_n ?_
            refine KV.env [(0, _)] ⟨rfl, trivial⟩ ?_
            refine CV.ret ?_
            -- return at r5
            refine KV.sel [] [] rfl ?_
            exact KV.ret1 rfl rfl _ (fun _ h => h) ⟨rfl, rfl⟩
          · -- False
            exact absurd rfl e30
        · -- False
          exact absurd rfl e12
      · -- False
        exact absurd rfl e8
    · -- False
      exact absurd rfl e4
  · -- False
    exact absurd rfl e1
end Go.Proofs.Ytaafpnoffdcbnaa
