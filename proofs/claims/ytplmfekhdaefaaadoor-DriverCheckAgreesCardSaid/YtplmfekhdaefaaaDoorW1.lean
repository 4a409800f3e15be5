/-
  Walks, part 1.
-/
import Derived.Test.YtplmfekhdaefaaaDoorTabA
import Derived.Test.YtplmfekhdaefaaaDoorDmA
set_option linter.unusedSimpArgs false
set_option linter.unusedVariables false
namespace Go.Proofs.YtplmfekhdaefaaaDoor
open Go.Sv Go.Drv
set_option maxRecDepth 100000 in
set_option maxHeartbeats 1000000 in
theorem isDigit_fn (c : UInt8) : FxP Tryd.prog 70 [.int .u8 (c.toNat : Int)] (.bool (digB c)) := by
  refine Sv.FxP.body Tryd.func70 rfl T70 rfl ?_
  intro wp
  refine KV.env [(0, _)] ⟨rfl, trivial⟩ ?_
  refine CV.seq ?_
  -- region 0 driver.go:71
  refine CV.region ?_
  refine RV.op (OV.step gno (Step.assign rfl) rfl ?_)
  refine RV.nil ?_
  refine KV.then_n ?_
  refine KV.env [(0, _)] ⟨rfl, trivial⟩ ?_
  refine CV.seq ?_
  -- region 1 driver.go:71
  refine CV.region ?_
  refine RV.op (OV.step gno (Step.move rfl) rfl ?_)
  refine RV.op (OV.split gno (Step.geq rfl rfl) rfl (fun cc1 => ?_) (fun cc1 => ?_))
  · -- True
    refine RV.op (OV.step gno (Step.move rfl) rfl ?_)
    refine RV.op (OV.step (gyes rfl) (Step.move rfl) rfl ?_)
    refine RV.op (OV.split (gyes rfl) (Step.leq rfl rfl) rfl (fun cc2 => ?_) (fun cc2 => ?_))
    · -- True
      refine RV.op (OV.step gno (Step.pick_t rfl rfl) rfl ?_)
      refine RV.op (OV.step gno (Step.assign rfl) rfl ?_)
      refine RV.nil ?_
      refine KV.then_n ?_
      refine KV.env [(2, _)] ⟨rfl, trivial⟩ ?_
      refine CV.ret ?_
      -- return at r1
      exact KV.retP1 rfl rfl (by unfold digB; first | (exfalso; omega) | rw [decide_eq_true (show 48 ≤ c.toNat ∧ c.toNat ≤ 57 by omega)] | rw [decide_eq_false (show ¬ (48 ≤ c.toNat ∧ c.toNat ≤ 57) by omega)])
    · -- False
      refine RV.op (OV.step gno (Step.pick_t rfl rfl) rfl ?_)
      refine RV.op (OV.step gno (Step.assign rfl) rfl ?_)
      refine RV.nil ?_
      refine KV.then_n ?_
      refine KV.env [(2, _)] ⟨rfl, trivial⟩ ?_
      refine CV.ret ?_
      -- return at r1
      exact KV.retP1 rfl rfl (by unfold digB; first | (exfalso; omega) | rw [decide_eq_true (show 48 ≤ c.toNat ∧ c.toNat ≤ 57 by omega)] | rw [decide_eq_false (show ¬ (48 ≤ c.toNat ∧ c.toNat ≤ 57) by omega)])
  · -- False
    refine RV.op (OV.step gno (Step.move rfl) rfl ?_)
    refine RV.op (OV.skip rfl rfl ?_)
    refine RV.op (OV.skip rfl rfl ?_)
    refine RV.op (OV.step gno (Step.pick_f rfl rfl) rfl ?_)
    refine RV.op (OV.step gno (Step.assign rfl) rfl ?_)
    refine RV.nil ?_
    refine KV.then_n ?_
    refine KV.env [(2, _)] ⟨rfl, trivial⟩ ?_
    refine CV.ret ?_
    -- return at r1
    exact KV.retP1 rfl rfl (by unfold digB; first | (exfalso; omega) | rw [decide_eq_true (show 48 ≤ c.toNat ∧ c.toNat ≤ 57 by omega)] | rw [decide_eq_false (show ¬ (48 ≤ c.toNat ∧ c.toNat ≤ 57) by omega)])

set_option maxRecDepth 100000 in
set_option maxHeartbeats 1000000 in
theorem isWord_fn (c : UInt8) : FxP Tryd.prog 58 [.int .u8 (c.toNat : Int)] (.bool (wrdB c)) := by
  refine Sv.FxP.body Tryd.func58 rfl T58 rfl ?_
  intro wp
  refine KV.env [(0, _)] ⟨rfl, trivial⟩ ?_
  refine CV.seq ?_
  -- region 0 driver.go:74
  refine CV.region ?_
  refine RV.op (OV.step gno (Step.assign rfl) rfl ?_)
  refine RV.nil ?_
  refine KV.then_n ?_
  refine KV.env [(0, _)] ⟨rfl, trivial⟩ ?_
  refine CV.seq ?_
  -- region 1 driver.go:75
  refine CV.region ?_
  refine RV.op (OV.step gno (Step.move rfl) rfl ?_)
  refine RV.op (OV.split gno (Step.geq rfl rfl) rfl (fun cc1 => ?_) (fun cc1 => ?_))
  · -- True
    refine RV.op (OV.step gno (Step.move rfl) rfl ?_)
    refine RV.op (OV.step (gyes rfl) (Step.move rfl) rfl ?_)
    refine RV.op (OV.split (gyes rfl) (Step.leq rfl rfl) rfl (fun cc2 => ?_) (fun cc2 => ?_))
    · -- True
      refine RV.op (OV.step gno (Step.pick_t rfl rfl) rfl ?_)
      refine RV.op (OV.step gno (Step.move rfl) rfl ?_)
      refine RV.op (OV.skip rfl rfl ?_)
      refine RV.op (OV.skip rfl rfl ?_)
      refine RV.op (OV.skip rfl rfl ?_)
      refine RV.op (OV.skipU rfl rfl ?_)
      refine RV.op (OV.skipU rfl rfl ?_)
      refine RV.op (OV.skip rfl rfl ?_)
      refine RV.op (OV.step gno (Step.pick_t rfl rfl) rfl ?_)
      refine RV.op (OV.step gno (Step.move rfl) rfl ?_)
      refine RV.op (OV.skip rfl rfl ?_)
      refine RV.op (OV.skip rfl rfl ?_)
      refine RV.op (OV.step gno (Step.pick_t rfl rfl) rfl ?_)
      refine RV.op (OV.step gno (Step.move rfl) rfl ?_)
      refine RV.op (OV.skip rfl rfl ?_)
      refine RV.op (OV.skip rfl rfl ?_)
      refine RV.op (OV.step gno (Step.pick_t rfl rfl) rfl ?_)
      refine RV.op (OV.step gno (Step.assign rfl) rfl ?_)
      refine RV.nil ?_
      refine KV.then_n ?_
      refine KV.env [(2, _)] ⟨rfl, trivial⟩ ?_
      refine CV.ret ?_
      -- return at r1
      exact KV.retP1 rfl rfl (by unfold wrdB; first | (exfalso; omega) | rw [show ltrB c = true from decide_eq_true (by omega), Bool.true_or] | rw [show ltrB c = false from decide_eq_false (by omega), Bool.false_or])
    · -- False
      refine RV.op (OV.step gno (Step.pick_t rfl rfl) rfl ?_)
      refine RV.op (OV.step gno (Step.move rfl) rfl ?_)
      refine RV.op (OV.step (gyes rfl) (Step.move rfl) rfl ?_)
      refine RV.op (OV.split (gyes rfl) (Step.geq rfl rfl) rfl (fun cc3 => ?_) (fun cc3 => ?_))
      · -- True
        refine RV.op (OV.step (gyes rfl) (Step.move rfl) rfl ?_)
        refine RV.op (OV.step (gyes rfl) (Step.move rfl) rfl ?_)
        refine RV.op (OV.split (gyes rfl) (Step.leq rfl rfl) rfl (fun cc4 => ?_) (fun cc4 => ?_))
        · -- True
          refine RV.op (OV.step (gyes rfl) (Step.pick_t rfl rfl) rfl ?_)
          refine RV.op (OV.step gno (Step.pick_f rfl rfl) rfl ?_)
          refine RV.op (OV.step gno (Step.move rfl) rfl ?_)
          refine RV.op (OV.skip rfl rfl ?_)
          refine RV.op (OV.skip rfl rfl ?_)
          refine RV.op (OV.step gno (Step.pick_t rfl rfl) rfl ?_)
          refine RV.op (OV.step gno (Step.move rfl) rfl ?_)
          refine RV.op (OV.skip rfl rfl ?_)
          refine RV.op (OV.skip rfl rfl ?_)
          refine RV.op (OV.step gno (Step.pick_t rfl rfl) rfl ?_)
          refine RV.op (OV.step gno (Step.assign rfl) rfl ?_)
          refine RV.nil ?_
          refine KV.then_n ?_
          refine KV.env [(2, _)] ⟨rfl, trivial⟩ ?_
          refine CV.ret ?_
          -- return at r1
          exact KV.retP1 rfl rfl (by unfold wrdB; first | (exfalso; omega) | rw [show ltrB c = true from decide_eq_true (by omega), Bool.true_or] | rw [show ltrB c = false from decide_eq_false (by omega), Bool.false_or])
        · -- False
          refine RV.op (OV.step (gyes rfl) (Step.pick_t rfl rfl) rfl ?_)
          refine RV.op (OV.step gno (Step.pick_f rfl rfl) rfl ?_)
          refine RV.op (OV.step gno (Step.move rfl) rfl ?_)
          refine RV.op (OV.step (gyes rfl) (Step.move rfl) rfl ?_)
          refine RV.op (OV.split (gyes rfl) (Step.eql rfl rfl) rfl (fun cc5 => ?_) (fun cc5 => ?_))
          · -- True
            refine RV.op (OV.step gno (Step.pick_f rfl rfl) rfl ?_)
            refine RV.op (OV.step gno (Step.move rfl) rfl ?_)
            refine RV.op (OV.skip rfl rfl ?_)
            refine RV.op (OV.skip rfl rfl ?_)
            refine RV.op (OV.step gno (Step.pick_t rfl rfl) rfl ?_)
            refine RV.op (OV.step gno (Step.assign rfl) rfl ?_)
            refine RV.nil ?_
            refine KV.then_n ?_
            refine KV.env [(2, _)] ⟨rfl, trivial⟩ ?_
            refine CV.ret ?_
            -- return at r1
            exact KV.retP1 rfl rfl (by unfold wrdB; first | (exfalso; omega) | rw [show ltrB c = true from decide_eq_true (by omega), Bool.true_or] | rw [show ltrB c = false from decide_eq_false (by omega), Bool.false_or])
          · -- False
            refine RV.op (OV.step gno (Step.pick_f rfl rfl) rfl ?_)
            refine RV.op (OV.step gno (Step.move rfl) rfl ?_)
            refine RV.op (OV.step (gyes rfl) (Step.move rfl) rfl ?_)
            refine RV.op (OV.callP Tryd.func70 B70 N70 rfl (isDigit_fn c) (gyes rfl) rfl ?_)
            refine RV.op (OV.step gno (Step.pick_f rfl rfl) rfl ?_)
            refine RV.op (OV.step gno (Step.assign rfl) rfl ?_)
            refine RV.nil ?_
            refine KV.then_n ?_
            refine KV.env [(2, _)] ⟨rfl, trivial⟩ ?_
            refine CV.ret ?_
            -- return at r1
            exact KV.retP1 rfl rfl (by unfold wrdB; first | (exfalso; omega) | rw [show ltrB c = true from decide_eq_true (by omega), Bool.true_or] | rw [show ltrB c = false from decide_eq_false (by omega), Bool.false_or])
      · -- False
        refine RV.op (OV.step (gyes rfl) (Step.move rfl) rfl ?_)
        refine RV.op (OV.skip rfl rfl ?_)
        refine RV.op (OV.skip rfl rfl ?_)
        refine RV.op (OV.step (gyes rfl) (Step.pick_f rfl rfl) rfl ?_)
        refine RV.op (OV.step gno (Step.pick_f rfl rfl) rfl ?_)
        refine RV.op (OV.step gno (Step.move rfl) rfl ?_)
        refine RV.op (OV.step (gyes rfl) (Step.move rfl) rfl ?_)
        refine RV.op (OV.split (gyes rfl) (Step.eql rfl rfl) rfl (fun cc6 => ?_) (fun cc6 => ?_))
        · -- True
          refine RV.op (OV.step gno (Step.pick_f rfl rfl) rfl ?_)
          refine RV.op (OV.step gno (Step.move rfl) rfl ?_)
          refine RV.op (OV.skip rfl rfl ?_)
          refine RV.op (OV.skip rfl rfl ?_)
          refine RV.op (OV.step gno (Step.pick_t rfl rfl) rfl ?_)
          refine RV.op (OV.step gno (Step.assign rfl) rfl ?_)
          refine RV.nil ?_
          refine KV.then_n ?_
          refine KV.env [(2, _)] ⟨rfl, trivial⟩ ?_
          refine CV.ret ?_
          -- return at r1
          exact KV.retP1 rfl rfl (by unfold wrdB; first | (exfalso; omega) | rw [show ltrB c = true from decide_eq_true (by omega), Bool.true_or] | rw [show ltrB c = false from decide_eq_false (by omega), Bool.false_or])
        · -- False
          refine RV.op (OV.step gno (Step.pick_f rfl rfl) rfl ?_)
          refine RV.op (OV.step gno (Step.move rfl) rfl ?_)
          refine RV.op (OV.step (gyes rfl) (Step.move rfl) rfl ?_)
          refine RV.op (OV.callP Tryd.func70 B70 N70 rfl (isDigit_fn c) (gyes rfl) rfl ?_)
          refine RV.op (OV.step gno (Step.pick_f rfl rfl) rfl ?_)
          refine RV.op (OV.step gno (Step.assign rfl) rfl ?_)
          refine RV.nil ?_
          refine KV.then_n ?_
          refine KV.env [(2, _)] ⟨rfl, trivial⟩ ?_
          refine CV.ret ?_
          -- return at r1
          exact KV.retP1 rfl rfl (by unfold wrdB; first | (exfalso; omega) | rw [show ltrB c = true from decide_eq_true (by omega), Bool.true_or] | rw [show ltrB c = false from decide_eq_false (by omega), Bool.false_or])
  · -- False
    refine RV.op (OV.step gno (Step.move rfl) rfl ?_)
    refine RV.op (OV.skip rfl rfl ?_)
    refine RV.op (OV.skip rfl rfl ?_)
    refine RV.op (OV.step gno (Step.pick_f rfl rfl) rfl ?_)
    refine RV.op (OV.step gno (Step.move rfl) rfl ?_)
    refine RV.op (OV.step (gyes rfl) (Step.move rfl) rfl ?_)
    refine RV.op (OV.split (gyes rfl) (Step.geq rfl rfl) rfl (fun cc7 => ?_) (fun cc7 => ?_))
    · -- True
      refine RV.op (OV.step (gyes rfl) (Step.move rfl) rfl ?_)
      refine RV.op (OV.step (gyes rfl) (Step.move rfl) rfl ?_)
      refine RV.op (OV.split (gyes rfl) (Step.leq rfl rfl) rfl (fun cc8 => ?_) (fun cc8 => ?_))
      · -- True
        refine RV.op (OV.step (gyes rfl) (Step.pick_t rfl rfl) rfl ?_)
        refine RV.op (OV.step gno (Step.pick_f rfl rfl) rfl ?_)
        refine RV.op (OV.step gno (Step.move rfl) rfl ?_)
        refine RV.op (OV.skip rfl rfl ?_)
        refine RV.op (OV.skip rfl rfl ?_)
        refine RV.op (OV.step gno (Step.pick_t rfl rfl) rfl ?_)
        refine RV.op (OV.step gno (Step.move rfl) rfl ?_)
        refine RV.op (OV.skip rfl rfl ?_)
        refine RV.op (OV.skip rfl rfl ?_)
        refine RV.op (OV.step gno (Step.pick_t rfl rfl) rfl ?_)
        refine RV.op (OV.step gno (Step.assign rfl) rfl ?_)
        refine RV.nil ?_
        refine KV.then_n ?_
        refine KV.env [(2, _)] ⟨rfl, trivial⟩ ?_
        refine CV.ret ?_
        -- return at r1
        exact KV.retP1 rfl rfl (by unfold wrdB; first | (exfalso; omega) | rw [show ltrB c = true from decide_eq_true (by omega), Bool.true_or] | rw [show ltrB c = false from decide_eq_false (by omega), Bool.false_or])
      · -- False
        refine RV.op (OV.step (gyes rfl) (Step.pick_t rfl rfl) rfl ?_)
        refine RV.op (OV.step gno (Step.pick_f rfl rfl) rfl ?_)
        refine RV.op (OV.step gno (Step.move rfl) rfl ?_)
        refine RV.op (OV.step (gyes rfl) (Step.move rfl) rfl ?_)
        refine RV.op (OV.split (gyes rfl) (Step.eql rfl rfl) rfl (fun cc9 => ?_) (fun cc9 => ?_))
        · -- True
          refine RV.op (OV.step gno (Step.pick_f rfl rfl) rfl ?_)
          refine RV.op (OV.step gno (Step.move rfl) rfl ?_)
          refine RV.op (OV.skip rfl rfl ?_)
          refine RV.op (OV.skip rfl rfl ?_)
          refine RV.op (OV.step gno (Step.pick_t rfl rfl) rfl ?_)
          refine RV.op (OV.step gno (Step.assign rfl) rfl ?_)
          refine RV.nil ?_
          refine KV.then_n ?_
          refine KV.env [(2, _)] ⟨rfl, trivial⟩ ?_
          refine CV.ret ?_
          -- return at r1
          exact KV.retP1 rfl rfl (by unfold wrdB; first | (exfalso; omega) | rw [show ltrB c = true from decide_eq_true (by omega), Bool.true_or] | rw [show ltrB c = false from decide_eq_false (by omega), Bool.false_or])
        · -- False
          refine RV.op (OV.step gno (Step.pick_f rfl rfl) rfl ?_)
          refine RV.op (OV.step gno (Step.move rfl) rfl ?_)
          refine RV.op (OV.step (gyes rfl) (Step.move rfl) rfl ?_)
          refine RV.op (OV.callP Tryd.func70 B70 N70 rfl (isDigit_fn c) (gyes rfl) rfl ?_)
          refine RV.op (OV.step gno (Step.pick_f rfl rfl) rfl ?_)
          refine RV.op (OV.step gno (Step.assign rfl) rfl ?_)
          refine RV.nil ?_
          refine KV.then_n ?_
          refine KV.env [(2, _)] ⟨rfl, trivial⟩ ?_
          refine CV.ret ?_
          -- return at r1
          exact KV.retP1 rfl rfl (by unfold wrdB; first | (exfalso; omega) | rw [show ltrB c = true from decide_eq_true (by omega), Bool.true_or] | rw [show ltrB c = false from decide_eq_false (by omega), Bool.false_or])
    · -- False
      refine RV.op (OV.step (gyes rfl) (Step.move rfl) rfl ?_)
      refine RV.op (OV.skip rfl rfl ?_)
      refine RV.op (OV.skip rfl rfl ?_)
      refine RV.op (OV.step (gyes rfl) (Step.pick_f rfl rfl) rfl ?_)
      refine RV.op (OV.step gno (Step.pick_f rfl rfl) rfl ?_)
      refine RV.op (OV.step gno (Step.move rfl) rfl ?_)
      refine RV.op (OV.step (gyes rfl) (Step.move rfl) rfl ?_)
      refine RV.op (OV.split (gyes rfl) (Step.eql rfl rfl) rfl (fun cc10 => ?_) (fun cc10 => ?_))
      · -- True
        refine RV.op (OV.step gno (Step.pick_f rfl rfl) rfl ?_)
        refine RV.op (OV.step gno (Step.move rfl) rfl ?_)
        refine RV.op (OV.skip rfl rfl ?_)
        refine RV.op (OV.skip rfl rfl ?_)
        refine RV.op (OV.step gno (Step.pick_t rfl rfl) rfl ?_)
        refine RV.op (OV.step gno (Step.assign rfl) rfl ?_)
        refine RV.nil ?_
        refine KV.then_n ?_
        refine KV.env [(2, _)] ⟨rfl, trivial⟩ ?_
        refine CV.ret ?_
        -- return at r1
        exact KV.retP1 rfl rfl (by unfold wrdB; first | (exfalso; omega) | rw [show ltrB c = true from decide_eq_true (by omega), Bool.true_or] | rw [show ltrB c = false from decide_eq_false (by omega), Bool.false_or])
      · -- False
        refine RV.op (OV.step gno (Step.pick_f rfl rfl) rfl ?_)
        refine RV.op (OV.step gno (Step.move rfl) rfl ?_)
        refine RV.op (OV.step (gyes rfl) (Step.move rfl) rfl ?_)
        refine RV.op (OV.callP Tryd.func70 B70 N70 rfl (isDigit_fn c) (gyes rfl) rfl ?_)
        refine RV.op (OV.step gno (Step.pick_f rfl rfl) rfl ?_)
        refine RV.op (OV.step gno (Step.assign rfl) rfl ?_)
        refine RV.nil ?_
        refine KV.then_n ?_
        refine KV.env [(2, _)] ⟨rfl, trivial⟩ ?_
        refine CV.ret ?_
        -- return at r1
        exact KV.retP1 rfl rfl (by unfold wrdB; first | (exfalso; omega) | rw [show ltrB c = true from decide_eq_true (by omega), Bool.true_or] | rw [show ltrB c = false from decide_eq_false (by omega), Bool.false_or])

set_option maxRecDepth 100000 in
set_option maxHeartbeats 1000000 in
theorem rword_fn (c : UInt8) : FxP Tryd.prog 63 [.int .u8 (c.toNat : Int)] (.bool (wrdB c)) := by
  refine Sv.FxP.body Tryd.func63 rfl T63 rfl ?_
  intro wp
  refine KV.env [(0, _)] ⟨rfl, trivial⟩ ?_
  refine CV.seq ?_
  -- region 0 ref.go:150
  refine CV.region ?_
  refine RV.op (OV.step gno (Step.assign rfl) rfl ?_)
  refine RV.nil ?_
  refine KV.then_n ?_
  refine KV.env [(0, _)] ⟨rfl, trivial⟩ ?_
  refine CV.seq ?_
  -- region 1 ref.go:151
  refine CV.region ?_
  refine RV.op (OV.step gno (Step.move rfl) rfl ?_)
  refine RV.op (OV.split gno (Step.geq rfl rfl) rfl (fun cc1 => ?_) (fun cc1 => ?_))
  · -- True
    refine RV.op (OV.step gno (Step.move rfl) rfl ?_)
    refine RV.op (OV.step (gyes rfl) (Step.move rfl) rfl ?_)
    refine RV.op (OV.split (gyes rfl) (Step.leq rfl rfl) rfl (fun cc2 => ?_) (fun cc2 => ?_))
    · -- True
      refine RV.op (OV.step gno (Step.pick_t rfl rfl) rfl ?_)
      refine RV.op (OV.step gno (Step.move rfl) rfl ?_)
      refine RV.op (OV.skip rfl rfl ?_)
      refine RV.op (OV.skip rfl rfl ?_)
      refine RV.op (OV.skip rfl rfl ?_)
      refine RV.op (OV.skipU rfl rfl ?_)
      refine RV.op (OV.skipU rfl rfl ?_)
      refine RV.op (OV.skip rfl rfl ?_)
      refine RV.op (OV.step gno (Step.pick_t rfl rfl) rfl ?_)
      refine RV.op (OV.step gno (Step.move rfl) rfl ?_)
      refine RV.op (OV.skip rfl rfl ?_)
      refine RV.op (OV.skip rfl rfl ?_)
      refine RV.op (OV.step gno (Step.pick_t rfl rfl) rfl ?_)
      refine RV.op (OV.step gno (Step.move rfl) rfl ?_)
      refine RV.op (OV.skip rfl rfl ?_)
      refine RV.op (OV.skip rfl rfl ?_)
      refine RV.op (OV.skip rfl rfl ?_)
      refine RV.op (OV.skipU rfl rfl ?_)
      refine RV.op (OV.skipU rfl rfl ?_)
      refine RV.op (OV.skip rfl rfl ?_)
      refine RV.op (OV.step gno (Step.pick_t rfl rfl) rfl ?_)
      refine RV.op (OV.step gno (Step.assign rfl) rfl ?_)
      refine RV.nil ?_
      refine KV.then_n ?_
      refine KV.env [(2, _)] ⟨rfl, trivial⟩ ?_
      refine CV.ret ?_
      -- return at r1
      exact KV.retP1 rfl rfl (by unfold wrdB; first | (exfalso; omega) | rw [show ltrB c = true from decide_eq_true (by omega), Bool.true_or] | rw [show ltrB c = false from decide_eq_false (by omega), Bool.false_or, show digB c = true from decide_eq_true (by omega)] | rw [show ltrB c = false from decide_eq_false (by omega), Bool.false_or, show digB c = false from decide_eq_false (by omega)])
    · -- False
      refine RV.op (OV.step gno (Step.pick_t rfl rfl) rfl ?_)
      refine RV.op (OV.step gno (Step.move rfl) rfl ?_)
      refine RV.op (OV.step (gyes rfl) (Step.move rfl) rfl ?_)
      refine RV.op (OV.split (gyes rfl) (Step.geq rfl rfl) rfl (fun cc3 => ?_) (fun cc3 => ?_))
      · -- True
        refine RV.op (OV.step (gyes rfl) (Step.move rfl) rfl ?_)
        refine RV.op (OV.step (gyes rfl) (Step.move rfl) rfl ?_)
        refine RV.op (OV.split (gyes rfl) (Step.leq rfl rfl) rfl (fun cc4 => ?_) (fun cc4 => ?_))
        · -- True
          refine RV.op (OV.step (gyes rfl) (Step.pick_t rfl rfl) rfl ?_)
          refine RV.op (OV.step gno (Step.pick_f rfl rfl) rfl ?_)
          refine RV.op (OV.step gno (Step.move rfl) rfl ?_)
          refine RV.op (OV.skip rfl rfl ?_)
          refine RV.op (OV.skip rfl rfl ?_)
          refine RV.op (OV.step gno (Step.pick_t rfl rfl) rfl ?_)
          refine RV.op (OV.step gno (Step.move rfl) rfl ?_)
          refine RV.op (OV.skip rfl rfl ?_)
          refine RV.op (OV.skip rfl rfl ?_)
          refine RV.op (OV.skip rfl rfl ?_)
          refine RV.op (OV.skipU rfl rfl ?_)
          refine RV.op (OV.skipU rfl rfl ?_)
          refine RV.op (OV.skip rfl rfl ?_)
          refine RV.op (OV.step gno (Step.pick_t rfl rfl) rfl ?_)
          refine RV.op (OV.step gno (Step.assign rfl) rfl ?_)
          refine RV.nil ?_
          refine KV.then_n ?_
          refine KV.env [(2, _)] ⟨rfl, trivial⟩ ?_
          refine CV.ret ?_
          -- return at r1
          exact KV.retP1 rfl rfl (by unfold wrdB; first | (exfalso; omega) | rw [show ltrB c = true from decide_eq_true (by omega), Bool.true_or] | rw [show ltrB c = false from decide_eq_false (by omega), Bool.false_or, show digB c = true from decide_eq_true (by omega)] | rw [show ltrB c = false from decide_eq_false (by omega), Bool.false_or, show digB c = false from decide_eq_false (by omega)])
        · -- False
          refine RV.op (OV.step (gyes rfl) (Step.pick_t rfl rfl) rfl ?_)
          refine RV.op (OV.step gno (Step.pick_f rfl rfl) rfl ?_)
          refine RV.op (OV.step gno (Step.move rfl) rfl ?_)
          refine RV.op (OV.step (gyes rfl) (Step.move rfl) rfl ?_)
          refine RV.op (OV.split (gyes rfl) (Step.eql rfl rfl) rfl (fun cc5 => ?_) (fun cc5 => ?_))
          · -- True
            refine RV.op (OV.step gno (Step.pick_f rfl rfl) rfl ?_)
            refine RV.op (OV.step gno (Step.move rfl) rfl ?_)
            refine RV.op (OV.skip rfl rfl ?_)
            refine RV.op (OV.skip rfl rfl ?_)
            refine RV.op (OV.skip rfl rfl ?_)
            refine RV.op (OV.skipU rfl rfl ?_)
            refine RV.op (OV.skipU rfl rfl ?_)
            refine RV.op (OV.skip rfl rfl ?_)
            refine RV.op (OV.step gno (Step.pick_t rfl rfl) rfl ?_)
            refine RV.op (OV.step gno (Step.assign rfl) rfl ?_)
            refine RV.nil ?_
            refine KV.then_n ?_
            refine KV.env [(2, _)] ⟨rfl, trivial⟩ ?_
            refine CV.ret ?_
            -- return at r1
            exact KV.retP1 rfl rfl (by unfold wrdB; first | (exfalso; omega) | rw [show ltrB c = true from decide_eq_true (by omega), Bool.true_or] | rw [show ltrB c = false from decide_eq_false (by omega), Bool.false_or, show digB c = true from decide_eq_true (by omega)] | rw [show ltrB c = false from decide_eq_false (by omega), Bool.false_or, show digB c = false from decide_eq_false (by omega)])
          · -- False
            refine RV.op (OV.step gno (Step.pick_f rfl rfl) rfl ?_)
            refine RV.op (OV.step gno (Step.move rfl) rfl ?_)
            refine RV.op (OV.step (gyes rfl) (Step.move rfl) rfl ?_)
            refine RV.op (OV.split (gyes rfl) (Step.geq rfl rfl) rfl (fun cc6 => ?_) (fun cc6 => ?_))
            · -- True
              refine RV.op (OV.step (gyes rfl) (Step.move rfl) rfl ?_)
              refine RV.op (OV.step (gyes rfl) (Step.move rfl) rfl ?_)
              refine RV.op (OV.split (gyes rfl) (Step.leq rfl rfl) rfl (fun cc7 => ?_) (fun cc7 => ?_))
              · -- True
                refine RV.op (OV.step (gyes rfl) (Step.pick_t rfl rfl) rfl ?_)
                refine RV.op (OV.step gno (Step.pick_f rfl rfl) rfl ?_)
                refine RV.op (OV.step gno (Step.assign rfl) rfl ?_)
                refine RV.nil ?_
                refine KV.then_n ?_
                refine KV.env [(2, _)] ⟨rfl, trivial⟩ ?_
                refine CV.ret ?_
                -- return at r1
                exact KV.retP1 rfl rfl (by unfold wrdB; first | (exfalso; omega) | rw [show ltrB c = true from decide_eq_true (by omega), Bool.true_or] | rw [show ltrB c = false from decide_eq_false (by omega), Bool.false_or, show digB c = true from decide_eq_true (by omega)] | rw [show ltrB c = false from decide_eq_false (by omega), Bool.false_or, show digB c = false from decide_eq_false (by omega)])
              · -- False
                refine RV.op (OV.step (gyes rfl) (Step.pick_t rfl rfl) rfl ?_)
                refine RV.op (OV.step gno (Step.pick_f rfl rfl) rfl ?_)
                refine RV.op (OV.step gno (Step.assign rfl) rfl ?_)
                refine RV.nil ?_
                refine KV.then_n ?_
                refine KV.env [(2, _)] ⟨rfl, trivial⟩ ?_
                refine CV.ret ?_
                -- return at r1
                exact KV.retP1 rfl rfl (by unfold wrdB; first | (exfalso; omega) | rw [show ltrB c = true from decide_eq_true (by omega), Bool.true_or] | rw [show ltrB c = false from decide_eq_false (by omega), Bool.false_or, show digB c = true from decide_eq_true (by omega)] | rw [show ltrB c = false from decide_eq_false (by omega), Bool.false_or, show digB c = false from decide_eq_false (by omega)])
            · -- False
              refine RV.op (OV.step (gyes rfl) (Step.move rfl) rfl ?_)
              refine RV.op (OV.skip rfl rfl ?_)
              refine RV.op (OV.skip rfl rfl ?_)
              refine RV.op (OV.step (gyes rfl) (Step.pick_f rfl rfl) rfl ?_)
              refine RV.op (OV.step gno (Step.pick_f rfl rfl) rfl ?_)
              refine RV.op (OV.step gno (Step.assign rfl) rfl ?_)
              refine RV.nil ?_
              refine KV.then_n ?_
              refine KV.env [(2, _)] ⟨rfl, trivial⟩ ?_
              refine CV.ret ?_
              -- return at r1
              exact KV.retP1 rfl rfl (by unfold wrdB; first | (exfalso; omega) | rw [show ltrB c = true from decide_eq_true (by omega), Bool.true_or] | rw [show ltrB c = false from decide_eq_false (by omega), Bool.false_or, show digB c = true from decide_eq_true (by omega)] | rw [show ltrB c = false from decide_eq_false (by omega), Bool.false_or, show digB c = false from decide_eq_false (by omega)])
      · -- False
        refine RV.op (OV.step (gyes rfl) (Step.move rfl) rfl ?_)
        refine RV.op (OV.skip rfl rfl ?_)
        refine RV.op (OV.skip rfl rfl ?_)
        refine RV.op (OV.step (gyes rfl) (Step.pick_f rfl rfl) rfl ?_)
        refine RV.op (OV.step gno (Step.pick_f rfl rfl) rfl ?_)
        refine RV.op (OV.step gno (Step.move rfl) rfl ?_)
        refine RV.op (OV.step (gyes rfl) (Step.move rfl) rfl ?_)
        refine RV.op (OV.split (gyes rfl) (Step.eql rfl rfl) rfl (fun cc8 => ?_) (fun cc8 => ?_))
        · -- True
          refine RV.op (OV.step gno (Step.pick_f rfl rfl) rfl ?_)
          refine RV.op (OV.step gno (Step.move rfl) rfl ?_)
          refine RV.op (OV.skip rfl rfl ?_)
          refine RV.op (OV.skip rfl rfl ?_)
          refine RV.op (OV.skip rfl rfl ?_)
          refine RV.op (OV.skipU rfl rfl ?_)
          refine RV.op (OV.skipU rfl rfl ?_)
          refine RV.op (OV.skip rfl rfl ?_)
          refine RV.op (OV.step gno (Step.pick_t rfl rfl) rfl ?_)
          refine RV.op (OV.step gno (Step.assign rfl) rfl ?_)
          refine RV.nil ?_
          refine KV.then_n ?_
          refine KV.env [(2, _)] ⟨rfl, trivial⟩ ?_
          refine CV.ret ?_
          -- return at r1
          exact KV.retP1 rfl rfl (by unfold wrdB; first | (exfalso; omega) | rw [show ltrB c = true from decide_eq_true (by omega), Bool.true_or] | rw [show ltrB c = false from decide_eq_false (by omega), Bool.false_or, show digB c = true from decide_eq_true (by omega)] | rw [show ltrB c = false from decide_eq_false (by omega), Bool.false_or, show digB c = false from decide_eq_false (by omega)])
        · -- False
          refine RV.op (OV.step gno (Step.pick_f rfl rfl) rfl ?_)
          refine RV.op (OV.step gno (Step.move rfl) rfl ?_)
          refine RV.op (OV.step (gyes rfl) (Step.move rfl) rfl ?_)
          refine RV.op (OV.split (gyes rfl) (Step.geq rfl rfl) rfl (fun cc9 => ?_) (fun cc9 => ?_))
          · -- True
            refine RV.op (OV.step (gyes rfl) (Step.move rfl) rfl ?_)
            refine RV.op (OV.step (gyes rfl) (Step.move rfl) rfl ?_)
            refine RV.op (OV.split (gyes rfl) (Step.leq rfl rfl) rfl (fun cc10 => ?_) (fun cc10 => ?_))
            · -- True
              refine RV.op (OV.step (gyes rfl) (Step.pick_t rfl rfl) rfl ?_)
              refine RV.op (OV.step gno (Step.pick_f rfl rfl) rfl ?_)
              refine RV.op (OV.step gno (Step.assign rfl) rfl ?_)
              refine RV.nil ?_
              refine KV.then_n ?_
              refine KV.env [(2, _)] ⟨rfl, trivial⟩ ?_
              refine CV.ret ?_
              -- return at r1
              exact KV.retP1 rfl rfl (by unfold wrdB; first | (exfalso; omega) | rw [show ltrB c = true from decide_eq_true (by omega), Bool.true_or] | rw [show ltrB c = false from decide_eq_false (by omega), Bool.false_or, show digB c = true from decide_eq_true (by omega)] | rw [show ltrB c = false from decide_eq_false (by omega), Bool.false_or, show digB c = false from decide_eq_false (by omega)])
            · -- False
              refine RV.op (OV.step (gyes rfl) (Step.pick_t rfl rfl) rfl ?_)
              refine RV.op (OV.step gno (Step.pick_f rfl rfl) rfl ?_)
              refine RV.op (OV.step gno (Step.assign rfl) rfl ?_)
              refine RV.nil ?_
              refine KV.then_n ?_
              refine KV.env [(2, _)] ⟨rfl, trivial⟩ ?_
              refine CV.ret ?_
              -- return at r1
              exact KV.retP1 rfl rfl (by unfold wrdB; first | (exfalso; omega) | rw [show ltrB c = true from decide_eq_true (by omega), Bool.true_or] | rw [show ltrB c = false from decide_eq_false (by omega), Bool.false_or, show digB c = true from decide_eq_true (by omega)] | rw [show ltrB c = false from decide_eq_false (by omega), Bool.false_or, show digB c = false from decide_eq_false (by omega)])
          · -- False
            refine RV.op (OV.step (gyes rfl) (Step.move rfl) rfl ?_)
            refine RV.op (OV.skip rfl rfl ?_)
            refine RV.op (OV.skip rfl rfl ?_)
            refine RV.op (OV.step (gyes rfl) (Step.pick_f rfl rfl) rfl ?_)
            refine RV.op (OV.step gno (Step.pick_f rfl rfl) rfl ?_)
            refine RV.op (OV.step gno (Step.assign rfl) rfl ?_)
            refine RV.nil ?_
            refine KV.then_n ?_
            refine KV.env [(2, _)] ⟨rfl, trivial⟩ ?_
            refine CV.ret ?_
            -- return at r1
            exact KV.retP1 rfl rfl (by unfold wrdB; first | (exfalso; omega) | rw [show ltrB c = true from decide_eq_true (by omega), Bool.true_or] | rw [show ltrB c = false from decide_eq_false (by omega), Bool.false_or, show digB c = true from decide_eq_true (by omega)] | rw [show ltrB c = false from decide_eq_false (by omega), Bool.false_or, show digB c = false from decide_eq_false (by omega)])
  · -- False
    refine RV.op (OV.step gno (Step.move rfl) rfl ?_)
    refine RV.op (OV.skip rfl rfl ?_)
    refine RV.op (OV.skip rfl rfl ?_)
    refine RV.op (OV.step gno (Step.pick_f rfl rfl) rfl ?_)
    refine RV.op (OV.step gno (Step.move rfl) rfl ?_)
    refine RV.op (OV.step (gyes rfl) (Step.move rfl) rfl ?_)
    refine RV.op (OV.split (gyes rfl) (Step.geq rfl rfl) rfl (fun cc11 => ?_) (fun cc11 => ?_))
    · -- True
      refine RV.op (OV.step (gyes rfl) (Step.move rfl) rfl ?_)
      refine RV.op (OV.step (gyes rfl) (Step.move rfl) rfl ?_)
      refine RV.op (OV.split (gyes rfl) (Step.leq rfl rfl) rfl (fun cc12 => ?_) (fun cc12 => ?_))
      · -- True
        refine RV.op (OV.step (gyes rfl) (Step.pick_t rfl rfl) rfl ?_)
        refine RV.op (OV.step gno (Step.pick_f rfl rfl) rfl ?_)
        refine RV.op (OV.step gno (Step.move rfl) rfl ?_)
        refine RV.op (OV.skip rfl rfl ?_)
        refine RV.op (OV.skip rfl rfl ?_)
        refine RV.op (OV.step gno (Step.pick_t rfl rfl) rfl ?_)
        refine RV.op (OV.step gno (Step.move rfl) rfl ?_)
        refine RV.op (OV.skip rfl rfl ?_)
        refine RV.op (OV.skip rfl rfl ?_)
        refine RV.op (OV.skip rfl rfl ?_)
        refine RV.op (OV.skipU rfl rfl ?_)
        refine RV.op (OV.skipU rfl rfl ?_)
        refine RV.op (OV.skip rfl rfl ?_)
        refine RV.op (OV.step gno (Step.pick_t rfl rfl) rfl ?_)
        refine RV.op (OV.step gno (Step.assign rfl) rfl ?_)
        refine RV.nil ?_
        refine KV.then_n ?_
        refine KV.env [(2, _)] ⟨rfl, trivial⟩ ?_
        refine CV.ret ?_
        -- return at r1
        exact KV.retP1 rfl rfl (by unfold wrdB; first | (exfalso; omega) | rw [show ltrB c = true from decide_eq_true (by omega), Bool.true_or] | rw [show ltrB c = false from decide_eq_false (by omega), Bool.false_or, show digB c = true from decide_eq_true (by omega)] | rw [show ltrB c = false from decide_eq_false (by omega), Bool.false_or, show digB c = false from decide_eq_false (by omega)])
      · -- False
        refine RV.op (OV.step (gyes rfl) (Step.pick_t rfl rfl) rfl ?_)
        refine RV.op (OV.step gno (Step.pick_f rfl rfl) rfl ?_)
        refine RV.op (OV.step gno (Step.move rfl) rfl ?_)
        refine RV.op (OV.step (gyes rfl) (Step.move rfl) rfl ?_)
        refine RV.op (OV.split (gyes rfl) (Step.eql rfl rfl) rfl (fun cc13 => ?_) (fun cc13 => ?_))
        · -- True
          refine RV.op (OV.step gno (Step.pick_f rfl rfl) rfl ?_)
          refine RV.op (OV.step gno (Step.move rfl) rfl ?_)
          refine RV.op (OV.skip rfl rfl ?_)
          refine RV.op (OV.skip rfl rfl ?_)
          refine RV.op (OV.skip rfl rfl ?_)
          refine RV.op (OV.skipU rfl rfl ?_)
          refine RV.op (OV.skipU rfl rfl ?_)
          refine RV.op (OV.skip rfl rfl ?_)
          refine RV.op (OV.step gno (Step.pick_t rfl rfl) rfl ?_)
          refine RV.op (OV.step gno (Step.assign rfl) rfl ?_)
          refine RV.nil ?_
          refine KV.then_n ?_
          refine KV.env [(2, _)] ⟨rfl, trivial⟩ ?_
          refine CV.ret ?_
          -- return at r1
          exact KV.retP1 rfl rfl (by unfold wrdB; first | (exfalso; omega) | rw [show ltrB c = true from decide_eq_true (by omega), Bool.true_or] | rw [show ltrB c = false from decide_eq_false (by omega), Bool.false_or, show digB c = true from decide_eq_true (by omega)] | rw [show ltrB c = false from decide_eq_false (by omega), Bool.false_or, show digB c = false from decide_eq_false (by omega)])
        · -- False
          refine RV.op (OV.step gno (Step.pick_f rfl rfl) rfl ?_)
          refine RV.op (OV.step gno (Step.move rfl) rfl ?_)
          refine RV.op (OV.step (gyes rfl) (Step.move rfl) rfl ?_)
          refine RV.op (OV.split (gyes rfl) (Step.geq rfl rfl) rfl (fun cc14 => ?_) (fun cc14 => ?_))
          · -- True
            refine RV.op (OV.step (gyes rfl) (Step.move rfl) rfl ?_)
            refine RV.op (OV.step (gyes rfl) (Step.move rfl) rfl ?_)
            refine RV.op (OV.split (gyes rfl) (Step.leq rfl rfl) rfl (fun cc15 => ?_) (fun cc15 => ?_))
            · -- True
              refine RV.op (OV.step (gyes rfl) (Step.pick_t rfl rfl) rfl ?_)
              refine RV.op (OV.step gno (Step.pick_f rfl rfl) rfl ?_)
              refine RV.op (OV.step gno (Step.assign rfl) rfl ?_)
              refine RV.nil ?_
              refine KV.then_n ?_
              refine KV.env [(2, _)] ⟨rfl, trivial⟩ ?_
              refine CV.ret ?_
              -- return at r1
              exact KV.retP1 rfl rfl (by unfold wrdB; first | (exfalso; omega) | rw [show ltrB c = true from decide_eq_true (by omega), Bool.true_or] | rw [show ltrB c = false from decide_eq_false (by omega), Bool.false_or, show digB c = true from decide_eq_true (by omega)] | rw [show ltrB c = false from decide_eq_false (by omega), Bool.false_or, show digB c = false from decide_eq_false (by omega)])
            · -- False
              refine RV.op (OV.step (gyes rfl) (Step.pick_t rfl rfl) rfl ?_)
              refine RV.op (OV.step gno (Step.pick_f rfl rfl) rfl ?_)
              refine RV.op (OV.step gno (Step.assign rfl) rfl ?_)
              refine RV.nil ?_
              refine KV.then_n ?_
              refine KV.env [(2, _)] ⟨rfl, trivial⟩ ?_
              refine CV.ret ?_
              -- return at r1
              exact KV.retP1 rfl rfl (by unfold wrdB; first | (exfalso; omega) | rw [show ltrB c = true from decide_eq_true (by omega), Bool.true_or] | rw [show ltrB c = false from decide_eq_false (by omega), Bool.false_or, show digB c = true from decide_eq_true (by omega)] | rw [show ltrB c = false from decide_eq_false (by omega), Bool.false_or, show digB c = false from decide_eq_false (by omega)])
          · -- False
            refine RV.op (OV.step (gyes rfl) (Step.move rfl) rfl ?_)
            refine RV.op (OV.skip rfl rfl ?_)
            refine RV.op (OV.skip rfl rfl ?_)
            refine RV.op (OV.step (gyes rfl) (Step.pick_f rfl rfl) rfl ?_)
            refine RV.op (OV.step gno (Step.pick_f rfl rfl) rfl ?_)
            refine RV.op (OV.step gno (Step.assign rfl) rfl ?_)
            refine RV.nil ?_
            refine KV.then_n ?_
            refine KV.env [(2, _)] ⟨rfl, trivial⟩ ?_
            refine CV.ret ?_
            -- return at r1
            exact KV.retP1 rfl rfl (by unfold wrdB; first | (exfalso; omega) | rw [show ltrB c = true from decide_eq_true (by omega), Bool.true_or] | rw [show ltrB c = false from decide_eq_false (by omega), Bool.false_or, show digB c = true from decide_eq_true (by omega)] | rw [show ltrB c = false from decide_eq_false (by omega), Bool.false_or, show digB c = false from decide_eq_false (by omega)])
    · -- False
      refine RV.op (OV.step (gyes rfl) (Step.move rfl) rfl ?_)
      refine RV.op (OV.skip rfl rfl ?_)
      refine RV.op (OV.skip rfl rfl ?_)
      refine RV.op (OV.step (gyes rfl) (Step.pick_f rfl rfl) rfl ?_)
      refine RV.op (OV.step gno (Step.pick_f rfl rfl) rfl ?_)
      refine RV.op (OV.step gno (Step.move rfl) rfl ?_)
      refine RV.op (OV.step (gyes rfl) (Step.move rfl) rfl ?_)
      refine RV.op (OV.split (gyes rfl) (Step.eql rfl rfl) rfl (fun cc16 => ?_) (fun cc16 => ?_))
      · -- True
        refine RV.op (OV.step gno (Step.pick_f rfl rfl) rfl ?_)
        refine RV.op (OV.step gno (Step.move rfl) rfl ?_)
        refine RV.op (OV.skip rfl rfl ?_)
        refine RV.op (OV.skip rfl rfl ?_)
        refine RV.op (OV.skip rfl rfl ?_)
        refine RV.op (OV.skipU rfl rfl ?_)
        refine RV.op (OV.skipU rfl rfl ?_)
        refine RV.op (OV.skip rfl rfl ?_)
        refine RV.op (OV.step gno (Step.pick_t rfl rfl) rfl ?_)
        refine RV.op (OV.step gno (Step.assign rfl) rfl ?_)
        refine RV.nil ?_
        refine KV.then_n ?_
        refine KV.env [(2, _)] ⟨rfl, trivial⟩ ?_
        refine CV.ret ?_
        -- return at r1
        exact KV.retP1 rfl rfl (by unfold wrdB; first | (exfalso; omega) | rw [show ltrB c = true from decide_eq_true (by omega), Bool.true_or] | rw [show ltrB c = false from decide_eq_false (by omega), Bool.false_or, show digB c = true from decide_eq_true (by omega)] | rw [show ltrB c = false from decide_eq_false (by omega), Bool.false_or, show digB c = false from decide_eq_false (by omega)])
      · -- False
        refine RV.op (OV.step gno (Step.pick_f rfl rfl) rfl ?_)
        refine RV.op (OV.step gno (Step.move rfl) rfl ?_)
        refine RV.op (OV.step (gyes rfl) (Step.move rfl) rfl ?_)
        refine RV.op (OV.split (gyes rfl) (Step.geq rfl rfl) rfl (fun cc17 => ?_) (fun cc17 => ?_))
        · -- True
          refine RV.op (OV.step (gyes rfl) (Step.move rfl) rfl ?_)
          refine RV.op (OV.step (gyes rfl) (Step.move rfl) rfl ?_)
          refine RV.op (OV.split (gyes rfl) (Step.leq rfl rfl) rfl (fun cc18 => ?_) (fun cc18 => ?_))
          · -- True
            refine RV.op (OV.step (gyes rfl) (Step.pick_t rfl rfl) rfl ?_)
            refine RV.op (OV.step gno (Step.pick_f rfl rfl) rfl ?_)
            refine RV.op (OV.step gno (Step.assign rfl) rfl ?_)
            refine RV.nil ?_
            refine KV.then_n ?_
            refine KV.env [(2, _)] ⟨rfl, trivial⟩ ?_
            refine CV.ret ?_
            -- return at r1
            exact KV.retP1 rfl rfl (by unfold wrdB; first | (exfalso; omega) | rw [show ltrB c = true from decide_eq_true (by omega), Bool.true_or] | rw [show ltrB c = false from decide_eq_false (by omega), Bool.false_or, show digB c = true from decide_eq_true (by omega)] | rw [show ltrB c = false from decide_eq_false (by omega), Bool.false_or, show digB c = false from decide_eq_false (by omega)])
          · -- False
            refine RV.op (OV.step (gyes rfl) (Step.pick_t rfl rfl) rfl ?_)
            refine RV.op (OV.step gno (Step.pick_f rfl rfl) rfl ?_)
            refine RV.op (OV.step gno (Step.assign rfl) rfl ?_)
            refine RV.nil ?_
            refine KV.then_n ?_
            refine KV.env [(2, _)] ⟨rfl, trivial⟩ ?_
            refine CV.ret ?_
            -- return at r1
            exact KV.retP1 rfl rfl (by unfold wrdB; first | (exfalso; omega) | rw [show ltrB c = true from decide_eq_true (by omega), Bool.true_or] | rw [show ltrB c = false from decide_eq_false (by omega), Bool.false_or, show digB c = true from decide_eq_true (by omega)] | rw [show ltrB c = false from decide_eq_false (by omega), Bool.false_or, show digB c = false from decide_eq_false (by omega)])
        · -- False
          refine RV.op (OV.step (gyes rfl) (Step.move rfl) rfl ?_)
          refine RV.op (OV.skip rfl rfl ?_)
          refine RV.op (OV.skip rfl rfl ?_)
          refine RV.op (OV.step (gyes rfl) (Step.pick_f rfl rfl) rfl ?_)
          refine RV.op (OV.step gno (Step.pick_f rfl rfl) rfl ?_)
          refine RV.op (OV.step gno (Step.assign rfl) rfl ?_)
          refine RV.nil ?_
          refine KV.then_n ?_
          refine KV.env [(2, _)] ⟨rfl, trivial⟩ ?_
          refine CV.ret ?_
          -- return at r1
          exact KV.retP1 rfl rfl (by unfold wrdB; first | (exfalso; omega) | rw [show ltrB c = true from decide_eq_true (by omega), Bool.true_or] | rw [show ltrB c = false from decide_eq_false (by omega), Bool.false_or, show digB c = true from decide_eq_true (by omega)] | rw [show ltrB c = false from decide_eq_false (by omega), Bool.false_or, show digB c = false from decide_eq_false (by omega)])

set_option maxRecDepth 100000 in
set_option maxHeartbeats 1000000 in
theorem isName_fn (l : Bs) : FxP Tryd.prog 53 [.string (bs l)] (.bool (isNm l)) := by
  refine Sv.FxP.body Tryd.func53 rfl T53 rfl ?_
  intro wp
  refine KV.env [(0, _)] ⟨rfl, trivial⟩ ?_
  refine CV.seq ?_
  -- region 0 driver.go:59
  refine CV.region ?_
  refine RV.op (OV.step gno (Step.assign rfl) rfl ?_)
  refine RV.nil ?_
  refine KV.then_n ?_
  refine KV.env [(0, _)] ⟨rfl, trivial⟩ ?_
  refine CV.seq ?_
  refine CV.seq ?_
  -- region 1 driver.go:60
  refine CV.region ?_
  refine RV.op (OV.step gno (Step.move rfl) rfl ?_)
  refine RV.op (OV.split gno (Step.eqlStr (l2 := []) rfl rfl) rfl (fun h0 => ?_) (fun h0 => ?_))
  · -- True
    refine RV.op (OV.step gno (Step.move rfl) rfl ?_)
    refine RV.op (OV.skip rfl rfl ?_)
    refine RV.op (OV.skip rfl rfl ?_)
    refine RV.op (OV.skip rfl rfl ?_)
    refine RV.op (OV.step gno (Step.pick_t rfl rfl) rfl ?_)
    refine RV.op (OV.step gno (Step.move rfl) rfl ?_)
    refine RV.op (OV.skip rfl rfl ?_)
    refine RV.op (OV.skip rfl rfl ?_)
    refine RV.op (OV.skip rfl rfl ?_)
    refine RV.op (OV.step gno (Step.pick_t rfl rfl) rfl ?_)
    refine RV.nil ?_
    refine KV.then_n ?_
    refine KV.env [(0, _), (15, _)] ⟨rfl, rfl, trivial⟩ ?_
    refine CV.cond_t rfl ?_
    refine CV.seq ?_
    -- region 2 driver.go:61
    refine CV.region ?_
    refine RV.op (OV.step gno (Step.assign rfl) rfl ?_)
    refine RV.nil ?_
    refine KV.then_n ?_
    refine KV.env [(2, _)] ⟨rfl, trivial⟩ ?_
    refine CV.ret ?_
    refine KV.then_ret ?_
    -- return at r2
    exact KV.retP1 rfl rfl (by first | rw [isNm_f3 h2] | rw [isNm_f2 (by omega)] | rw [isNm_f1 (by rw [h0]; decide)])
  · -- False
    refine RV.op (OV.step gno (Step.move rfl) rfl ?_)
    refine RV.op (OV.step (gyes rfl) (Step.move rfl) rfl ?_)
    refine RV.op (OV.step (gyes rfl) (Step.lenStr Tryd.underlying9 rfl) rfl ?_)
    refine RV.op (OV.split (gyes rfl) (Step.gtr rfl rfl) rfl (fun h1 => ?_) (fun h1 => ?_))
    · -- True
      refine RV.op (OV.step gno (Step.pick_f rfl rfl) rfl ?_)
      refine RV.op (OV.step gno (Step.move rfl) rfl ?_)
      refine RV.op (OV.skip rfl rfl ?_)
      refine RV.op (OV.skip rfl rfl ?_)
      refine RV.op (OV.skip rfl rfl ?_)
      refine RV.op (OV.step gno (Step.pick_t rfl rfl) rfl ?_)
      refine RV.nil ?_
      refine KV.then_n ?_
      refine KV.env [(0, _), (15, _)] ⟨rfl, rfl, trivial⟩ ?_
      refine CV.cond_t rfl ?_
      refine CV.seq ?_
      -- region 2 driver.go:61
      refine CV.region ?_
      refine RV.op (OV.step gno (Step.assign rfl) rfl ?_)
      refine RV.nil ?_
      refine KV.then_n ?_
      refine KV.env [(2, _)] ⟨rfl, trivial⟩ ?_
      refine CV.ret ?_
      refine KV.then_ret ?_
      -- return at r2
      exact KV.retP1 rfl rfl (by first | rw [isNm_f3 h2] | rw [isNm_f2 (by omega)] | rw [isNm_f1 (by rw [h0]; decide)])
    · -- False
      refine RV.op (OV.step gno (Step.pick_f rfl rfl) rfl ?_)
      refine RV.op (OV.step gno (Step.move rfl) rfl ?_)
      refine RV.op (OV.step (gyes rfl) (Step.move rfl) rfl ?_)
      refine RV.op (OV.step (gyes rfl) (Step.idxStr Tryd.underlying9 rfl rfl 0 rfl (by first | omega | (have : 0 < l.length := List.length_pos_iff.2 h0; omega))) rfl ?_)
      refine RV.op (OV.callP Tryd.func70 B70 N70 rfl (isDigit_fn (l.getD 0 0)) (gyes rfl) rfl ?_)
      refine RV.op (OV.step gno (Step.pick_f rfl rfl) rfl ?_)
      refine RV.nil ?_
      refine KV.then_n ?_
      refine KV.env [(0, _), (15, _)] ⟨rfl, rfl, trivial⟩ ?_
      refine KV.cases 15 rfl (fun cc1 => ?_) (fun cc1 => ?_)
      · -- True
        have h2 := cc1
        refine CV.cond_t rfl ?_
        refine CV.seq ?_
        -- region 2 driver.go:61
        refine CV.region ?_
        refine RV.op (OV.step gno (Step.assign rfl) rfl ?_)
        refine RV.nil ?_
        refine KV.then_n ?_
        refine KV.env [(2, _)] ⟨rfl, trivial⟩ ?_
        refine CV.ret ?_
        refine KV.then_ret ?_
        -- return at r2
        exact KV.retP1 rfl rfl (by first | rw [isNm_f3 h2] | rw [isNm_f2 (by omega)] | rw [isNm_f1 (by rw [h0]; decide)])
      · -- False
        have h2 := cc1
        refine CV.cond_f rfl ?_
        refine CV.skip ?_
        refine KV.then_n ?_
        refine KV.env [(0, _)] ⟨rfl, trivial⟩ ?_
        refine CV.seq ?_
        refine CV.seq ?_
        -- region 3 driver.go:63
        refine CV.region ?_
        refine RV.op (OV.step gno (Step.move rfl) rfl ?_)
        refine RV.op (OV.step gno (Step.lenStr Tryd.underlying9 rfl) rfl ?_)
        refine RV.op (OV.step gno (Step.move rfl) rfl ?_)
        refine RV.nil ?_
        refine KV.then_n ?_
        refine KV.env [(0, _), (17, _), (18, _)] ⟨rfl, rfl, rfl, trivial⟩ ?_
        refine CV.block ?_
        -- loop L4; live [0, 17, 18]
        refine CV.loopI (fun (j : Nat) => j ≤ l.length ∧ ∀ k, k < j → wrdB (l.getD k 0) = true) (fun (j : Nat) => l.length - j) (fun (j : Nat) => [(0, .string (bs l)), (17, .int .i64 l.length), (18, .int .i64 j)]) (fun (j : Nat) => (fun w1 => w1 = wp)) (0) ⟨Nat.zero_le _, fun k hk => by omega⟩ ⟨rfl, rfl, rfl, trivial⟩ (fun _ h => h) ?_
        intro j hinv
        refine CV.seq ?_
        -- region 4 driver.go:63
        refine CV.region ?_
        refine RV.op (OV.split gno (Step.lss rfl rfl) rfl (fun hj => ?_) (fun hj => ?_))
        · -- True
          refine RV.nil ?_
          refine KV.then_n ?_
          refine KV.env [(0, _), (17, _), (18, _), (19, _)] ⟨rfl, rfl, rfl, rfl, trivial⟩ ?_
          refine CV.seq ?_
          refine CV.cond_t rfl ?_
          refine CV.skip ?_
          refine KV.then_n ?_
          refine KV.env [(0, _), (17, _), (18, _)] ⟨rfl, rfl, rfl, trivial⟩ ?_
          refine CV.seq ?_
          refine CV.block ?_
          refine CV.seq ?_
          -- region 5 driver.go:63
          refine CV.region ?_
          refine RV.op (OV.step gno (Step.move rfl) rfl ?_)
          refine RV.op (OV.step gno (Step.assign rfl) rfl ?_)
          refine RV.nil ?_
          refine KV.then_n ?_
          refine KV.env [(0, _), (3, _), (17, _), (18, _)] ⟨rfl, rfl, rfl, rfl, trivial⟩ ?_
          refine CV.seq ?_
          -- region 6 driver.go:64
          refine CV.region ?_
          refine RV.op (OV.step gno (Step.move rfl) rfl ?_)
          refine RV.op (OV.step gno (Step.move rfl) rfl ?_)
          refine RV.op (OV.step gno (Step.idxStr Tryd.underlying9 rfl rfl _ rfl (by first | omega | (have : 0 < l.length := List.length_pos_iff.2 h0; omega))) rfl ?_)
          refine RV.op (OV.callP Tryd.func58 B58 N58 rfl (isWord_fn (l.getD j 0)) gno rfl ?_)
          refine RV.op (OV.step gno (Step.not rfl) rfl ?_)
          refine RV.nil ?_
          refine KV.then_n ?_
          refine KV.env [(0, _), (17, _), (18, _), (25, _)] ⟨rfl, rfl, rfl, rfl, trivial⟩ ?_
          refine KV.cases 25 rfl (fun cc2 => ?_) (fun cc2 => ?_)
          · -- True
            have h3 : wrdB (l.getD j 0) = false := by have := cc2; revert this; cases wrdB (l.getD j 0) <;> simp
            refine CV.cond_t rfl ?_
            refine CV.seq ?_
            -- region 7 driver.go:65
            refine CV.region ?_
            refine RV.op (OV.step gno (Step.assign rfl) rfl ?_)
            refine RV.nil ?_
            refine KV.then_n ?_
            refine KV.env [(2, _)] ⟨rfl, trivial⟩ ?_
            refine CV.ret ?_
            refine KV.block_ret ?_
            refine KV.then_ret ?_
            refine KV.then_ret ?_
            refine KV.block_ret ?_
            refine KV.then_ret ?_
            -- return at r7
            exact KV.retP1 rfl rfl (by rw [isNm_f4 (k := j) (by omega) h3])
          · -- False
            have h3 : wrdB (l.getD j 0) = true := by have := cc2; revert this; cases wrdB (l.getD j 0) <;> simp
            refine CV.cond_f rfl ?_
            refine CV.skip ?_
            refine KV.block_n ?_
            refine KV.then_n ?_
            refine KV.env [(0, _), (17, _), (18, _)] ⟨rfl, rfl, rfl, trivial⟩ ?_
            -- region 8 driver.go:63
            refine CV.region ?_
            (first | refine RV.op (OV.step gno (Step.add rfl rfl (wI64 (by omega) (by omega))) rfl ?_) | refine RV.op (OV.step gno (Step.add rfl rfl rfl) rfl ?_))
            refine RV.op (OV.step gno (Step.move rfl) rfl ?_)
            refine RV.nil ?_
            refine KV.then_n ?_
            refine KV.env [(0, _), (17, _), (18, _)] ⟨rfl, rfl, rfl, trivial⟩ ?_
            exact KV.loopI (z := j) (j + 1) ⟨by omega, fun k hk => by by_cases e : k = j; (subst e; exact h3); exact hinv.2 k (by omega)⟩ (by omega) ⟨rfl, rfl, rfl, trivial⟩ (fun _ h => h)
        · -- False
          refine RV.nil ?_
          refine KV.then_n ?_
          refine KV.env [(0, _), (17, _), (18, _), (19, _)] ⟨rfl, rfl, rfl, rfl, trivial⟩ ?_
          refine CV.seq ?_
          refine CV.cond_f rfl ?_
          refine CV.exit ?_
          refine KV.then_exit ?_
          refine KV.then_exit ?_
          refine KV.block_hit ?_
          refine KV.then_n ?_
          refine KV.env [] trivial ?_
          refine CV.seq ?_
          -- region 9 driver.go:68
          refine CV.region ?_
          refine RV.op (OV.step gno (Step.assign rfl) rfl ?_)
          refine RV.nil ?_
          refine KV.then_n ?_
          refine KV.env [(2, _)] ⟨rfl, trivial⟩ ?_
          refine CV.ret ?_
          -- return at r9
          exact KV.retP1 rfl rfl (by rw [isNm_t (List.length_pos_iff.2 h0) (by omega) h2 (fun k hk => hinv.2 k (by omega))])
end Go.Proofs.YtplmfekhdaefaaaDoor
