/-
 Walks, part 1.
-/
import Derived.Test.YtplmfekhdaefaaaGreatDoorTabA
import Derived.Test.YtplmfekhdaefaaaGreatDoorDmA
set_option linter.unusedSimpArgs false
set_option linter.unusedVariables false
namespace Go.Proofs.YtplmfekhdaefaaaGreatDoor
open Go.Sv Go.Drv
set_option maxRecDepth 100000 in
set_option maxHeartbeats 1000000 in
theorem isDigit_fn (c : UInt8) : FxP Tryz.prog 73 [.int .u8 (c.toNat : Int)] (.bool (digB c)) := by
 refine Sv.FxP.body Tryz.func73 rfl T73 rfl ?_
 intro wp
 refine KV.env [(0, _)] ⟨rfl, trivial⟩ (CV.seq (CV.region ?_))
 refine RV.a rfl rfl ?_
 refine RV.nil (KV.then_n (KV.env [(0, _)] ⟨rfl, trivial⟩ (CV.seq (CV.region ?_))))
 refine RV.m rfl rfl ?_
 refine RV.op (OV.split gno (Step.geq rfl rfl) rfl (fun cc1 => ?_) (fun cc1 => ?_))
 ·
  refine RV.m rfl rfl (RV.gw rfl (Step.move rfl) rfl ?_)
  refine RV.op (OV.split (gyes rfl) (Step.leq rfl rfl) rfl (fun cc2 => ?_) (fun cc2 => ?_))
  ·
   refine RV.s (Step.pick_t rfl rfl) rfl (RV.a rfl rfl ?_)
   refine RV.nil (KV.then_n (KV.env [(2, _)] ⟨rfl, trivial⟩ (CV.ret ?_)))
   exact KV.retP1 rfl rfl (by unfold digB; first | (exfalso; omega) | rw [decide_eq_true (show 48 ≤ c.toNat ∧ c.toNat ≤ 57 by omega)] | rw [decide_eq_false (show ¬ (48 ≤ c.toNat ∧ c.toNat ≤ 57) by omega)])
  ·
   refine RV.s (Step.pick_t rfl rfl) rfl (RV.a rfl rfl ?_)
   refine RV.nil (KV.then_n (KV.env [(2, _)] ⟨rfl, trivial⟩ (CV.ret ?_)))
   exact KV.retP1 rfl rfl (by unfold digB; first | (exfalso; omega) | rw [decide_eq_true (show 48 ≤ c.toNat ∧ c.toNat ≤ 57 by omega)] | rw [decide_eq_false (show ¬ (48 ≤ c.toNat ∧ c.toNat ≤ 57) by omega)])
 ·
  refine RV.m rfl rfl (RV.k rfl rfl (RV.k rfl rfl (RV.s (Step.pick_f rfl rfl) rfl (RV.a rfl rfl ?_))))
  refine RV.nil (KV.then_n (KV.env [(2, _)] ⟨rfl, trivial⟩ (CV.ret ?_)))
  exact KV.retP1 rfl rfl (by unfold digB; first | (exfalso; omega) | rw [decide_eq_true (show 48 ≤ c.toNat ∧ c.toNat ≤ 57 by omega)] | rw [decide_eq_false (show ¬ (48 ≤ c.toNat ∧ c.toNat ≤ 57) by omega)])

set_option maxRecDepth 100000 in
set_option maxHeartbeats 1000000 in
theorem isWord_fn (c : UInt8) : FxP Tryz.prog 51 [.int .u8 (c.toNat : Int)] (.bool (wrdB c)) := by
 refine Sv.FxP.body Tryz.func51 rfl T51 rfl ?_
 intro wp
 refine KV.env [(0, _)] ⟨rfl, trivial⟩ (CV.seq (CV.region ?_))
 refine RV.a rfl rfl ?_
 refine RV.nil (KV.then_n (KV.env [(0, _)] ⟨rfl, trivial⟩ (CV.seq (CV.region ?_))))
 refine RV.m rfl rfl ?_
 refine RV.op (OV.split gno (Step.geq rfl rfl) rfl (fun cc1 => ?_) (fun cc1 => ?_))
 ·
  refine RV.m rfl rfl (RV.gw rfl (Step.move rfl) rfl ?_)
  refine RV.op (OV.split (gyes rfl) (Step.leq rfl rfl) rfl (fun cc2 => ?_) (fun cc2 => ?_))
  ·
   refine RV.s (Step.pick_t rfl rfl) rfl (RV.m rfl rfl (RV.k rfl rfl (RV.k rfl rfl (RV.k rfl rfl ?_))))
   refine RV.op (OV.skipU rfl rfl ?_)
   refine RV.op (OV.skipU rfl rfl ?_)
   refine RV.k rfl rfl (RV.s (Step.pick_t rfl rfl) rfl (RV.m rfl rfl (RV.k rfl rfl (RV.k rfl rfl (RV.s (Step.pick_t rfl rfl) rfl (RV.m rfl rfl (RV.k rfl rfl ?_)))))))
   refine RV.k rfl rfl (RV.s (Step.pick_t rfl rfl) rfl (RV.a rfl rfl ?_))
   refine RV.nil (KV.then_n (KV.env [(2, _)] ⟨rfl, trivial⟩ (CV.ret ?_)))
   exact KV.retP1 rfl rfl (by unfold wrdB; first | (exfalso; omega) | rw [show ltrB c = true from decide_eq_true (by omega), Bool.true_or] | rw [show ltrB c = false from decide_eq_false (by omega), Bool.false_or])
  ·
   refine RV.s (Step.pick_t rfl rfl) rfl (RV.m rfl rfl (RV.gw rfl (Step.move rfl) rfl ?_))
   refine RV.op (OV.split (gyes rfl) (Step.geq rfl rfl) rfl (fun cc3 => ?_) (fun cc3 => ?_))
   ·
    refine RV.gw rfl (Step.move rfl) rfl (RV.gw rfl (Step.move rfl) rfl ?_)
    refine RV.op (OV.split (gyes rfl) (Step.leq rfl rfl) rfl (fun cc4 => ?_) (fun cc4 => ?_))
    ·
     refine RV.gw rfl (Step.pick_t rfl rfl) rfl (RV.s (Step.pick_f rfl rfl) rfl (RV.m rfl rfl (RV.k rfl rfl (RV.k rfl rfl (RV.s (Step.pick_t rfl rfl) rfl (RV.m rfl rfl (RV.k rfl rfl ?_)))))))
     refine RV.k rfl rfl (RV.s (Step.pick_t rfl rfl) rfl (RV.a rfl rfl ?_))
     refine RV.nil (KV.then_n (KV.env [(2, _)] ⟨rfl, trivial⟩ (CV.ret ?_)))
     exact KV.retP1 rfl rfl (by unfold wrdB; first | (exfalso; omega) | rw [show ltrB c = true from decide_eq_true (by omega), Bool.true_or] | rw [show ltrB c = false from decide_eq_false (by omega), Bool.false_or])
    ·
     refine RV.gw rfl (Step.pick_t rfl rfl) rfl (RV.s (Step.pick_f rfl rfl) rfl (RV.m rfl rfl (RV.gw rfl (Step.move rfl) rfl ?_)))
     refine RV.op (OV.split (gyes rfl) (Step.eql rfl rfl) rfl (fun cc5 => ?_) (fun cc5 => ?_))
     ·
      refine RV.s (Step.pick_f rfl rfl) rfl (RV.m rfl rfl (RV.k rfl rfl (RV.k rfl rfl (RV.s (Step.pick_t rfl rfl) rfl (RV.a rfl rfl ?_)))))
      refine RV.nil (KV.then_n (KV.env [(2, _)] ⟨rfl, trivial⟩ (CV.ret ?_)))
      exact KV.retP1 rfl rfl (by unfold wrdB; first | (exfalso; omega) | rw [show ltrB c = true from decide_eq_true (by omega), Bool.true_or] | rw [show ltrB c = false from decide_eq_false (by omega), Bool.false_or])
     ·
      refine RV.s (Step.pick_f rfl rfl) rfl (RV.m rfl rfl (RV.gw rfl (Step.move rfl) rfl ?_))
      refine RV.op (OV.callP Tryz.func73 B73 N73 rfl (isDigit_fn c) (gyes rfl) rfl ?_)
      refine RV.s (Step.pick_f rfl rfl) rfl (RV.a rfl rfl ?_)
      refine RV.nil (KV.then_n (KV.env [(2, _)] ⟨rfl, trivial⟩ (CV.ret ?_)))
      exact KV.retP1 rfl rfl (by unfold wrdB; first | (exfalso; omega) | rw [show ltrB c = true from decide_eq_true (by omega), Bool.true_or] | rw [show ltrB c = false from decide_eq_false (by omega), Bool.false_or])
   ·
    refine RV.gw rfl (Step.move rfl) rfl (RV.k rfl rfl (RV.k rfl rfl (RV.gw rfl (Step.pick_f rfl rfl) rfl (RV.s (Step.pick_f rfl rfl) rfl (RV.m rfl rfl (RV.gw rfl (Step.move rfl) rfl ?_))))))
    refine RV.op (OV.split (gyes rfl) (Step.eql rfl rfl) rfl (fun cc6 => ?_) (fun cc6 => ?_))
    ·
     refine RV.s (Step.pick_f rfl rfl) rfl (RV.m rfl rfl (RV.k rfl rfl (RV.k rfl rfl (RV.s (Step.pick_t rfl rfl) rfl (RV.a rfl rfl ?_)))))
     refine RV.nil (KV.then_n (KV.env [(2, _)] ⟨rfl, trivial⟩ (CV.ret ?_)))
     exact KV.retP1 rfl rfl (by unfold wrdB; first | (exfalso; omega) | rw [show ltrB c = true from decide_eq_true (by omega), Bool.true_or] | rw [show ltrB c = false from decide_eq_false (by omega), Bool.false_or])
    ·
     refine RV.s (Step.pick_f rfl rfl) rfl (RV.m rfl rfl (RV.gw rfl (Step.move rfl) rfl ?_))
     refine RV.op (OV.callP Tryz.func73 B73 N73 rfl (isDigit_fn c) (gyes rfl) rfl ?_)
     refine RV.s (Step.pick_f rfl rfl) rfl (RV.a rfl rfl ?_)
     refine RV.nil (KV.then_n (KV.env [(2, _)] ⟨rfl, trivial⟩ (CV.ret ?_)))
     exact KV.retP1 rfl rfl (by unfold wrdB; first | (exfalso; omega) | rw [show ltrB c = true from decide_eq_true (by omega), Bool.true_or] | rw [show ltrB c = false from decide_eq_false (by omega), Bool.false_or])
 ·
  refine RV.m rfl rfl (RV.k rfl rfl (RV.k rfl rfl (RV.s (Step.pick_f rfl rfl) rfl (RV.m rfl rfl (RV.gw rfl (Step.move rfl) rfl ?_)))))
  refine RV.op (OV.split (gyes rfl) (Step.geq rfl rfl) rfl (fun cc7 => ?_) (fun cc7 => ?_))
  ·
   refine RV.gw rfl (Step.move rfl) rfl (RV.gw rfl (Step.move rfl) rfl ?_)
   refine RV.op (OV.split (gyes rfl) (Step.leq rfl rfl) rfl (fun cc8 => ?_) (fun cc8 => ?_))
   ·
    refine RV.gw rfl (Step.pick_t rfl rfl) rfl (RV.s (Step.pick_f rfl rfl) rfl (RV.m rfl rfl (RV.k rfl rfl (RV.k rfl rfl (RV.s (Step.pick_t rfl rfl) rfl (RV.m rfl rfl (RV.k rfl rfl ?_)))))))
    refine RV.k rfl rfl (RV.s (Step.pick_t rfl rfl) rfl (RV.a rfl rfl ?_))
    refine RV.nil (KV.then_n (KV.env [(2, _)] ⟨rfl, trivial⟩ (CV.ret ?_)))
    exact KV.retP1 rfl rfl (by unfold wrdB; first | (exfalso; omega) | rw [show ltrB c = true from decide_eq_true (by omega), Bool.true_or] | rw [show ltrB c = false from decide_eq_false (by omega), Bool.false_or])
   ·
    refine RV.gw rfl (Step.pick_t rfl rfl) rfl (RV.s (Step.pick_f rfl rfl) rfl (RV.m rfl rfl (RV.gw rfl (Step.move rfl) rfl ?_)))
    refine RV.op (OV.split (gyes rfl) (Step.eql rfl rfl) rfl (fun cc9 => ?_) (fun cc9 => ?_))
    ·
     refine RV.s (Step.pick_f rfl rfl) rfl (RV.m rfl rfl (RV.k rfl rfl (RV.k rfl rfl (RV.s (Step.pick_t rfl rfl) rfl (RV.a rfl rfl ?_)))))
     refine RV.nil (KV.then_n (KV.env [(2, _)] ⟨rfl, trivial⟩ (CV.ret ?_)))
     exact KV.retP1 rfl rfl (by unfold wrdB; first | (exfalso; omega) | rw [show ltrB c = true from decide_eq_true (by omega), Bool.true_or] | rw [show ltrB c = false from decide_eq_false (by omega), Bool.false_or])
    ·
     refine RV.s (Step.pick_f rfl rfl) rfl (RV.m rfl rfl (RV.gw rfl (Step.move rfl) rfl ?_))
     refine RV.op (OV.callP Tryz.func73 B73 N73 rfl (isDigit_fn c) (gyes rfl) rfl ?_)
     refine RV.s (Step.pick_f rfl rfl) rfl (RV.a rfl rfl ?_)
     refine RV.nil (KV.then_n (KV.env [(2, _)] ⟨rfl, trivial⟩ (CV.ret ?_)))
     exact KV.retP1 rfl rfl (by unfold wrdB; first | (exfalso; omega) | rw [show ltrB c = true from decide_eq_true (by omega), Bool.true_or] | rw [show ltrB c = false from decide_eq_false (by omega), Bool.false_or])
  ·
   refine RV.gw rfl (Step.move rfl) rfl (RV.k rfl rfl (RV.k rfl rfl (RV.gw rfl (Step.pick_f rfl rfl) rfl (RV.s (Step.pick_f rfl rfl) rfl (RV.m rfl rfl (RV.gw rfl (Step.move rfl) rfl ?_))))))
   refine RV.op (OV.split (gyes rfl) (Step.eql rfl rfl) rfl (fun cc10 => ?_) (fun cc10 => ?_))
   ·
    refine RV.s (Step.pick_f rfl rfl) rfl (RV.m rfl rfl (RV.k rfl rfl (RV.k rfl rfl (RV.s (Step.pick_t rfl rfl) rfl (RV.a rfl rfl ?_)))))
    refine RV.nil (KV.then_n (KV.env [(2, _)] ⟨rfl, trivial⟩ (CV.ret ?_)))
    exact KV.retP1 rfl rfl (by unfold wrdB; first | (exfalso; omega) | rw [show ltrB c = true from decide_eq_true (by omega), Bool.true_or] | rw [show ltrB c = false from decide_eq_false (by omega), Bool.false_or])
   ·
    refine RV.s (Step.pick_f rfl rfl) rfl (RV.m rfl rfl (RV.gw rfl (Step.move rfl) rfl ?_))
    refine RV.op (OV.callP Tryz.func73 B73 N73 rfl (isDigit_fn c) (gyes rfl) rfl ?_)
    refine RV.s (Step.pick_f rfl rfl) rfl (RV.a rfl rfl ?_)
    refine RV.nil (KV.then_n (KV.env [(2, _)] ⟨rfl, trivial⟩ (CV.ret ?_)))
    exact KV.retP1 rfl rfl (by unfold wrdB; first | (exfalso; omega) | rw [show ltrB c = true from decide_eq_true (by omega), Bool.true_or] | rw [show ltrB c = false from decide_eq_false (by omega), Bool.false_or])

set_option maxRecDepth 100000 in
set_option maxHeartbeats 1000000 in
theorem rword_fn (c : UInt8) : FxP Tryz.prog 58 [.int .u8 (c.toNat : Int)] (.bool (wrdB c)) := by
 refine Sv.FxP.body Tryz.func58 rfl T58 rfl ?_
 intro wp
 refine KV.env [(0, _)] ⟨rfl, trivial⟩ (CV.seq (CV.region ?_))
 refine RV.a rfl rfl ?_
 refine RV.nil (KV.then_n (KV.env [(0, _)] ⟨rfl, trivial⟩ (CV.seq (CV.region ?_))))
 refine RV.m rfl rfl ?_
 refine RV.op (OV.split gno (Step.geq rfl rfl) rfl (fun cc1 => ?_) (fun cc1 => ?_))
 ·
  refine RV.m rfl rfl (RV.gw rfl (Step.move rfl) rfl ?_)
  refine RV.op (OV.split (gyes rfl) (Step.leq rfl rfl) rfl (fun cc2 => ?_) (fun cc2 => ?_))
  ·
   refine RV.s (Step.pick_t rfl rfl) rfl (RV.m rfl rfl (RV.k rfl rfl (RV.k rfl rfl (RV.k rfl rfl ?_))))
   refine RV.op (OV.skipU rfl rfl ?_)
   refine RV.op (OV.skipU rfl rfl ?_)
   refine RV.k rfl rfl (RV.s (Step.pick_t rfl rfl) rfl (RV.m rfl rfl (RV.k rfl rfl (RV.k rfl rfl (RV.s (Step.pick_t rfl rfl) rfl (RV.m rfl rfl (RV.k rfl rfl ?_)))))))
   refine RV.k rfl rfl (RV.k rfl rfl ?_)
   refine RV.op (OV.skipU rfl rfl ?_)
   refine RV.op (OV.skipU rfl rfl ?_)
   refine RV.k rfl rfl (RV.s (Step.pick_t rfl rfl) rfl (RV.a rfl rfl ?_))
   refine RV.nil (KV.then_n (KV.env [(2, _)] ⟨rfl, trivial⟩ (CV.ret ?_)))
   exact KV.retP1 rfl rfl (by unfold wrdB; first | (exfalso; omega) | rw [show ltrB c = true from decide_eq_true (by omega), Bool.true_or] | rw [show ltrB c = false from decide_eq_false (by omega), Bool.false_or, show digB c = true from decide_eq_true (by omega)] | rw [show ltrB c = false from decide_eq_false (by omega), Bool.false_or, show digB c = false from decide_eq_false (by omega)])
  ·
   refine RV.s (Step.pick_t rfl rfl) rfl (RV.m rfl rfl (RV.gw rfl (Step.move rfl) rfl ?_))
   refine RV.op (OV.split (gyes rfl) (Step.geq rfl rfl) rfl (fun cc3 => ?_) (fun cc3 => ?_))
   ·
    refine RV.gw rfl (Step.move rfl) rfl (RV.gw rfl (Step.move rfl) rfl ?_)
    refine RV.op (OV.split (gyes rfl) (Step.leq rfl rfl) rfl (fun cc4 => ?_) (fun cc4 => ?_))
    ·
     refine RV.gw rfl (Step.pick_t rfl rfl) rfl (RV.s (Step.pick_f rfl rfl) rfl (RV.m rfl rfl (RV.k rfl rfl (RV.k rfl rfl (RV.s (Step.pick_t rfl rfl) rfl (RV.m rfl rfl (RV.k rfl rfl ?_)))))))
     refine RV.k rfl rfl (RV.k rfl rfl ?_)
     refine RV.op (OV.skipU rfl rfl ?_)
     refine RV.op (OV.skipU rfl rfl ?_)
     refine RV.k rfl rfl (RV.s (Step.pick_t rfl rfl) rfl (RV.a rfl rfl ?_))
     refine RV.nil (KV.then_n (KV.env [(2, _)] ⟨rfl, trivial⟩ (CV.ret ?_)))
     exact KV.retP1 rfl rfl (by unfold wrdB; first | (exfalso; omega) | rw [show ltrB c = true from decide_eq_true (by omega), Bool.true_or] | rw [show ltrB c = false from decide_eq_false (by omega), Bool.false_or, show digB c = true from decide_eq_true (by omega)] | rw [show ltrB c = false from decide_eq_false (by omega), Bool.false_or, show digB c = false from decide_eq_false (by omega)])
    ·
     refine RV.gw rfl (Step.pick_t rfl rfl) rfl (RV.s (Step.pick_f rfl rfl) rfl (RV.m rfl rfl (RV.gw rfl (Step.move rfl) rfl ?_)))
     refine RV.op (OV.split (gyes rfl) (Step.eql rfl rfl) rfl (fun cc5 => ?_) (fun cc5 => ?_))
     ·
      refine RV.s (Step.pick_f rfl rfl) rfl (RV.m rfl rfl (RV.k rfl rfl (RV.k rfl rfl (RV.k rfl rfl ?_))))
      refine RV.op (OV.skipU rfl rfl ?_)
      refine RV.op (OV.skipU rfl rfl ?_)
      refine RV.k rfl rfl (RV.s (Step.pick_t rfl rfl) rfl (RV.a rfl rfl ?_))
      refine RV.nil (KV.then_n (KV.env [(2, _)] ⟨rfl, trivial⟩ (CV.ret ?_)))
      exact KV.retP1 rfl rfl (by unfold wrdB; first | (exfalso; omega) | rw [show ltrB c = true from decide_eq_true (by omega), Bool.true_or] | rw [show ltrB c = false from decide_eq_false (by omega), Bool.false_or, show digB c = true from decide_eq_true (by omega)] | rw [show ltrB c = false from decide_eq_false (by omega), Bool.false_or, show digB c = false from decide_eq_false (by omega)])
     ·
      refine RV.s (Step.pick_f rfl rfl) rfl (RV.m rfl rfl (RV.gw rfl (Step.move rfl) rfl ?_))
      refine RV.op (OV.split (gyes rfl) (Step.geq rfl rfl) rfl (fun cc6 => ?_) (fun cc6 => ?_))
      ·
       refine RV.gw rfl (Step.move rfl) rfl (RV.gw rfl (Step.move rfl) rfl ?_)
       refine RV.op (OV.split (gyes rfl) (Step.leq rfl rfl) rfl (fun cc7 => ?_) (fun cc7 => ?_))
       ·
        refine RV.gw rfl (Step.pick_t rfl rfl) rfl (RV.s (Step.pick_f rfl rfl) rfl (RV.a rfl rfl ?_))
        refine RV.nil (KV.then_n (KV.env [(2, _)] ⟨rfl, trivial⟩ (CV.ret ?_)))
        exact KV.retP1 rfl rfl (by unfold wrdB; first | (exfalso; omega) | rw [show ltrB c = true from decide_eq_true (by omega), Bool.true_or] | rw [show ltrB c = false from decide_eq_false (by omega), Bool.false_or, show digB c = true from decide_eq_true (by omega)] | rw [show ltrB c = false from decide_eq_false (by omega), Bool.false_or, show digB c = false from decide_eq_false (by omega)])
       ·
        refine RV.gw rfl (Step.pick_t rfl rfl) rfl (RV.s (Step.pick_f rfl rfl) rfl (RV.a rfl rfl ?_))
        refine RV.nil (KV.then_n (KV.env [(2, _)] ⟨rfl, trivial⟩ (CV.ret ?_)))
        exact KV.retP1 rfl rfl (by unfold wrdB; first | (exfalso; omega) | rw [show ltrB c = true from decide_eq_true (by omega), Bool.true_or] | rw [show ltrB c = false from decide_eq_false (by omega), Bool.false_or, show digB c = true from decide_eq_true (by omega)] | rw [show ltrB c = false from decide_eq_false (by omega), Bool.false_or, show digB c = false from decide_eq_false (by omega)])
      ·
       refine RV.gw rfl (Step.move rfl) rfl (RV.k rfl rfl (RV.k rfl rfl (RV.gw rfl (Step.pick_f rfl rfl) rfl (RV.s (Step.pick_f rfl rfl) rfl (RV.a rfl rfl ?_)))))
       refine RV.nil (KV.then_n (KV.env [(2, _)] ⟨rfl, trivial⟩ (CV.ret ?_)))
       exact KV.retP1 rfl rfl (by unfold wrdB; first | (exfalso; omega) | rw [show ltrB c = true from decide_eq_true (by omega), Bool.true_or] | rw [show ltrB c = false from decide_eq_false (by omega), Bool.false_or, show digB c = true from decide_eq_true (by omega)] | rw [show ltrB c = false from decide_eq_false (by omega), Bool.false_or, show digB c = false from decide_eq_false (by omega)])
   ·
    refine RV.gw rfl (Step.move rfl) rfl (RV.k rfl rfl (RV.k rfl rfl (RV.gw rfl (Step.pick_f rfl rfl) rfl (RV.s (Step.pick_f rfl rfl) rfl (RV.m rfl rfl (RV.gw rfl (Step.move rfl) rfl ?_))))))
    refine RV.op (OV.split (gyes rfl) (Step.eql rfl rfl) rfl (fun cc8 => ?_) (fun cc8 => ?_))
    ·
     refine RV.s (Step.pick_f rfl rfl) rfl (RV.m rfl rfl (RV.k rfl rfl (RV.k rfl rfl (RV.k rfl rfl ?_))))
     refine RV.op (OV.skipU rfl rfl ?_)
     refine RV.op (OV.skipU rfl rfl ?_)
     refine RV.k rfl rfl (RV.s (Step.pick_t rfl rfl) rfl (RV.a rfl rfl ?_))
     refine RV.nil (KV.then_n (KV.env [(2, _)] ⟨rfl, trivial⟩ (CV.ret ?_)))
     exact KV.retP1 rfl rfl (by unfold wrdB; first | (exfalso; omega) | rw [show ltrB c = true from decide_eq_true (by omega), Bool.true_or] | rw [show ltrB c = false from decide_eq_false (by omega), Bool.false_or, show digB c = true from decide_eq_true (by omega)] | rw [show ltrB c = false from decide_eq_false (by omega), Bool.false_or, show digB c = false from decide_eq_false (by omega)])
    ·
     refine RV.s (Step.pick_f rfl rfl) rfl (RV.m rfl rfl (RV.gw rfl (Step.move rfl) rfl ?_))
     refine RV.op (OV.split (gyes rfl) (Step.geq rfl rfl) rfl (fun cc9 => ?_) (fun cc9 => ?_))
     ·
      refine RV.gw rfl (Step.move rfl) rfl (RV.gw rfl (Step.move rfl) rfl ?_)
      refine RV.op (OV.split (gyes rfl) (Step.leq rfl rfl) rfl (fun cc10 => ?_) (fun cc10 => ?_))
      ·
       refine RV.gw rfl (Step.pick_t rfl rfl) rfl (RV.s (Step.pick_f rfl rfl) rfl (RV.a rfl rfl ?_))
       refine RV.nil (KV.then_n (KV.env [(2, _)] ⟨rfl, trivial⟩ (CV.ret ?_)))
       exact KV.retP1 rfl rfl (by unfold wrdB; first | (exfalso; omega) | rw [show ltrB c = true from decide_eq_true (by omega), Bool.true_or] | rw [show ltrB c = false from decide_eq_false (by omega), Bool.false_or, show digB c = true from decide_eq_true (by omega)] | rw [show ltrB c = false from decide_eq_false (by omega), Bool.false_or, show digB c = false from decide_eq_false (by omega)])
      ·
       refine RV.gw rfl (Step.pick_t rfl rfl) rfl (RV.s (Step.pick_f rfl rfl) rfl (RV.a rfl rfl ?_))
       refine RV.nil (KV.then_n (KV.env [(2, _)] ⟨rfl, trivial⟩ (CV.ret ?_)))
       exact KV.retP1 rfl rfl (by unfold wrdB; first | (exfalso; omega) | rw [show ltrB c = true from decide_eq_true (by omega), Bool.true_or] | rw [show ltrB c = false from decide_eq_false (by omega), Bool.false_or, show digB c = true from decide_eq_true (by omega)] | rw [show ltrB c = false from decide_eq_false (by omega), Bool.false_or, show digB c = false from decide_eq_false (by omega)])
     ·
      refine RV.gw rfl (Step.move rfl) rfl (RV.k rfl rfl (RV.k rfl rfl (RV.gw rfl (Step.pick_f rfl rfl) rfl (RV.s (Step.pick_f rfl rfl) rfl (RV.a rfl rfl ?_)))))
      refine RV.nil (KV.then_n (KV.env [(2, _)] ⟨rfl, trivial⟩ (CV.ret ?_)))
      exact KV.retP1 rfl rfl (by unfold wrdB; first | (exfalso; omega) | rw [show ltrB c = true from decide_eq_true (by omega), Bool.true_or] | rw [show ltrB c = false from decide_eq_false (by omega), Bool.false_or, show digB c = true from decide_eq_true (by omega)] | rw [show ltrB c = false from decide_eq_false (by omega), Bool.false_or, show digB c = false from decide_eq_false (by omega)])
 ·
  refine RV.m rfl rfl (RV.k rfl rfl (RV.k rfl rfl (RV.s (Step.pick_f rfl rfl) rfl (RV.m rfl rfl (RV.gw rfl (Step.move rfl) rfl ?_)))))
  refine RV.op (OV.split (gyes rfl) (Step.geq rfl rfl) rfl (fun cc11 => ?_) (fun cc11 => ?_))
  ·
   refine RV.gw rfl (Step.move rfl) rfl (RV.gw rfl (Step.move rfl) rfl ?_)
   refine RV.op (OV.split (gyes rfl) (Step.leq rfl rfl) rfl (fun cc12 => ?_) (fun cc12 => ?_))
   ·
    refine RV.gw rfl (Step.pick_t rfl rfl) rfl (RV.s (Step.pick_f rfl rfl) rfl (RV.m rfl rfl (RV.k rfl rfl (RV.k rfl rfl (RV.s (Step.pick_t rfl rfl) rfl (RV.m rfl rfl (RV.k rfl rfl ?_)))))))
    refine RV.k rfl rfl (RV.k rfl rfl ?_)
    refine RV.op (OV.skipU rfl rfl ?_)
    refine RV.op (OV.skipU rfl rfl ?_)
    refine RV.k rfl rfl (RV.s (Step.pick_t rfl rfl) rfl (RV.a rfl rfl ?_))
    refine RV.nil (KV.then_n (KV.env [(2, _)] ⟨rfl, trivial⟩ (CV.ret ?_)))
    exact KV.retP1 rfl rfl (by unfold wrdB; first | (exfalso; omega) | rw [show ltrB c = true from decide_eq_true (by omega), Bool.true_or] | rw [show ltrB c = false from decide_eq_false (by omega), Bool.false_or, show digB c = true from decide_eq_true (by omega)] | rw [show ltrB c = false from decide_eq_false (by omega), Bool.false_or, show digB c = false from decide_eq_false (by omega)])
   ·
    refine RV.gw rfl (Step.pick_t rfl rfl) rfl (RV.s (Step.pick_f rfl rfl) rfl (RV.m rfl rfl (RV.gw rfl (Step.move rfl) rfl ?_)))
    refine RV.op (OV.split (gyes rfl) (Step.eql rfl rfl) rfl (fun cc13 => ?_) (fun cc13 => ?_))
    ·
     refine RV.s (Step.pick_f rfl rfl) rfl (RV.m rfl rfl (RV.k rfl rfl (RV.k rfl rfl (RV.k rfl rfl ?_))))
     refine RV.op (OV.skipU rfl rfl ?_)
     refine RV.op (OV.skipU rfl rfl ?_)
     refine RV.k rfl rfl (RV.s (Step.pick_t rfl rfl) rfl (RV.a rfl rfl ?_))
     refine RV.nil (KV.then_n (KV.env [(2, _)] ⟨rfl, trivial⟩ (CV.ret ?_)))
     exact KV.retP1 rfl rfl (by unfold wrdB; first | (exfalso; omega) | rw [show ltrB c = true from decide_eq_true (by omega), Bool.true_or] | rw [show ltrB c = false from decide_eq_false (by omega), Bool.false_or, show digB c = true from decide_eq_true (by omega)] | rw [show ltrB c = false from decide_eq_false (by omega), Bool.false_or, show digB c = false from decide_eq_false (by omega)])
    ·
     refine RV.s (Step.pick_f rfl rfl) rfl (RV.m rfl rfl (RV.gw rfl (Step.move rfl) rfl ?_))
     refine RV.op (OV.split (gyes rfl) (Step.geq rfl rfl) rfl (fun cc14 => ?_) (fun cc14 => ?_))
     ·
      refine RV.gw rfl (Step.move rfl) rfl (RV.gw rfl (Step.move rfl) rfl ?_)
      refine RV.op (OV.split (gyes rfl) (Step.leq rfl rfl) rfl (fun cc15 => ?_) (fun cc15 => ?_))
      ·
       refine RV.gw rfl (Step.pick_t rfl rfl) rfl (RV.s (Step.pick_f rfl rfl) rfl (RV.a rfl rfl ?_))
       refine RV.nil (KV.then_n (KV.env [(2, _)] ⟨rfl, trivial⟩ (CV.ret ?_)))
       exact KV.retP1 rfl rfl (by unfold wrdB; first | (exfalso; omega) | rw [show ltrB c = true from decide_eq_true (by omega), Bool.true_or] | rw [show ltrB c = false from decide_eq_false (by omega), Bool.false_or, show digB c = true from decide_eq_true (by omega)] | rw [show ltrB c = false from decide_eq_false (by omega), Bool.false_or, show digB c = false from decide_eq_false (by omega)])
      ·
       refine RV.gw rfl (Step.pick_t rfl rfl) rfl (RV.s (Step.pick_f rfl rfl) rfl (RV.a rfl rfl ?_))
       refine RV.nil (KV.then_n (KV.env [(2, _)] ⟨rfl, trivial⟩ (CV.ret ?_)))
       exact KV.retP1 rfl rfl (by unfold wrdB; first | (exfalso; omega) | rw [show ltrB c = true from decide_eq_true (by omega), Bool.true_or] | rw [show ltrB c = false from decide_eq_false (by omega), Bool.false_or, show digB c = true from decide_eq_true (by omega)] | rw [show ltrB c = false from decide_eq_false (by omega), Bool.false_or, show digB c = false from decide_eq_false (by omega)])
     ·
      refine RV.gw rfl (Step.move rfl) rfl (RV.k rfl rfl (RV.k rfl rfl (RV.gw rfl (Step.pick_f rfl rfl) rfl (RV.s (Step.pick_f rfl rfl) rfl (RV.a rfl rfl ?_)))))
      refine RV.nil (KV.then_n (KV.env [(2, _)] ⟨rfl, trivial⟩ (CV.ret ?_)))
      exact KV.retP1 rfl rfl (by unfold wrdB; first | (exfalso; omega) | rw [show ltrB c = true from decide_eq_true (by omega), Bool.true_or] | rw [show ltrB c = false from decide_eq_false (by omega), Bool.false_or, show digB c = true from decide_eq_true (by omega)] | rw [show ltrB c = false from decide_eq_false (by omega), Bool.false_or, show digB c = false from decide_eq_false (by omega)])
  ·
   refine RV.gw rfl (Step.move rfl) rfl (RV.k rfl rfl (RV.k rfl rfl (RV.gw rfl (Step.pick_f rfl rfl) rfl (RV.s (Step.pick_f rfl rfl) rfl (RV.m rfl rfl (RV.gw rfl (Step.move rfl) rfl ?_))))))
   refine RV.op (OV.split (gyes rfl) (Step.eql rfl rfl) rfl (fun cc16 => ?_) (fun cc16 => ?_))
   ·
    refine RV.s (Step.pick_f rfl rfl) rfl (RV.m rfl rfl (RV.k rfl rfl (RV.k rfl rfl (RV.k rfl rfl ?_))))
    refine RV.op (OV.skipU rfl rfl ?_)
    refine RV.op (OV.skipU rfl rfl ?_)
    refine RV.k rfl rfl (RV.s (Step.pick_t rfl rfl) rfl (RV.a rfl rfl ?_))
    refine RV.nil (KV.then_n (KV.env [(2, _)] ⟨rfl, trivial⟩ (CV.ret ?_)))
    exact KV.retP1 rfl rfl (by unfold wrdB; first | (exfalso; omega) | rw [show ltrB c = true from decide_eq_true (by omega), Bool.true_or] | rw [show ltrB c = false from decide_eq_false (by omega), Bool.false_or, show digB c = true from decide_eq_true (by omega)] | rw [show ltrB c = false from decide_eq_false (by omega), Bool.false_or, show digB c = false from decide_eq_false (by omega)])
   ·
    refine RV.s (Step.pick_f rfl rfl) rfl (RV.m rfl rfl (RV.gw rfl (Step.move rfl) rfl ?_))
    refine RV.op (OV.split (gyes rfl) (Step.geq rfl rfl) rfl (fun cc17 => ?_) (fun cc17 => ?_))
    ·
     refine RV.gw rfl (Step.move rfl) rfl (RV.gw rfl (Step.move rfl) rfl ?_)
     refine RV.op (OV.split (gyes rfl) (Step.leq rfl rfl) rfl (fun cc18 => ?_) (fun cc18 => ?_))
     ·
      refine RV.gw rfl (Step.pick_t rfl rfl) rfl (RV.s (Step.pick_f rfl rfl) rfl (RV.a rfl rfl ?_))
      refine RV.nil (KV.then_n (KV.env [(2, _)] ⟨rfl, trivial⟩ (CV.ret ?_)))
      exact KV.retP1 rfl rfl (by unfold wrdB; first | (exfalso; omega) | rw [show ltrB c = true from decide_eq_true (by omega), Bool.true_or] | rw [show ltrB c = false from decide_eq_false (by omega), Bool.false_or, show digB c = true from decide_eq_true (by omega)] | rw [show ltrB c = false from decide_eq_false (by omega), Bool.false_or, show digB c = false from decide_eq_false (by omega)])
     ·
      refine RV.gw rfl (Step.pick_t rfl rfl) rfl (RV.s (Step.pick_f rfl rfl) rfl (RV.a rfl rfl ?_))
      refine RV.nil (KV.then_n (KV.env [(2, _)] ⟨rfl, trivial⟩ (CV.ret ?_)))
      exact KV.retP1 rfl rfl (by unfold wrdB; first | (exfalso; omega) | rw [show ltrB c = true from decide_eq_true (by omega), Bool.true_or] | rw [show ltrB c = false from decide_eq_false (by omega), Bool.false_or, show digB c = true from decide_eq_true (by omega)] | rw [show ltrB c = false from decide_eq_false (by omega), Bool.false_or, show digB c = false from decide_eq_false (by omega)])
    ·
     refine RV.gw rfl (Step.move rfl) rfl (RV.k rfl rfl (RV.k rfl rfl (RV.gw rfl (Step.pick_f rfl rfl) rfl (RV.s (Step.pick_f rfl rfl) rfl (RV.a rfl rfl ?_)))))
     refine RV.nil (KV.then_n (KV.env [(2, _)] ⟨rfl, trivial⟩ (CV.ret ?_)))
     exact KV.retP1 rfl rfl (by unfold wrdB; first | (exfalso; omega) | rw [show ltrB c = true from decide_eq_true (by omega), Bool.true_or] | rw [show ltrB c = false from decide_eq_false (by omega), Bool.false_or, show digB c = true from decide_eq_true (by omega)] | rw [show ltrB c = false from decide_eq_false (by omega), Bool.false_or, show digB c = false from decide_eq_false (by omega)])

set_option maxRecDepth 100000 in
set_option maxHeartbeats 1000000 in
theorem isName_fn (l : Bs) : FxP Tryz.prog 56 [.string (bs l)] (.bool (isNm l)) := by
 refine Sv.FxP.body Tryz.func56 rfl T56 rfl ?_
 intro wp
 refine KV.env [(0, _)] ⟨rfl, trivial⟩ (CV.seq (CV.region ?_))
 refine RV.a rfl rfl ?_
 refine RV.nil (KV.then_n (KV.env [(0, _)] ⟨rfl, trivial⟩ (CV.seq (CV.seq (CV.region ?_)))))
 refine RV.m rfl rfl ?_
 refine RV.op (OV.split gno (Step.eqlStr (l2 := []) rfl rfl) rfl (fun h0 => ?_) (fun h0 => ?_))
 ·
  refine RV.m rfl rfl (RV.k rfl rfl (RV.k rfl rfl (RV.k rfl rfl (RV.s (Step.pick_t rfl rfl) rfl (RV.m rfl rfl (RV.k rfl rfl (RV.k rfl rfl ?_)))))))
  refine RV.k rfl rfl (RV.s (Step.pick_t rfl rfl) rfl ?_)
  refine RV.nil (KV.then_n (KV.env [(0, _), (15, _)] ⟨rfl, rfl, trivial⟩ (CV.cond_t rfl (CV.seq (CV.region ?_)))))
  refine RV.a rfl rfl ?_
  refine RV.nil (KV.then_n (KV.env [(2, _)] ⟨rfl, trivial⟩ (CV.ret (KV.then_ret ?_))))
  exact KV.retP1 rfl rfl (by first | rw [isNm_f3 h2] | rw [isNm_f2 (by omega)] | rw [isNm_f1 (by rw [h0]; decide)])
 ·
  refine RV.m rfl rfl (RV.gw rfl (Step.move rfl) rfl (RV.gw rfl (Step.lenStr Tryz.underlying9 rfl) rfl ?_))
  refine RV.op (OV.split (gyes rfl) (Step.gtr rfl rfl) rfl (fun h1 => ?_) (fun h1 => ?_))
  ·
   refine RV.s (Step.pick_f rfl rfl) rfl (RV.m rfl rfl (RV.k rfl rfl (RV.k rfl rfl (RV.k rfl rfl (RV.s (Step.pick_t rfl rfl) rfl ?_)))))
   refine RV.nil (KV.then_n (KV.env [(0, _), (15, _)] ⟨rfl, rfl, trivial⟩ (CV.cond_t rfl (CV.seq (CV.region ?_)))))
   refine RV.a rfl rfl ?_
   refine RV.nil (KV.then_n (KV.env [(2, _)] ⟨rfl, trivial⟩ (CV.ret (KV.then_ret ?_))))
   exact KV.retP1 rfl rfl (by first | rw [isNm_f3 h2] | rw [isNm_f2 (by omega)] | rw [isNm_f1 (by rw [h0]; decide)])
  ·
   refine RV.s (Step.pick_f rfl rfl) rfl (RV.m rfl rfl (RV.gw rfl (Step.move rfl) rfl ?_))
   refine RV.op (OV.step (gyes rfl) (Step.idxStr Tryz.underlying9 rfl rfl 0 rfl (by first | omega | (have : 0 < l.length := List.length_pos_iff.2 h0; omega))) rfl ?_)
   refine RV.op (OV.callP Tryz.func73 B73 N73 rfl (isDigit_fn (l.getD 0 0)) (gyes rfl) rfl ?_)
   refine RV.s (Step.pick_f rfl rfl) rfl ?_
   refine RV.nil (KV.then_n (KV.env [(0, _), (15, _)] ⟨rfl, rfl, trivial⟩ ?_))
   refine KV.cases 15 rfl (fun cc1 => ?_) (fun cc1 => ?_)
   ·
    have h2 := cc1
    refine CV.cond_t rfl (CV.seq (CV.region ?_))
    refine RV.a rfl rfl ?_
    refine RV.nil (KV.then_n (KV.env [(2, _)] ⟨rfl, trivial⟩ (CV.ret (KV.then_ret ?_))))
    exact KV.retP1 rfl rfl (by first | rw [isNm_f3 h2] | rw [isNm_f2 (by omega)] | rw [isNm_f1 (by rw [h0]; decide)])
   ·
    have h2 := cc1
    refine CV.cond_f rfl (CV.skip (KV.then_n (KV.env [(0, _)] ⟨rfl, trivial⟩ (CV.seq (CV.seq ?_)))))
    refine CV.region ?_
    refine RV.m rfl rfl (RV.s (Step.lenStr Tryz.underlying9 rfl) rfl (RV.m rfl rfl ?_))
    refine RV.nil (KV.then_n (KV.env [(0, _), (17, _), (18, _)] ⟨rfl, rfl, rfl, trivial⟩ (CV.block ?_)))
    refine CV.loopI (fun (j : Nat) => j ≤ l.length ∧ ∀ k, k < j → wrdB (l.getD k 0) = true) (fun (j : Nat) => l.length - j) (fun (j : Nat) => [(0, .string (bs l)), (17, .int .i64 l.length), (18, .int .i64 j)]) (fun (j : Nat) => (fun w1 => w1 = wp)) (0) ⟨Nat.zero_le _, fun k hk => by omega⟩ ⟨rfl, rfl, rfl, trivial⟩ (fun _ h => h) ?_
    intro j hinv
    refine CV.seq (CV.region ?_)
    refine RV.op (OV.split gno (Step.lss rfl rfl) rfl (fun hj => ?_) (fun hj => ?_))
    ·
     refine RV.nil (KV.then_n (KV.env [(0, _), (17, _), (18, _), (19, _)] ⟨rfl, rfl, rfl, rfl, trivial⟩ (CV.seq (CV.cond_t rfl (CV.skip ?_)))))
     refine KV.then_n (KV.env [(0, _), (17, _), (18, _)] ⟨rfl, rfl, rfl, trivial⟩ (CV.seq (CV.block (CV.seq (CV.region ?_)))))
     refine RV.m rfl rfl (RV.a rfl rfl ?_)
     refine RV.nil (KV.then_n (KV.env [(0, _), (3, _), (17, _), (18, _)] ⟨rfl, rfl, rfl, rfl, trivial⟩ (CV.seq (CV.region ?_))))
     refine RV.m rfl rfl (RV.m rfl rfl ?_)
     refine RV.op (OV.step gno (Step.idxStr Tryz.underlying9 rfl rfl _ rfl (by first | omega | (have : 0 < l.length := List.length_pos_iff.2 h0; omega))) rfl ?_)
     refine RV.op (OV.callP Tryz.func51 B51 N51 rfl (isWord_fn (l.getD j 0)) gno rfl ?_)
     refine RV.s (Step.not rfl) rfl ?_
     refine RV.nil (KV.then_n (KV.env [(0, _), (17, _), (18, _), (25, _)] ⟨rfl, rfl, rfl, rfl, trivial⟩ ?_))
     refine KV.cases 25 rfl (fun cc2 => ?_) (fun cc2 => ?_)
     ·
      have h3 : wrdB (l.getD j 0) = false := by have := cc2; revert this; cases wrdB (l.getD j 0) <;> simp
      refine CV.cond_t rfl (CV.seq (CV.region ?_))
      refine RV.a rfl rfl ?_
      refine RV.nil (KV.then_n (KV.env [(2, _)] ⟨rfl, trivial⟩ (CV.ret (KV.block_ret (KV.then_ret ?_)))))
      refine KV.then_ret (KV.block_ret (KV.then_ret ?_))
      exact KV.retP1 rfl rfl (by rw [isNm_f4 (k := j) (by omega) h3])
     ·
      have h3 : wrdB (l.getD j 0) = true := by have := cc2; revert this; cases wrdB (l.getD j 0) <;> simp
      refine CV.cond_f rfl (CV.skip (KV.block_n (KV.then_n (KV.env [(0, _), (17, _), (18, _)] ⟨rfl, rfl, rfl, trivial⟩ (CV.region ?_)))))
      (first | refine RV.op (OV.step gno (Step.add rfl rfl (wI64 (by omega) (by omega))) rfl ?_) | refine RV.op (OV.step gno (Step.add rfl rfl rfl) rfl ?_))
      refine RV.m rfl rfl ?_
      refine RV.nil (KV.then_n (KV.env [(0, _), (17, _), (18, _)] ⟨rfl, rfl, rfl, trivial⟩ ?_))
      exact KV.loopI (z := j) (j + 1) ⟨by omega, fun k hk => by by_cases e : k = j; (subst e; exact h3); exact hinv.2 k (by omega)⟩ (by omega) ⟨rfl, rfl, rfl, trivial⟩ (fun _ h => h)
    ·
     refine RV.nil (KV.then_n (KV.env [(0, _), (17, _), (18, _), (19, _)] ⟨rfl, rfl, rfl, rfl, trivial⟩ (CV.seq (CV.cond_f rfl (CV.exit ?_)))))
     refine KV.then_exit (KV.then_exit (KV.block_hit (KV.then_n (KV.env [] trivial (CV.seq ?_)))))
     refine CV.region ?_
     refine RV.a rfl rfl ?_
     refine RV.nil (KV.then_n (KV.env [(2, _)] ⟨rfl, trivial⟩ (CV.ret ?_)))
     exact KV.retP1 rfl rfl (by rw [isNm_t (List.length_pos_iff.2 h0) (by omega) h2 (fun k hk => hinv.2 k (by omega))])
end Go.Proofs.YtplmfekhdaefaaaGreatDoor
