/-
 Walks, part 2.
-/
import Derived.Test.YtplmfekhdaefaaaGreatDoorTabA
import Derived.Test.YtplmfekhdaefaaaGreatDoorW1
import Derived.Test.YtplmfekhdaefaaaGreatDoorDmA
set_option linter.unusedSimpArgs false
set_option linter.unusedVariables false
namespace Go.Proofs.YtplmfekhdaefaaaGreatDoor
open Go.Sv Go.Drv
set_option maxRecDepth 100000 in
set_option maxHeartbeats 1000000 in
theorem risName_fn (l : Bs) : FxP Tryz.prog 45 [.string (bs l)] (.bool (isNm l)) := by
 refine Sv.FxP.body Tryz.func45 rfl T45 rfl ?_
 intro wp
 refine KV.env [(0, _)] ⟨rfl, trivial⟩ (CV.seq (CV.region ?_))
 refine RV.a rfl rfl ?_
 refine RV.nil (KV.then_n (KV.env [(0, _)] ⟨rfl, trivial⟩ (CV.seq (CV.seq (CV.region ?_)))))
 refine RV.m rfl rfl (RV.s (Step.lenStr Tryz.underlying9 rfl) rfl ?_)
 refine RV.op (OV.split gno (Step.eql rfl rfl) rfl (fun h0 => ?_) (fun h0 => ?_))
 ·
  refine RV.m rfl rfl (RV.k rfl rfl (RV.k rfl rfl (RV.k rfl rfl (RV.s (Step.pick_t rfl rfl) rfl ?_))))
  refine RV.nil (KV.then_n (KV.env [(0, _), (13, _)] ⟨rfl, rfl, trivial⟩ (CV.cond_t rfl (CV.seq (CV.region ?_)))))
  refine RV.a rfl rfl ?_
  refine RV.nil (KV.then_n (KV.env [(2, _)] ⟨rfl, trivial⟩ (CV.ret (KV.then_ret ?_))))
  exact KV.retP1 rfl rfl (by first | rw [isNm_f2 (by omega)] | rw [isNm_f1 (by omega)])
 ·
  refine RV.m rfl rfl (RV.gw rfl (Step.move rfl) rfl (RV.gw rfl (Step.lenStr Tryz.underlying9 rfl) rfl ?_))
  refine RV.op (OV.split (gyes rfl) (Step.gtr rfl rfl) rfl (fun h1 => ?_) (fun h1 => ?_))
  ·
   refine RV.s (Step.pick_f rfl rfl) rfl ?_
   refine RV.nil (KV.then_n (KV.env [(0, _), (13, _)] ⟨rfl, rfl, trivial⟩ (CV.cond_t rfl (CV.seq (CV.region ?_)))))
   refine RV.a rfl rfl ?_
   refine RV.nil (KV.then_n (KV.env [(2, _)] ⟨rfl, trivial⟩ (CV.ret (KV.then_ret ?_))))
   exact KV.retP1 rfl rfl (by first | rw [isNm_f2 (by omega)] | rw [isNm_f1 (by omega)])
  ·
   refine RV.s (Step.pick_f rfl rfl) rfl ?_
   refine RV.nil (KV.then_n (KV.env [(0, _), (13, _)] ⟨rfl, rfl, trivial⟩ (CV.cond_f rfl (CV.skip (KV.then_n ?_)))))
   refine KV.env [(0, _)] ⟨rfl, trivial⟩ (CV.seq (CV.seq (CV.region ?_)))
   refine RV.a rfl rfl ?_
   refine RV.nil (KV.then_n (KV.env [(0, _), (3, _)] ⟨rfl, rfl, trivial⟩ (CV.block ?_)))
   refine CV.loopI (fun (j : Nat) => j ≤ l.length ∧ (0 < j → digB (l.getD 0 0) = false) ∧ ∀ k, k < j → wrdB (l.getD k 0) = true) (fun (j : Nat) => l.length - j) (fun (j : Nat) => [(0, .string (bs l)), (3, .int .i64 j)]) (fun (j : Nat) => (fun w1 => w1 = wp)) (0) ⟨Nat.zero_le _, fun h => by omega, fun k hk => by omega⟩ ⟨rfl, rfl, trivial⟩ (fun _ h => h) ?_
   intro j hinv
   refine CV.seq (CV.seq (CV.region ?_))
   refine RV.m rfl rfl (RV.m rfl rfl (RV.s (Step.lenStr Tryz.underlying9 rfl) rfl ?_))
   refine RV.op (OV.split gno (Step.lss rfl rfl) rfl (fun hj => ?_) (fun hj => ?_))
   ·
    refine RV.nil (KV.then_n (KV.env [(0, _), (3, _), (17, _)] ⟨rfl, rfl, rfl, trivial⟩ (CV.cond_t rfl (CV.skip (KV.then_n ?_)))))
    refine KV.env [(0, _), (3, _)] ⟨rfl, rfl, trivial⟩ (CV.seq (CV.block (CV.seq (CV.region ?_))))
    refine RV.m rfl rfl (RV.m rfl rfl ?_)
    refine RV.s (Step.idxStr Tryz.underlying9 rfl rfl _ rfl (by omega)) rfl ?_
    refine RV.a rfl rfl ?_
    refine RV.nil (KV.then_n (KV.env [(0, _), (3, _), (4, _)] ⟨rfl, rfl, rfl, trivial⟩ ?_))
    refine CV.join (α := Unit) (fun _ => [(0, .string (bs l)), (3, .int .i64 j), (4, .int .u8 ((l.getD j 0).toNat : Int)), (5, .bool (ltrB (l.getD j 0)))]) (fun _ => (fun w1 => w1 = wp)) ?_ ?_
    ·
     skip
     refine CV.region ?_
     refine RV.m rfl rfl ?_
     refine RV.op (OV.split gno (Step.geq rfl rfl) rfl (fun cc1 => ?_) (fun cc1 => ?_))
     ·
      refine RV.m rfl rfl (RV.gw rfl (Step.move rfl) rfl ?_)
      refine RV.op (OV.split (gyes rfl) (Step.leq rfl rfl) rfl (fun cc2 => ?_) (fun cc2 => ?_))
      ·
       refine RV.s (Step.pick_t rfl rfl) rfl (RV.m rfl rfl (RV.k rfl rfl (RV.k rfl rfl (RV.k rfl rfl ?_))))
       refine RV.op (OV.skipU rfl rfl ?_)
       refine RV.op (OV.skipU rfl rfl ?_)
       refine RV.k rfl rfl (RV.s (Step.pick_t rfl rfl) rfl (RV.m rfl rfl (RV.k rfl rfl (RV.k rfl rfl (RV.s (Step.pick_t rfl rfl) rfl (RV.a rfl rfl ?_))))))
       refine RV.nil (KV.then_n (KV.env [(0, _), (3, _), (4, _), (5, _)] ⟨rfl, rfl, rfl, rfl, trivial⟩ ?_))
       exact KV.join () ⟨rfl, rfl, rfl, (by first | (exfalso; omega) | rw [show ltrB (l.getD j 0) = true from decide_eq_true (by omega)]; rfl | rw [show ltrB (l.getD j 0) = false from decide_eq_false (by omega)]; rfl), trivial⟩ (fun _ h => h)
      ·
       refine RV.s (Step.pick_t rfl rfl) rfl (RV.m rfl rfl (RV.gw rfl (Step.move rfl) rfl ?_))
       refine RV.op (OV.split (gyes rfl) (Step.geq rfl rfl) rfl (fun cc3 => ?_) (fun cc3 => ?_))
       ·
        refine RV.gw rfl (Step.move rfl) rfl (RV.gw rfl (Step.move rfl) rfl ?_)
        refine RV.op (OV.split (gyes rfl) (Step.leq rfl rfl) rfl (fun cc4 => ?_) (fun cc4 => ?_))
        ·
         refine RV.gw rfl (Step.pick_t rfl rfl) rfl (RV.s (Step.pick_f rfl rfl) rfl (RV.m rfl rfl (RV.k rfl rfl (RV.k rfl rfl (RV.s (Step.pick_t rfl rfl) rfl (RV.a rfl rfl ?_))))))
         refine RV.nil (KV.then_n (KV.env [(0, _), (3, _), (4, _), (5, _)] ⟨rfl, rfl, rfl, rfl, trivial⟩ ?_))
         exact KV.join () ⟨rfl, rfl, rfl, (by first | (exfalso; omega) | rw [show ltrB (l.getD j 0) = true from decide_eq_true (by omega)]; rfl | rw [show ltrB (l.getD j 0) = false from decide_eq_false (by omega)]; rfl), trivial⟩ (fun _ h => h)
        ·
         refine RV.gw rfl (Step.pick_t rfl rfl) rfl (RV.s (Step.pick_f rfl rfl) rfl (RV.m rfl rfl (RV.gw rfl (Step.move rfl) rfl ?_)))
         refine RV.op (OV.split (gyes rfl) (Step.eql rfl rfl) rfl (fun cc5 => ?_) (fun cc5 => ?_))
         ·
          refine RV.s (Step.pick_f rfl rfl) rfl (RV.a rfl rfl ?_)
          refine RV.nil (KV.then_n (KV.env [(0, _), (3, _), (4, _), (5, _)] ⟨rfl, rfl, rfl, rfl, trivial⟩ ?_))
          exact KV.join () ⟨rfl, rfl, rfl, (by first | (exfalso; omega) | rw [show ltrB (l.getD j 0) = true from decide_eq_true (by omega)]; rfl | rw [show ltrB (l.getD j 0) = false from decide_eq_false (by omega)]; rfl), trivial⟩ (fun _ h => h)
         ·
          refine RV.s (Step.pick_f rfl rfl) rfl (RV.a rfl rfl ?_)
          refine RV.nil (KV.then_n (KV.env [(0, _), (3, _), (4, _), (5, _)] ⟨rfl, rfl, rfl, rfl, trivial⟩ ?_))
          exact KV.join () ⟨rfl, rfl, rfl, (by first | (exfalso; omega) | rw [show ltrB (l.getD j 0) = true from decide_eq_true (by omega)]; rfl | rw [show ltrB (l.getD j 0) = false from decide_eq_false (by omega)]; rfl), trivial⟩ (fun _ h => h)
       ·
        refine RV.gw rfl (Step.move rfl) rfl (RV.k rfl rfl (RV.k rfl rfl (RV.gw rfl (Step.pick_f rfl rfl) rfl (RV.s (Step.pick_f rfl rfl) rfl (RV.m rfl rfl (RV.gw rfl (Step.move rfl) rfl ?_))))))
        refine RV.op (OV.split (gyes rfl) (Step.eql rfl rfl) rfl (fun cc6 => ?_) (fun cc6 => ?_))
        ·
         refine RV.s (Step.pick_f rfl rfl) rfl (RV.a rfl rfl ?_)
         refine RV.nil (KV.then_n (KV.env [(0, _), (3, _), (4, _), (5, _)] ⟨rfl, rfl, rfl, rfl, trivial⟩ ?_))
         exact KV.join () ⟨rfl, rfl, rfl, (by first | (exfalso; omega) | rw [show ltrB (l.getD j 0) = true from decide_eq_true (by omega)]; rfl | rw [show ltrB (l.getD j 0) = false from decide_eq_false (by omega)]; rfl), trivial⟩ (fun _ h => h)
        ·
         refine RV.s (Step.pick_f rfl rfl) rfl (RV.a rfl rfl ?_)
         refine RV.nil (KV.then_n (KV.env [(0, _), (3, _), (4, _), (5, _)] ⟨rfl, rfl, rfl, rfl, trivial⟩ ?_))
         exact KV.join () ⟨rfl, rfl, rfl, (by first | (exfalso; omega) | rw [show ltrB (l.getD j 0) = true from decide_eq_true (by omega)]; rfl | rw [show ltrB (l.getD j 0) = false from decide_eq_false (by omega)]; rfl), trivial⟩ (fun _ h => h)
     ·
      refine RV.m rfl rfl (RV.k rfl rfl (RV.k rfl rfl (RV.s (Step.pick_f rfl rfl) rfl (RV.m rfl rfl (RV.gw rfl (Step.move rfl) rfl ?_)))))
      refine RV.op (OV.split (gyes rfl) (Step.geq rfl rfl) rfl (fun cc7 => ?_) (fun cc7 => ?_))
      ·
       refine RV.gw rfl (Step.move rfl) rfl (RV.gw rfl (Step.move rfl) rfl ?_)
       refine RV.op (OV.split (gyes rfl) (Step.leq rfl rfl) rfl (fun cc8 => ?_) (fun cc8 => ?_))
       ·
        refine RV.gw rfl (Step.pick_t rfl rfl) rfl (RV.s (Step.pick_f rfl rfl) rfl (RV.m rfl rfl (RV.k rfl rfl (RV.k rfl rfl (RV.s (Step.pick_t rfl rfl) rfl (RV.a rfl rfl ?_))))))
        refine RV.nil (KV.then_n (KV.env [(0, _), (3, _), (4, _), (5, _)] ⟨rfl, rfl, rfl, rfl, trivial⟩ ?_))
        exact KV.join () ⟨rfl, rfl, rfl, (by first | (exfalso; omega) | rw [show ltrB (l.getD j 0) = true from decide_eq_true (by omega)]; rfl | rw [show ltrB (l.getD j 0) = false from decide_eq_false (by omega)]; rfl), trivial⟩ (fun _ h => h)
       ·
        refine RV.gw rfl (Step.pick_t rfl rfl) rfl (RV.s (Step.pick_f rfl rfl) rfl (RV.m rfl rfl (RV.gw rfl (Step.move rfl) rfl ?_)))
        refine RV.op (OV.split (gyes rfl) (Step.eql rfl rfl) rfl (fun cc9 => ?_) (fun cc9 => ?_))
        ·
         refine RV.s (Step.pick_f rfl rfl) rfl (RV.a rfl rfl ?_)
         refine RV.nil (KV.then_n (KV.env [(0, _), (3, _), (4, _), (5, _)] ⟨rfl, rfl, rfl, rfl, trivial⟩ ?_))
         exact KV.join () ⟨rfl, rfl, rfl, (by first | (exfalso; omega) | rw [show ltrB (l.getD j 0) = true from decide_eq_true (by omega)]; rfl | rw [show ltrB (l.getD j 0) = false from decide_eq_false (by omega)]; rfl), trivial⟩ (fun _ h => h)
        ·
         refine RV.s (Step.pick_f rfl rfl) rfl (RV.a rfl rfl ?_)
         refine RV.nil (KV.then_n (KV.env [(0, _), (3, _), (4, _), (5, _)] ⟨rfl, rfl, rfl, rfl, trivial⟩ ?_))
         exact KV.join () ⟨rfl, rfl, rfl, (by first | (exfalso; omega) | rw [show ltrB (l.getD j 0) = true from decide_eq_true (by omega)]; rfl | rw [show ltrB (l.getD j 0) = false from decide_eq_false (by omega)]; rfl), trivial⟩ (fun _ h => h)
      ·
       refine RV.gw rfl (Step.move rfl) rfl (RV.k rfl rfl (RV.k rfl rfl (RV.gw rfl (Step.pick_f rfl rfl) rfl (RV.s (Step.pick_f rfl rfl) rfl (RV.m rfl rfl (RV.gw rfl (Step.move rfl) rfl ?_))))))
       refine RV.op (OV.split (gyes rfl) (Step.eql rfl rfl) rfl (fun cc10 => ?_) (fun cc10 => ?_))
       ·
        refine RV.s (Step.pick_f rfl rfl) rfl (RV.a rfl rfl ?_)
        refine RV.nil (KV.then_n (KV.env [(0, _), (3, _), (4, _), (5, _)] ⟨rfl, rfl, rfl, rfl, trivial⟩ ?_))
        exact KV.join () ⟨rfl, rfl, rfl, (by first | (exfalso; omega) | rw [show ltrB (l.getD j 0) = true from decide_eq_true (by omega)]; rfl | rw [show ltrB (l.getD j 0) = false from decide_eq_false (by omega)]; rfl), trivial⟩ (fun _ h => h)
       ·
        refine RV.s (Step.pick_f rfl rfl) rfl (RV.a rfl rfl ?_)
        refine RV.nil (KV.then_n (KV.env [(0, _), (3, _), (4, _), (5, _)] ⟨rfl, rfl, rfl, rfl, trivial⟩ ?_))
        exact KV.join () ⟨rfl, rfl, rfl, (by first | (exfalso; omega) | rw [show ltrB (l.getD j 0) = true from decide_eq_true (by omega)]; rfl | rw [show ltrB (l.getD j 0) = false from decide_eq_false (by omega)]; rfl), trivial⟩ (fun _ h => h)
    ·
     intro _
     refine CV.seq (CV.region ?_)
     refine RV.m rfl rfl (RV.s (Step.not rfl) rfl (RV.m rfl rfl ?_))
     refine KV.cases 43 rfl (fun cc11 => ?_) (fun cc11 => ?_)
     ·
      have hlt := neg_t cc11
      refine RV.gw rfl (Step.move rfl) rfl ?_
      refine RV.op (OV.split (gyes rfl) (Step.eql rfl rfl) rfl (fun hz => ?_) (fun hz => ?_))
      ·
       refine RV.gw rfl (Step.move rfl) rfl (RV.k rfl rfl (RV.k rfl rfl (RV.gw rfl (Step.pick_t rfl rfl) rfl (RV.gw rfl (Step.move rfl) rfl (RV.k rfl rfl (RV.k rfl rfl (RV.gw rfl (Step.pick_t rfl rfl) rfl ?_)))))))
       refine RV.s (Step.pick_t rfl rfl) rfl ?_
       refine RV.nil (KV.then_n (KV.env [(0, _), (3, _), (54, _)] ⟨rfl, rfl, rfl, trivial⟩ (CV.cond_t rfl (CV.seq (CV.region ?_)))))
       refine RV.a rfl rfl ?_
       refine RV.nil (KV.then_n (KV.env [(2, _)] ⟨rfl, trivial⟩ (CV.ret (KV.block_ret (KV.then_ret ?_)))))
       refine KV.then_ret (KV.block_ret (KV.then_ret ?_))
       have hbad : (j = 0 ∧ (digB (l.getD j 0) = true ∨ wrdB (l.getD j 0) = false)) ∨ wrdB (l.getD j 0) = false := by by_cases e : j = 0; (left; refine ⟨e, ?_⟩; by_cases hd : digB (l.getD j 0) = true; exact .inl hd; (right; unfold wrdB; rw [hlt, bool_f hd]; rfl)); (right; unfold wrdB; rw [hlt, Bool.false_or]; exact decide_eq_false (by omega))
       exact KV.retP1 rfl rfl (by rcases hbad with ⟨e, h5 | h5⟩ | h5; (subst e; rw [isNm_f3 h5]); rw [isNm_f4 (k := j) (by omega) h5]; rw [isNm_f4 (k := j) (by omega) h5])
      ·
       refine RV.gw rfl (Step.move rfl) rfl (RV.gw rfl (Step.move rfl) rfl ?_)
       refine RV.op (OV.split (gyes rfl) (Step.lss rfl rfl) rfl (fun cc12 => ?_) (fun cc12 => ?_))
       ·
        refine RV.gw rfl (Step.pick_f rfl rfl) rfl (RV.gw rfl (Step.move rfl) rfl (RV.k rfl rfl (RV.k rfl rfl (RV.gw rfl (Step.pick_t rfl rfl) rfl (RV.s (Step.pick_t rfl rfl) rfl ?_)))))
        refine RV.nil (KV.then_n (KV.env [(0, _), (3, _), (54, _)] ⟨rfl, rfl, rfl, trivial⟩ (CV.cond_t rfl (CV.seq (CV.region ?_)))))
        refine RV.a rfl rfl ?_
        refine RV.nil (KV.then_n (KV.env [(2, _)] ⟨rfl, trivial⟩ (CV.ret (KV.block_ret (KV.then_ret ?_)))))
        refine KV.then_ret (KV.block_ret (KV.then_ret ?_))
        have hbad : (j = 0 ∧ (digB (l.getD j 0) = true ∨ wrdB (l.getD j 0) = false)) ∨ wrdB (l.getD j 0) = false := by by_cases e : j = 0; (left; refine ⟨e, ?_⟩; by_cases hd : digB (l.getD j 0) = true; exact .inl hd; (right; unfold wrdB; rw [hlt, bool_f hd]; rfl)); (right; unfold wrdB; rw [hlt, Bool.false_or]; exact decide_eq_false (by omega))
        exact KV.retP1 rfl rfl (by rcases hbad with ⟨e, h5 | h5⟩ | h5; (subst e; rw [isNm_f3 h5]); rw [isNm_f4 (k := j) (by omega) h5]; rw [isNm_f4 (k := j) (by omega) h5])
       ·
        refine RV.gw rfl (Step.pick_f rfl rfl) rfl (RV.gw rfl (Step.move rfl) rfl (RV.gw rfl (Step.move rfl) rfl ?_))
        refine RV.op (OV.split (gyes rfl) (Step.gtr rfl rfl) rfl (fun cc13 => ?_) (fun cc13 => ?_))
        ·
         refine RV.gw rfl (Step.pick_f rfl rfl) rfl (RV.s (Step.pick_t rfl rfl) rfl ?_)
         refine RV.nil (KV.then_n (KV.env [(0, _), (3, _), (54, _)] ⟨rfl, rfl, rfl, trivial⟩ (CV.cond_t rfl (CV.seq (CV.region ?_)))))
         refine RV.a rfl rfl ?_
         refine RV.nil (KV.then_n (KV.env [(2, _)] ⟨rfl, trivial⟩ (CV.ret (KV.block_ret (KV.then_ret ?_)))))
         refine KV.then_ret (KV.block_ret (KV.then_ret ?_))
         have hbad : (j = 0 ∧ (digB (l.getD j 0) = true ∨ wrdB (l.getD j 0) = false)) ∨ wrdB (l.getD j 0) = false := by by_cases e : j = 0; (left; refine ⟨e, ?_⟩; by_cases hd : digB (l.getD j 0) = true; exact .inl hd; (right; unfold wrdB; rw [hlt, bool_f hd]; rfl)); (right; unfold wrdB; rw [hlt, Bool.false_or]; exact decide_eq_false (by omega))
         exact KV.retP1 rfl rfl (by rcases hbad with ⟨e, h5 | h5⟩ | h5; (subst e; rw [isNm_f3 h5]); rw [isNm_f4 (k := j) (by omega) h5]; rw [isNm_f4 (k := j) (by omega) h5])
        ·
         refine RV.gw rfl (Step.pick_f rfl rfl) rfl (RV.s (Step.pick_t rfl rfl) rfl ?_)
         refine RV.nil (KV.then_n (KV.env [(0, _), (3, _), (54, _)] ⟨rfl, rfl, rfl, trivial⟩ (CV.cond_f rfl (CV.skip (KV.block_n ?_)))))
         refine KV.then_n (KV.env [(0, _), (3, _)] ⟨rfl, rfl, trivial⟩ (CV.region ?_))
         refine RV.m rfl rfl ?_
         (first | refine RV.op (OV.step gno (Step.add rfl rfl (wI64 (by omega) (by omega))) rfl ?_) | refine RV.op (OV.step gno (Step.add rfl rfl rfl) rfl ?_))
         refine RV.a rfl rfl ?_
         refine RV.nil (KV.then_n (KV.env [(0, _), (3, _)] ⟨rfl, rfl, trivial⟩ ?_))
         have hw1 : wrdB (l.getD j 0) = true := by unfold wrdB; first | rw [hlt, Bool.true_or] | rw [hlt, Bool.false_or, show digB (l.getD j 0) = true from decide_eq_true (by omega)]
         have hd0 : digB (l.getD 0 0) = false := by by_cases e : j = 0; (subst e; first | exact ltr_dig hlt | (exfalso; omega)); exact hinv.2.1 (by omega)
         exact KV.loopI (z := j) (j + 1) ⟨by omega, fun _ => hd0, fun k hk => by by_cases e : k = j; (subst e; exact hw1); exact hinv.2.2 k (by omega)⟩ (by omega) ⟨rfl, rfl, trivial⟩ (fun _ h => h)
     ·
      have hlt := neg_f cc11
      refine RV.k rfl rfl (RV.k rfl rfl (RV.k rfl rfl ?_))
      refine RV.op (OV.skipU rfl rfl ?_)
      refine RV.op (OV.skipU rfl rfl ?_)
      refine RV.k rfl rfl (RV.k rfl rfl ?_)
      refine RV.op (OV.skipU rfl rfl ?_)
      refine RV.op (OV.skipU rfl rfl ?_)
      refine RV.k rfl rfl (RV.s (Step.pick_f rfl rfl) rfl ?_)
      refine RV.nil (KV.then_n (KV.env [(0, _), (3, _), (54, _)] ⟨rfl, rfl, rfl, trivial⟩ (CV.cond_f rfl (CV.skip (KV.block_n ?_)))))
      refine KV.then_n (KV.env [(0, _), (3, _)] ⟨rfl, rfl, trivial⟩ (CV.region ?_))
      refine RV.m rfl rfl ?_
      (first | refine RV.op (OV.step gno (Step.add rfl rfl (wI64 (by omega) (by omega))) rfl ?_) | refine RV.op (OV.step gno (Step.add rfl rfl rfl) rfl ?_))
      refine RV.a rfl rfl ?_
      refine RV.nil (KV.then_n (KV.env [(0, _), (3, _)] ⟨rfl, rfl, trivial⟩ ?_))
      have hw1 : wrdB (l.getD j 0) = true := by unfold wrdB; first | rw [hlt, Bool.true_or] | rw [hlt, Bool.false_or, show digB (l.getD j 0) = true from decide_eq_true (by omega)]
      have hd0 : digB (l.getD 0 0) = false := by by_cases e : j = 0; (subst e; first | exact ltr_dig hlt | (exfalso; omega)); exact hinv.2.1 (by omega)
      exact KV.loopI (z := j) (j + 1) ⟨by omega, fun _ => hd0, fun k hk => by by_cases e : k = j; (subst e; exact hw1); exact hinv.2.2 k (by omega)⟩ (by omega) ⟨rfl, rfl, trivial⟩ (fun _ h => h)
   ·
    refine RV.nil (KV.then_n (KV.env [(0, _), (3, _), (17, _)] ⟨rfl, rfl, rfl, trivial⟩ (CV.cond_f rfl (CV.exit (KV.then_exit ?_)))))
    refine KV.then_exit (KV.block_hit (KV.then_n (KV.env [] trivial (CV.seq (CV.region ?_)))))
    refine RV.a rfl rfl ?_
    refine RV.nil (KV.then_n (KV.env [(2, _)] ⟨rfl, trivial⟩ (CV.ret ?_)))
    exact KV.retP1 rfl rfl (by rw [isNm_t (by omega) (by omega) (hinv.2.1 (by omega)) (fun k hk => hinv.2.2 k (by omega))])

set_option maxRecDepth 100000 in
set_option maxHeartbeats 1000000 in
theorem twice_fn {A : Option Addr} {n c : Nat} {l : List Bs} {w : World} (hs : RS w strK A l) (hn : n = l.length) (hl : l.length ≤ 1000000) : Fx Tryz.prog 33 [.slice A n c] w [] no (fun v L => v = .bool (decide (¬ l.Nodup)) ∧ L = []) := by
 subst hn
 refine Sv.Fx.body Tryz.func33 rfl T33 rfl ?_
 intro I hro hI
 refine KV.env [(0, _)] ⟨rfl, trivial⟩ (CV.seq (CV.region ?_))
 refine RV.a rfl rfl ?_
 refine RV.nil (KV.then_n (KV.env [(0, _)] ⟨rfl, trivial⟩ (CV.seq (CV.seq (CV.region ?_)))))
 refine RV.a rfl rfl ?_
 refine RV.nil (KV.then_n (KV.env [(0, _), (3, _)] ⟨rfl, rfl, trivial⟩ (CV.block ?_)))
 refine KV.sel [] [] rfl ?_
 refine CV.loopI (fun (i : Nat) => i ≤ l.length ∧ ∀ a b, a < b → b < i → l.getD a [] ≠ l.getD b []) (fun (i : Nat) => l.length - i) (fun (i : Nat) => [(0, .slice A l.length c), (3, .int .i64 i)]) (fun (i : Nat) => Hp I w []) (0) ⟨Nat.zero_le _, fun a b h1 h2 => by omega⟩ ⟨rfl, rfl, trivial⟩ (fun _ h => h) ?_
 intro i hinv
 refine CV.seq (CV.seq (CV.region ?_))
 refine RV.m rfl rfl (RV.m rfl rfl (RV.s (Step.lenSl Tryz.underlying22 rfl) rfl ?_))
 refine RV.op (OV.split gno (Step.lss rfl rfl) rfl (fun hi => ?_) (fun hi => ?_))
 ·
  refine RV.nil (KV.then_n (KV.env [(0, _), (3, _), (8, _)] ⟨rfl, rfl, rfl, trivial⟩ (CV.cond_t rfl (CV.skip (KV.then_n ?_)))))
  refine KV.env [(0, _), (3, _)] ⟨rfl, rfl, trivial⟩ (CV.seq (CV.block (CV.seq (CV.region ?_))))
  refine RV.a rfl rfl ?_
  refine RV.nil (KV.then_n (KV.env [(0, _), (3, _), (4, _)] ⟨rfl, rfl, rfl, trivial⟩ (CV.block ?_)))
  refine KV.sel [] [] rfl ?_
  refine CV.loopI (fun (k : Nat) => k ≤ i ∧ ∀ a, a < k → ¬ l.getD a [] = l.getD i []) (fun (k : Nat) => i - k) (fun (k : Nat) => [(0, .slice A l.length c), (3, .int .i64 i), (4, .int .i64 k)]) (fun (k : Nat) => Hp I w []) (0) ⟨Nat.zero_le _, fun a h1 => by omega⟩ ⟨rfl, rfl, rfl, trivial⟩ (fun _ h => h) ?_
  intro k hinv2
  refine CV.seq (CV.seq (CV.region ?_))
  refine RV.m rfl rfl (RV.m rfl rfl ?_)
  refine RV.op (OV.split gno (Step.lss rfl rfl) rfl (fun hk => ?_) (fun hk => ?_))
  ·
   refine RV.nil (KV.then_n (KV.env [(0, _), (3, _), (4, _), (13, _)] ⟨rfl, rfl, rfl, rfl, trivial⟩ (CV.cond_t rfl (CV.skip (KV.then_n ?_)))))
   refine KV.env [(0, _), (3, _), (4, _)] ⟨rfl, rfl, rfl, trivial⟩ (CV.seq (CV.block (CV.seq ?_)))
   refine CV.still (by kernel_rfl) (by kernel_rfl) (fun _ h => h.drew) ?_
   refine SV.step gno (Step.move rfl) rfl ?_
   refine SV.step gno (Step.move rfl) rfl ?_
   refine SV.step gno (Step.idx Tryz.underlying22 I9 (fun w h => h.rs hs (fun _ => hI _)) rfl rfl (rfl) _ rfl (by omega)) rfl ?_
   refine SV.step gno (Step.load Tryz.underlying9 rfl rfl (fun w h => (h.rs hs (fun _ => hI _)).cell0 (by omega) rfl)) rfl ?_
   refine SV.step gno (Step.move rfl) rfl ?_
   refine SV.step gno (Step.move rfl) rfl ?_
   refine SV.step gno (Step.idx Tryz.underlying22 I9 (fun w h => h.rs hs (fun _ => hI _)) rfl rfl (rfl) _ rfl (by omega)) rfl ?_
   refine SV.step gno (Step.load Tryz.underlying9 rfl rfl (fun w h => (h.rs hs (fun _ => hI _)).cell0 (by omega) rfl)) rfl ?_
   refine SV.split gno (Step.eqlStr rfl rfl) rfl (fun he => ?_) (fun he => ?_)
   ·
    refine SV.nil (KV.then_n (KV.env [(0, _), (3, _), (4, _), (24, _)] ⟨rfl, rfl, rfl, rfl, trivial⟩ (CV.cond_t rfl (CV.seq (CV.region ?_)))))
    refine RV.a rfl rfl ?_
    refine RV.nil (KV.then_n (KV.env [(2, _)] ⟨rfl, trivial⟩ (CV.ret (KV.block_ret (KV.then_ret ?_)))))
    refine KV.then_ret (KV.block_ret (KV.block_ret (KV.then_ret (KV.then_ret (KV.block_ret ?_)))))
    refine KV.then_ret ?_
    refine KV.sel [] [] rfl ?_
    exact KV.ret1 rfl rfl _ (fun _ h => h) ⟨by rw [decide_eq_true (show ¬ l.Nodup from fun h => nodup_iff.1 h k i (by omega) (by omega) he.symm)], rfl⟩
   ·
    refine SV.nil (KV.then_n (KV.env [(0, _), (3, _), (4, _), (24, _)] ⟨rfl, rfl, rfl, rfl, trivial⟩ (CV.cond_f rfl (CV.skip (KV.block_n ?_)))))
    refine KV.then_n (KV.env [(0, _), (3, _), (4, _)] ⟨rfl, rfl, rfl, trivial⟩ (CV.region ?_))
    refine RV.m rfl rfl ?_
    (first | refine RV.op (OV.step gno (Step.add rfl rfl (wI64 (by omega) (by omega))) rfl ?_) | refine RV.op (OV.step gno (Step.add rfl rfl rfl) rfl ?_))
    refine RV.a rfl rfl ?_
    refine RV.nil (KV.then_n (KV.env [(0, _), (3, _), (4, _)] ⟨rfl, rfl, rfl, trivial⟩ ?_))
    refine KV.sel [] [] rfl ?_
    exact KV.loopI (z := k) (k + 1) ⟨by omega, fun a h1 => by by_cases e : a = k; (subst e; exact fun e2 => he e2.symm); exact hinv2.2 a (by omega)⟩ (by omega) ⟨rfl, rfl, rfl, trivial⟩ (fun _ h => h)
  ·
   obtain rfl : i = k := by omega
   refine RV.nil (KV.then_n (KV.env [(0, _), (3, _), (4, _), (13, _)] ⟨rfl, rfl, rfl, rfl, trivial⟩ (CV.cond_f rfl (CV.exit (KV.then_exit ?_)))))
   refine KV.then_exit (KV.block_hit (KV.block_n (KV.then_n (KV.env [(0, _), (3, _)] ⟨rfl, rfl, trivial⟩ (CV.region ?_)))))
   refine RV.m rfl rfl ?_
   (first | refine RV.op (OV.step gno (Step.add rfl rfl (wI64 (by omega) (by omega))) rfl ?_) | refine RV.op (OV.step gno (Step.add rfl rfl rfl) rfl ?_))
   refine RV.a rfl rfl ?_
   refine RV.nil (KV.then_n (KV.env [(0, _), (3, _)] ⟨rfl, rfl, trivial⟩ ?_))
   refine KV.sel [] [] rfl ?_
   exact KV.loopI (z := i) (i + 1) ⟨by omega, fun a b h1 h2 => by by_cases e : b = i; (subst e; exact fun e2 => hinv2.2 a h1 e2); exact hinv.2 a b h1 (by omega)⟩ (by omega) ⟨rfl, rfl, trivial⟩ (fun _ h => h)
 ·
  refine RV.nil (KV.then_n (KV.env [(0, _), (3, _), (8, _)] ⟨rfl, rfl, rfl, trivial⟩ (CV.cond_f rfl (CV.exit (KV.then_exit ?_)))))
  refine KV.then_exit (KV.block_hit (KV.then_n (KV.env [] trivial (CV.seq (CV.region ?_)))))
  refine RV.a rfl rfl ?_
  refine RV.nil (KV.then_n (KV.env [(2, _)] ⟨rfl, trivial⟩ (CV.ret ?_)))
  refine KV.sel [] [] rfl ?_
  exact KV.ret1 rfl rfl _ (fun _ h => h) ⟨by rw [decide_eq_false (show ¬ ¬ l.Nodup from fun h => h (nodup_iff.2 fun a b h1 h2 => hinv.2 a b h1 (by omega)))], rfl⟩

set_option maxRecDepth 100000 in
set_option maxHeartbeats 4000000 in
theorem rgood_fn (h0 : TH) (n : Nat) {w : World} (ho : RS w roK h0.A h0.t.ops) : Fx Tryz.prog 46 [.agg #[.int .i64 h0.t.frm, .string (bs h0.t.ev), .bool h0.t.gd.used, .int .u64 h0.t.gd.reg, .int .u64 h0.t.gd.mask, .int .u64 h0.t.gd.val, .slice h0.A h0.t.ops.length h0.c, .int .i64 h0.t.to], .int .i64 n] w [] no (fun v L => v = .bool (okT n h0.t) ∧ L = []) := by
 refine Sv.Fx.body Tryz.func46 rfl T46 rfl ?_
 intro I hro hI
 refine KV.env [(0, _), (1, _)] ⟨rfl, rfl, trivial⟩ (CV.seq (CV.region ?_))
 refine RV.op (OV.box (t := 48) #[_, _, _, _, _, _, _, _] rfl rfl gno rfl (fun p => ?_))
 refine RV.a rfl rfl ?_
 refine RV.nil (KV.then_n (KV.env [(1, _), (2, _)] ⟨rfl, rfl, trivial⟩ (CV.seq (CV.seq (CV.region ?_)))))
 refine RV.s (Step.fieldAddr rfl (F48_0 _ _)) rfl (RV.s (Step.load Tryz.underlying3 rfl rfl (fun w h => h.cell 0 rfl rfl)) rfl ?_)
 refine RV.op (OV.split gno (Step.lss rfl rfl) rfl (fun a1 => ?_) (fun a1 => ?_))
 ·
  refine RV.m rfl rfl (RV.k rfl rfl (RV.k rfl rfl (RV.k rfl rfl (RV.k rfl rfl (RV.s (Step.pick_t rfl rfl) rfl (RV.m rfl rfl (RV.k rfl rfl ?_)))))))
  refine RV.k rfl rfl (RV.k rfl rfl (RV.s (Step.pick_t rfl rfl) rfl (RV.m rfl rfl (RV.k rfl rfl (RV.k rfl rfl (RV.k rfl rfl (RV.k rfl rfl ?_)))))))
  refine RV.s (Step.pick_t rfl rfl) rfl (RV.m rfl rfl (RV.k rfl rfl (RV.k rfl rfl (RV.k rfl rfl (RV.k rfl rfl (RV.s (Step.pick_t rfl rfl) rfl (RV.m rfl rfl ?_)))))))
  refine RV.k rfl rfl (RV.k rfl rfl (RV.k rfl rfl (RV.k rfl rfl (RV.s (Step.pick_t rfl rfl) rfl ?_))))
  refine RV.nil (KV.then_n (KV.env [(2, _), (37, _)] ⟨rfl, rfl, trivial⟩ (CV.cond_t rfl (CV.seq (CV.region ?_)))))
  refine RV.a rfl rfl ?_
  refine RV.nil (KV.then_n (KV.env [(4, _)] ⟨rfl, trivial⟩ (CV.ret (KV.then_ret ?_))))
  refine KV.sel [] [] rfl ?_
  first | exact KV.ret1 rfl rfl _ (fun _ h => h) ⟨by rw [show okT n h0.t = true from (okT_iff _ _).2 ⟨by omega, by omega, hnm, hgd, by omega, fun k hk => hinv.2 k (by omega)⟩], rfl⟩ | exact KV.ret1 rfl rfl _ (fun _ h => h) ⟨by rw [show okT n h0.t = false from bool_f (fun k => by have k2 := (okT_iff _ _).1 k; first | (exfalso; omega) | exact ff k2.2.2.1 hnm | exact ff k2.2.2.2.1 hgd | exact ff (k2.2.2.2.2.2 j (by omega)) hro)], rfl⟩
 ·
  refine RV.m rfl rfl (RV.gw rfl (Step.fieldAddr rfl (F48_0 _ _)) rfl (RV.gw rfl (Step.load Tryz.underlying3 rfl rfl (fun w h => h.cell 0 rfl rfl)) rfl (RV.gw rfl (Step.move rfl) rfl ?_)))
  refine RV.op (OV.split (gyes rfl) (Step.geq rfl rfl) rfl (fun a2 => ?_) (fun a2 => ?_))
  ·
   refine RV.s (Step.pick_f rfl rfl) rfl (RV.m rfl rfl (RV.k rfl rfl (RV.k rfl rfl (RV.k rfl rfl (RV.s (Step.pick_t rfl rfl) rfl (RV.m rfl rfl (RV.k rfl rfl ?_)))))))
   refine RV.k rfl rfl (RV.k rfl rfl (RV.k rfl rfl (RV.s (Step.pick_t rfl rfl) rfl (RV.m rfl rfl (RV.k rfl rfl (RV.k rfl rfl (RV.k rfl rfl ?_)))))))
   refine RV.k rfl rfl (RV.s (Step.pick_t rfl rfl) rfl (RV.m rfl rfl (RV.k rfl rfl (RV.k rfl rfl (RV.k rfl rfl (RV.k rfl rfl (RV.s (Step.pick_t rfl rfl) rfl ?_)))))))
   refine RV.nil (KV.then_n (KV.env [(2, _), (37, _)] ⟨rfl, rfl, trivial⟩ (CV.cond_t rfl (CV.seq (CV.region ?_)))))
   refine RV.a rfl rfl ?_
   refine RV.nil (KV.then_n (KV.env [(4, _)] ⟨rfl, trivial⟩ (CV.ret (KV.then_ret ?_))))
   refine KV.sel [] [] rfl ?_
   first | exact KV.ret1 rfl rfl _ (fun _ h => h) ⟨by rw [show okT n h0.t = true from (okT_iff _ _).2 ⟨by omega, by omega, hnm, hgd, by omega, fun k hk => hinv.2 k (by omega)⟩], rfl⟩ | exact KV.ret1 rfl rfl _ (fun _ h => h) ⟨by rw [show okT n h0.t = false from bool_f (fun k => by have k2 := (okT_iff _ _).1 k; first | (exfalso; omega) | exact ff k2.2.2.1 hnm | exact ff k2.2.2.2.1 hgd | exact ff (k2.2.2.2.2.2 j (by omega)) hro)], rfl⟩
  ·
   refine RV.s (Step.pick_f rfl rfl) rfl (RV.m rfl rfl (RV.gw rfl (Step.fieldAddr rfl (F48_4 _ _)) rfl (RV.gw rfl (Step.load Tryz.underlying3 rfl rfl (fun w h => h.cell 0 rfl rfl)) rfl ?_)))
   refine RV.op (OV.split (gyes rfl) (Step.lss rfl rfl) rfl (fun a3 => ?_) (fun a3 => ?_))
   ·
    refine RV.s (Step.pick_f rfl rfl) rfl (RV.m rfl rfl (RV.k rfl rfl (RV.k rfl rfl (RV.k rfl rfl (RV.k rfl rfl (RV.s (Step.pick_t rfl rfl) rfl (RV.m rfl rfl ?_)))))))
    refine RV.k rfl rfl (RV.k rfl rfl (RV.k rfl rfl (RV.k rfl rfl (RV.s (Step.pick_t rfl rfl) rfl (RV.m rfl rfl (RV.k rfl rfl (RV.k rfl rfl ?_)))))))
    refine RV.k rfl rfl (RV.k rfl rfl (RV.s (Step.pick_t rfl rfl) rfl ?_))
    refine RV.nil (KV.then_n (KV.env [(2, _), (37, _)] ⟨rfl, rfl, trivial⟩ (CV.cond_t rfl (CV.seq (CV.region ?_)))))
    refine RV.a rfl rfl ?_
    refine RV.nil (KV.then_n (KV.env [(4, _)] ⟨rfl, trivial⟩ (CV.ret (KV.then_ret ?_))))
    refine KV.sel [] [] rfl ?_
    first | exact KV.ret1 rfl rfl _ (fun _ h => h) ⟨by rw [show okT n h0.t = true from (okT_iff _ _).2 ⟨by omega, by omega, hnm, hgd, by omega, fun k hk => hinv.2 k (by omega)⟩], rfl⟩ | exact KV.ret1 rfl rfl _ (fun _ h => h) ⟨by rw [show okT n h0.t = false from bool_f (fun k => by have k2 := (okT_iff _ _).1 k; first | (exfalso; omega) | exact ff k2.2.2.1 hnm | exact ff k2.2.2.2.1 hgd | exact ff (k2.2.2.2.2.2 j (by omega)) hro)], rfl⟩
   ·
    refine RV.s (Step.pick_f rfl rfl) rfl (RV.m rfl rfl (RV.gw rfl (Step.fieldAddr rfl (F48_4 _ _)) rfl (RV.gw rfl (Step.load Tryz.underlying3 rfl rfl (fun w h => h.cell 0 rfl rfl)) rfl (RV.gw rfl (Step.move rfl) rfl ?_))))
    refine RV.op (OV.split (gyes rfl) (Step.geq rfl rfl) rfl (fun a4 => ?_) (fun a4 => ?_))
    ·
     refine RV.s (Step.pick_f rfl rfl) rfl (RV.m rfl rfl (RV.k rfl rfl (RV.k rfl rfl (RV.k rfl rfl (RV.k rfl rfl (RV.s (Step.pick_t rfl rfl) rfl (RV.m rfl rfl ?_)))))))
     refine RV.k rfl rfl (RV.k rfl rfl (RV.k rfl rfl (RV.k rfl rfl (RV.s (Step.pick_t rfl rfl) rfl ?_))))
     refine RV.nil (KV.then_n (KV.env [(2, _), (37, _)] ⟨rfl, rfl, trivial⟩ (CV.cond_t rfl (CV.seq (CV.region ?_)))))
     refine RV.a rfl rfl ?_
     refine RV.nil (KV.then_n (KV.env [(4, _)] ⟨rfl, trivial⟩ (CV.ret (KV.then_ret ?_))))
     refine KV.sel [] [] rfl ?_
     first | exact KV.ret1 rfl rfl _ (fun _ h => h) ⟨by rw [show okT n h0.t = true from (okT_iff _ _).2 ⟨by omega, by omega, hnm, hgd, by omega, fun k hk => hinv.2 k (by omega)⟩], rfl⟩ | exact KV.ret1 rfl rfl _ (fun _ h => h) ⟨by rw [show okT n h0.t = false from bool_f (fun k => by have k2 := (okT_iff _ _).1 k; first | (exfalso; omega) | exact ff k2.2.2.1 hnm | exact ff k2.2.2.2.1 hgd | exact ff (k2.2.2.2.2.2 j (by omega)) hro)], rfl⟩
    ·
     refine RV.s (Step.pick_f rfl rfl) rfl (RV.m rfl rfl (RV.gw rfl (Step.fieldAddr rfl (F48_1 _ _)) rfl (RV.gw rfl (Step.load Tryz.underlying9 rfl rfl (fun w h => h.cell 0 rfl rfl)) rfl ?_)))
     refine RV.op (OV.callP Tryz.func45 B45 N45 rfl (risName_fn h0.t.ev) (gyes rfl) rfl ?_)
     refine RV.gw rfl (Step.not rfl) rfl (RV.s (Step.pick_f rfl rfl) rfl (RV.m rfl rfl ?_))
     refine KV.cases 32 rfl (fun cc1 => ?_) (fun cc1 => ?_)
     ·
      have hnm := neg_t cc1
      refine RV.k rfl rfl (RV.k rfl rfl (RV.k rfl rfl (RV.k rfl rfl (RV.s (Step.pick_t rfl rfl) rfl ?_))))
      refine RV.nil (KV.then_n (KV.env [(2, _), (37, _)] ⟨rfl, rfl, trivial⟩ (CV.cond_t rfl (CV.seq (CV.region ?_)))))
      refine RV.a rfl rfl ?_
      refine RV.nil (KV.then_n (KV.env [(4, _)] ⟨rfl, trivial⟩ (CV.ret (KV.then_ret ?_))))
      refine KV.sel [] [] rfl ?_
      first | exact KV.ret1 rfl rfl _ (fun _ h => h) ⟨by rw [show okT n h0.t = true from (okT_iff _ _).2 ⟨by omega, by omega, hnm, hgd, by omega, fun k hk => hinv.2 k (by omega)⟩], rfl⟩ | exact KV.ret1 rfl rfl _ (fun _ h => h) ⟨by rw [show okT n h0.t = false from bool_f (fun k => by have k2 := (okT_iff _ _).1 k; first | (exfalso; omega) | exact ff k2.2.2.1 hnm | exact ff k2.2.2.2.1 hgd | exact ff (k2.2.2.2.2.2 j (by omega)) hro)], rfl⟩
     ·
      have hnm := neg_f cc1
      refine RV.gw rfl (Step.fieldAddr rfl (F48_3 _ _)) rfl (RV.gw rfl (Step.load Tryz.underlying46 rfl rfl (fun w h => h.cell 0 rfl rfl)) rfl (RV.gw rfl (Step.lenSl Tryz.underlying46 rfl) rfl ?_))
      refine RV.op (OV.split (gyes rfl) (Step.gtr rfl rfl) rfl (fun a5 => ?_) (fun a5 => ?_))
      ·
       refine RV.s (Step.pick_f rfl rfl) rfl ?_
       refine RV.nil (KV.then_n (KV.env [(2, _), (37, _)] ⟨rfl, rfl, trivial⟩ (CV.cond_t rfl (CV.seq (CV.region ?_)))))
       refine RV.a rfl rfl ?_
       refine RV.nil (KV.then_n (KV.env [(4, _)] ⟨rfl, trivial⟩ (CV.ret (KV.then_ret ?_))))
       refine KV.sel [] [] rfl ?_
       first | exact KV.ret1 rfl rfl _ (fun _ h => h) ⟨by rw [show okT n h0.t = true from (okT_iff _ _).2 ⟨by omega, by omega, hnm, hgd, by omega, fun k hk => hinv.2 k (by omega)⟩], rfl⟩ | exact KV.ret1 rfl rfl _ (fun _ h => h) ⟨by rw [show okT n h0.t = false from bool_f (fun k => by have k2 := (okT_iff _ _).1 k; first | (exfalso; omega) | exact ff k2.2.2.1 hnm | exact ff k2.2.2.2.1 hgd | exact ff (k2.2.2.2.2.2 j (by omega)) hro)], rfl⟩
      ·
       refine RV.s (Step.pick_f rfl rfl) rfl ?_
       refine RV.nil (KV.then_n (KV.env [(2, _), (37, _)] ⟨rfl, rfl, trivial⟩ (CV.cond_f rfl (CV.skip (KV.then_n ?_)))))
       refine KV.env [(2, _)] ⟨rfl, trivial⟩ ?_
       refine CV.join (fun (q : {u : Unit // gdOk h0.t.gd = true}) => [(2, .pointer (some ⟨p, 0, none⟩))]) (fun (q : {u : Unit // gdOk h0.t.gd = true}) => Hp I w [Blk p (.cells #[.int .i64 h0.t.frm, .string (bs h0.t.ev), .bool h0.t.gd.used, .int .u64 h0.t.gd.reg, .int .u64 h0.t.gd.mask, .int .u64 h0.t.gd.val, .slice h0.A h0.t.ops.length h0.c, .int .i64 h0.t.to] 48 (0, 0))]) ?_ ?_
       ·
        skip
        refine CV.seq (CV.region ?_)
        refine RV.s (Step.fieldAddr rfl (F48_2 _ _)) rfl (RV.s (Step.fieldAddr rfl (F45_0 _ _)) rfl (RV.s (Step.load Tryz.underlying4 rfl rfl (fun w h => h.cell 0 rfl rfl)) rfl (RV.s (Step.not rfl) rfl (RV.m rfl rfl ?_))))
        refine KV.cases 42 rfl (fun cc2 => ?_) (fun cc2 => ?_)
        ·
         have hus := neg_t cc2
         refine RV.gw rfl (Step.fieldAddr rfl (F48_2 _ _)) rfl (RV.gw rfl (Step.fieldAddr rfl (F45_1 _ _)) rfl (RV.gw rfl (Step.load Tryz.underlying43 rfl rfl (fun w h => h.cell 0 rfl rfl)) rfl ?_))
         refine RV.op (OV.split (gyes rfl) (Step.neq rfl rfl) rfl (fun g1 => ?_) (fun g1 => ?_))
         ·
          refine RV.gw rfl (Step.move rfl) rfl (RV.k rfl rfl (RV.k rfl rfl (RV.k rfl rfl (RV.k rfl rfl (RV.gw rfl (Step.pick_t rfl rfl) rfl (RV.gw rfl (Step.move rfl) rfl (RV.k rfl rfl ?_)))))))
          refine RV.k rfl rfl (RV.k rfl rfl (RV.k rfl rfl (RV.gw rfl (Step.pick_t rfl rfl) rfl (RV.s (Step.pick_t rfl rfl) rfl ?_))))
          refine RV.nil (KV.then_n (KV.env [(2, _), (59, _)] ⟨rfl, rfl, trivial⟩ (CV.cond_t rfl (CV.seq ?_))))
          have hgd : gdOk h0.t.gd = false := (by unfold gdOk; rw [hus, Bool.false_or]; exact decide_eq_false (by omega))
          refine CV.region ?_
          refine RV.a rfl rfl ?_
          refine RV.nil (KV.then_n (KV.env [(4, _)] ⟨rfl, trivial⟩ (CV.ret (KV.then_ret ?_))))
          refine KV.sel [] [] rfl ?_
          first | exact KV.ret1 rfl rfl _ (fun _ h => h) ⟨by rw [show okT n h0.t = true from (okT_iff _ _).2 ⟨by omega, by omega, hnm, hgd, by omega, fun k hk => hinv.2 k (by omega)⟩], rfl⟩ | exact KV.ret1 rfl rfl _ (fun _ h => h) ⟨by rw [show okT n h0.t = false from bool_f (fun k => by have k2 := (okT_iff _ _).1 k; first | (exfalso; omega) | exact ff k2.2.2.1 hnm | exact ff k2.2.2.2.1 hgd | exact ff (k2.2.2.2.2.2 j (by omega)) hro)], rfl⟩
         ·
          refine RV.gw rfl (Step.move rfl) rfl (RV.gw rfl (Step.fieldAddr rfl (F48_2 _ _)) rfl (RV.gw rfl (Step.fieldAddr rfl (F45_2 _ _)) rfl (RV.gw rfl (Step.load Tryz.underlying43 rfl rfl (fun w h => h.cell 0 rfl rfl)) rfl ?_)))
          refine RV.op (OV.split (gyes rfl) (Step.neq rfl rfl) rfl (fun g2 => ?_) (fun g2 => ?_))
          ·
           refine RV.gw rfl (Step.pick_f rfl rfl) rfl (RV.gw rfl (Step.move rfl) rfl (RV.k rfl rfl (RV.k rfl rfl (RV.k rfl rfl (RV.k rfl rfl (RV.gw rfl (Step.pick_t rfl rfl) rfl (RV.s (Step.pick_t rfl rfl) rfl ?_)))))))
           refine RV.nil (KV.then_n (KV.env [(2, _), (59, _)] ⟨rfl, rfl, trivial⟩ (CV.cond_t rfl (CV.seq ?_))))
           have hgd : gdOk h0.t.gd = false := (by unfold gdOk; rw [hus, Bool.false_or]; exact decide_eq_false (by omega))
           refine CV.region ?_
           refine RV.a rfl rfl ?_
           refine RV.nil (KV.then_n (KV.env [(4, _)] ⟨rfl, trivial⟩ (CV.ret (KV.then_ret ?_))))
           refine KV.sel [] [] rfl ?_
           first | exact KV.ret1 rfl rfl _ (fun _ h => h) ⟨by rw [show okT n h0.t = true from (okT_iff _ _).2 ⟨by omega, by omega, hnm, hgd, by omega, fun k hk => hinv.2 k (by omega)⟩], rfl⟩ | exact KV.ret1 rfl rfl _ (fun _ h => h) ⟨by rw [show okT n h0.t = false from bool_f (fun k => by have k2 := (okT_iff _ _).1 k; first | (exfalso; omega) | exact ff k2.2.2.1 hnm | exact ff k2.2.2.2.1 hgd | exact ff (k2.2.2.2.2.2 j (by omega)) hro)], rfl⟩
          ·
           refine RV.gw rfl (Step.pick_f rfl rfl) rfl (RV.gw rfl (Step.move rfl) rfl (RV.gw rfl (Step.fieldAddr rfl (F48_2 _ _)) rfl (RV.gw rfl (Step.fieldAddr rfl (F45_3 _ _)) rfl (RV.gw rfl (Step.load Tryz.underlying43 rfl rfl (fun w h => h.cell 0 rfl rfl)) rfl ?_))))
           refine RV.op (OV.split (gyes rfl) (Step.neq rfl rfl) rfl (fun g3 => ?_) (fun g3 => ?_))
           ·
            refine RV.gw rfl (Step.pick_f rfl rfl) rfl (RV.s (Step.pick_t rfl rfl) rfl ?_)
            refine RV.nil (KV.then_n (KV.env [(2, _), (59, _)] ⟨rfl, rfl, trivial⟩ (CV.cond_t rfl (CV.seq ?_))))
            have hgd : gdOk h0.t.gd = false := (by unfold gdOk; rw [hus, Bool.false_or]; exact decide_eq_false (by omega))
            refine CV.region ?_
            refine RV.a rfl rfl ?_
            refine RV.nil (KV.then_n (KV.env [(4, _)] ⟨rfl, trivial⟩ (CV.ret (KV.then_ret ?_))))
            refine KV.sel [] [] rfl ?_
            first | exact KV.ret1 rfl rfl _ (fun _ h => h) ⟨by rw [show okT n h0.t = true from (okT_iff _ _).2 ⟨by omega, by omega, hnm, hgd, by omega, fun k hk => hinv.2 k (by omega)⟩], rfl⟩ | exact KV.ret1 rfl rfl _ (fun _ h => h) ⟨by rw [show okT n h0.t = false from bool_f (fun k => by have k2 := (okT_iff _ _).1 k; first | (exfalso; omega) | exact ff k2.2.2.1 hnm | exact ff k2.2.2.2.1 hgd | exact ff (k2.2.2.2.2.2 j (by omega)) hro)], rfl⟩
           ·
            refine RV.gw rfl (Step.pick_f rfl rfl) rfl (RV.s (Step.pick_t rfl rfl) rfl ?_)
            refine RV.nil (KV.then_n (KV.env [(2, _), (59, _)] ⟨rfl, rfl, trivial⟩ (CV.cond_f rfl (CV.skip (KV.then_n ?_)))))
            refine KV.env [(2, _)] ⟨rfl, trivial⟩ ?_
            refine KV.sel [0] [_] rfl ?_
            (first | exact KV.join (⟨(), by unfold gdOk; rw [hus, Bool.true_or]⟩) ⟨rfl, trivial⟩ (fun _ h => h) | exact KV.join (⟨(), by unfold gdOk; rw [hus, Bool.false_or]; exact decide_eq_true (by omega)⟩) ⟨rfl, trivial⟩ (fun _ h => h))
        ·
         have hus := neg_f cc2
         refine RV.k rfl rfl (RV.k rfl rfl (RV.k rfl rfl (RV.k rfl rfl (RV.k rfl rfl ?_))))
         refine RV.op (OV.skipU rfl rfl ?_)
         refine RV.op (OV.skipU rfl rfl ?_)
         refine RV.op (OV.skipU rfl rfl ?_)
         refine RV.op (OV.skipU rfl rfl ?_)
         refine RV.k rfl rfl (RV.k rfl rfl ?_)
         refine RV.op (OV.skipU rfl rfl ?_)
         refine RV.op (OV.skipU rfl rfl ?_)
         refine RV.op (OV.skipU rfl rfl ?_)
         refine RV.op (OV.skipU rfl rfl ?_)
         refine RV.k rfl rfl (RV.s (Step.pick_f rfl rfl) rfl ?_)
         refine RV.nil (KV.then_n (KV.env [(2, _), (59, _)] ⟨rfl, rfl, trivial⟩ (CV.cond_f rfl (CV.skip (KV.then_n ?_)))))
         refine KV.env [(2, _)] ⟨rfl, trivial⟩ ?_
         refine KV.sel [0] [_] rfl ?_
         (first | exact KV.join (⟨(), by unfold gdOk; rw [hus, Bool.true_or]⟩) ⟨rfl, trivial⟩ (fun _ h => h) | exact KV.join (⟨(), by unfold gdOk; rw [hus, Bool.false_or]; exact decide_eq_true (by omega)⟩) ⟨rfl, trivial⟩ (fun _ h => h))
       ·
        intro q
        have hgd := q.2
        refine CV.seq (CV.seq (CV.region ?_))
        refine RV.a rfl rfl ?_
        refine RV.nil (KV.then_n (KV.env [(2, _), (5, _)] ⟨rfl, rfl, trivial⟩ (CV.block ?_)))
        refine KV.sel [0] [_] rfl ?_
        refine CV.loopI (fun (j : Nat) => j ≤ h0.t.ops.length ∧ ∀ k, k < j → roOk (h0.t.ops.getD k ro0) = true) (fun (j : Nat) => h0.t.ops.length - j) (fun (j : Nat) => [(2, .pointer (some ⟨p, 0, none⟩)), (5, .int .i64 j)]) (fun (j : Nat) => Hp I w [Blk p (.cells #[.int .i64 h0.t.frm, .string (bs h0.t.ev), .bool h0.t.gd.used, .int .u64 h0.t.gd.reg, .int .u64 h0.t.gd.mask, .int .u64 h0.t.gd.val, .slice h0.A h0.t.ops.length h0.c, .int .i64 h0.t.to] 48 (0, 0))]) (0) ⟨Nat.zero_le _, fun k hk => by omega⟩ ⟨rfl, rfl, trivial⟩ (fun _ h => h) ?_
        intro j hinv
        refine CV.seq (CV.seq (CV.region ?_))
        refine RV.m rfl rfl (RV.s (Step.fieldAddr rfl (F48_3 _ _)) rfl (RV.s (Step.load Tryz.underlying46 rfl rfl (fun w h => h.cell 0 rfl rfl)) rfl (RV.s (Step.lenSl Tryz.underlying46 rfl) rfl ?_)))
        refine RV.op (OV.split gno (Step.lss rfl rfl) rfl (fun hj => ?_) (fun hj => ?_))
        ·
         refine RV.nil (KV.then_n (KV.env [(2, _), (5, _), (64, _)] ⟨rfl, rfl, rfl, trivial⟩ (CV.cond_t rfl (CV.skip (KV.then_n ?_)))))
         refine KV.env [(2, _), (5, _)] ⟨rfl, rfl, trivial⟩ (CV.seq (CV.block (CV.seq (CV.region ?_))))
         refine RV.s (Step.fieldAddr rfl (F48_3 _ _)) rfl (RV.s (Step.load Tryz.underlying46 rfl rfl (fun w h => h.cell 0 rfl rfl)) rfl (RV.m rfl rfl ?_))
         refine RV.s (Step.idx Tryz.underlying46 I59 (fun w h => h.rs ho (fun _ => hI _)) rfl rfl (rfl) _ rfl (by omega)) rfl ?_
         refine RV.s (Step.fieldAddr rfl (F59_0 _ _)) rfl ?_
         refine RV.s (Step.load Tryz.underlying4 rfl rfl (fun w h => (h.rs ho (fun _ => hI _)).cell0 (by omega) rfl)) rfl ?_
         refine RV.s (Step.not rfl) rfl (RV.m rfl rfl ?_)
         refine KV.cases 74 rfl (fun cc3 => ?_) (fun cc3 => ?_)
         ·
          have hwr := neg_t cc3
          refine RV.gw rfl (Step.fieldAddr rfl (F48_3 _ _)) rfl (RV.gw rfl (Step.load Tryz.underlying46 rfl rfl (fun w h => h.cell 0 rfl rfl)) rfl (RV.gw rfl (Step.move rfl) rfl ?_))
          refine RV.gw rfl (Step.idx Tryz.underlying46 I59 (fun w h => h.rs ho (fun _ => hI _)) rfl rfl (rfl) _ rfl (by omega)) rfl ?_
          refine RV.gw rfl (Step.fieldAddr rfl (F59_2 _ _)) rfl ?_
          refine RV.gw rfl (Step.load Tryz.underlying43 rfl rfl (fun w h => (h.rs ho (fun _ => hI _)).cell (j := 2) (by omega) rfl)) rfl ?_
          refine RV.op (OV.split (gyes rfl) (Step.neq rfl rfl) rfl (fun hv => ?_) (fun hv => ?_))
          ·
           refine RV.s (Step.pick_t rfl rfl) rfl ?_
           refine RV.nil (KV.then_n (KV.env [(2, _), (5, _), (82, _)] ⟨rfl, rfl, rfl, trivial⟩ (CV.cond_t rfl (CV.seq ?_))))
           have hro : roOk (h0.t.ops.getD j ro0) = false := by unfold roOk; rw [show (h0.t.ops.getD j ro0).wr = false from hwr, Bool.false_or]; exact decide_eq_false hv
           refine CV.region ?_
           refine RV.a rfl rfl ?_
           refine RV.nil (KV.then_n (KV.env [(4, _)] ⟨rfl, trivial⟩ (CV.ret (KV.block_ret (KV.then_ret ?_)))))
           refine KV.then_ret (KV.block_ret (KV.then_ret ?_))
           refine KV.sel [] [] rfl ?_
           first | exact KV.ret1 rfl rfl _ (fun _ h => h) ⟨by rw [show okT n h0.t = true from (okT_iff _ _).2 ⟨by omega, by omega, hnm, hgd, by omega, fun k hk => hinv.2 k (by omega)⟩], rfl⟩ | exact KV.ret1 rfl rfl _ (fun _ h => h) ⟨by rw [show okT n h0.t = false from bool_f (fun k => by have k2 := (okT_iff _ _).1 k; first | (exfalso; omega) | exact ff k2.2.2.1 hnm | exact ff k2.2.2.2.1 hgd | exact ff (k2.2.2.2.2.2 j (by omega)) hro)], rfl⟩
          ·
           refine RV.s (Step.pick_t rfl rfl) rfl ?_
           refine RV.nil (KV.then_n (KV.env [(2, _), (5, _), (82, _)] ⟨rfl, rfl, rfl, trivial⟩ (CV.cond_f rfl (CV.skip (KV.block_n ?_)))))
           refine KV.then_n (KV.env [(2, _), (5, _)] ⟨rfl, rfl, trivial⟩ (CV.region ?_))
           refine RV.m rfl rfl ?_
           (first | refine RV.op (OV.step gno (Step.add rfl rfl (wI64 (by omega) (by omega))) rfl ?_) | refine RV.op (OV.step gno (Step.add rfl rfl rfl) rfl ?_))
           refine RV.a rfl rfl ?_
           refine RV.nil (KV.then_n (KV.env [(2, _), (5, _)] ⟨rfl, rfl, trivial⟩ ?_))
           refine KV.sel [0] [_] rfl ?_
           have hr1 : roOk (h0.t.ops.getD j ro0) = true := by unfold roOk; first | (rw [show (h0.t.ops.getD j ro0).wr = true from hwr]; rfl) | (rw [show (h0.t.ops.getD j ro0).wr = false from hwr, Bool.false_or]; exact decide_eq_true (show (h0.t.ops.getD j ro0).val = 0 from Decidable.not_not.1 hv))
           exact KV.loopI (z := j) (j + 1) ⟨by omega, fun k hk => by by_cases e : k = j; (subst e; exact hr1); exact hinv.2 k (by omega)⟩ (by omega) ⟨rfl, rfl, trivial⟩ (fun _ h => h)
         ·
          have hwr := neg_f cc3
          refine RV.k rfl rfl (RV.k rfl rfl (RV.k rfl rfl (RV.k rfl rfl (RV.k rfl rfl (RV.k rfl rfl (RV.k rfl rfl (RV.s (Step.pick_f rfl rfl) rfl ?_)))))))
          refine RV.nil (KV.then_n (KV.env [(2, _), (5, _), (82, _)] ⟨rfl, rfl, rfl, trivial⟩ (CV.cond_f rfl (CV.skip (KV.block_n ?_)))))
          refine KV.then_n (KV.env [(2, _), (5, _)] ⟨rfl, rfl, trivial⟩ (CV.region ?_))
          refine RV.m rfl rfl ?_
          (first | refine RV.op (OV.step gno (Step.add rfl rfl (wI64 (by omega) (by omega))) rfl ?_) | refine RV.op (OV.step gno (Step.add rfl rfl rfl) rfl ?_))
          refine RV.a rfl rfl ?_
          refine RV.nil (KV.then_n (KV.env [(2, _), (5, _)] ⟨rfl, rfl, trivial⟩ ?_))
          refine KV.sel [0] [_] rfl ?_
          have hr1 : roOk (h0.t.ops.getD j ro0) = true := by unfold roOk; first | (rw [show (h0.t.ops.getD j ro0).wr = true from hwr]; rfl) | (rw [show (h0.t.ops.getD j ro0).wr = false from hwr, Bool.false_or]; exact decide_eq_true (show (h0.t.ops.getD j ro0).val = 0 from Decidable.not_not.1 hv))
          exact KV.loopI (z := j) (j + 1) ⟨by omega, fun k hk => by by_cases e : k = j; (subst e; exact hr1); exact hinv.2 k (by omega)⟩ (by omega) ⟨rfl, rfl, trivial⟩ (fun _ h => h)
        ·
         refine RV.nil (KV.then_n (KV.env [(2, _), (5, _), (64, _)] ⟨rfl, rfl, rfl, trivial⟩ (CV.cond_f rfl (CV.exit (KV.then_exit ?_)))))
         refine KV.then_exit (KV.block_hit (KV.then_n (KV.env [] trivial (CV.seq (CV.region ?_)))))
         refine RV.a rfl rfl ?_
         refine RV.nil (KV.then_n (KV.env [(4, _)] ⟨rfl, trivial⟩ (CV.ret ?_)))
         refine KV.sel [] [] rfl ?_
         first | exact KV.ret1 rfl rfl _ (fun _ h => h) ⟨by rw [show okT n h0.t = true from (okT_iff _ _).2 ⟨by omega, by omega, hnm, hgd, by omega, fun k hk => hinv.2 k (by omega)⟩], rfl⟩ | exact KV.ret1 rfl rfl _ (fun _ h => h) ⟨by rw [show okT n h0.t = false from bool_f (fun k => by have k2 := (okT_iff _ _).1 k; first | (exfalso; omega) | exact ff k2.2.2.1 hnm | exact ff k2.2.2.2.1 hgd | exact ff (k2.2.2.2.2.2 j (by omega)) hro)], rfl⟩
end Go.Proofs.YtplmfekhdaefaaaGreatDoor
