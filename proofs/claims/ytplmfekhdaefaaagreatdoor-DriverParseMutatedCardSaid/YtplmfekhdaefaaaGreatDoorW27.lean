/-
 Walks, part 27.
-/
import Derived.Test.YtplmfekhdaefaaaGreatDoorTabA
import Derived.Test.YtplmfekhdaefaaaGreatDoorW5
import Derived.Test.YtplmfekhdaefaaaGreatDoorDmC
set_option linter.unusedSimpArgs false
set_option linter.unusedVariables false
namespace Go.Proofs.YtplmfekhdaefaaaGreatDoor
open Go.Sv Go.Drv
set_option maxRecDepth 100000 in
set_option maxHeartbeats 4000000 in
theorem rnumber_fn (s : Bs) (h0 : s ≠ []) (hl : s.length ≤ 1000000) {w : World} : Fx Tryz.prog 80 [.string (bs s)] w [] no (fun v L => v = .tuple #[.int .u64 ((numR s).1 : Int), .bool (numR s).2] ∧ L = []) := by
 refine Sv.Fx.body Tryz.func80 rfl T80 rfl ?_
 intro I hro hI
 refine KV.env [(0, _)] ⟨rfl, trivial⟩ ?_
 have hs0 : 0 < s.length := List.length_pos_iff.2 h0
 refine CV.seq (CV.region ?_)
 refine RV.a rfl rfl (RV.a rfl rfl ?_)
 refine RV.nil (KV.then_n (KV.env [(0, _)] ⟨rfl, trivial⟩ (CV.seq (CV.seq (CV.region ?_)))))
 refine RV.m rfl rfl (RV.s (Step.lenStr Tryz.underlying9 rfl) rfl ?_)
 refine RV.op (OV.split gno (Step.gtr rfl rfl) rfl (fun a1 => ?_) (fun a1 => ?_))
 ·
  refine RV.m rfl rfl (RV.gw rfl (Step.move rfl) rfl ?_)
  refine RV.gw rfl (Step.idxStr Tryz.underlying9 rfl rfl 0 (show (0 : Int) = ((0 : Nat) : Int) from rfl) (by omega)) rfl ?_
  refine RV.op (OV.split (gyes rfl) (Step.eql rfl rfl) rfl (fun a2 => ?_) (fun a2 => ?_))
  ·
   refine RV.s (Step.pick_t rfl rfl) rfl (RV.m rfl rfl (RV.k rfl rfl (RV.k rfl rfl (RV.k rfl rfl (RV.s (Step.pick_t rfl rfl) rfl ?_)))))
   refine RV.nil (KV.then_n (KV.env [(0, _), (19, _)] ⟨rfl, rfl, trivial⟩ (CV.cond_t rfl (CV.seq (CV.region ?_)))))
   refine RV.a rfl rfl (RV.a rfl rfl ?_)
   refine RV.nil (KV.then_n (KV.env [(2, _), (3, _)] ⟨rfl, rfl, trivial⟩ (CV.ret (KV.then_ret ?_))))
   refine KV.sel [] [] rfl ?_
   exact KV.ret2 rfl rfl rfl _ (fun _ h => h) ⟨by rw [numR_no (by first | exact num_long (by omega) | exact num_zero (by omega) (UInt8.toNat_inj.1 (show _ = 48 by omega)))] <;> rfl, rfl⟩
  ·
   refine RV.s (Step.pick_t rfl rfl) rfl (RV.m rfl rfl (RV.gw rfl (Step.move rfl) rfl (RV.gw rfl (Step.lenStr Tryz.underlying9 rfl) rfl ?_)))
   refine RV.op (OV.split (gyes rfl) (Step.gtr rfl rfl) rfl (fun a3 => ?_) (fun a3 => ?_))
   ·
    refine RV.s (Step.pick_f rfl rfl) rfl ?_
    refine RV.nil (KV.then_n (KV.env [(0, _), (19, _)] ⟨rfl, rfl, trivial⟩ (CV.cond_t rfl (CV.seq (CV.region ?_)))))
    refine RV.a rfl rfl (RV.a rfl rfl ?_)
    refine RV.nil (KV.then_n (KV.env [(2, _), (3, _)] ⟨rfl, rfl, trivial⟩ (CV.ret (KV.then_ret ?_))))
    refine KV.sel [] [] rfl ?_
    exact KV.ret2 rfl rfl rfl _ (fun _ h => h) ⟨by rw [numR_no (by first | exact num_long (by omega) | exact num_zero (by omega) (UInt8.toNat_inj.1 (show _ = 48 by omega)))] <;> rfl, rfl⟩
   ·
    refine RV.s (Step.pick_f rfl rfl) rfl ?_
    refine RV.nil (KV.then_n (KV.env [(0, _), (19, _)] ⟨rfl, rfl, trivial⟩ (CV.cond_f rfl (CV.skip (KV.then_n ?_)))))
    refine KV.env [(0, _)] ⟨rfl, trivial⟩ (CV.seq (CV.region ?_))
    refine RV.a rfl rfl ?_
    refine RV.nil (KV.then_n (KV.env [(0, _), (4, _)] ⟨rfl, rfl, trivial⟩ (CV.seq (CV.seq (CV.region ?_)))))
    refine RV.a rfl rfl ?_
    refine RV.nil (KV.then_n (KV.env [(0, _), (4, _), (5, _)] ⟨rfl, rfl, rfl, trivial⟩ (CV.block ?_)))
    refine KV.sel [] [] rfl ?_
    refine CV.loopI (fun (j : Nat) => j ≤ s.length ∧ (∀ k, k < j → digB (s.getD k 0) = true) ∧ valD 0 (s.take j) < 18446744073709551616) (fun (j : Nat) => s.length - j) (fun (j : Nat) => [(0, .string (bs s)), (4, .int .u64 ((valD 0 (s.take j) : Nat) : Int)), (5, .int .i64 j)]) (fun (j : Nat) => Hp I w []) (0) ⟨Nat.zero_le _, fun k hk => by omega, (show 0 < 18446744073709551616 by decide)⟩ ⟨rfl, rfl, rfl, trivial⟩ (fun _ h => h) ?_
    intro j hinv
    refine CV.seq (CV.seq (CV.region ?_))
    refine RV.m rfl rfl (RV.m rfl rfl (RV.s (Step.lenStr Tryz.underlying9 rfl) rfl ?_))
    refine RV.op (OV.split gno (Step.lss rfl rfl) rfl (fun hj => ?_) (fun hj => ?_))
    ·
     refine RV.nil (KV.then_n (KV.env [(0, _), (4, _), (5, _), (23, _)] ⟨rfl, rfl, rfl, rfl, trivial⟩ (CV.cond_t rfl (CV.skip (KV.then_n ?_)))))
     refine KV.env [(0, _), (4, _), (5, _)] ⟨rfl, rfl, rfl, trivial⟩ (CV.seq (CV.block (CV.seq (CV.seq ?_))))
     have hc8 := UInt8.toNat_lt (s.getD j 0)
     refine CV.region ?_
     refine RV.m rfl rfl (RV.m rfl rfl ?_)
     refine RV.s (Step.idxStr Tryz.underlying9 rfl rfl _ rfl (by omega)) rfl ?_
     refine RV.op (OV.split gno (Step.lss rfl rfl) rfl (fun d1 => ?_) (fun d1 => ?_))
     ·
      refine RV.m rfl rfl (RV.k rfl rfl (RV.k rfl rfl (RV.k rfl rfl (RV.k rfl rfl (RV.s (Step.pick_t rfl rfl) rfl ?_)))))
      refine RV.nil (KV.then_n (KV.env [(0, _), (4, _), (5, _), (35, _)] ⟨rfl, rfl, rfl, rfl, trivial⟩ (CV.cond_t rfl (CV.seq (CV.region ?_)))))
      refine RV.a rfl rfl (RV.a rfl rfl ?_)
      refine RV.nil (KV.then_n (KV.env [(2, _), (3, _)] ⟨rfl, rfl, trivial⟩ (CV.ret (KV.then_ret (KV.block_ret ?_)))))
      refine KV.then_ret (KV.then_ret (KV.block_ret (KV.then_ret ?_)))
      refine KV.sel [] [] rfl ?_
      exact KV.ret2 rfl rfl rfl _ (fun _ h => h) ⟨by rw [numR_no (num_dig (j := j) (by omega) (decide_eq_false (by omega)))] <;> rfl, rfl⟩
     ·
      refine RV.m rfl rfl (RV.gw rfl (Step.move rfl) rfl (RV.gw rfl (Step.move rfl) rfl ?_))
      refine RV.gw rfl (Step.idxStr Tryz.underlying9 rfl rfl _ rfl (by omega)) rfl ?_
      refine RV.op (OV.split (gyes rfl) (Step.gtr rfl rfl) rfl (fun d2 => ?_) (fun d2 => ?_))
      ·
       refine RV.s (Step.pick_f rfl rfl) rfl ?_
       refine RV.nil (KV.then_n (KV.env [(0, _), (4, _), (5, _), (35, _)] ⟨rfl, rfl, rfl, rfl, trivial⟩ (CV.cond_t rfl (CV.seq (CV.region ?_)))))
       refine RV.a rfl rfl (RV.a rfl rfl ?_)
       refine RV.nil (KV.then_n (KV.env [(2, _), (3, _)] ⟨rfl, rfl, trivial⟩ (CV.ret (KV.then_ret (KV.block_ret ?_)))))
       refine KV.then_ret (KV.then_ret (KV.block_ret (KV.then_ret ?_)))
       refine KV.sel [] [] rfl ?_
       exact KV.ret2 rfl rfl rfl _ (fun _ h => h) ⟨by rw [numR_no (num_dig (j := j) (by omega) (decide_eq_false (by omega)))] <;> rfl, rfl⟩
      ·
       refine RV.s (Step.pick_f rfl rfl) rfl ?_
       refine RV.nil (KV.then_n (KV.env [(0, _), (4, _), (5, _), (35, _)] ⟨rfl, rfl, rfl, rfl, trivial⟩ (CV.cond_f rfl (CV.skip (KV.then_n ?_)))))
       refine KV.env [(0, _), (4, _), (5, _)] ⟨rfl, rfl, rfl, trivial⟩ (CV.seq (CV.region ?_))
       refine RV.m rfl rfl (RV.m rfl rfl ?_)
       refine RV.s (Step.idxStr Tryz.underlying9 rfl rfl _ rfl (by omega)) rfl ?_
       refine RV.s (Step.sub rfl rfl (wU8 (by omega) (by omega))) rfl ?_
       (first | refine RV.op (OV.step gno (Step.convI Tryz.underlying5 Tryz.underlying43 rfl (wU64 (by omega) (by omega))) rfl ?_) | refine RV.op (OV.step gno (Step.convI Tryz.underlying5 Tryz.underlying43 rfl rfl) rfl ?_))
       refine RV.a rfl rfl ?_
       refine RV.nil (KV.then_n (KV.env [(0, _), (4, _), (5, _), (6, _)] ⟨rfl, rfl, rfl, rfl, trivial⟩ (CV.seq (CV.seq (CV.region ?_)))))
       refine RV.m rfl rfl (RV.m rfl rfl ?_)
       refine RV.s (Step.sub rfl rfl (wU64 (by omega) (by omega))) rfl ?_
       refine RV.s (Step.quo rfl rfl (by omega) (show IntKind.u64.wrap ((18446744073709551615 - (((s.getD j 0).toNat : Int) - 48)).tdiv 10) = (18446744073709551615 - (((s.getD j 0).toNat : Int) - 48)) / 10 from by rw [Int.tdiv_eq_ediv_of_nonneg (by omega)]; exact wU64 (by omega) (by omega))) rfl ?_
       refine RV.op (OV.split gno (Step.gtr rfl rfl) rfl (fun ov => ?_) (fun ov => ?_))
       ·
        refine RV.nil (KV.then_n (KV.env [(0, _), (4, _), (5, _), (6, _), (45, _)] ⟨rfl, rfl, rfl, rfl, rfl, trivial⟩ (CV.cond_t rfl (CV.seq (CV.region ?_)))))
        refine RV.a rfl rfl (RV.a rfl rfl ?_)
        refine RV.nil (KV.then_n (KV.env [(2, _), (3, _)] ⟨rfl, rfl, trivial⟩ (CV.ret (KV.then_ret (KV.block_ret ?_)))))
        refine KV.then_ret (KV.then_ret (KV.block_ret (KV.then_ret ?_)))
        refine KV.sel [] [] rfl ?_
        exact KV.ret2 rfl rfl rfl _ (fun _ h => h) ⟨by rw [numR_no (fun k => by have h1 := val_next (s := s) (j := j) (by omega) (by omega); have h2 := val_le s (j + 1); have h3 := k.2; omega)] <;> rfl, rfl⟩
       ·
        refine RV.nil (KV.then_n (KV.env [(0, _), (4, _), (5, _), (6, _), (45, _)] ⟨rfl, rfl, rfl, rfl, rfl, trivial⟩ (CV.cond_f rfl (CV.skip (KV.then_n ?_)))))
        refine KV.env [(0, _), (4, _), (5, _), (6, _)] ⟨rfl, rfl, rfl, rfl, trivial⟩ (CV.region ?_)
        refine RV.m rfl rfl ?_
        refine RV.s (Step.mul rfl rfl (wU64 (by omega) (by omega))) rfl ?_
        refine RV.m rfl rfl ?_
        refine RV.s (Step.add rfl rfl (wU64 (by omega) (by omega))) rfl ?_
        refine RV.a rfl rfl ?_
        refine RV.nil (KV.block_n (KV.then_n (KV.env [(0, _), (4, _), (5, _)] ⟨rfl, rfl, rfl, trivial⟩ (CV.region ?_))))
        refine RV.m rfl rfl ?_
        (first | refine RV.op (OV.step gno (Step.add rfl rfl (wI64 (by omega) (by omega))) rfl ?_) | refine RV.op (OV.step gno (Step.add rfl rfl rfl) rfl ?_))
        refine RV.a rfl rfl ?_
        refine RV.nil (KV.then_n (KV.env [(0, _), (4, _), (5, _)] ⟨rfl, rfl, rfl, trivial⟩ ?_))
        refine KV.sel [] [] rfl ?_
        exact KV.loopI (z := j) (j + 1) ⟨by omega, fun k hk => by by_cases e : k = j; (subst e; exact decide_eq_true (by omega)); exact hinv.2.1 k (by omega), by have := val_next (s := s) (j := j) (by omega) (by omega); omega⟩ (by omega) ⟨rfl, (by rw [val_next (by omega) (by omega)]; rfl), rfl, trivial⟩ (fun _ h => h)
    ·
     refine RV.nil (KV.then_n (KV.env [(0, _), (4, _), (5, _), (23, _)] ⟨rfl, rfl, rfl, rfl, trivial⟩ (CV.cond_f rfl (CV.exit (KV.then_exit ?_)))))
     refine KV.then_exit (KV.block_hit (KV.then_n (KV.env [(4, _)] ⟨rfl, trivial⟩ (CV.seq (CV.region ?_)))))
     refine RV.m rfl rfl (RV.a rfl rfl (RV.a rfl rfl ?_))
     refine RV.nil (KV.then_n (KV.env [(2, _), (3, _)] ⟨rfl, rfl, trivial⟩ (CV.ret ?_)))
     refine KV.sel [] [] rfl ?_
     obtain rfl : j = s.length := by omega
     have hv := hinv.2.2
     rw [List.take_length] at hv ⊢
     have hW : numW s = true := (numW_iff s).2 ⟨h0, by first | (left; omega) | (right; exact fun e => a2 (by rw [e]; rfl)), hinv.2.1⟩
     exact KV.ret2 rfl rfl rfl _ (fun _ h => h) ⟨by rw [numR_yes hW hv], rfl⟩
 ·
  refine RV.m rfl rfl (RV.k rfl rfl (RV.k rfl rfl (RV.k rfl rfl (RV.s (Step.pick_f rfl rfl) rfl (RV.m rfl rfl (RV.gw rfl (Step.move rfl) rfl (RV.gw rfl (Step.lenStr Tryz.underlying9 rfl) rfl ?_)))))))
  refine RV.op (OV.split (gyes rfl) (Step.gtr rfl rfl) rfl (fun a3 => ?_) (fun a3 => ?_))
  ·
   refine RV.s (Step.pick_f rfl rfl) rfl ?_
   refine RV.nil (KV.then_n (KV.env [(0, _), (19, _)] ⟨rfl, rfl, trivial⟩ (CV.cond_t rfl (CV.seq (CV.region ?_)))))
   refine RV.a rfl rfl (RV.a rfl rfl ?_)
   refine RV.nil (KV.then_n (KV.env [(2, _), (3, _)] ⟨rfl, rfl, trivial⟩ (CV.ret (KV.then_ret ?_))))
   refine KV.sel [] [] rfl ?_
   exact KV.ret2 rfl rfl rfl _ (fun _ h => h) ⟨by rw [numR_no (by first | exact num_long (by omega) | exact num_zero (by omega) (UInt8.toNat_inj.1 (show _ = 48 by omega)))] <;> rfl, rfl⟩
  ·
   refine RV.s (Step.pick_f rfl rfl) rfl ?_
   refine RV.nil (KV.then_n (KV.env [(0, _), (19, _)] ⟨rfl, rfl, trivial⟩ (CV.cond_f rfl (CV.skip (KV.then_n ?_)))))
   refine KV.env [(0, _)] ⟨rfl, trivial⟩ (CV.seq (CV.region ?_))
   refine RV.a rfl rfl ?_
   refine RV.nil (KV.then_n (KV.env [(0, _), (4, _)] ⟨rfl, rfl, trivial⟩ (CV.seq (CV.seq (CV.region ?_)))))
   refine RV.a rfl rfl ?_
   refine RV.nil (KV.then_n (KV.env [(0, _), (4, _), (5, _)] ⟨rfl, rfl, rfl, trivial⟩ (CV.block ?_)))
   refine KV.sel [] [] rfl ?_
   refine CV.loopI (fun (j : Nat) => j ≤ s.length ∧ (∀ k, k < j → digB (s.getD k 0) = true) ∧ valD 0 (s.take j) < 18446744073709551616) (fun (j : Nat) => s.length - j) (fun (j : Nat) => [(0, .string (bs s)), (4, .int .u64 ((valD 0 (s.take j) : Nat) : Int)), (5, .int .i64 j)]) (fun (j : Nat) => Hp I w []) (0) ⟨Nat.zero_le _, fun k hk => by omega, (show 0 < 18446744073709551616 by decide)⟩ ⟨rfl, rfl, rfl, trivial⟩ (fun _ h => h) ?_
   intro j hinv
   refine CV.seq (CV.seq (CV.region ?_))
   refine RV.m rfl rfl (RV.m rfl rfl (RV.s (Step.lenStr Tryz.underlying9 rfl) rfl ?_))
   refine RV.op (OV.split gno (Step.lss rfl rfl) rfl (fun hj => ?_) (fun hj => ?_))
   ·
    refine RV.nil (KV.then_n (KV.env [(0, _), (4, _), (5, _), (23, _)] ⟨rfl, rfl, rfl, rfl, trivial⟩ (CV.cond_t rfl (CV.skip (KV.then_n ?_)))))
    refine KV.env [(0, _), (4, _), (5, _)] ⟨rfl, rfl, rfl, trivial⟩ (CV.seq (CV.block (CV.seq (CV.seq ?_))))
    have hc8 := UInt8.toNat_lt (s.getD j 0)
    refine CV.region ?_
    refine RV.m rfl rfl (RV.m rfl rfl ?_)
    refine RV.s (Step.idxStr Tryz.underlying9 rfl rfl _ rfl (by omega)) rfl ?_
    refine RV.op (OV.split gno (Step.lss rfl rfl) rfl (fun d1 => ?_) (fun d1 => ?_))
    ·
     refine RV.m rfl rfl (RV.k rfl rfl (RV.k rfl rfl (RV.k rfl rfl (RV.k rfl rfl (RV.s (Step.pick_t rfl rfl) rfl ?_)))))
     refine RV.nil (KV.then_n (KV.env [(0, _), (4, _), (5, _), (35, _)] ⟨rfl, rfl, rfl, rfl, trivial⟩ (CV.cond_t rfl (CV.seq (CV.region ?_)))))
     refine RV.a rfl rfl (RV.a rfl rfl ?_)
     refine RV.nil (KV.then_n (KV.env [(2, _), (3, _)] ⟨rfl, rfl, trivial⟩ (CV.ret (KV.then_ret (KV.block_ret ?_)))))
     refine KV.then_ret (KV.then_ret (KV.block_ret (KV.then_ret ?_)))
     refine KV.sel [] [] rfl ?_
     exact KV.ret2 rfl rfl rfl _ (fun _ h => h) ⟨by rw [numR_no (num_dig (j := j) (by omega) (decide_eq_false (by omega)))] <;> rfl, rfl⟩
    ·
     refine RV.m rfl rfl (RV.gw rfl (Step.move rfl) rfl (RV.gw rfl (Step.move rfl) rfl ?_))
     refine RV.gw rfl (Step.idxStr Tryz.underlying9 rfl rfl _ rfl (by omega)) rfl ?_
     refine RV.op (OV.split (gyes rfl) (Step.gtr rfl rfl) rfl (fun d2 => ?_) (fun d2 => ?_))
     ·
      refine RV.s (Step.pick_f rfl rfl) rfl ?_
      refine RV.nil (KV.then_n (KV.env [(0, _), (4, _), (5, _), (35, _)] ⟨rfl, rfl, rfl, rfl, trivial⟩ (CV.cond_t rfl (CV.seq (CV.region ?_)))))
      refine RV.a rfl rfl (RV.a rfl rfl ?_)
      refine RV.nil (KV.then_n (KV.env [(2, _), (3, _)] ⟨rfl, rfl, trivial⟩ (CV.ret (KV.then_ret (KV.block_ret ?_)))))
      refine KV.then_ret (KV.then_ret (KV.block_ret (KV.then_ret ?_)))
      refine KV.sel [] [] rfl ?_
      exact KV.ret2 rfl rfl rfl _ (fun _ h => h) ⟨by rw [numR_no (num_dig (j := j) (by omega) (decide_eq_false (by omega)))] <;> rfl, rfl⟩
     ·
      refine RV.s (Step.pick_f rfl rfl) rfl ?_
      refine RV.nil (KV.then_n (KV.env [(0, _), (4, _), (5, _), (35, _)] ⟨rfl, rfl, rfl, rfl, trivial⟩ (CV.cond_f rfl (CV.skip (KV.then_n ?_)))))
      refine KV.env [(0, _), (4, _), (5, _)] ⟨rfl, rfl, rfl, trivial⟩ (CV.seq (CV.region ?_))
      refine RV.m rfl rfl (RV.m rfl rfl ?_)
      refine RV.s (Step.idxStr Tryz.underlying9 rfl rfl _ rfl (by omega)) rfl ?_
      refine RV.s (Step.sub rfl rfl (wU8 (by omega) (by omega))) rfl ?_
      (first | refine RV.op (OV.step gno (Step.convI Tryz.underlying5 Tryz.underlying43 rfl (wU64 (by omega) (by omega))) rfl ?_) | refine RV.op (OV.step gno (Step.convI Tryz.underlying5 Tryz.underlying43 rfl rfl) rfl ?_))
      refine RV.a rfl rfl ?_
      refine RV.nil (KV.then_n (KV.env [(0, _), (4, _), (5, _), (6, _)] ⟨rfl, rfl, rfl, rfl, trivial⟩ (CV.seq (CV.seq (CV.region ?_)))))
      refine RV.m rfl rfl (RV.m rfl rfl ?_)
      refine RV.s (Step.sub rfl rfl (wU64 (by omega) (by omega))) rfl ?_
      refine RV.s (Step.quo rfl rfl (by omega) (show IntKind.u64.wrap ((18446744073709551615 - (((s.getD j 0).toNat : Int) - 48)).tdiv 10) = (18446744073709551615 - (((s.getD j 0).toNat : Int) - 48)) / 10 from by rw [Int.tdiv_eq_ediv_of_nonneg (by omega)]; exact wU64 (by omega) (by omega))) rfl ?_
      refine RV.op (OV.split gno (Step.gtr rfl rfl) rfl (fun ov => ?_) (fun ov => ?_))
      ·
       refine RV.nil (KV.then_n (KV.env [(0, _), (4, _), (5, _), (6, _), (45, _)] ⟨rfl, rfl, rfl, rfl, rfl, trivial⟩ (CV.cond_t rfl (CV.seq (CV.region ?_)))))
       refine RV.a rfl rfl (RV.a rfl rfl ?_)
       refine RV.nil (KV.then_n (KV.env [(2, _), (3, _)] ⟨rfl, rfl, trivial⟩ (CV.ret (KV.then_ret (KV.block_ret ?_)))))
       refine KV.then_ret (KV.then_ret (KV.block_ret (KV.then_ret ?_)))
       refine KV.sel [] [] rfl ?_
       exact KV.ret2 rfl rfl rfl _ (fun _ h => h) ⟨by rw [numR_no (fun k => by have h1 := val_next (s := s) (j := j) (by omega) (by omega); have h2 := val_le s (j + 1); have h3 := k.2; omega)] <;> rfl, rfl⟩
      ·
       refine RV.nil (KV.then_n (KV.env [(0, _), (4, _), (5, _), (6, _), (45, _)] ⟨rfl, rfl, rfl, rfl, rfl, trivial⟩ (CV.cond_f rfl (CV.skip (KV.then_n ?_)))))
       refine KV.env [(0, _), (4, _), (5, _), (6, _)] ⟨rfl, rfl, rfl, rfl, trivial⟩ (CV.region ?_)
       refine RV.m rfl rfl ?_
       refine RV.s (Step.mul rfl rfl (wU64 (by omega) (by omega))) rfl ?_
       refine RV.m rfl rfl ?_
       refine RV.s (Step.add rfl rfl (wU64 (by omega) (by omega))) rfl ?_
       refine RV.a rfl rfl ?_
       refine RV.nil (KV.block_n (KV.then_n (KV.env [(0, _), (4, _), (5, _)] ⟨rfl, rfl, rfl, trivial⟩ (CV.region ?_))))
       refine RV.m rfl rfl ?_
       (first | refine RV.op (OV.step gno (Step.add rfl rfl (wI64 (by omega) (by omega))) rfl ?_) | refine RV.op (OV.step gno (Step.add rfl rfl rfl) rfl ?_))
       refine RV.a rfl rfl ?_
       refine RV.nil (KV.then_n (KV.env [(0, _), (4, _), (5, _)] ⟨rfl, rfl, rfl, trivial⟩ ?_))
       refine KV.sel [] [] rfl ?_
       exact KV.loopI (z := j) (j + 1) ⟨by omega, fun k hk => by by_cases e : k = j; (subst e; exact decide_eq_true (by omega)); exact hinv.2.1 k (by omega), by have := val_next (s := s) (j := j) (by omega) (by omega); omega⟩ (by omega) ⟨rfl, (by rw [val_next (by omega) (by omega)]; rfl), rfl, trivial⟩ (fun _ h => h)
   ·
    refine RV.nil (KV.then_n (KV.env [(0, _), (4, _), (5, _), (23, _)] ⟨rfl, rfl, rfl, rfl, trivial⟩ (CV.cond_f rfl (CV.exit (KV.then_exit ?_)))))
    refine KV.then_exit (KV.block_hit (KV.then_n (KV.env [(4, _)] ⟨rfl, trivial⟩ (CV.seq (CV.region ?_)))))
    refine RV.m rfl rfl (RV.a rfl rfl (RV.a rfl rfl ?_))
    refine RV.nil (KV.then_n (KV.env [(2, _), (3, _)] ⟨rfl, rfl, trivial⟩ (CV.ret ?_)))
    refine KV.sel [] [] rfl ?_
    obtain rfl : j = s.length := by omega
    have hv := hinv.2.2
    rw [List.take_length] at hv ⊢
    have hW : numW s = true := (numW_iff s).2 ⟨h0, by first | (left; omega) | (right; exact fun e => a2 (by rw [e]; rfl)), hinv.2.1⟩
    exact KV.ret2 rfl rfl rfl _ (fun _ h => h) ⟨by rw [numR_yes hW hv], rfl⟩

set_option maxRecDepth 100000 in
set_option maxHeartbeats 4000000 in
theorem rwordTok_fn (s : Bs) (h0 : s ≠ []) (hl : s.length ≤ 1000000) {w : World} : Fx Tryz.prog 59 [.string (bs s)] w [] no (fun v L => ((wordTok s = some (.nm s) ∧ v = .tuple #[.agg #[.int .u8 110, .string (bs s), .int .u64 0], .bool true]) ∨ (∃ x, wordTok s = some (.num x) ∧ v = .tuple #[.agg #[.int .u8 100, .string (bs []), .int .u64 x], .bool true]) ∨ (wordTok s = none ∧ v = .tuple #[.agg #[.int .u8 110, .string (bs s), .int .u64 0], .bool false])) ∧ L = []) := by
 refine Sv.Fx.body Tryz.func59 rfl T59 rfl ?_
 intro I hro hI
 refine KV.env [(0, _)] ⟨rfl, trivial⟩ (CV.seq (CV.region ?_))
 refine RV.op (OV.alloc #[.int .u8 0, .string (Sv.bs []), .int .u64 0] I128 rfl gno rfl (fun r => ?_))
 refine RV.a rfl rfl ?_
 refine RV.nil (KV.then_n (KV.env [(0, _), (2, _)] ⟨rfl, rfl, trivial⟩ (CV.seq (CV.seq (CV.region ?_)))))
 refine RV.m rfl rfl ?_
 refine RV.op (OV.call [] (F := [_]) Tryz.func80 B80 N80 rfl rfl (fun w h => rnumber_fn s h0 hl) (fun _ hb => hb.elim) gno rfl (fun v L' hp => ?_))
 obtain ⟨rfl, rfl⟩ := hp
 simp only [List.append_nil]
 refine RV.m rfl rfl (RV.s (Step.extract0 rfl rfl) rfl (RV.s (Step.extract0 rfl rfl) rfl (RV.a rfl rfl (RV.a rfl rfl ?_))))
 refine RV.nil (KV.then_n (KV.env [(0, _), (2, _), (4, _), (5, _)] ⟨rfl, rfl, rfl, rfl, trivial⟩ (CV.seq (CV.region ?_))))
 refine RV.m rfl rfl ?_
 refine RV.nil (KV.then_n (KV.env [(0, _), (2, _), (4, _), (11, _)] ⟨rfl, rfl, rfl, rfl, trivial⟩ ?_))
 refine KV.cases 11 rfl (fun cc1 => ?_) (fun cc1 => ?_)
 ·
  have hn := numR_t cc1
  refine CV.cond_t rfl (CV.seq (CV.region ?_))
  refine RV.m rfl rfl (RV.s (Step.build rfl (Bd128_0_2 _ _)) rfl ?_)
  refine RV.op (OV.store 0 [_, _, _] #[_, _, _] I128 rfl rfl rfl rfl rfl (Nat.le_of_ble_eq_true rfl) (by simp [Value.oneCell']) rfl gno ?_)
  refine RV.a rfl rfl ?_
  refine RV.nil (KV.then_n (KV.env [(2, _), (3, _)] ⟨rfl, rfl, trivial⟩ (CV.ret (KV.then_ret ?_))))
  rw [hn.2]
  exact KV.retC2 [_, _, _] rfl rfl rfl Tryz.underlying128 rfl I128 rfl (fun w h => h.cells 0 rfl) [] (fun _ h => h.sel [] rfl) ⟨.inr (.inl ⟨_, wt_num (num_nm hn.1.1) hn.1.1 hn.1.2, rfl⟩), rfl⟩
 ·
  have hn := numR_f cc1
  refine CV.cond_f rfl (CV.skip (KV.then_n (KV.env [(0, _), (2, _)] ⟨rfl, rfl, trivial⟩ (CV.seq (CV.region ?_)))))
  refine RV.m rfl rfl (RV.s (Step.build rfl (Bd128_0_1 _ _)) rfl (RV.m rfl rfl ?_))
  refine RV.op (OV.callP Tryz.func45 B45 N45 rfl (risName_fn s) gno rfl ?_)
  refine RV.op (OV.store 0 [_, _, _] #[_, _, _] I128 rfl rfl rfl rfl rfl (Nat.le_of_ble_eq_true rfl) (by simp [Value.oneCell']) rfl gno ?_)
  refine RV.a rfl rfl ?_
  refine RV.nil (KV.then_n (KV.env [(2, _), (3, _)] ⟨rfl, rfl, trivial⟩ (CV.ret ?_)))
  cases hm : isNm s with
  | true => exact KV.retC2 [_, _, _] rfl rfl rfl Tryz.underlying128 rfl I128 rfl (fun w h => h.cells 0 rfl) [] (fun _ h => h.sel [] rfl) ⟨.inl ⟨wt_name hm, rfl⟩, rfl⟩
  | false => exact KV.retC2 [_, _, _] rfl rfl rfl Tryz.underlying128 rfl I128 rfl (fun w h => h.cells 0 rfl) [] (fun _ h => h.sel [] rfl) ⟨.inr (.inr ⟨by unfold wordTok; rw [if_neg (by rw [hm]; decide), if_neg hn], rfl⟩), rfl⟩

set_option maxRecDepth 100000 in
set_option maxHeartbeats 8000000 in
theorem rtokens_fn (s : Bs) (hs : s.length ≤ 1000000) {w : World} : Fx Tryz.prog 31 [.string (bs s)] w [] no (fun v L => (∃ ts A c, tk (cutH s) = some ts ∧ ts.length ≤ s.length ∧ v = .tuple #[.slice A ts.length c, .bool true] ∧ L = [OS 128 rtokK A c ts]) ∨ (tk (cutH s) = none ∧ v = .tuple #[.slice none 0 0, .bool false] ∧ L = [])) := by
 refine Sv.Fx.body Tryz.func31 rfl T31 rfl ?_
 intro I hro hI
 refine KV.env [(0, _)] ⟨rfl, trivial⟩ ?_
 have hcl := cut_le s
 refine CV.seq (CV.region ?_)
 refine RV.a rfl rfl (RV.a rfl rfl ?_)
 refine RV.nil (KV.then_n (KV.env [(0, _)] ⟨rfl, trivial⟩ (CV.seq ?_)))
 refine KV.heap (fun w h => h.nilOS (e := 128) (K := rtokK)) ?_
 refine CV.region ?_
 refine RV.a rfl rfl ?_
 refine RV.nil (KV.then_n (KV.env [(0, _), (4, _)] ⟨rfl, rfl, trivial⟩ (CV.seq (CV.seq (CV.region ?_)))))
 refine RV.a rfl rfl ?_
 refine RV.nil (KV.then_n (KV.env [(0, _), (4, _), (5, _)] ⟨rfl, rfl, rfl, trivial⟩ (CV.block ?_)))
 refine KV.sel [0] [_] rfl ?_
 refine CV.loop2 (fun (i : Nat) (T : TZ) => i ≤ (cutH s).length ∧ T.ts.length ≤ i ∧ Rd (cutH s) i T.ts) (fun (i : Nat) (T : TZ) => (cutH s).length - i) (fun (i : Nat) (T : TZ) => [(0, .string (bs s)), (4, .slice T.A T.ts.length T.c), (5, .int .i64 i)]) (fun (i : Nat) (T : TZ) => Hp I w [OS 128 rtokK T.A T.c T.ts]) (0) (⟨[], none, 0⟩) ⟨Nat.zero_le _, Nat.le_refl _, Rd.start _⟩ ⟨rfl, rfl, rfl, trivial⟩ (fun _ h => h) ?_
 intro i T hinv
 refine CV.seq (CV.seq (CV.region ?_))
 refine RV.m rfl rfl (RV.m rfl rfl (RV.s (Step.lenStr Tryz.underlying9 rfl) rfl ?_))
 refine RV.op (OV.split gno (Step.lss rfl rfl) rfl (fun h1 => ?_) (fun h1 => ?_))
 ·
  refine RV.m rfl rfl (RV.gw rfl (Step.move rfl) rfl (RV.gw rfl (Step.move rfl) rfl ?_))
  refine RV.gw rfl (Step.idxStr Tryz.underlying9 rfl rfl _ rfl (by omega)) rfl ?_
  refine RV.op (OV.split (gyes rfl) (Step.neq rfl rfl) rfl (fun h2 => ?_) (fun h2 => ?_))
  ·
   refine RV.s (Step.pick_t rfl rfl) rfl ?_
   refine RV.nil (KV.then_n (KV.env [(0, _), (4, _), (5, _), (19, _)] ⟨rfl, rfl, rfl, rfl, trivial⟩ (CV.cond_t rfl (CV.skip (KV.then_n ?_)))))
   refine KV.env [(0, _), (4, _), (5, _)] ⟨rfl, rfl, rfl, trivial⟩ (CV.block (CV.seq ?_))
   have hiL : i < (cutH s).length := cut_lt hinv.1 (by omega) h2
   have hget := cut_get hiL
   refine CV.region ?_
   refine RV.m rfl rfl (RV.m rfl rfl ?_)
   refine RV.s (Step.idxStr Tryz.underlying9 rfl rfl _ rfl (by omega)) rfl ?_
   refine RV.a rfl rfl ?_
   refine RV.nil (KV.then_n (KV.env [(0, _), (4, _), (5, _), (6, _)] ⟨rfl, rfl, rfl, rfl, trivial⟩ (CV.block (CV.seq (CV.region ?_)))))
   refine RV.m rfl rfl ?_
   refine RV.op (OV.split gno (Step.eql rfl rfl) rfl (fun c1 => ?_) (fun c1 => ?_))
   ·
    refine RV.m rfl rfl (RV.k rfl rfl (RV.k rfl rfl (RV.s (Step.pick_t rfl rfl) rfl (RV.a rfl rfl ?_))))
    refine RV.nil (KV.then_n (KV.env [(0, _), (4, _), (5, _), (6, _), (23, _)] ⟨rfl, rfl, rfl, rfl, rfl, trivial⟩ (CV.cond_t rfl (CV.region ?_))))
    refine RV.m rfl rfl ?_
    (first | refine RV.op (OV.step gno (Step.add rfl rfl (wI64 (by omega) (by omega))) rfl ?_) | refine RV.op (OV.step gno (Step.add rfl rfl rfl) rfl ?_))
    refine RV.a rfl rfl ?_
    refine RV.nil (KV.block_n (KV.block_n (KV.then_n (KV.env [(0, _), (4, _), (5, _)] ⟨rfl, rfl, rfl, trivial⟩ ?_))))
    refine KV.sel [0] [_] rfl ?_
    (first | exact KV.loop2 (x := i) (y := T) (i + 1) (T) ⟨by omega, by omega, hinv.2.2.sp hiL (by rw [hget]; exact sp_t (by omega))⟩ (by omega) ⟨rfl, rfl, rfl, trivial⟩ (fun _ h => h) | exact KV.loop2 (x := i) (y := T) (e) (⟨T.ts ++ [.nm ((s.take e).drop i)], A2, c2⟩) ⟨by omega, (by simp only [List.length_append, List.length_cons, List.length_nil]; omega), (hWs _ hwt).2⟩ (by omega) ⟨rfl, rfl, rfl, trivial⟩ (fun _ h => h) | exact KV.loop2 (x := i) (y := T) (e) (⟨T.ts ++ [.num x], A2, c2⟩) ⟨by omega, (by simp only [List.length_append, List.length_cons, List.length_nil]; omega), (hWs _ hwt).2⟩ (by omega) ⟨rfl, rfl, rfl, trivial⟩ (fun _ h => h) | exact KV.loop2 (x := i) (y := T) (i + 2) (⟨T.ts ++ [.sym 62], A2, c2⟩) ⟨by have := (arr_t hiL a1 (by omega) a3).1; rw [List.length_drop] at this; omega, (by simp only [List.length_append, List.length_cons, List.length_nil]; omega), hinv.2.2.arr (arr_t hiL a1 (by omega) a3)⟩ (by omega) ⟨rfl, rfl, rfl, trivial⟩ (fun _ h => h) | exact KV.loop2 (x := i) (y := T) (i + 1) (⟨T.ts ++ [.sym (s.getD i 0).toNat], A2, c2⟩) ⟨by omega, (by simp only [List.length_append, List.length_cons, List.length_nil]; omega), by have h7 := hinv.2.2.sym hiL (by rw [hget]; exact sp_f (by omega)) (by rw [hget]; exact sym_t (by omega)); rw [hget] at h7; exact h7⟩ (by omega) ⟨rfl, rfl, rfl, trivial⟩ (fun _ h => h))
   ·
    refine RV.m rfl rfl (RV.gw rfl (Step.move rfl) rfl ?_)
    refine RV.op (OV.split (gyes rfl) (Step.eql rfl rfl) rfl (fun c2 => ?_) (fun c2 => ?_))
    ·
     refine RV.s (Step.pick_f rfl rfl) rfl (RV.a rfl rfl ?_)
     refine RV.nil (KV.then_n (KV.env [(0, _), (4, _), (5, _), (6, _), (23, _)] ⟨rfl, rfl, rfl, rfl, rfl, trivial⟩ (CV.cond_t rfl (CV.region ?_))))
     refine RV.m rfl rfl ?_
     (first | refine RV.op (OV.step gno (Step.add rfl rfl (wI64 (by omega) (by omega))) rfl ?_) | refine RV.op (OV.step gno (Step.add rfl rfl rfl) rfl ?_))
     refine RV.a rfl rfl ?_
     refine RV.nil (KV.block_n (KV.block_n (KV.then_n (KV.env [(0, _), (4, _), (5, _)] ⟨rfl, rfl, rfl, trivial⟩ ?_))))
     refine KV.sel [0] [_] rfl ?_
     (first | exact KV.loop2 (x := i) (y := T) (i + 1) (T) ⟨by omega, by omega, hinv.2.2.sp hiL (by rw [hget]; exact sp_t (by omega))⟩ (by omega) ⟨rfl, rfl, rfl, trivial⟩ (fun _ h => h) | exact KV.loop2 (x := i) (y := T) (e) (⟨T.ts ++ [.nm ((s.take e).drop i)], A2, c2⟩) ⟨by omega, (by simp only [List.length_append, List.length_cons, List.length_nil]; omega), (hWs _ hwt).2⟩ (by omega) ⟨rfl, rfl, rfl, trivial⟩ (fun _ h => h) | exact KV.loop2 (x := i) (y := T) (e) (⟨T.ts ++ [.num x], A2, c2⟩) ⟨by omega, (by simp only [List.length_append, List.length_cons, List.length_nil]; omega), (hWs _ hwt).2⟩ (by omega) ⟨rfl, rfl, rfl, trivial⟩ (fun _ h => h) | exact KV.loop2 (x := i) (y := T) (i + 2) (⟨T.ts ++ [.sym 62], A2, c2⟩) ⟨by have := (arr_t hiL a1 (by omega) a3).1; rw [List.length_drop] at this; omega, (by simp only [List.length_append, List.length_cons, List.length_nil]; omega), hinv.2.2.arr (arr_t hiL a1 (by omega) a3)⟩ (by omega) ⟨rfl, rfl, rfl, trivial⟩ (fun _ h => h) | exact KV.loop2 (x := i) (y := T) (i + 1) (⟨T.ts ++ [.sym (s.getD i 0).toNat], A2, c2⟩) ⟨by omega, (by simp only [List.length_append, List.length_cons, List.length_nil]; omega), by have h7 := hinv.2.2.sym hiL (by rw [hget]; exact sp_f (by omega)) (by rw [hget]; exact sym_t (by omega)); rw [hget] at h7; exact h7⟩ (by omega) ⟨rfl, rfl, rfl, trivial⟩ (fun _ h => h))
    ·
     refine RV.s (Step.pick_f rfl rfl) rfl (RV.a rfl rfl ?_)
     refine RV.nil (KV.then_n (KV.env [(0, _), (4, _), (5, _), (6, _), (23, _)] ⟨rfl, rfl, rfl, rfl, rfl, trivial⟩ (CV.cond_f rfl (CV.seq (CV.region ?_)))))
     refine RV.m rfl rfl ?_
     refine RV.op (OV.callP Tryz.func58 B58 N58 rfl (rword_fn (s.getD i 0)) gno rfl ?_)
     refine RV.a rfl rfl ?_
     refine RV.nil (KV.then_n (KV.env [(0, _), (4, _), (5, _), (6, _), (32, _)] ⟨rfl, rfl, rfl, rfl, rfl, trivial⟩ ?_))
     refine KV.cases 32 rfl (fun cc1 => ?_) (fun cc1 => ?_)
     ·
      have hwd : wrdB (s.getD i 0) = true := cc1
      refine CV.cond_t rfl (CV.seq (CV.region ?_))
      refine RV.m rfl rfl (RV.a rfl rfl ?_)
      refine RV.nil (KV.then_n (KV.env [(0, _), (4, _), (5, _), (7, _)] ⟨rfl, rfl, rfl, rfl, trivial⟩ (CV.seq (CV.block ?_))))
      refine KV.sel [0] [_] rfl ?_
      refine CV.loopI (fun (e : Nat) => i ≤ e ∧ e ≤ (cutH s).length ∧ ∀ k, i ≤ k → k < e → wrdB (s.getD k 0) = true) (fun (e : Nat) => s.length - e) (fun (e : Nat) => [(0, .string (bs s)), (4, .slice T.A T.ts.length T.c), (5, .int .i64 i), (7, .int .i64 e)]) (fun (e : Nat) => Hp I w [OS 128 rtokK T.A T.c T.ts]) (i) ⟨Nat.le_refl _, by omega, fun k h1 h2 => by omega⟩ ⟨rfl, rfl, rfl, rfl, trivial⟩ (fun _ h => h) ?_
      intro e hi2
      refine CV.seq (CV.seq (CV.region ?_))
      refine RV.m rfl rfl (RV.m rfl rfl (RV.s (Step.lenStr Tryz.underlying9 rfl) rfl ?_))
      refine RV.op (OV.split gno (Step.lss rfl rfl) rfl (fun he => ?_) (fun he => ?_))
      ·
       refine RV.m rfl rfl (RV.gw rfl (Step.move rfl) rfl (RV.gw rfl (Step.move rfl) rfl ?_))
       refine RV.gw rfl (Step.idxStr Tryz.underlying9 rfl rfl _ rfl (by omega)) rfl ?_
       refine RV.op (OV.callP Tryz.func58 B58 N58 rfl (rword_fn (s.getD e 0)) (gyes rfl) rfl ?_)
       refine RV.s (Step.pick_t rfl rfl) rfl ?_
       refine RV.nil (KV.then_n (KV.env [(0, _), (4, _), (5, _), (7, _), (45, _)] ⟨rfl, rfl, rfl, rfl, rfl, trivial⟩ ?_))
       refine KV.cases 45 rfl (fun cc2 => ?_) (fun cc2 => ?_)
       ·
        have hw : wrdB (s.getD e 0) = true := cc2
        refine CV.cond_t rfl (CV.skip (KV.then_n (KV.env [(0, _), (4, _), (5, _), (7, _)] ⟨rfl, rfl, rfl, rfl, trivial⟩ (CV.block (CV.region ?_)))))
        refine RV.m rfl rfl ?_
        (first | refine RV.op (OV.step gno (Step.add rfl rfl (wI64 (by omega) (by omega))) rfl ?_) | refine RV.op (OV.step gno (Step.add rfl rfl rfl) rfl ?_))
        refine RV.a rfl rfl ?_
        refine RV.nil (KV.block_n (KV.then_n (KV.env [(0, _), (4, _), (5, _), (7, _)] ⟨rfl, rfl, rfl, rfl, trivial⟩ ?_)))
        refine KV.sel [0] [_] rfl ?_
        exact KV.loopI (z := e) (e + 1) ⟨by omega, cut_lt hi2.2.1 (by omega) (wrd_35 hw), fun k h1 h2 => by by_cases e2 : k = e; (subst e2; exact hw); exact hi2.2.2 k h1 (by omega)⟩ (by omega) ⟨rfl, rfl, rfl, rfl, trivial⟩ (fun _ h => h)
       ·
        have hw : wrdB (s.getD e 0) = false := cc2
        refine CV.cond_f rfl (CV.exit (KV.then_exit (KV.then_exit (KV.block_hit (KV.then_n ?_)))))
        refine KV.env [(0, _), (4, _), (5, _), (7, _)] ⟨rfl, rfl, rfl, rfl, trivial⟩ (CV.seq ?_)
        have hend : ¬ e < s.length ∨ wrdB (s.getD e 0) = false := by first | exact .inr hw | exact .inl (by omega)
        have hie : i < e := Nat.lt_of_le_of_ne hi2.1 (fun e2 => by subst e2; rcases hend with h | h; omega; (rw [hwd] at h; cases h))
        obtain ⟨hWn, hWs⟩ := tk_wrd hinv.2.2 hiL hwd hi2.1 hi2.2.1 hi2.2.2 hend
        have hwne : ((s.take e).drop i) ≠ [] := by intro h5; have h6 := congrArg List.length h5; rw [List.length_drop, List.length_take, List.length_nil] at h6; have := cut_le s; omega
        refine CV.region ?_
        refine RV.m rfl rfl (RV.m rfl rfl (RV.m rfl rfl ?_))
        refine RV.s (Step.slStrLH Tryz.underlying9 rfl rfl rfl (i) (e) (rfl) (rfl) (by omega) (by omega)) rfl ?_
        refine RV.op (OV.call [] (F := [_]) Tryz.func59 B59 N59 rfl rfl (fun w h => rwordTok_fn ((s.take e).drop i) hwne (by rw [List.length_drop, List.length_take]; omega)) (fun _ hb => hb.elim) gno rfl (fun v L' hp => ?_))
        obtain ⟨hv, rfl⟩ := hp
        simp only [List.append_nil]
        rcases hv with ⟨hwt, rfl⟩ | ⟨x, hwt, rfl⟩ | ⟨hwt, rfl⟩
        ·
         skip
         refine RV.m rfl rfl (RV.s (Step.extract0 rfl rfl) rfl (RV.s (Step.extract0 rfl rfl) rfl ?_))
         refine RV.op (OV.alloc #[.int .u8 0, .string (Sv.bs []), .int .u64 0] I128 rfl gno rfl (fun q => ?_))
         refine RV.op (OV.store 1 [_, _, _] #[_, _, _] I128 rfl rfl rfl rfl rfl (Nat.le_of_ble_eq_true rfl) (by simp [Value.oneCell']) rfl gno ?_)
         refine RV.a rfl rfl ?_
         refine RV.nil (KV.then_n (KV.env [(0, _), (4, _), (7, _), (8, _), (9, _)] ⟨rfl, rfl, rfl, rfl, rfl, trivial⟩ (CV.seq (CV.seq (CV.region ?_)))))
         refine RV.m rfl rfl (RV.s (Step.not rfl) rfl ?_)
         refine RV.nil (KV.then_n (KV.env [(0, _), (4, _), (7, _), (8, _), (57, _)] ⟨rfl, rfl, rfl, rfl, rfl, trivial⟩ (CV.cond_f rfl (CV.skip (KV.then_n ?_)))))
         refine KV.env [(0, _), (4, _), (7, _), (8, _)] ⟨rfl, rfl, rfl, rfl, trivial⟩ (CV.seq (CV.region ?_))
         refine RV.m rfl rfl (RV.s (Step.loadN _ Tryz.underlying128 rfl I128 rfl rfl (fun w h => h.cells 1 rfl)) rfl ?_)
         refine RV.op (OV.buildSlice (K := rtokK) ([MT.nm ((s.take e).drop i)]) rfl (Bs83_1_0 _ _ _) rfl rfl (by omega) gno rfl (fun b15_2 => ?_))
         refine RV.op (OV.append 0 Tryz.underlying83 I128 rfl rfl rfl rfl rfl rfl (fun w h => h.os 2 rfl) (by simp only [List.length_cons, List.length_nil]; omega) (by simp only [List.length_cons, List.length_nil]; omega) gno rfl (fun A2 c2 => ?_))
         refine RV.a rfl rfl ?_
         refine RV.nil (KV.then_n (KV.env [(0, _), (4, _), (7, _)] ⟨rfl, rfl, rfl, trivial⟩ (CV.region ?_)))
         refine RV.m rfl rfl (RV.a rfl rfl ?_)
         refine RV.nil (KV.block_n (KV.block_n (KV.then_n (KV.env [(0, _), (4, _), (5, _)] ⟨rfl, rfl, rfl, trivial⟩ ?_))))
         refine KV.sel [0] [_] rfl ?_
         (first | exact KV.loop2 (x := i) (y := T) (i + 1) (T) ⟨by omega, by omega, hinv.2.2.sp hiL (by rw [hget]; exact sp_t (by omega))⟩ (by omega) ⟨rfl, rfl, rfl, trivial⟩ (fun _ h => h) | exact KV.loop2 (x := i) (y := T) (e) (⟨T.ts ++ [.nm ((s.take e).drop i)], A2, c2⟩) ⟨by omega, (by simp only [List.length_append, List.length_cons, List.length_nil]; omega), (hWs _ hwt).2⟩ (by omega) ⟨rfl, rfl, rfl, trivial⟩ (fun _ h => h) | exact KV.loop2 (x := i) (y := T) (e) (⟨T.ts ++ [.num x], A2, c2⟩) ⟨by omega, (by simp only [List.length_append, List.length_cons, List.length_nil]; omega), (hWs _ hwt).2⟩ (by omega) ⟨rfl, rfl, rfl, trivial⟩ (fun _ h => h) | exact KV.loop2 (x := i) (y := T) (i + 2) (⟨T.ts ++ [.sym 62], A2, c2⟩) ⟨by have := (arr_t hiL a1 (by omega) a3).1; rw [List.length_drop] at this; omega, (by simp only [List.length_append, List.length_cons, List.length_nil]; omega), hinv.2.2.arr (arr_t hiL a1 (by omega) a3)⟩ (by omega) ⟨rfl, rfl, rfl, trivial⟩ (fun _ h => h) | exact KV.loop2 (x := i) (y := T) (i + 1) (⟨T.ts ++ [.sym (s.getD i 0).toNat], A2, c2⟩) ⟨by omega, (by simp only [List.length_append, List.length_cons, List.length_nil]; omega), by have h7 := hinv.2.2.sym hiL (by rw [hget]; exact sp_f (by omega)) (by rw [hget]; exact sym_t (by omega)); rw [hget] at h7; exact h7⟩ (by omega) ⟨rfl, rfl, rfl, trivial⟩ (fun _ h => h))
        ·
         skip
         refine RV.m rfl rfl (RV.s (Step.extract0 rfl rfl) rfl (RV.s (Step.extract0 rfl rfl) rfl ?_))
         refine RV.op (OV.alloc #[.int .u8 0, .string (Sv.bs []), .int .u64 0] I128 rfl gno rfl (fun q => ?_))
         refine RV.op (OV.store 1 [_, _, _] #[_, _, _] I128 rfl rfl rfl rfl rfl (Nat.le_of_ble_eq_true rfl) (by simp [Value.oneCell']) rfl gno ?_)
         refine RV.a rfl rfl ?_
         refine RV.nil (KV.then_n (KV.env [(0, _), (4, _), (7, _), (8, _), (9, _)] ⟨rfl, rfl, rfl, rfl, rfl, trivial⟩ (CV.seq (CV.seq (CV.region ?_)))))
         refine RV.m rfl rfl (RV.s (Step.not rfl) rfl ?_)
         refine RV.nil (KV.then_n (KV.env [(0, _), (4, _), (7, _), (8, _), (57, _)] ⟨rfl, rfl, rfl, rfl, rfl, trivial⟩ (CV.cond_f rfl (CV.skip (KV.then_n ?_)))))
         refine KV.env [(0, _), (4, _), (7, _), (8, _)] ⟨rfl, rfl, rfl, rfl, trivial⟩ (CV.seq (CV.region ?_))
         refine RV.m rfl rfl (RV.s (Step.loadN _ Tryz.underlying128 rfl I128 rfl rfl (fun w h => h.cells 1 rfl)) rfl ?_)
         refine RV.op (OV.buildSlice (K := rtokK) ([MT.num x]) rfl (Bs83_1_0 _ _ _) rfl rfl (by omega) gno rfl (fun b15_2 => ?_))
         refine RV.op (OV.append 0 Tryz.underlying83 I128 rfl rfl rfl rfl rfl rfl (fun w h => h.os 2 rfl) (by simp only [List.length_cons, List.length_nil]; omega) (by simp only [List.length_cons, List.length_nil]; omega) gno rfl (fun A2 c2 => ?_))
         refine RV.a rfl rfl ?_
         refine RV.nil (KV.then_n (KV.env [(0, _), (4, _), (7, _)] ⟨rfl, rfl, rfl, trivial⟩ (CV.region ?_)))
         refine RV.m rfl rfl (RV.a rfl rfl ?_)
         refine RV.nil (KV.block_n (KV.block_n (KV.then_n (KV.env [(0, _), (4, _), (5, _)] ⟨rfl, rfl, rfl, trivial⟩ ?_))))
         refine KV.sel [0] [_] rfl ?_
         (first | exact KV.loop2 (x := i) (y := T) (i + 1) (T) ⟨by omega, by omega, hinv.2.2.sp hiL (by rw [hget]; exact sp_t (by omega))⟩ (by omega) ⟨rfl, rfl, rfl, trivial⟩ (fun _ h => h) | exact KV.loop2 (x := i) (y := T) (e) (⟨T.ts ++ [.nm ((s.take e).drop i)], A2, c2⟩) ⟨by omega, (by simp only [List.length_append, List.length_cons, List.length_nil]; omega), (hWs _ hwt).2⟩ (by omega) ⟨rfl, rfl, rfl, trivial⟩ (fun _ h => h) | exact KV.loop2 (x := i) (y := T) (e) (⟨T.ts ++ [.num x], A2, c2⟩) ⟨by omega, (by simp only [List.length_append, List.length_cons, List.length_nil]; omega), (hWs _ hwt).2⟩ (by omega) ⟨rfl, rfl, rfl, trivial⟩ (fun _ h => h) | exact KV.loop2 (x := i) (y := T) (i + 2) (⟨T.ts ++ [.sym 62], A2, c2⟩) ⟨by have := (arr_t hiL a1 (by omega) a3).1; rw [List.length_drop] at this; omega, (by simp only [List.length_append, List.length_cons, List.length_nil]; omega), hinv.2.2.arr (arr_t hiL a1 (by omega) a3)⟩ (by omega) ⟨rfl, rfl, rfl, trivial⟩ (fun _ h => h) | exact KV.loop2 (x := i) (y := T) (i + 1) (⟨T.ts ++ [.sym (s.getD i 0).toNat], A2, c2⟩) ⟨by omega, (by simp only [List.length_append, List.length_cons, List.length_nil]; omega), by have h7 := hinv.2.2.sym hiL (by rw [hget]; exact sp_f (by omega)) (by rw [hget]; exact sym_t (by omega)); rw [hget] at h7; exact h7⟩ (by omega) ⟨rfl, rfl, rfl, trivial⟩ (fun _ h => h))
        ·
         skip
         refine RV.m rfl rfl (RV.s (Step.extract0 rfl rfl) rfl (RV.s (Step.extract0 rfl rfl) rfl ?_))
         refine RV.op (OV.alloc #[.int .u8 0, .string (Sv.bs []), .int .u64 0] I128 rfl gno rfl (fun q => ?_))
         refine RV.op (OV.store 1 [_, _, _] #[_, _, _] I128 rfl rfl rfl rfl rfl (Nat.le_of_ble_eq_true rfl) (by simp [Value.oneCell']) rfl gno ?_)
         refine RV.a rfl rfl ?_
         refine RV.nil (KV.then_n (KV.env [(0, _), (4, _), (7, _), (8, _), (9, _)] ⟨rfl, rfl, rfl, rfl, rfl, trivial⟩ (CV.seq (CV.seq (CV.region ?_)))))
         refine RV.m rfl rfl (RV.s (Step.not rfl) rfl ?_)
         refine RV.nil (KV.then_n (KV.env [(0, _), (4, _), (7, _), (8, _), (57, _)] ⟨rfl, rfl, rfl, rfl, rfl, trivial⟩ (CV.cond_t rfl (CV.seq (CV.region ?_)))))
         refine RV.a rfl rfl (RV.a rfl rfl ?_)
         refine RV.nil (KV.then_n (KV.env [(2, _), (3, _)] ⟨rfl, rfl, trivial⟩ (CV.ret (KV.then_ret (KV.block_ret ?_)))))
         refine KV.block_ret (KV.then_ret (KV.block_ret (KV.then_ret ?_)))
         refine KV.sel [] [] rfl ?_
         exact KV.ret2 rfl rfl rfl _ (fun _ h => h) (.inr ⟨hWn hwt, rfl, rfl⟩)
      ·
       refine RV.m rfl rfl (RV.k rfl rfl (RV.k rfl rfl (RV.k rfl rfl (RV.k rfl rfl (RV.s (Step.pick_f rfl rfl) rfl ?_)))))
       refine RV.nil (KV.then_n (KV.env [(0, _), (4, _), (5, _), (7, _), (45, _)] ⟨rfl, rfl, rfl, rfl, rfl, trivial⟩ (CV.cond_f rfl (CV.exit (KV.then_exit ?_)))))
       refine KV.then_exit (KV.block_hit (KV.then_n (KV.env [(0, _), (4, _), (5, _), (7, _)] ⟨rfl, rfl, rfl, rfl, trivial⟩ (CV.seq ?_))))
       have hend : ¬ e < s.length ∨ wrdB (s.getD e 0) = false := by first | exact .inr hw | exact .inl (by omega)
       have hie : i < e := Nat.lt_of_le_of_ne hi2.1 (fun e2 => by subst e2; rcases hend with h | h; omega; (rw [hwd] at h; cases h))
       obtain ⟨hWn, hWs⟩ := tk_wrd hinv.2.2 hiL hwd hi2.1 hi2.2.1 hi2.2.2 hend
       have hwne : ((s.take e).drop i) ≠ [] := by intro h5; have h6 := congrArg List.length h5; rw [List.length_drop, List.length_take, List.length_nil] at h6; have := cut_le s; omega
       refine CV.region ?_
       refine RV.m rfl rfl (RV.m rfl rfl (RV.m rfl rfl ?_))
       refine RV.s (Step.slStrLH Tryz.underlying9 rfl rfl rfl (i) (e) (rfl) (rfl) (by omega) (by omega)) rfl ?_
       refine RV.op (OV.call [] (F := [_]) Tryz.func59 B59 N59 rfl rfl (fun w h => rwordTok_fn ((s.take e).drop i) hwne (by rw [List.length_drop, List.length_take]; omega)) (fun _ hb => hb.elim) gno rfl (fun v L' hp => ?_))
       obtain ⟨hv, rfl⟩ := hp
       simp only [List.append_nil]
       rcases hv with ⟨hwt, rfl⟩ | ⟨x, hwt, rfl⟩ | ⟨hwt, rfl⟩
       ·
        skip
        refine RV.m rfl rfl (RV.s (Step.extract0 rfl rfl) rfl (RV.s (Step.extract0 rfl rfl) rfl ?_))
        refine RV.op (OV.alloc #[.int .u8 0, .string (Sv.bs []), .int .u64 0] I128 rfl gno rfl (fun q => ?_))
        refine RV.op (OV.store 1 [_, _, _] #[_, _, _] I128 rfl rfl rfl rfl rfl (Nat.le_of_ble_eq_true rfl) (by simp [Value.oneCell']) rfl gno ?_)
        refine RV.a rfl rfl ?_
        refine RV.nil (KV.then_n (KV.env [(0, _), (4, _), (7, _), (8, _), (9, _)] ⟨rfl, rfl, rfl, rfl, rfl, trivial⟩ (CV.seq (CV.seq (CV.region ?_)))))
        refine RV.m rfl rfl (RV.s (Step.not rfl) rfl ?_)
        refine RV.nil (KV.then_n (KV.env [(0, _), (4, _), (7, _), (8, _), (57, _)] ⟨rfl, rfl, rfl, rfl, rfl, trivial⟩ (CV.cond_f rfl (CV.skip (KV.then_n ?_)))))
        refine KV.env [(0, _), (4, _), (7, _), (8, _)] ⟨rfl, rfl, rfl, rfl, trivial⟩ (CV.seq (CV.region ?_))
        refine RV.m rfl rfl (RV.s (Step.loadN _ Tryz.underlying128 rfl I128 rfl rfl (fun w h => h.cells 1 rfl)) rfl ?_)
        refine RV.op (OV.buildSlice (K := rtokK) ([MT.nm ((s.take e).drop i)]) rfl (Bs83_1_0 _ _ _) rfl rfl (by omega) gno rfl (fun b15_2 => ?_))
        refine RV.op (OV.append 0 Tryz.underlying83 I128 rfl rfl rfl rfl rfl rfl (fun w h => h.os 2 rfl) (by simp only [List.length_cons, List.length_nil]; omega) (by simp only [List.length_cons, List.length_nil]; omega) gno rfl (fun A2 c2 => ?_))
        refine RV.a rfl rfl ?_
        refine RV.nil (KV.then_n (KV.env [(0, _), (4, _), (7, _)] ⟨rfl, rfl, rfl, trivial⟩ (CV.region ?_)))
        refine RV.m rfl rfl (RV.a rfl rfl ?_)
        refine RV.nil (KV.block_n (KV.block_n (KV.then_n (KV.env [(0, _), (4, _), (5, _)] ⟨rfl, rfl, rfl, trivial⟩ ?_))))
        refine KV.sel [0] [_] rfl ?_
        (first | exact KV.loop2 (x := i) (y := T) (i + 1) (T) ⟨by omega, by omega, hinv.2.2.sp hiL (by rw [hget]; exact sp_t (by omega))⟩ (by omega) ⟨rfl, rfl, rfl, trivial⟩ (fun _ h => h) | exact KV.loop2 (x := i) (y := T) (e) (⟨T.ts ++ [.nm ((s.take e).drop i)], A2, c2⟩) ⟨by omega, (by simp only [List.length_append, List.length_cons, List.length_nil]; omega), (hWs _ hwt).2⟩ (by omega) ⟨rfl, rfl, rfl, trivial⟩ (fun _ h => h) | exact KV.loop2 (x := i) (y := T) (e) (⟨T.ts ++ [.num x], A2, c2⟩) ⟨by omega, (by simp only [List.length_append, List.length_cons, List.length_nil]; omega), (hWs _ hwt).2⟩ (by omega) ⟨rfl, rfl, rfl, trivial⟩ (fun _ h => h) | exact KV.loop2 (x := i) (y := T) (i + 2) (⟨T.ts ++ [.sym 62], A2, c2⟩) ⟨by have := (arr_t hiL a1 (by omega) a3).1; rw [List.length_drop] at this; omega, (by simp only [List.length_append, List.length_cons, List.length_nil]; omega), hinv.2.2.arr (arr_t hiL a1 (by omega) a3)⟩ (by omega) ⟨rfl, rfl, rfl, trivial⟩ (fun _ h => h) | exact KV.loop2 (x := i) (y := T) (i + 1) (⟨T.ts ++ [.sym (s.getD i 0).toNat], A2, c2⟩) ⟨by omega, (by simp only [List.length_append, List.length_cons, List.length_nil]; omega), by have h7 := hinv.2.2.sym hiL (by rw [hget]; exact sp_f (by omega)) (by rw [hget]; exact sym_t (by omega)); rw [hget] at h7; exact h7⟩ (by omega) ⟨rfl, rfl, rfl, trivial⟩ (fun _ h => h))
       ·
        skip
        refine RV.m rfl rfl (RV.s (Step.extract0 rfl rfl) rfl (RV.s (Step.extract0 rfl rfl) rfl ?_))
        refine RV.op (OV.alloc #[.int .u8 0, .string (Sv.bs []), .int .u64 0] I128 rfl gno rfl (fun q => ?_))
        refine RV.op (OV.store 1 [_, _, _] #[_, _, _] I128 rfl rfl rfl rfl rfl (Nat.le_of_ble_eq_true rfl) (by simp [Value.oneCell']) rfl gno ?_)
        refine RV.a rfl rfl ?_
        refine RV.nil (KV.then_n (KV.env [(0, _), (4, _), (7, _), (8, _), (9, _)] ⟨rfl, rfl, rfl, rfl, rfl, trivial⟩ (CV.seq (CV.seq (CV.region ?_)))))
        refine RV.m rfl rfl (RV.s (Step.not rfl) rfl ?_)
        refine RV.nil (KV.then_n (KV.env [(0, _), (4, _), (7, _), (8, _), (57, _)] ⟨rfl, rfl, rfl, rfl, rfl, trivial⟩ (CV.cond_f rfl (CV.skip (KV.then_n ?_)))))
        refine KV.env [(0, _), (4, _), (7, _), (8, _)] ⟨rfl, rfl, rfl, rfl, trivial⟩ (CV.seq (CV.region ?_))
        refine RV.m rfl rfl (RV.s (Step.loadN _ Tryz.underlying128 rfl I128 rfl rfl (fun w h => h.cells 1 rfl)) rfl ?_)
        refine RV.op (OV.buildSlice (K := rtokK) ([MT.num x]) rfl (Bs83_1_0 _ _ _) rfl rfl (by omega) gno rfl (fun b15_2 => ?_))
        refine RV.op (OV.append 0 Tryz.underlying83 I128 rfl rfl rfl rfl rfl rfl (fun w h => h.os 2 rfl) (by simp only [List.length_cons, List.length_nil]; omega) (by simp only [List.length_cons, List.length_nil]; omega) gno rfl (fun A2 c2 => ?_))
        refine RV.a rfl rfl ?_
        refine RV.nil (KV.then_n (KV.env [(0, _), (4, _), (7, _)] ⟨rfl, rfl, rfl, trivial⟩ (CV.region ?_)))
        refine RV.m rfl rfl (RV.a rfl rfl ?_)
        refine RV.nil (KV.block_n (KV.block_n (KV.then_n (KV.env [(0, _), (4, _), (5, _)] ⟨rfl, rfl, rfl, trivial⟩ ?_))))
        refine KV.sel [0] [_] rfl ?_
        (first | exact KV.loop2 (x := i) (y := T) (i + 1) (T) ⟨by omega, by omega, hinv.2.2.sp hiL (by rw [hget]; exact sp_t (by omega))⟩ (by omega) ⟨rfl, rfl, rfl, trivial⟩ (fun _ h => h) | exact KV.loop2 (x := i) (y := T) (e) (⟨T.ts ++ [.nm ((s.take e).drop i)], A2, c2⟩) ⟨by omega, (by simp only [List.length_append, List.length_cons, List.length_nil]; omega), (hWs _ hwt).2⟩ (by omega) ⟨rfl, rfl, rfl, trivial⟩ (fun _ h => h) | exact KV.loop2 (x := i) (y := T) (e) (⟨T.ts ++ [.num x], A2, c2⟩) ⟨by omega, (by simp only [List.length_append, List.length_cons, List.length_nil]; omega), (hWs _ hwt).2⟩ (by omega) ⟨rfl, rfl, rfl, trivial⟩ (fun _ h => h) | exact KV.loop2 (x := i) (y := T) (i + 2) (⟨T.ts ++ [.sym 62], A2, c2⟩) ⟨by have := (arr_t hiL a1 (by omega) a3).1; rw [List.length_drop] at this; omega, (by simp only [List.length_append, List.length_cons, List.length_nil]; omega), hinv.2.2.arr (arr_t hiL a1 (by omega) a3)⟩ (by omega) ⟨rfl, rfl, rfl, trivial⟩ (fun _ h => h) | exact KV.loop2 (x := i) (y := T) (i + 1) (⟨T.ts ++ [.sym (s.getD i 0).toNat], A2, c2⟩) ⟨by omega, (by simp only [List.length_append, List.length_cons, List.length_nil]; omega), by have h7 := hinv.2.2.sym hiL (by rw [hget]; exact sp_f (by omega)) (by rw [hget]; exact sym_t (by omega)); rw [hget] at h7; exact h7⟩ (by omega) ⟨rfl, rfl, rfl, trivial⟩ (fun _ h => h))
       ·
        skip
        refine RV.m rfl rfl (RV.s (Step.extract0 rfl rfl) rfl (RV.s (Step.extract0 rfl rfl) rfl ?_))
        refine RV.op (OV.alloc #[.int .u8 0, .string (Sv.bs []), .int .u64 0] I128 rfl gno rfl (fun q => ?_))
        refine RV.op (OV.store 1 [_, _, _] #[_, _, _] I128 rfl rfl rfl rfl rfl (Nat.le_of_ble_eq_true rfl) (by simp [Value.oneCell']) rfl gno ?_)
        refine RV.a rfl rfl ?_
        refine RV.nil (KV.then_n (KV.env [(0, _), (4, _), (7, _), (8, _), (9, _)] ⟨rfl, rfl, rfl, rfl, rfl, trivial⟩ (CV.seq (CV.seq (CV.region ?_)))))
        refine RV.m rfl rfl (RV.s (Step.not rfl) rfl ?_)
        refine RV.nil (KV.then_n (KV.env [(0, _), (4, _), (7, _), (8, _), (57, _)] ⟨rfl, rfl, rfl, rfl, rfl, trivial⟩ (CV.cond_t rfl (CV.seq (CV.region ?_)))))
        refine RV.a rfl rfl (RV.a rfl rfl ?_)
        refine RV.nil (KV.then_n (KV.env [(2, _), (3, _)] ⟨rfl, rfl, trivial⟩ (CV.ret (KV.then_ret (KV.block_ret ?_)))))
        refine KV.block_ret (KV.then_ret (KV.block_ret (KV.then_ret ?_)))
        refine KV.sel [] [] rfl ?_
        exact KV.ret2 rfl rfl rfl _ (fun _ h => h) (.inr ⟨hWn hwt, rfl, rfl⟩)
     ·
      have hwd : wrdB (s.getD i 0) = false := cc1
      refine CV.cond_f rfl (CV.seq (CV.region ?_))
      refine RV.m rfl rfl ?_
      refine RV.op (OV.split gno (Step.eql rfl rfl) rfl (fun a1 => ?_) (fun a1 => ?_))
      ·
       refine RV.m rfl rfl (RV.gw rfl (Step.move rfl) rfl ?_)
       (first | refine RV.op (OV.step (gyes rfl) (Step.add rfl rfl (wI64 (by omega) (by omega))) rfl ?_) | refine RV.op (OV.step (gyes rfl) (Step.add rfl rfl rfl) rfl ?_))
       refine RV.gw rfl (Step.move rfl) rfl (RV.gw rfl (Step.lenStr Tryz.underlying9 rfl) rfl ?_)
       refine RV.op (OV.split (gyes rfl) (Step.lss rfl rfl) rfl (fun a2 => ?_) (fun a2 => ?_))
       ·
        refine RV.s (Step.pick_t rfl rfl) rfl (RV.m rfl rfl (RV.gw rfl (Step.move rfl) rfl (RV.gw rfl (Step.move rfl) rfl ?_)))
        (first | refine RV.op (OV.step (gyes rfl) (Step.add rfl rfl (wI64 (by omega) (by omega))) rfl ?_) | refine RV.op (OV.step (gyes rfl) (Step.add rfl rfl rfl) rfl ?_))
        refine RV.gw rfl (Step.idxStr Tryz.underlying9 rfl rfl _ (show ((i : Int) + 1) = ((i + 1 : Nat) : Int) by omega) (by omega)) rfl ?_
        refine RV.op (OV.split (gyes rfl) (Step.eql rfl rfl) rfl (fun a3 => ?_) (fun a3 => ?_))
        ·
         refine RV.s (Step.pick_t rfl rfl) rfl (RV.a rfl rfl ?_)
         refine RV.nil (KV.then_n (KV.env [(0, _), (4, _), (5, _), (6, _), (63, _)] ⟨rfl, rfl, rfl, rfl, rfl, trivial⟩ (CV.cond_t rfl (CV.seq (CV.region ?_)))))
         refine RV.m rfl rfl (RV.s (Step.build rfl (Bd128_0 _)) rfl ?_)
         refine RV.op (OV.buildSlice (K := rtokK) ([MT.sym 62]) rfl (Bs83_1_0 _ _ _) rfl rfl (by omega) gno rfl (fun b18_2 => ?_))
         refine RV.op (OV.append 0 Tryz.underlying83 I128 rfl rfl rfl rfl rfl rfl (fun w h => h.os 1 rfl) (by simp only [List.length_cons, List.length_nil]; omega) (by simp only [List.length_cons, List.length_nil]; omega) gno rfl (fun A2 c2 => ?_))
         refine RV.a rfl rfl ?_
         refine RV.nil (KV.then_n (KV.env [(0, _), (4, _), (5, _)] ⟨rfl, rfl, rfl, trivial⟩ (CV.region ?_)))
         refine RV.m rfl rfl ?_
         (first | refine RV.op (OV.step gno (Step.add rfl rfl (wI64 (by omega) (by omega))) rfl ?_) | refine RV.op (OV.step gno (Step.add rfl rfl rfl) rfl ?_))
         refine RV.a rfl rfl ?_
         refine RV.nil (KV.block_n (KV.block_n (KV.then_n (KV.env [(0, _), (4, _), (5, _)] ⟨rfl, rfl, rfl, trivial⟩ ?_))))
         refine KV.sel [0] [_] rfl ?_
         (first | exact KV.loop2 (x := i) (y := T) (i + 1) (T) ⟨by omega, by omega, hinv.2.2.sp hiL (by rw [hget]; exact sp_t (by omega))⟩ (by omega) ⟨rfl, rfl, rfl, trivial⟩ (fun _ h => h) | exact KV.loop2 (x := i) (y := T) (e) (⟨T.ts ++ [.nm ((s.take e).drop i)], A2, c2⟩) ⟨by omega, (by simp only [List.length_append, List.length_cons, List.length_nil]; omega), (hWs _ hwt).2⟩ (by omega) ⟨rfl, rfl, rfl, trivial⟩ (fun _ h => h) | exact KV.loop2 (x := i) (y := T) (e) (⟨T.ts ++ [.num x], A2, c2⟩) ⟨by omega, (by simp only [List.length_append, List.length_cons, List.length_nil]; omega), (hWs _ hwt).2⟩ (by omega) ⟨rfl, rfl, rfl, trivial⟩ (fun _ h => h) | exact KV.loop2 (x := i) (y := T) (i + 2) (⟨T.ts ++ [.sym 62], A2, c2⟩) ⟨by have := (arr_t hiL a1 (by omega) a3).1; rw [List.length_drop] at this; omega, (by simp only [List.length_append, List.length_cons, List.length_nil]; omega), hinv.2.2.arr (arr_t hiL a1 (by omega) a3)⟩ (by omega) ⟨rfl, rfl, rfl, trivial⟩ (fun _ h => h) | exact KV.loop2 (x := i) (y := T) (i + 1) (⟨T.ts ++ [.sym (s.getD i 0).toNat], A2, c2⟩) ⟨by omega, (by simp only [List.length_append, List.length_cons, List.length_nil]; omega), by have h7 := hinv.2.2.sym hiL (by rw [hget]; exact sp_f (by omega)) (by rw [hget]; exact sym_t (by omega)); rw [hget] at h7; exact h7⟩ (by omega) ⟨rfl, rfl, rfl, trivial⟩ (fun _ h => h))
        ·
         refine RV.s (Step.pick_t rfl rfl) rfl (RV.a rfl rfl ?_)
         refine RV.nil (KV.then_n (KV.env [(0, _), (4, _), (5, _), (6, _), (63, _)] ⟨rfl, rfl, rfl, rfl, rfl, trivial⟩ (CV.cond_f rfl (CV.seq (CV.region ?_)))))
         refine RV.m rfl rfl ?_
         refine RV.op (OV.split gno (Step.eql rfl rfl) rfl (fun s1 => ?_) (fun s1 => ?_))
         ·
          refine RV.m rfl rfl (RV.k rfl rfl (RV.k rfl rfl (RV.s (Step.pick_t rfl rfl) rfl (RV.m rfl rfl (RV.k rfl rfl (RV.k rfl rfl (RV.s (Step.pick_t rfl rfl) rfl ?_)))))))
          refine RV.m rfl rfl (RV.k rfl rfl (RV.k rfl rfl (RV.s (Step.pick_t rfl rfl) rfl (RV.a rfl rfl ?_))))
          refine RV.nil (KV.then_n (KV.env [(0, _), (4, _), (5, _), (6, _), (86, _)] ⟨rfl, rfl, rfl, rfl, rfl, trivial⟩ (CV.cond_t rfl (CV.seq (CV.region ?_)))))
          refine RV.m rfl rfl (RV.m rfl rfl (RV.s (Step.build rfl (Bd128_0 _)) rfl ?_))
          refine RV.op (OV.buildSlice (K := rtokK) ([MT.sym (s.getD i 0).toNat]) rfl (Bs83_1_0 _ _ _) rfl rfl (by omega) gno rfl (fun b21_3 => ?_))
          refine RV.op (OV.append 0 Tryz.underlying83 I128 rfl rfl rfl rfl rfl rfl (fun w h => h.os 1 rfl) (by simp only [List.length_cons, List.length_nil]; omega) (by simp only [List.length_cons, List.length_nil]; omega) gno rfl (fun A2 c2 => ?_))
          refine RV.a rfl rfl ?_
          refine RV.nil (KV.then_n (KV.env [(0, _), (4, _), (5, _)] ⟨rfl, rfl, rfl, trivial⟩ (CV.region ?_)))
          refine RV.m rfl rfl ?_
          (first | refine RV.op (OV.step gno (Step.add rfl rfl (wI64 (by omega) (by omega))) rfl ?_) | refine RV.op (OV.step gno (Step.add rfl rfl rfl) rfl ?_))
          refine RV.a rfl rfl ?_
          refine RV.nil (KV.block_n (KV.block_n (KV.then_n (KV.env [(0, _), (4, _), (5, _)] ⟨rfl, rfl, rfl, trivial⟩ ?_))))
          refine KV.sel [0] [_] rfl ?_
          (first | exact KV.loop2 (x := i) (y := T) (i + 1) (T) ⟨by omega, by omega, hinv.2.2.sp hiL (by rw [hget]; exact sp_t (by omega))⟩ (by omega) ⟨rfl, rfl, rfl, trivial⟩ (fun _ h => h) | exact KV.loop2 (x := i) (y := T) (e) (⟨T.ts ++ [.nm ((s.take e).drop i)], A2, c2⟩) ⟨by omega, (by simp only [List.length_append, List.length_cons, List.length_nil]; omega), (hWs _ hwt).2⟩ (by omega) ⟨rfl, rfl, rfl, trivial⟩ (fun _ h => h) | exact KV.loop2 (x := i) (y := T) (e) (⟨T.ts ++ [.num x], A2, c2⟩) ⟨by omega, (by simp only [List.length_append, List.length_cons, List.length_nil]; omega), (hWs _ hwt).2⟩ (by omega) ⟨rfl, rfl, rfl, trivial⟩ (fun _ h => h) | exact KV.loop2 (x := i) (y := T) (i + 2) (⟨T.ts ++ [.sym 62], A2, c2⟩) ⟨by have := (arr_t hiL a1 (by omega) a3).1; rw [List.length_drop] at this; omega, (by simp only [List.length_append, List.length_cons, List.length_nil]; omega), hinv.2.2.arr (arr_t hiL a1 (by omega) a3)⟩ (by omega) ⟨rfl, rfl, rfl, trivial⟩ (fun _ h => h) | exact KV.loop2 (x := i) (y := T) (i + 1) (⟨T.ts ++ [.sym (s.getD i 0).toNat], A2, c2⟩) ⟨by omega, (by simp only [List.length_append, List.length_cons, List.length_nil]; omega), by have h7 := hinv.2.2.sym hiL (by rw [hget]; exact sp_f (by omega)) (by rw [hget]; exact sym_t (by omega)); rw [hget] at h7; exact h7⟩ (by omega) ⟨rfl, rfl, rfl, trivial⟩ (fun _ h => h))
         ·
          refine RV.m rfl rfl (RV.gw rfl (Step.move rfl) rfl ?_)
          refine RV.op (OV.split (gyes rfl) (Step.eql rfl rfl) rfl (fun s2 => ?_) (fun s2 => ?_))
          ·
           refine RV.s (Step.pick_f rfl rfl) rfl (RV.m rfl rfl (RV.k rfl rfl (RV.k rfl rfl (RV.s (Step.pick_t rfl rfl) rfl (RV.m rfl rfl (RV.k rfl rfl (RV.k rfl rfl ?_)))))))
           refine RV.s (Step.pick_t rfl rfl) rfl (RV.a rfl rfl ?_)
           refine RV.nil (KV.then_n (KV.env [(0, _), (4, _), (5, _), (6, _), (86, _)] ⟨rfl, rfl, rfl, rfl, rfl, trivial⟩ (CV.cond_t rfl (CV.seq (CV.region ?_)))))
           refine RV.m rfl rfl (RV.m rfl rfl (RV.s (Step.build rfl (Bd128_0 _)) rfl ?_))
           refine RV.op (OV.buildSlice (K := rtokK) ([MT.sym (s.getD i 0).toNat]) rfl (Bs83_1_0 _ _ _) rfl rfl (by omega) gno rfl (fun b21_3 => ?_))
           refine RV.op (OV.append 0 Tryz.underlying83 I128 rfl rfl rfl rfl rfl rfl (fun w h => h.os 1 rfl) (by simp only [List.length_cons, List.length_nil]; omega) (by simp only [List.length_cons, List.length_nil]; omega) gno rfl (fun A2 c2 => ?_))
           refine RV.a rfl rfl ?_
           refine RV.nil (KV.then_n (KV.env [(0, _), (4, _), (5, _)] ⟨rfl, rfl, rfl, trivial⟩ (CV.region ?_)))
           refine RV.m rfl rfl ?_
           (first | refine RV.op (OV.step gno (Step.add rfl rfl (wI64 (by omega) (by omega))) rfl ?_) | refine RV.op (OV.step gno (Step.add rfl rfl rfl) rfl ?_))
           refine RV.a rfl rfl ?_
           refine RV.nil (KV.block_n (KV.block_n (KV.then_n (KV.env [(0, _), (4, _), (5, _)] ⟨rfl, rfl, rfl, trivial⟩ ?_))))
           refine KV.sel [0] [_] rfl ?_
           (first | exact KV.loop2 (x := i) (y := T) (i + 1) (T) ⟨by omega, by omega, hinv.2.2.sp hiL (by rw [hget]; exact sp_t (by omega))⟩ (by omega) ⟨rfl, rfl, rfl, trivial⟩ (fun _ h => h) | exact KV.loop2 (x := i) (y := T) (e) (⟨T.ts ++ [.nm ((s.take e).drop i)], A2, c2⟩) ⟨by omega, (by simp only [List.length_append, List.length_cons, List.length_nil]; omega), (hWs _ hwt).2⟩ (by omega) ⟨rfl, rfl, rfl, trivial⟩ (fun _ h => h) | exact KV.loop2 (x := i) (y := T) (e) (⟨T.ts ++ [.num x], A2, c2⟩) ⟨by omega, (by simp only [List.length_append, List.length_cons, List.length_nil]; omega), (hWs _ hwt).2⟩ (by omega) ⟨rfl, rfl, rfl, trivial⟩ (fun _ h => h) | exact KV.loop2 (x := i) (y := T) (i + 2) (⟨T.ts ++ [.sym 62], A2, c2⟩) ⟨by have := (arr_t hiL a1 (by omega) a3).1; rw [List.length_drop] at this; omega, (by simp only [List.length_append, List.length_cons, List.length_nil]; omega), hinv.2.2.arr (arr_t hiL a1 (by omega) a3)⟩ (by omega) ⟨rfl, rfl, rfl, trivial⟩ (fun _ h => h) | exact KV.loop2 (x := i) (y := T) (i + 1) (⟨T.ts ++ [.sym (s.getD i 0).toNat], A2, c2⟩) ⟨by omega, (by simp only [List.length_append, List.length_cons, List.length_nil]; omega), by have h7 := hinv.2.2.sym hiL (by rw [hget]; exact sp_f (by omega)) (by rw [hget]; exact sym_t (by omega)); rw [hget] at h7; exact h7⟩ (by omega) ⟨rfl, rfl, rfl, trivial⟩ (fun _ h => h))
          ·
           refine RV.s (Step.pick_f rfl rfl) rfl (RV.m rfl rfl (RV.gw rfl (Step.move rfl) rfl ?_))
           refine RV.op (OV.split (gyes rfl) (Step.eql rfl rfl) rfl (fun s3 => ?_) (fun s3 => ?_))
           ·
            refine RV.s (Step.pick_f rfl rfl) rfl (RV.m rfl rfl (RV.k rfl rfl (RV.k rfl rfl (RV.s (Step.pick_t rfl rfl) rfl (RV.a rfl rfl ?_)))))
            refine RV.nil (KV.then_n (KV.env [(0, _), (4, _), (5, _), (6, _), (86, _)] ⟨rfl, rfl, rfl, rfl, rfl, trivial⟩ (CV.cond_t rfl (CV.seq (CV.region ?_)))))
            refine RV.m rfl rfl (RV.m rfl rfl (RV.s (Step.build rfl (Bd128_0 _)) rfl ?_))
            refine RV.op (OV.buildSlice (K := rtokK) ([MT.sym (s.getD i 0).toNat]) rfl (Bs83_1_0 _ _ _) rfl rfl (by omega) gno rfl (fun b21_3 => ?_))
            refine RV.op (OV.append 0 Tryz.underlying83 I128 rfl rfl rfl rfl rfl rfl (fun w h => h.os 1 rfl) (by simp only [List.length_cons, List.length_nil]; omega) (by simp only [List.length_cons, List.length_nil]; omega) gno rfl (fun A2 c2 => ?_))
            refine RV.a rfl rfl ?_
            refine RV.nil (KV.then_n (KV.env [(0, _), (4, _), (5, _)] ⟨rfl, rfl, rfl, trivial⟩ (CV.region ?_)))
            refine RV.m rfl rfl ?_
            (first | refine RV.op (OV.step gno (Step.add rfl rfl (wI64 (by omega) (by omega))) rfl ?_) | refine RV.op (OV.step gno (Step.add rfl rfl rfl) rfl ?_))
            refine RV.a rfl rfl ?_
            refine RV.nil (KV.block_n (KV.block_n (KV.then_n (KV.env [(0, _), (4, _), (5, _)] ⟨rfl, rfl, rfl, trivial⟩ ?_))))
            refine KV.sel [0] [_] rfl ?_
            (first | exact KV.loop2 (x := i) (y := T) (i + 1) (T) ⟨by omega, by omega, hinv.2.2.sp hiL (by rw [hget]; exact sp_t (by omega))⟩ (by omega) ⟨rfl, rfl, rfl, trivial⟩ (fun _ h => h) | exact KV.loop2 (x := i) (y := T) (e) (⟨T.ts ++ [.nm ((s.take e).drop i)], A2, c2⟩) ⟨by omega, (by simp only [List.length_append, List.length_cons, List.length_nil]; omega), (hWs _ hwt).2⟩ (by omega) ⟨rfl, rfl, rfl, trivial⟩ (fun _ h => h) | exact KV.loop2 (x := i) (y := T) (e) (⟨T.ts ++ [.num x], A2, c2⟩) ⟨by omega, (by simp only [List.length_append, List.length_cons, List.length_nil]; omega), (hWs _ hwt).2⟩ (by omega) ⟨rfl, rfl, rfl, trivial⟩ (fun _ h => h) | exact KV.loop2 (x := i) (y := T) (i + 2) (⟨T.ts ++ [.sym 62], A2, c2⟩) ⟨by have := (arr_t hiL a1 (by omega) a3).1; rw [List.length_drop] at this; omega, (by simp only [List.length_append, List.length_cons, List.length_nil]; omega), hinv.2.2.arr (arr_t hiL a1 (by omega) a3)⟩ (by omega) ⟨rfl, rfl, rfl, trivial⟩ (fun _ h => h) | exact KV.loop2 (x := i) (y := T) (i + 1) (⟨T.ts ++ [.sym (s.getD i 0).toNat], A2, c2⟩) ⟨by omega, (by simp only [List.length_append, List.length_cons, List.length_nil]; omega), by have h7 := hinv.2.2.sym hiL (by rw [hget]; exact sp_f (by omega)) (by rw [hget]; exact sym_t (by omega)); rw [hget] at h7; exact h7⟩ (by omega) ⟨rfl, rfl, rfl, trivial⟩ (fun _ h => h))
           ·
            refine RV.s (Step.pick_f rfl rfl) rfl (RV.m rfl rfl (RV.gw rfl (Step.move rfl) rfl ?_))
            refine RV.op (OV.split (gyes rfl) (Step.eql rfl rfl) rfl (fun s4 => ?_) (fun s4 => ?_))
            ·
             refine RV.s (Step.pick_f rfl rfl) rfl (RV.a rfl rfl ?_)
             refine RV.nil (KV.then_n (KV.env [(0, _), (4, _), (5, _), (6, _), (86, _)] ⟨rfl, rfl, rfl, rfl, rfl, trivial⟩ (CV.cond_t rfl (CV.seq (CV.region ?_)))))
             refine RV.m rfl rfl (RV.m rfl rfl (RV.s (Step.build rfl (Bd128_0 _)) rfl ?_))
             refine RV.op (OV.buildSlice (K := rtokK) ([MT.sym (s.getD i 0).toNat]) rfl (Bs83_1_0 _ _ _) rfl rfl (by omega) gno rfl (fun b21_3 => ?_))
             refine RV.op (OV.append 0 Tryz.underlying83 I128 rfl rfl rfl rfl rfl rfl (fun w h => h.os 1 rfl) (by simp only [List.length_cons, List.length_nil]; omega) (by simp only [List.length_cons, List.length_nil]; omega) gno rfl (fun A2 c2 => ?_))
             refine RV.a rfl rfl ?_
             refine RV.nil (KV.then_n (KV.env [(0, _), (4, _), (5, _)] ⟨rfl, rfl, rfl, trivial⟩ (CV.region ?_)))
             refine RV.m rfl rfl ?_
             (first | refine RV.op (OV.step gno (Step.add rfl rfl (wI64 (by omega) (by omega))) rfl ?_) | refine RV.op (OV.step gno (Step.add rfl rfl rfl) rfl ?_))
             refine RV.a rfl rfl ?_
             refine RV.nil (KV.block_n (KV.block_n (KV.then_n (KV.env [(0, _), (4, _), (5, _)] ⟨rfl, rfl, rfl, trivial⟩ ?_))))
             refine KV.sel [0] [_] rfl ?_
             (first | exact KV.loop2 (x := i) (y := T) (i + 1) (T) ⟨by omega, by omega, hinv.2.2.sp hiL (by rw [hget]; exact sp_t (by omega))⟩ (by omega) ⟨rfl, rfl, rfl, trivial⟩ (fun _ h => h) | exact KV.loop2 (x := i) (y := T) (e) (⟨T.ts ++ [.nm ((s.take e).drop i)], A2, c2⟩) ⟨by omega, (by simp only [List.length_append, List.length_cons, List.length_nil]; omega), (hWs _ hwt).2⟩ (by omega) ⟨rfl, rfl, rfl, trivial⟩ (fun _ h => h) | exact KV.loop2 (x := i) (y := T) (e) (⟨T.ts ++ [.num x], A2, c2⟩) ⟨by omega, (by simp only [List.length_append, List.length_cons, List.length_nil]; omega), (hWs _ hwt).2⟩ (by omega) ⟨rfl, rfl, rfl, trivial⟩ (fun _ h => h) | exact KV.loop2 (x := i) (y := T) (i + 2) (⟨T.ts ++ [.sym 62], A2, c2⟩) ⟨by have := (arr_t hiL a1 (by omega) a3).1; rw [List.length_drop] at this; omega, (by simp only [List.length_append, List.length_cons, List.length_nil]; omega), hinv.2.2.arr (arr_t hiL a1 (by omega) a3)⟩ (by omega) ⟨rfl, rfl, rfl, trivial⟩ (fun _ h => h) | exact KV.loop2 (x := i) (y := T) (i + 1) (⟨T.ts ++ [.sym (s.getD i 0).toNat], A2, c2⟩) ⟨by omega, (by simp only [List.length_append, List.length_cons, List.length_nil]; omega), by have h7 := hinv.2.2.sym hiL (by rw [hget]; exact sp_f (by omega)) (by rw [hget]; exact sym_t (by omega)); rw [hget] at h7; exact h7⟩ (by omega) ⟨rfl, rfl, rfl, trivial⟩ (fun _ h => h))
            ·
             refine RV.s (Step.pick_f rfl rfl) rfl (RV.a rfl rfl ?_)
             refine RV.nil (KV.then_n (KV.env [(0, _), (4, _), (5, _), (6, _), (86, _)] ⟨rfl, rfl, rfl, rfl, rfl, trivial⟩ (CV.cond_f rfl (CV.seq (CV.region ?_)))))
             refine RV.a rfl rfl (RV.a rfl rfl ?_)
             refine RV.nil (KV.then_n (KV.env [(2, _), (3, _)] ⟨rfl, rfl, trivial⟩ (CV.ret (KV.block_ret (KV.block_ret ?_)))))
             refine KV.then_ret (KV.block_ret (KV.then_ret ?_))
             refine KV.sel [] [] rfl ?_
             exact KV.ret2 rfl rfl rfl _ (fun _ h => h) (.inr ⟨tk_bad hinv.2.2 hiL (sp_f (by omega)) (sym_f (by omega)) (arr_f hiL (by omega)) hwd, rfl, rfl⟩)
       ·
        refine RV.s (Step.pick_t rfl rfl) rfl (RV.m rfl rfl (RV.k rfl rfl (RV.k rfl rfl (RV.k rfl rfl (RV.k rfl rfl (RV.k rfl rfl (RV.s (Step.pick_f rfl rfl) rfl ?_)))))))
        refine RV.a rfl rfl ?_
        refine RV.nil (KV.then_n (KV.env [(0, _), (4, _), (5, _), (6, _), (63, _)] ⟨rfl, rfl, rfl, rfl, rfl, trivial⟩ (CV.cond_f rfl (CV.seq (CV.region ?_)))))
        refine RV.m rfl rfl ?_
        refine RV.op (OV.split gno (Step.eql rfl rfl) rfl (fun s1 => ?_) (fun s1 => ?_))
        ·
         refine RV.m rfl rfl (RV.k rfl rfl (RV.k rfl rfl (RV.s (Step.pick_t rfl rfl) rfl (RV.m rfl rfl (RV.k rfl rfl (RV.k rfl rfl (RV.s (Step.pick_t rfl rfl) rfl ?_)))))))
         refine RV.m rfl rfl (RV.k rfl rfl (RV.k rfl rfl (RV.s (Step.pick_t rfl rfl) rfl (RV.a rfl rfl ?_))))
         refine RV.nil (KV.then_n (KV.env [(0, _), (4, _), (5, _), (6, _), (86, _)] ⟨rfl, rfl, rfl, rfl, rfl, trivial⟩ (CV.cond_t rfl (CV.seq (CV.region ?_)))))
         refine RV.m rfl rfl (RV.m rfl rfl (RV.s (Step.build rfl (Bd128_0 _)) rfl ?_))
         refine RV.op (OV.buildSlice (K := rtokK) ([MT.sym (s.getD i 0).toNat]) rfl (Bs83_1_0 _ _ _) rfl rfl (by omega) gno rfl (fun b21_3 => ?_))
         refine RV.op (OV.append 0 Tryz.underlying83 I128 rfl rfl rfl rfl rfl rfl (fun w h => h.os 1 rfl) (by simp only [List.length_cons, List.length_nil]; omega) (by simp only [List.length_cons, List.length_nil]; omega) gno rfl (fun A2 c2 => ?_))
         refine RV.a rfl rfl ?_
         refine RV.nil (KV.then_n (KV.env [(0, _), (4, _), (5, _)] ⟨rfl, rfl, rfl, trivial⟩ (CV.region ?_)))
         refine RV.m rfl rfl ?_
         (first | refine RV.op (OV.step gno (Step.add rfl rfl (wI64 (by omega) (by omega))) rfl ?_) | refine RV.op (OV.step gno (Step.add rfl rfl rfl) rfl ?_))
         refine RV.a rfl rfl ?_
         refine RV.nil (KV.block_n (KV.block_n (KV.then_n (KV.env [(0, _), (4, _), (5, _)] ⟨rfl, rfl, rfl, trivial⟩ ?_))))
         refine KV.sel [0] [_] rfl ?_
         (first | exact KV.loop2 (x := i) (y := T) (i + 1) (T) ⟨by omega, by omega, hinv.2.2.sp hiL (by rw [hget]; exact sp_t (by omega))⟩ (by omega) ⟨rfl, rfl, rfl, trivial⟩ (fun _ h => h) | exact KV.loop2 (x := i) (y := T) (e) (⟨T.ts ++ [.nm ((s.take e).drop i)], A2, c2⟩) ⟨by omega, (by simp only [List.length_append, List.length_cons, List.length_nil]; omega), (hWs _ hwt).2⟩ (by omega) ⟨rfl, rfl, rfl, trivial⟩ (fun _ h => h) | exact KV.loop2 (x := i) (y := T) (e) (⟨T.ts ++ [.num x], A2, c2⟩) ⟨by omega, (by simp only [List.length_append, List.length_cons, List.length_nil]; omega), (hWs _ hwt).2⟩ (by omega) ⟨rfl, rfl, rfl, trivial⟩ (fun _ h => h) | exact KV.loop2 (x := i) (y := T) (i + 2) (⟨T.ts ++ [.sym 62], A2, c2⟩) ⟨by have := (arr_t hiL a1 (by omega) a3).1; rw [List.length_drop] at this; omega, (by simp only [List.length_append, List.length_cons, List.length_nil]; omega), hinv.2.2.arr (arr_t hiL a1 (by omega) a3)⟩ (by omega) ⟨rfl, rfl, rfl, trivial⟩ (fun _ h => h) | exact KV.loop2 (x := i) (y := T) (i + 1) (⟨T.ts ++ [.sym (s.getD i 0).toNat], A2, c2⟩) ⟨by omega, (by simp only [List.length_append, List.length_cons, List.length_nil]; omega), by have h7 := hinv.2.2.sym hiL (by rw [hget]; exact sp_f (by omega)) (by rw [hget]; exact sym_t (by omega)); rw [hget] at h7; exact h7⟩ (by omega) ⟨rfl, rfl, rfl, trivial⟩ (fun _ h => h))
        ·
         refine RV.m rfl rfl (RV.gw rfl (Step.move rfl) rfl ?_)
         refine RV.op (OV.split (gyes rfl) (Step.eql rfl rfl) rfl (fun s2 => ?_) (fun s2 => ?_))
         ·
          refine RV.s (Step.pick_f rfl rfl) rfl (RV.m rfl rfl (RV.k rfl rfl (RV.k rfl rfl (RV.s (Step.pick_t rfl rfl) rfl (RV.m rfl rfl (RV.k rfl rfl (RV.k rfl rfl ?_)))))))
          refine RV.s (Step.pick_t rfl rfl) rfl (RV.a rfl rfl ?_)
          refine RV.nil (KV.then_n (KV.env [(0, _), (4, _), (5, _), (6, _), (86, _)] ⟨rfl, rfl, rfl, rfl, rfl, trivial⟩ (CV.cond_t rfl (CV.seq (CV.region ?_)))))
          refine RV.m rfl rfl (RV.m rfl rfl (RV.s (Step.build rfl (Bd128_0 _)) rfl ?_))
          refine RV.op (OV.buildSlice (K := rtokK) ([MT.sym (s.getD i 0).toNat]) rfl (Bs83_1_0 _ _ _) rfl rfl (by omega) gno rfl (fun b21_3 => ?_))
          refine RV.op (OV.append 0 Tryz.underlying83 I128 rfl rfl rfl rfl rfl rfl (fun w h => h.os 1 rfl) (by simp only [List.length_cons, List.length_nil]; omega) (by simp only [List.length_cons, List.length_nil]; omega) gno rfl (fun A2 c2 => ?_))
          refine RV.a rfl rfl ?_
          refine RV.nil (KV.then_n (KV.env [(0, _), (4, _), (5, _)] ⟨rfl, rfl, rfl, trivial⟩ (CV.region ?_)))
          refine RV.m rfl rfl ?_
          (first | refine RV.op (OV.step gno (Step.add rfl rfl (wI64 (by omega) (by omega))) rfl ?_) | refine RV.op (OV.step gno (Step.add rfl rfl rfl) rfl ?_))
          refine RV.a rfl rfl ?_
          refine RV.nil (KV.block_n (KV.block_n (KV.then_n (KV.env [(0, _), (4, _), (5, _)] ⟨rfl, rfl, rfl, trivial⟩ ?_))))
          refine KV.sel [0] [_] rfl ?_
          (first | exact KV.loop2 (x := i) (y := T) (i + 1) (T) ⟨by omega, by omega, hinv.2.2.sp hiL (by rw [hget]; exact sp_t (by omega))⟩ (by omega) ⟨rfl, rfl, rfl, trivial⟩ (fun _ h => h) | exact KV.loop2 (x := i) (y := T) (e) (⟨T.ts ++ [.nm ((s.take e).drop i)], A2, c2⟩) ⟨by omega, (by simp only [List.length_append, List.length_cons, List.length_nil]; omega), (hWs _ hwt).2⟩ (by omega) ⟨rfl, rfl, rfl, trivial⟩ (fun _ h => h) | exact KV.loop2 (x := i) (y := T) (e) (⟨T.ts ++ [.num x], A2, c2⟩) ⟨by omega, (by simp only [List.length_append, List.length_cons, List.length_nil]; omega), (hWs _ hwt).2⟩ (by omega) ⟨rfl, rfl, rfl, trivial⟩ (fun _ h => h) | exact KV.loop2 (x := i) (y := T) (i + 2) (⟨T.ts ++ [.sym 62], A2, c2⟩) ⟨by have := (arr_t hiL a1 (by omega) a3).1; rw [List.length_drop] at this; omega, (by simp only [List.length_append, List.length_cons, List.length_nil]; omega), hinv.2.2.arr (arr_t hiL a1 (by omega) a3)⟩ (by omega) ⟨rfl, rfl, rfl, trivial⟩ (fun _ h => h) | exact KV.loop2 (x := i) (y := T) (i + 1) (⟨T.ts ++ [.sym (s.getD i 0).toNat], A2, c2⟩) ⟨by omega, (by simp only [List.length_append, List.length_cons, List.length_nil]; omega), by have h7 := hinv.2.2.sym hiL (by rw [hget]; exact sp_f (by omega)) (by rw [hget]; exact sym_t (by omega)); rw [hget] at h7; exact h7⟩ (by omega) ⟨rfl, rfl, rfl, trivial⟩ (fun _ h => h))
         ·
          refine RV.s (Step.pick_f rfl rfl) rfl (RV.m rfl rfl (RV.gw rfl (Step.move rfl) rfl ?_))
          refine RV.op (OV.split (gyes rfl) (Step.eql rfl rfl) rfl (fun s3 => ?_) (fun s3 => ?_))
          ·
           refine RV.s (Step.pick_f rfl rfl) rfl (RV.m rfl rfl (RV.k rfl rfl (RV.k rfl rfl (RV.s (Step.pick_t rfl rfl) rfl (RV.a rfl rfl ?_)))))
           refine RV.nil (KV.then_n (KV.env [(0, _), (4, _), (5, _), (6, _), (86, _)] ⟨rfl, rfl, rfl, rfl, rfl, trivial⟩ (CV.cond_t rfl (CV.seq (CV.region ?_)))))
           refine RV.m rfl rfl (RV.m rfl rfl (RV.s (Step.build rfl (Bd128_0 _)) rfl ?_))
           refine RV.op (OV.buildSlice (K := rtokK) ([MT.sym (s.getD i 0).toNat]) rfl (Bs83_1_0 _ _ _) rfl rfl (by omega) gno rfl (fun b21_3 => ?_))
           refine RV.op (OV.append 0 Tryz.underlying83 I128 rfl rfl rfl rfl rfl rfl (fun w h => h.os 1 rfl) (by simp only [List.length_cons, List.length_nil]; omega) (by simp only [List.length_cons, List.length_nil]; omega) gno rfl (fun A2 c2 => ?_))
           refine RV.a rfl rfl ?_
           refine RV.nil (KV.then_n (KV.env [(0, _), (4, _), (5, _)] ⟨rfl, rfl, rfl, trivial⟩ (CV.region ?_)))
           refine RV.m rfl rfl ?_
           (first | refine RV.op (OV.step gno (Step.add rfl rfl (wI64 (by omega) (by omega))) rfl ?_) | refine RV.op (OV.step gno (Step.add rfl rfl rfl) rfl ?_))
           refine RV.a rfl rfl ?_
           refine RV.nil (KV.block_n (KV.block_n (KV.then_n (KV.env [(0, _), (4, _), (5, _)] ⟨rfl, rfl, rfl, trivial⟩ ?_))))
           refine KV.sel [0] [_] rfl ?_
           (first | exact KV.loop2 (x := i) (y := T) (i + 1) (T) ⟨by omega, by omega, hinv.2.2.sp hiL (by rw [hget]; exact sp_t (by omega))⟩ (by omega) ⟨rfl, rfl, rfl, trivial⟩ (fun _ h => h) | exact KV.loop2 (x := i) (y := T) (e) (⟨T.ts ++ [.nm ((s.take e).drop i)], A2, c2⟩) ⟨by omega, (by simp only [List.length_append, List.length_cons, List.length_nil]; omega), (hWs _ hwt).2⟩ (by omega) ⟨rfl, rfl, rfl, trivial⟩ (fun _ h => h) | exact KV.loop2 (x := i) (y := T) (e) (⟨T.ts ++ [.num x], A2, c2⟩) ⟨by omega, (by simp only [List.length_append, List.length_cons, List.length_nil]; omega), (hWs _ hwt).2⟩ (by omega) ⟨rfl, rfl, rfl, trivial⟩ (fun _ h => h) | exact KV.loop2 (x := i) (y := T) (i + 2) (⟨T.ts ++ [.sym 62], A2, c2⟩) ⟨by have := (arr_t hiL a1 (by omega) a3).1; rw [List.length_drop] at this; omega, (by simp only [List.length_append, List.length_cons, List.length_nil]; omega), hinv.2.2.arr (arr_t hiL a1 (by omega) a3)⟩ (by omega) ⟨rfl, rfl, rfl, trivial⟩ (fun _ h => h) | exact KV.loop2 (x := i) (y := T) (i + 1) (⟨T.ts ++ [.sym (s.getD i 0).toNat], A2, c2⟩) ⟨by omega, (by simp only [List.length_append, List.length_cons, List.length_nil]; omega), by have h7 := hinv.2.2.sym hiL (by rw [hget]; exact sp_f (by omega)) (by rw [hget]; exact sym_t (by omega)); rw [hget] at h7; exact h7⟩ (by omega) ⟨rfl, rfl, rfl, trivial⟩ (fun _ h => h))
          ·
           refine RV.s (Step.pick_f rfl rfl) rfl (RV.m rfl rfl (RV.gw rfl (Step.move rfl) rfl ?_))
           refine RV.op (OV.split (gyes rfl) (Step.eql rfl rfl) rfl (fun s4 => ?_) (fun s4 => ?_))
           ·
            refine RV.s (Step.pick_f rfl rfl) rfl (RV.a rfl rfl ?_)
            refine RV.nil (KV.then_n (KV.env [(0, _), (4, _), (5, _), (6, _), (86, _)] ⟨rfl, rfl, rfl, rfl, rfl, trivial⟩ (CV.cond_t rfl (CV.seq (CV.region ?_)))))
            refine RV.m rfl rfl (RV.m rfl rfl (RV.s (Step.build rfl (Bd128_0 _)) rfl ?_))
            refine RV.op (OV.buildSlice (K := rtokK) ([MT.sym (s.getD i 0).toNat]) rfl (Bs83_1_0 _ _ _) rfl rfl (by omega) gno rfl (fun b21_3 => ?_))
            refine RV.op (OV.append 0 Tryz.underlying83 I128 rfl rfl rfl rfl rfl rfl (fun w h => h.os 1 rfl) (by simp only [List.length_cons, List.length_nil]; omega) (by simp only [List.length_cons, List.length_nil]; omega) gno rfl (fun A2 c2 => ?_))
            refine RV.a rfl rfl ?_
            refine RV.nil (KV.then_n (KV.env [(0, _), (4, _), (5, _)] ⟨rfl, rfl, rfl, trivial⟩ (CV.region ?_)))
            refine RV.m rfl rfl ?_
            (first | refine RV.op (OV.step gno (Step.add rfl rfl (wI64 (by omega) (by omega))) rfl ?_) | refine RV.op (OV.step gno (Step.add rfl rfl rfl) rfl ?_))
            refine RV.a rfl rfl ?_
            refine RV.nil (KV.block_n (KV.block_n (KV.then_n (KV.env [(0, _), (4, _), (5, _)] ⟨rfl, rfl, rfl, trivial⟩ ?_))))
            refine KV.sel [0] [_] rfl ?_
            (first | exact KV.loop2 (x := i) (y := T) (i + 1) (T) ⟨by omega, by omega, hinv.2.2.sp hiL (by rw [hget]; exact sp_t (by omega))⟩ (by omega) ⟨rfl, rfl, rfl, trivial⟩ (fun _ h => h) | exact KV.loop2 (x := i) (y := T) (e) (⟨T.ts ++ [.nm ((s.take e).drop i)], A2, c2⟩) ⟨by omega, (by simp only [List.length_append, List.length_cons, List.length_nil]; omega), (hWs _ hwt).2⟩ (by omega) ⟨rfl, rfl, rfl, trivial⟩ (fun _ h => h) | exact KV.loop2 (x := i) (y := T) (e) (⟨T.ts ++ [.num x], A2, c2⟩) ⟨by omega, (by simp only [List.length_append, List.length_cons, List.length_nil]; omega), (hWs _ hwt).2⟩ (by omega) ⟨rfl, rfl, rfl, trivial⟩ (fun _ h => h) | exact KV.loop2 (x := i) (y := T) (i + 2) (⟨T.ts ++ [.sym 62], A2, c2⟩) ⟨by have := (arr_t hiL a1 (by omega) a3).1; rw [List.length_drop] at this; omega, (by simp only [List.length_append, List.length_cons, List.length_nil]; omega), hinv.2.2.arr (arr_t hiL a1 (by omega) a3)⟩ (by omega) ⟨rfl, rfl, rfl, trivial⟩ (fun _ h => h) | exact KV.loop2 (x := i) (y := T) (i + 1) (⟨T.ts ++ [.sym (s.getD i 0).toNat], A2, c2⟩) ⟨by omega, (by simp only [List.length_append, List.length_cons, List.length_nil]; omega), by have h7 := hinv.2.2.sym hiL (by rw [hget]; exact sp_f (by omega)) (by rw [hget]; exact sym_t (by omega)); rw [hget] at h7; exact h7⟩ (by omega) ⟨rfl, rfl, rfl, trivial⟩ (fun _ h => h))
           ·
            refine RV.s (Step.pick_f rfl rfl) rfl (RV.a rfl rfl ?_)
            refine RV.nil (KV.then_n (KV.env [(0, _), (4, _), (5, _), (6, _), (86, _)] ⟨rfl, rfl, rfl, rfl, rfl, trivial⟩ (CV.cond_f rfl (CV.seq (CV.region ?_)))))
            refine RV.a rfl rfl (RV.a rfl rfl ?_)
            refine RV.nil (KV.then_n (KV.env [(2, _), (3, _)] ⟨rfl, rfl, trivial⟩ (CV.ret (KV.block_ret (KV.block_ret ?_)))))
            refine KV.then_ret (KV.block_ret (KV.then_ret ?_))
            refine KV.sel [] [] rfl ?_
            exact KV.ret2 rfl rfl rfl _ (fun _ h => h) (.inr ⟨tk_bad hinv.2.2 hiL (sp_f (by omega)) (sym_f (by omega)) (arr_f hiL (by omega)) hwd, rfl, rfl⟩)
      ·
       refine RV.m rfl rfl (RV.k rfl rfl (RV.k rfl rfl (RV.k rfl rfl (RV.k rfl rfl (RV.k rfl rfl (RV.s (Step.pick_f rfl rfl) rfl (RV.m rfl rfl ?_)))))))
       refine RV.k rfl rfl (RV.k rfl rfl (RV.k rfl rfl (RV.k rfl rfl (RV.k rfl rfl (RV.s (Step.pick_f rfl rfl) rfl (RV.a rfl rfl ?_))))))
       refine RV.nil (KV.then_n (KV.env [(0, _), (4, _), (5, _), (6, _), (63, _)] ⟨rfl, rfl, rfl, rfl, rfl, trivial⟩ (CV.cond_f rfl (CV.seq (CV.region ?_)))))
       refine RV.m rfl rfl ?_
       refine RV.op (OV.split gno (Step.eql rfl rfl) rfl (fun s1 => ?_) (fun s1 => ?_))
       ·
        refine RV.m rfl rfl (RV.k rfl rfl (RV.k rfl rfl (RV.s (Step.pick_t rfl rfl) rfl (RV.m rfl rfl (RV.k rfl rfl (RV.k rfl rfl (RV.s (Step.pick_t rfl rfl) rfl ?_)))))))
        refine RV.m rfl rfl (RV.k rfl rfl (RV.k rfl rfl (RV.s (Step.pick_t rfl rfl) rfl (RV.a rfl rfl ?_))))
        refine RV.nil (KV.then_n (KV.env [(0, _), (4, _), (5, _), (6, _), (86, _)] ⟨rfl, rfl, rfl, rfl, rfl, trivial⟩ (CV.cond_t rfl (CV.seq (CV.region ?_)))))
        refine RV.m rfl rfl (RV.m rfl rfl (RV.s (Step.build rfl (Bd128_0 _)) rfl ?_))
        refine RV.op (OV.buildSlice (K := rtokK) ([MT.sym (s.getD i 0).toNat]) rfl (Bs83_1_0 _ _ _) rfl rfl (by omega) gno rfl (fun b21_3 => ?_))
        refine RV.op (OV.append 0 Tryz.underlying83 I128 rfl rfl rfl rfl rfl rfl (fun w h => h.os 1 rfl) (by simp only [List.length_cons, List.length_nil]; omega) (by simp only [List.length_cons, List.length_nil]; omega) gno rfl (fun A2 c2 => ?_))
        refine RV.a rfl rfl ?_
        refine RV.nil (KV.then_n (KV.env [(0, _), (4, _), (5, _)] ⟨rfl, rfl, rfl, trivial⟩ (CV.region ?_)))
        refine RV.m rfl rfl ?_
        (first | refine RV.op (OV.step gno (Step.add rfl rfl (wI64 (by omega) (by omega))) rfl ?_) | refine RV.op (OV.step gno (Step.add rfl rfl rfl) rfl ?_))
        refine RV.a rfl rfl ?_
        refine RV.nil (KV.block_n (KV.block_n (KV.then_n (KV.env [(0, _), (4, _), (5, _)] ⟨rfl, rfl, rfl, trivial⟩ ?_))))
        refine KV.sel [0] [_] rfl ?_
        (first | exact KV.loop2 (x := i) (y := T) (i + 1) (T) ⟨by omega, by omega, hinv.2.2.sp hiL (by rw [hget]; exact sp_t (by omega))⟩ (by omega) ⟨rfl, rfl, rfl, trivial⟩ (fun _ h => h) | exact KV.loop2 (x := i) (y := T) (e) (⟨T.ts ++ [.nm ((s.take e).drop i)], A2, c2⟩) ⟨by omega, (by simp only [List.length_append, List.length_cons, List.length_nil]; omega), (hWs _ hwt).2⟩ (by omega) ⟨rfl, rfl, rfl, trivial⟩ (fun _ h => h) | exact KV.loop2 (x := i) (y := T) (e) (⟨T.ts ++ [.num x], A2, c2⟩) ⟨by omega, (by simp only [List.length_append, List.length_cons, List.length_nil]; omega), (hWs _ hwt).2⟩ (by omega) ⟨rfl, rfl, rfl, trivial⟩ (fun _ h => h) | exact KV.loop2 (x := i) (y := T) (i + 2) (⟨T.ts ++ [.sym 62], A2, c2⟩) ⟨by have := (arr_t hiL a1 (by omega) a3).1; rw [List.length_drop] at this; omega, (by simp only [List.length_append, List.length_cons, List.length_nil]; omega), hinv.2.2.arr (arr_t hiL a1 (by omega) a3)⟩ (by omega) ⟨rfl, rfl, rfl, trivial⟩ (fun _ h => h) | exact KV.loop2 (x := i) (y := T) (i + 1) (⟨T.ts ++ [.sym (s.getD i 0).toNat], A2, c2⟩) ⟨by omega, (by simp only [List.length_append, List.length_cons, List.length_nil]; omega), by have h7 := hinv.2.2.sym hiL (by rw [hget]; exact sp_f (by omega)) (by rw [hget]; exact sym_t (by omega)); rw [hget] at h7; exact h7⟩ (by omega) ⟨rfl, rfl, rfl, trivial⟩ (fun _ h => h))
       ·
        refine RV.m rfl rfl (RV.gw rfl (Step.move rfl) rfl ?_)
        refine RV.op (OV.split (gyes rfl) (Step.eql rfl rfl) rfl (fun s2 => ?_) (fun s2 => ?_))
        ·
         refine RV.s (Step.pick_f rfl rfl) rfl (RV.m rfl rfl (RV.k rfl rfl (RV.k rfl rfl (RV.s (Step.pick_t rfl rfl) rfl (RV.m rfl rfl (RV.k rfl rfl (RV.k rfl rfl ?_)))))))
         refine RV.s (Step.pick_t rfl rfl) rfl (RV.a rfl rfl ?_)
         refine RV.nil (KV.then_n (KV.env [(0, _), (4, _), (5, _), (6, _), (86, _)] ⟨rfl, rfl, rfl, rfl, rfl, trivial⟩ (CV.cond_t rfl (CV.seq (CV.region ?_)))))
         refine RV.m rfl rfl (RV.m rfl rfl (RV.s (Step.build rfl (Bd128_0 _)) rfl ?_))
         refine RV.op (OV.buildSlice (K := rtokK) ([MT.sym (s.getD i 0).toNat]) rfl (Bs83_1_0 _ _ _) rfl rfl (by omega) gno rfl (fun b21_3 => ?_))
         refine RV.op (OV.append 0 Tryz.underlying83 I128 rfl rfl rfl rfl rfl rfl (fun w h => h.os 1 rfl) (by simp only [List.length_cons, List.length_nil]; omega) (by simp only [List.length_cons, List.length_nil]; omega) gno rfl (fun A2 c2 => ?_))
         refine RV.a rfl rfl ?_
         refine RV.nil (KV.then_n (KV.env [(0, _), (4, _), (5, _)] ⟨rfl, rfl, rfl, trivial⟩ (CV.region ?_)))
         refine RV.m rfl rfl ?_
         (first | refine RV.op (OV.step gno (Step.add rfl rfl (wI64 (by omega) (by omega))) rfl ?_) | refine RV.op (OV.step gno (Step.add rfl rfl rfl) rfl ?_))
         refine RV.a rfl rfl ?_
         refine RV.nil (KV.block_n (KV.block_n (KV.then_n (KV.env [(0, _), (4, _), (5, _)] ⟨rfl, rfl, rfl, trivial⟩ ?_))))
         refine KV.sel [0] [_] rfl ?_
         (first | exact KV.loop2 (x := i) (y := T) (i + 1) (T) ⟨by omega, by omega, hinv.2.2.sp hiL (by rw [hget]; exact sp_t (by omega))⟩ (by omega) ⟨rfl, rfl, rfl, trivial⟩ (fun _ h => h) | exact KV.loop2 (x := i) (y := T) (e) (⟨T.ts ++ [.nm ((s.take e).drop i)], A2, c2⟩) ⟨by omega, (by simp only [List.length_append, List.length_cons, List.length_nil]; omega), (hWs _ hwt).2⟩ (by omega) ⟨rfl, rfl, rfl, trivial⟩ (fun _ h => h) | exact KV.loop2 (x := i) (y := T) (e) (⟨T.ts ++ [.num x], A2, c2⟩) ⟨by omega, (by simp only [List.length_append, List.length_cons, List.length_nil]; omega), (hWs _ hwt).2⟩ (by omega) ⟨rfl, rfl, rfl, trivial⟩ (fun _ h => h) | exact KV.loop2 (x := i) (y := T) (i + 2) (⟨T.ts ++ [.sym 62], A2, c2⟩) ⟨by have := (arr_t hiL a1 (by omega) a3).1; rw [List.length_drop] at this; omega, (by simp only [List.length_append, List.length_cons, List.length_nil]; omega), hinv.2.2.arr (arr_t hiL a1 (by omega) a3)⟩ (by omega) ⟨rfl, rfl, rfl, trivial⟩ (fun _ h => h) | exact KV.loop2 (x := i) (y := T) (i + 1) (⟨T.ts ++ [.sym (s.getD i 0).toNat], A2, c2⟩) ⟨by omega, (by simp only [List.length_append, List.length_cons, List.length_nil]; omega), by have h7 := hinv.2.2.sym hiL (by rw [hget]; exact sp_f (by omega)) (by rw [hget]; exact sym_t (by omega)); rw [hget] at h7; exact h7⟩ (by omega) ⟨rfl, rfl, rfl, trivial⟩ (fun _ h => h))
        ·
         refine RV.s (Step.pick_f rfl rfl) rfl (RV.m rfl rfl (RV.gw rfl (Step.move rfl) rfl ?_))
         refine RV.op (OV.split (gyes rfl) (Step.eql rfl rfl) rfl (fun s3 => ?_) (fun s3 => ?_))
         ·
          refine RV.s (Step.pick_f rfl rfl) rfl (RV.m rfl rfl (RV.k rfl rfl (RV.k rfl rfl (RV.s (Step.pick_t rfl rfl) rfl (RV.a rfl rfl ?_)))))
          refine RV.nil (KV.then_n (KV.env [(0, _), (4, _), (5, _), (6, _), (86, _)] ⟨rfl, rfl, rfl, rfl, rfl, trivial⟩ (CV.cond_t rfl (CV.seq (CV.region ?_)))))
          refine RV.m rfl rfl (RV.m rfl rfl (RV.s (Step.build rfl (Bd128_0 _)) rfl ?_))
          refine RV.op (OV.buildSlice (K := rtokK) ([MT.sym (s.getD i 0).toNat]) rfl (Bs83_1_0 _ _ _) rfl rfl (by omega) gno rfl (fun b21_3 => ?_))
          refine RV.op (OV.append 0 Tryz.underlying83 I128 rfl rfl rfl rfl rfl rfl (fun w h => h.os 1 rfl) (by simp only [List.length_cons, List.length_nil]; omega) (by simp only [List.length_cons, List.length_nil]; omega) gno rfl (fun A2 c2 => ?_))
          refine RV.a rfl rfl ?_
          refine RV.nil (KV.then_n (KV.env [(0, _), (4, _), (5, _)] ⟨rfl, rfl, rfl, trivial⟩ (CV.region ?_)))
          refine RV.m rfl rfl ?_
          (first | refine RV.op (OV.step gno (Step.add rfl rfl (wI64 (by omega) (by omega))) rfl ?_) | refine RV.op (OV.step gno (Step.add rfl rfl rfl) rfl ?_))
          refine RV.a rfl rfl ?_
          refine RV.nil (KV.block_n (KV.block_n (KV.then_n (KV.env [(0, _), (4, _), (5, _)] ⟨rfl, rfl, rfl, trivial⟩ ?_))))
          refine KV.sel [0] [_] rfl ?_
          (first | exact KV.loop2 (x := i) (y := T) (i + 1) (T) ⟨by omega, by omega, hinv.2.2.sp hiL (by rw [hget]; exact sp_t (by omega))⟩ (by omega) ⟨rfl, rfl, rfl, trivial⟩ (fun _ h => h) | exact KV.loop2 (x := i) (y := T) (e) (⟨T.ts ++ [.nm ((s.take e).drop i)], A2, c2⟩) ⟨by omega, (by simp only [List.length_append, List.length_cons, List.length_nil]; omega), (hWs _ hwt).2⟩ (by omega) ⟨rfl, rfl, rfl, trivial⟩ (fun _ h => h) | exact KV.loop2 (x := i) (y := T) (e) (⟨T.ts ++ [.num x], A2, c2⟩) ⟨by omega, (by simp only [List.length_append, List.length_cons, List.length_nil]; omega), (hWs _ hwt).2⟩ (by omega) ⟨rfl, rfl, rfl, trivial⟩ (fun _ h => h) | exact KV.loop2 (x := i) (y := T) (i + 2) (⟨T.ts ++ [.sym 62], A2, c2⟩) ⟨by have := (arr_t hiL a1 (by omega) a3).1; rw [List.length_drop] at this; omega, (by simp only [List.length_append, List.length_cons, List.length_nil]; omega), hinv.2.2.arr (arr_t hiL a1 (by omega) a3)⟩ (by omega) ⟨rfl, rfl, rfl, trivial⟩ (fun _ h => h) | exact KV.loop2 (x := i) (y := T) (i + 1) (⟨T.ts ++ [.sym (s.getD i 0).toNat], A2, c2⟩) ⟨by omega, (by simp only [List.length_append, List.length_cons, List.length_nil]; omega), by have h7 := hinv.2.2.sym hiL (by rw [hget]; exact sp_f (by omega)) (by rw [hget]; exact sym_t (by omega)); rw [hget] at h7; exact h7⟩ (by omega) ⟨rfl, rfl, rfl, trivial⟩ (fun _ h => h))
         ·
          refine RV.s (Step.pick_f rfl rfl) rfl (RV.m rfl rfl (RV.gw rfl (Step.move rfl) rfl ?_))
          refine RV.op (OV.split (gyes rfl) (Step.eql rfl rfl) rfl (fun s4 => ?_) (fun s4 => ?_))
          ·
           refine RV.s (Step.pick_f rfl rfl) rfl (RV.a rfl rfl ?_)
           refine RV.nil (KV.then_n (KV.env [(0, _), (4, _), (5, _), (6, _), (86, _)] ⟨rfl, rfl, rfl, rfl, rfl, trivial⟩ (CV.cond_t rfl (CV.seq (CV.region ?_)))))
           refine RV.m rfl rfl (RV.m rfl rfl (RV.s (Step.build rfl (Bd128_0 _)) rfl ?_))
           refine RV.op (OV.buildSlice (K := rtokK) ([MT.sym (s.getD i 0).toNat]) rfl (Bs83_1_0 _ _ _) rfl rfl (by omega) gno rfl (fun b21_3 => ?_))
           refine RV.op (OV.append 0 Tryz.underlying83 I128 rfl rfl rfl rfl rfl rfl (fun w h => h.os 1 rfl) (by simp only [List.length_cons, List.length_nil]; omega) (by simp only [List.length_cons, List.length_nil]; omega) gno rfl (fun A2 c2 => ?_))
           refine RV.a rfl rfl ?_
           refine RV.nil (KV.then_n (KV.env [(0, _), (4, _), (5, _)] ⟨rfl, rfl, rfl, trivial⟩ (CV.region ?_)))
           refine RV.m rfl rfl ?_
           (first | refine RV.op (OV.step gno (Step.add rfl rfl (wI64 (by omega) (by omega))) rfl ?_) | refine RV.op (OV.step gno (Step.add rfl rfl rfl) rfl ?_))
           refine RV.a rfl rfl ?_
           refine RV.nil (KV.block_n (KV.block_n (KV.then_n (KV.env [(0, _), (4, _), (5, _)] ⟨rfl, rfl, rfl, trivial⟩ ?_))))
           refine KV.sel [0] [_] rfl ?_
           (first | exact KV.loop2 (x := i) (y := T) (i + 1) (T) ⟨by omega, by omega, hinv.2.2.sp hiL (by rw [hget]; exact sp_t (by omega))⟩ (by omega) ⟨rfl, rfl, rfl, trivial⟩ (fun _ h => h) | exact KV.loop2 (x := i) (y := T) (e) (⟨T.ts ++ [.nm ((s.take e).drop i)], A2, c2⟩) ⟨by omega, (by simp only [List.length_append, List.length_cons, List.length_nil]; omega), (hWs _ hwt).2⟩ (by omega) ⟨rfl, rfl, rfl, trivial⟩ (fun _ h => h) | exact KV.loop2 (x := i) (y := T) (e) (⟨T.ts ++ [.num x], A2, c2⟩) ⟨by omega, (by simp only [List.length_append, List.length_cons, List.length_nil]; omega), (hWs _ hwt).2⟩ (by omega) ⟨rfl, rfl, rfl, trivial⟩ (fun _ h => h) | exact KV.loop2 (x := i) (y := T) (i + 2) (⟨T.ts ++ [.sym 62], A2, c2⟩) ⟨by have := (arr_t hiL a1 (by omega) a3).1; rw [List.length_drop] at this; omega, (by simp only [List.length_append, List.length_cons, List.length_nil]; omega), hinv.2.2.arr (arr_t hiL a1 (by omega) a3)⟩ (by omega) ⟨rfl, rfl, rfl, trivial⟩ (fun _ h => h) | exact KV.loop2 (x := i) (y := T) (i + 1) (⟨T.ts ++ [.sym (s.getD i 0).toNat], A2, c2⟩) ⟨by omega, (by simp only [List.length_append, List.length_cons, List.length_nil]; omega), by have h7 := hinv.2.2.sym hiL (by rw [hget]; exact sp_f (by omega)) (by rw [hget]; exact sym_t (by omega)); rw [hget] at h7; exact h7⟩ (by omega) ⟨rfl, rfl, rfl, trivial⟩ (fun _ h => h))
          ·
           refine RV.s (Step.pick_f rfl rfl) rfl (RV.a rfl rfl ?_)
           refine RV.nil (KV.then_n (KV.env [(0, _), (4, _), (5, _), (6, _), (86, _)] ⟨rfl, rfl, rfl, rfl, rfl, trivial⟩ (CV.cond_f rfl (CV.seq (CV.region ?_)))))
           refine RV.a rfl rfl (RV.a rfl rfl ?_)
           refine RV.nil (KV.then_n (KV.env [(2, _), (3, _)] ⟨rfl, rfl, trivial⟩ (CV.ret (KV.block_ret (KV.block_ret ?_)))))
           refine KV.then_ret (KV.block_ret (KV.then_ret ?_))
           refine KV.sel [] [] rfl ?_
           exact KV.ret2 rfl rfl rfl _ (fun _ h => h) (.inr ⟨tk_bad hinv.2.2 hiL (sp_f (by omega)) (sym_f (by omega)) (arr_f hiL (by omega)) hwd, rfl, rfl⟩)
  ·
   refine RV.s (Step.pick_t rfl rfl) rfl ?_
   refine RV.nil (KV.then_n (KV.env [(0, _), (4, _), (5, _), (19, _)] ⟨rfl, rfl, rfl, rfl, trivial⟩ (CV.cond_f rfl (CV.exit (KV.then_exit ?_)))))
   refine KV.then_exit (KV.block_hit (KV.then_n (KV.env [(4, _)] ⟨rfl, trivial⟩ (CV.seq (CV.region ?_)))))
   refine RV.m rfl rfl (RV.a rfl rfl (RV.a rfl rfl ?_))
   refine RV.nil (KV.then_n (KV.env [(2, _), (3, _)] ⟨rfl, rfl, trivial⟩ (CV.ret ?_)))
   obtain rfl : i = (cutH s).length := by first | exact cut_end1 hinv.1 (by omega) | exact cut_end2 hinv.1 (Decidable.not_not.1 h2)
   exact KV.ret2 rfl rfl rfl _ (fun _ h => h) (.inl ⟨T.ts, T.A, T.c, hinv.2.2.fin, by omega, rfl, rfl⟩)
 ·
  refine RV.m rfl rfl (RV.k rfl rfl (RV.k rfl rfl (RV.k rfl rfl (RV.k rfl rfl (RV.s (Step.pick_f rfl rfl) rfl ?_)))))
  refine RV.nil (KV.then_n (KV.env [(0, _), (4, _), (5, _), (19, _)] ⟨rfl, rfl, rfl, rfl, trivial⟩ (CV.cond_f rfl (CV.exit (KV.then_exit ?_)))))
  refine KV.then_exit (KV.block_hit (KV.then_n (KV.env [(4, _)] ⟨rfl, trivial⟩ (CV.seq (CV.region ?_)))))
  refine RV.m rfl rfl (RV.a rfl rfl (RV.a rfl rfl ?_))
  refine RV.nil (KV.then_n (KV.env [(2, _), (3, _)] ⟨rfl, rfl, trivial⟩ (CV.ret ?_)))
  obtain rfl : i = (cutH s).length := by first | exact cut_end1 hinv.1 (by omega) | exact cut_end2 hinv.1 (Decidable.not_not.1 h2)
  exact KV.ret2 rfl rfl rfl _ (fun _ h => h) (.inl ⟨T.ts, T.A, T.c, hinv.2.2.fin, by omega, rfl, rfl⟩)
end Go.Proofs.YtplmfekhdaefaaaGreatDoor
