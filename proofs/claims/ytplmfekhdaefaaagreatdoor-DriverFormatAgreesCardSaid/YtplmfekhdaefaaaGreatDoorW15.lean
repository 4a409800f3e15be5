/-
 Walks, part 15.
-/
import Derived.Test.YtplmfekhdaefaaaGreatDoorTabA
import Derived.Test.YtplmfekhdaefaaaGreatDoorW14
set_option linter.unusedSimpArgs false
set_option linter.unusedVariables false
namespace Go.Proofs.YtplmfekhdaefaaaGreatDoor
open Go.Sv Go.Drv
theorem ext_getD {α : Type} (d : α) {l m : List α} (h : l.length = m.length) (h2 : ∀ i, i < l.length → l.getD i d = m.getD i d) : l = m := by
 apply List.ext_getElem h
 intro i h3 h4
 have := h2 i h3
 simpa [List.getD, List.getElem?_eq_getElem h3, List.getElem?_eq_getElem h4] using this
theorem ro_eq {a b : Ro} : a = b ↔ (a.wr = b.wr ∧ a.reg = b.reg ∧ a.val = b.val) := by
 cases a; cases b; simp

set_option maxRecDepth 100000 in
set_option maxHeartbeats 2000000 in
theorem eqRo_fn {A B : Option Addr} {c1 c2 : Nat} {l m : List Ro} {w : World} (hs1 : RS w roK A l) (hs2 : RS w roK B m) (hl : l.length ≤ 1000000) (hm : m.length ≤ 1000000) : Fx Tryz.prog 37 [.slice A l.length c1, .slice B m.length c2] w [] no (fun v L => v = .bool (decide (l = m)) ∧ L = []) := by
 refine Sv.Fx.body Tryz.func37 rfl T37 rfl ?_
 intro I hro hI
 refine KV.env [(0, _), (1, _)] ⟨rfl, rfl, trivial⟩ (CV.seq (CV.region ?_))
 refine RV.a rfl rfl ?_
 refine RV.nil (KV.then_n (KV.env [(0, _), (1, _)] ⟨rfl, rfl, trivial⟩ (CV.seq (CV.seq (CV.region ?_)))))
 refine RV.m rfl rfl (RV.s (Step.lenSl Tryz.underlying46 rfl) rfl (RV.m rfl rfl (RV.s (Step.lenSl Tryz.underlying46 rfl) rfl ?_)))
 refine RV.op (OV.split gno (Step.neq rfl rfl) rfl (fun hlen => ?_) (fun hlen => ?_))
 ·
  refine RV.nil (KV.then_n (KV.env [(0, _), (1, _), (10, _)] ⟨rfl, rfl, rfl, trivial⟩ (CV.cond_t rfl (CV.seq (CV.region ?_)))))
  refine RV.a rfl rfl ?_
  refine RV.nil (KV.then_n (KV.env [(4, _)] ⟨rfl, trivial⟩ (CV.ret (KV.then_ret ?_))))
  refine KV.sel [] [] rfl ?_
  exact KV.ret1 rfl rfl _ (fun _ h => h) ⟨by rw [decide_eq_false (fun e => hlen (by rw [e]))], rfl⟩
 ·
  refine RV.nil (KV.then_n (KV.env [(0, _), (1, _), (10, _)] ⟨rfl, rfl, rfl, trivial⟩ (CV.cond_f rfl (CV.skip (KV.then_n ?_)))))
  refine KV.env [(0, _), (1, _)] ⟨rfl, rfl, trivial⟩ (CV.seq (CV.seq (CV.region ?_)))
  refine RV.a rfl rfl ?_
  refine RV.nil (KV.then_n (KV.env [(0, _), (1, _), (5, _)] ⟨rfl, rfl, rfl, trivial⟩ (CV.block ?_)))
  refine KV.sel [] [] rfl ?_
  refine CV.loopI (fun (j : Nat) => j ≤ l.length ∧ ∀ i, i < j → l.getD i roK.d = m.getD i roK.d) (fun (j : Nat) => l.length - j) (fun (j : Nat) => [(0, .slice A l.length c1), (1, .slice B m.length c2), (5, .int .i64 j)]) (fun (j : Nat) => Hp I w []) (0) ⟨Nat.zero_le _, fun i hi => by omega⟩ ⟨rfl, rfl, rfl, trivial⟩ (fun _ h => h) ?_
  intro j hinv
  refine CV.seq (CV.seq (CV.region ?_))
  refine RV.m rfl rfl (RV.m rfl rfl (RV.s (Step.lenSl Tryz.underlying46 rfl) rfl ?_))
  refine RV.op (OV.split gno (Step.lss rfl rfl) rfl (fun hj => ?_) (fun hj => ?_))
  ·
   refine RV.nil (KV.then_n (KV.env [(0, _), (1, _), (5, _), (14, _)] ⟨rfl, rfl, rfl, rfl, trivial⟩ (CV.cond_t rfl (CV.skip (KV.then_n ?_)))))
   refine KV.env [(0, _), (1, _), (5, _)] ⟨rfl, rfl, rfl, trivial⟩ (CV.seq (CV.block (CV.seq ?_)))
   refine CV.still (by kernel_rfl) (by kernel_rfl) (fun _ h => h.drew) ?_
   refine SV.step gno (Step.move rfl) rfl ?_
   refine SV.step gno (Step.move rfl) rfl ?_
   refine SV.step gno (Step.idx Tryz.underlying46 I59 (fun w h => (h.rs hs1 fun _ => hI _)) rfl rfl (rfl) _ rfl (by omega)) rfl ?_
   refine SV.step gno (Step.loadN _ Tryz.underlying59 rfl I59 rfl rfl (fun w h => (h.rs hs1 fun _ => hI _).cells (by omega))) rfl ?_
   refine SV.step gno (Step.move rfl) rfl ?_
   refine SV.step gno (Step.move rfl) rfl ?_
   refine SV.step gno (Step.idx Tryz.underlying46 I59 (fun w h => (h.rs hs2 fun _ => hI _)) rfl rfl (rfl) _ rfl (by omega)) rfl ?_
   refine SV.step gno (Step.loadN _ Tryz.underlying59 rfl I59 rfl rfl (fun w h => (h.rs hs2 fun _ => hI _).cells (by omega))) rfl ?_
   refine SV.split gno (Step.binR rfl rfl (EG59neq _ _ _ _) (EQ59neq _ _ _ _ _ _)) rfl (fun hne => ?_) (fun hne => ?_)
   ·
    refine SV.nil (KV.then_n (KV.env [(0, _), (1, _), (5, _), (25, _)] ⟨rfl, rfl, rfl, rfl, trivial⟩ (CV.cond_t rfl (CV.seq (CV.region ?_)))))
    refine RV.a rfl rfl ?_
    refine RV.nil (KV.then_n (KV.env [(4, _)] ⟨rfl, trivial⟩ (CV.ret (KV.block_ret (KV.then_ret ?_)))))
    refine KV.then_ret (KV.block_ret (KV.then_ret ?_))
    refine KV.sel [] [] rfl ?_
    exact KV.ret1 rfl rfl _ (fun _ h => h) ⟨by rw [decide_eq_false (fun e => hne (by rw [e]; exact ⟨rfl, rfl, rfl⟩))], rfl⟩
   ·
    refine SV.nil (KV.then_n (KV.env [(0, _), (1, _), (5, _), (25, _)] ⟨rfl, rfl, rfl, rfl, trivial⟩ (CV.cond_f rfl (CV.skip (KV.block_n ?_)))))
    refine KV.then_n (KV.env [(0, _), (1, _), (5, _)] ⟨rfl, rfl, rfl, trivial⟩ (CV.region ?_))
    refine RV.m rfl rfl ?_
    (first | refine RV.op (OV.step gno (Step.add rfl rfl (wI64 (by omega) (by omega))) rfl ?_) | refine RV.op (OV.step gno (Step.add rfl rfl rfl) rfl ?_))
    refine RV.a rfl rfl ?_
    refine RV.nil (KV.then_n (KV.env [(0, _), (1, _), (5, _)] ⟨rfl, rfl, rfl, trivial⟩ ?_))
    refine KV.sel [] [] rfl ?_
    exact KV.loopI (z := j) (j + 1) ⟨by omega, fun i hi => by by_cases e : i = j; (subst e; exact ro_eq.2 (Decidable.not_not.1 hne)); exact hinv.2 i (by omega)⟩ (by omega) ⟨rfl, rfl, rfl, trivial⟩ (fun _ h => h)
  ·
   refine RV.nil (KV.then_n (KV.env [(0, _), (1, _), (5, _), (14, _)] ⟨rfl, rfl, rfl, rfl, trivial⟩ (CV.cond_f rfl (CV.exit (KV.then_exit ?_)))))
   refine KV.then_exit (KV.block_hit (KV.then_n (KV.env [] trivial (CV.seq (CV.region ?_)))))
   refine RV.a rfl rfl ?_
   refine RV.nil (KV.then_n (KV.env [(4, _)] ⟨rfl, trivial⟩ (CV.ret ?_)))
   refine KV.sel [] [] rfl ?_
   exact KV.ret1 rfl rfl _ (fun _ h => h) ⟨by rw [decide_eq_true (ext_getD roK.d (by omega) (fun i hi => hinv.2 i (by omega)))], rfl⟩

set_option maxRecDepth 100000 in
set_option maxHeartbeats 2000000 in
theorem eqStr_fn {A B : Option Addr} {c1 c2 : Nat} {l m : List Bs} {w : World} (hs1 : RS w strK A l) (hs2 : RS w strK B m) (hl : l.length ≤ 1000000) (hm : m.length ≤ 1000000) : Fx Tryz.prog 34 [.slice A l.length c1, .slice B m.length c2] w [] no (fun v L => v = .bool (decide (l = m)) ∧ L = []) := by
 refine Sv.Fx.body Tryz.func34 rfl T34 rfl ?_
 intro I hro hI
 refine KV.env [(0, _), (1, _)] ⟨rfl, rfl, trivial⟩ (CV.seq (CV.region ?_))
 refine RV.a rfl rfl ?_
 refine RV.nil (KV.then_n (KV.env [(0, _), (1, _)] ⟨rfl, rfl, trivial⟩ (CV.seq (CV.seq (CV.region ?_)))))
 refine RV.m rfl rfl (RV.s (Step.lenSl Tryz.underlying22 rfl) rfl (RV.m rfl rfl (RV.s (Step.lenSl Tryz.underlying22 rfl) rfl ?_)))
 refine RV.op (OV.split gno (Step.neq rfl rfl) rfl (fun hlen => ?_) (fun hlen => ?_))
 ·
  refine RV.nil (KV.then_n (KV.env [(0, _), (1, _), (10, _)] ⟨rfl, rfl, rfl, trivial⟩ (CV.cond_t rfl (CV.seq (CV.region ?_)))))
  refine RV.a rfl rfl ?_
  refine RV.nil (KV.then_n (KV.env [(4, _)] ⟨rfl, trivial⟩ (CV.ret (KV.then_ret ?_))))
  refine KV.sel [] [] rfl ?_
  exact KV.ret1 rfl rfl _ (fun _ h => h) ⟨by rw [decide_eq_false (fun e => hlen (by rw [e]))], rfl⟩
 ·
  refine RV.nil (KV.then_n (KV.env [(0, _), (1, _), (10, _)] ⟨rfl, rfl, rfl, trivial⟩ (CV.cond_f rfl (CV.skip (KV.then_n ?_)))))
  refine KV.env [(0, _), (1, _)] ⟨rfl, rfl, trivial⟩ (CV.seq (CV.seq (CV.region ?_)))
  refine RV.a rfl rfl ?_
  refine RV.nil (KV.then_n (KV.env [(0, _), (1, _), (5, _)] ⟨rfl, rfl, rfl, trivial⟩ (CV.block ?_)))
  refine KV.sel [] [] rfl ?_
  refine CV.loopI (fun (j : Nat) => j ≤ l.length ∧ ∀ i, i < j → l.getD i strK.d = m.getD i strK.d) (fun (j : Nat) => l.length - j) (fun (j : Nat) => [(0, .slice A l.length c1), (1, .slice B m.length c2), (5, .int .i64 j)]) (fun (j : Nat) => Hp I w []) (0) ⟨Nat.zero_le _, fun i hi => by omega⟩ ⟨rfl, rfl, rfl, trivial⟩ (fun _ h => h) ?_
  intro j hinv
  refine CV.seq (CV.seq (CV.region ?_))
  refine RV.m rfl rfl (RV.m rfl rfl (RV.s (Step.lenSl Tryz.underlying22 rfl) rfl ?_))
  refine RV.op (OV.split gno (Step.lss rfl rfl) rfl (fun hj => ?_) (fun hj => ?_))
  ·
   refine RV.nil (KV.then_n (KV.env [(0, _), (1, _), (5, _), (14, _)] ⟨rfl, rfl, rfl, rfl, trivial⟩ (CV.cond_t rfl (CV.skip (KV.then_n ?_)))))
   refine KV.env [(0, _), (1, _), (5, _)] ⟨rfl, rfl, rfl, trivial⟩ (CV.seq (CV.block (CV.seq ?_)))
   refine CV.still (by kernel_rfl) (by kernel_rfl) (fun _ h => h.drew) ?_
   refine SV.step gno (Step.move rfl) rfl ?_
   refine SV.step gno (Step.move rfl) rfl ?_
   refine SV.step gno (Step.idx Tryz.underlying22 I9 (fun w h => (h.rs hs1 fun _ => hI _)) rfl rfl (rfl) _ rfl (by omega)) rfl ?_
   refine SV.step gno (Step.load Tryz.underlying9 rfl rfl (fun w h => (h.rs hs1 fun _ => hI _).cell0 (by omega) rfl)) rfl ?_
   refine SV.step gno (Step.move rfl) rfl ?_
   refine SV.step gno (Step.move rfl) rfl ?_
   refine SV.step gno (Step.idx Tryz.underlying22 I9 (fun w h => (h.rs hs2 fun _ => hI _)) rfl rfl (rfl) _ rfl (by omega)) rfl ?_
   refine SV.step gno (Step.load Tryz.underlying9 rfl rfl (fun w h => (h.rs hs2 fun _ => hI _).cell0 (by omega) rfl)) rfl ?_
   refine SV.split gno (Step.neqStr rfl rfl) rfl (fun hne => ?_) (fun hne => ?_)
   ·
    refine SV.nil (KV.then_n (KV.env [(0, _), (1, _), (5, _), (25, _)] ⟨rfl, rfl, rfl, rfl, trivial⟩ (CV.cond_t rfl (CV.seq (CV.region ?_)))))
    refine RV.a rfl rfl ?_
    refine RV.nil (KV.then_n (KV.env [(4, _)] ⟨rfl, trivial⟩ (CV.ret (KV.block_ret (KV.then_ret ?_)))))
    refine KV.then_ret (KV.block_ret (KV.then_ret ?_))
    refine KV.sel [] [] rfl ?_
    exact KV.ret1 rfl rfl _ (fun _ h => h) ⟨by rw [decide_eq_false (fun e => hne (by rw [e]))], rfl⟩
   ·
    refine SV.nil (KV.then_n (KV.env [(0, _), (1, _), (5, _), (25, _)] ⟨rfl, rfl, rfl, rfl, trivial⟩ (CV.cond_f rfl (CV.skip (KV.block_n ?_)))))
    refine KV.then_n (KV.env [(0, _), (1, _), (5, _)] ⟨rfl, rfl, rfl, trivial⟩ (CV.region ?_))
    refine RV.m rfl rfl ?_
    (first | refine RV.op (OV.step gno (Step.add rfl rfl (wI64 (by omega) (by omega))) rfl ?_) | refine RV.op (OV.step gno (Step.add rfl rfl rfl) rfl ?_))
    refine RV.a rfl rfl ?_
    refine RV.nil (KV.then_n (KV.env [(0, _), (1, _), (5, _)] ⟨rfl, rfl, rfl, trivial⟩ ?_))
    refine KV.sel [] [] rfl ?_
    exact KV.loopI (z := j) (j + 1) ⟨by omega, fun i hi => by by_cases e : i = j; (subst e; exact Decidable.not_not.1 hne); exact hinv.2 i (by omega)⟩ (by omega) ⟨rfl, rfl, rfl, trivial⟩ (fun _ h => h)
  ·
   refine RV.nil (KV.then_n (KV.env [(0, _), (1, _), (5, _), (14, _)] ⟨rfl, rfl, rfl, rfl, trivial⟩ (CV.cond_f rfl (CV.exit (KV.then_exit ?_)))))
   refine KV.then_exit (KV.block_hit (KV.then_n (KV.env [] trivial (CV.seq (CV.region ?_)))))
   refine RV.a rfl rfl ?_
   refine RV.nil (KV.then_n (KV.env [(4, _)] ⟨rfl, trivial⟩ (CV.ret ?_)))
   refine KV.sel [] [] rfl ?_
   exact KV.ret1 rfl rfl _ (fun _ h => h) ⟨by rw [decide_eq_true (ext_getD strK.d (by omega) (fun i hi => hinv.2 i (by omega)))], rfl⟩

set_option maxRecDepth 100000 in
set_option maxHeartbeats 1000000 in
theorem same_fn {A B : Option Addr} {c1 c2 : Nat} {l m : List Ro} {a b : Bool} {w : World} (hs1 : RS w roK A l) (hs2 : RS w roK B m) (hl : l.length ≤ 1000000) (hm : m.length ≤ 1000000) : Fx Tryz.prog 21 [.agg #[.slice A l.length c1, .bool a], .agg #[.slice B m.length c2, .bool b]] w [] no (fun v L => v = .bool (decide (l = m ∧ a = b)) ∧ L = []) := by
 refine Sv.Fx.body Tryz.func21 rfl T21 rfl ?_
 intro I hro hI
 refine KV.env [(0, _), (1, _)] ⟨rfl, rfl, trivial⟩ (CV.seq (CV.region ?_))
 refine RV.op (OV.box (t := 53) #[_, _] rfl rfl gno rfl (fun x => ?_))
 refine RV.op (OV.box (t := 53) #[_, _] rfl rfl gno rfl (fun y => ?_))
 refine RV.a rfl rfl ?_
 refine RV.nil (KV.then_n (KV.env [(2, _), (3, _)] ⟨rfl, rfl, trivial⟩ (CV.seq (CV.region ?_))))
 refine RV.s (Step.fieldAddr rfl (F53_0 _ _)) rfl (RV.s (Step.load Tryz.underlying46 rfl rfl (fun w h => h.cell 0 rfl rfl)) rfl (RV.s (Step.fieldAddr rfl (F53_0 _ _)) rfl (RV.s (Step.load Tryz.underlying46 rfl rfl (fun w h => h.cell 1 rfl rfl)) rfl ?_)))
 refine RV.op (OV.call [] (F := [_, _]) Tryz.func37 B37 N37 rfl rfl (fun w h => eqRo_fn (h.rs hs1 fun _ => hI _) (h.rs hs2 fun _ => hI _) hl hm) (fun _ hb => hb.elim) gno rfl (fun v L' hp => ?_))
 obtain ⟨rfl, rfl⟩ := hp
 simp only [List.append_nil]
 by_cases hlm : l = m
 ·
  rw [decide_eq_true hlm]
  refine RV.m rfl rfl (RV.gw rfl (Step.fieldAddr rfl (F53_1 _ _)) rfl (RV.gw rfl (Step.load Tryz.underlying4 rfl rfl (fun w h => h.cell 0 rfl rfl)) rfl (RV.gw rfl (Step.fieldAddr rfl (F53_1 _ _)) rfl (RV.gw rfl (Step.load Tryz.underlying4 rfl rfl (fun w h => h.cell 1 rfl rfl)) rfl ?_))))
  refine RV.op (OV.split (gyes rfl) (Step.eqlBool Tryz.underlying4 rfl rfl) rfl (fun hab => ?_) (fun hab => ?_))
  ·
   refine RV.s (Step.pick_t rfl rfl) rfl (RV.a rfl rfl ?_)
   refine RV.nil (KV.then_n (KV.env [(4, _)] ⟨rfl, trivial⟩ (CV.ret ?_)))
   refine KV.sel [] [] rfl ?_
   refine KV.ret1 rfl rfl _ (fun _ h => h) ⟨congrArg Value.bool ?_, rfl⟩
   first | exact (decide_eq_true ⟨hlm, hab⟩).symm | exact (decide_eq_false (show ¬ (l = m ∧ a = b) from fun k => hab k.2)).symm | exact (decide_eq_false (show ¬ (l = m ∧ a = b) from fun k => hlm k.1)).symm
  ·
   refine RV.s (Step.pick_t rfl rfl) rfl (RV.a rfl rfl ?_)
   refine RV.nil (KV.then_n (KV.env [(4, _)] ⟨rfl, trivial⟩ (CV.ret ?_)))
   refine KV.sel [] [] rfl ?_
   refine KV.ret1 rfl rfl _ (fun _ h => h) ⟨congrArg Value.bool ?_, rfl⟩
   first | exact (decide_eq_true ⟨hlm, hab⟩).symm | exact (decide_eq_false (show ¬ (l = m ∧ a = b) from fun k => hab k.2)).symm | exact (decide_eq_false (show ¬ (l = m ∧ a = b) from fun k => hlm k.1)).symm
 ·
  rw [decide_eq_false hlm]
  refine RV.m rfl rfl (RV.k rfl rfl (RV.k rfl rfl (RV.k rfl rfl (RV.k rfl rfl (RV.k rfl rfl (RV.s (Step.pick_f rfl rfl) rfl (RV.a rfl rfl ?_)))))))
  refine RV.nil (KV.then_n (KV.env [(4, _)] ⟨rfl, trivial⟩ (CV.ret ?_)))
  refine KV.sel [] [] rfl ?_
  refine KV.ret1 rfl rfl _ (fun _ h => h) ⟨congrArg Value.bool ?_, rfl⟩
  first | exact (decide_eq_true ⟨hlm, hab⟩).symm | exact (decide_eq_false (show ¬ (l = m ∧ a = b) from fun k => hab k.2)).symm | exact (decide_eq_false (show ¬ (l = m ∧ a = b) from fun k => hlm k.1)).symm
end Go.Proofs.YtplmfekhdaefaaaGreatDoor
