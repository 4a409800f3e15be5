/-
 Walks, part 3.
-/
import Derived.Test.YtdfkpdcpegcieaaGreatDoorTabA
import Derived.Test.YtdfkpdcpegcieaaGreatDoorW2
import Derived.Test.YtdfkpdcpegcieaaGreatDoorObA
set_option linter.unusedSimpArgs false
set_option linter.unusedVariables false
namespace Go.Proofs.YtdfkpdcpegcieaaGreatDoor
open Go.Sv Go.Perf Go.Ctl
set_option maxRecDepth 100000 in
set_option maxHeartbeats 1000000 in
theorem checkTrips_fn {A : Option Addr} {n c : Nat} {tr : List Trp} {w : World} (hr : RS w trK A tr) (hn : n = tr.length) (hl : tr.length ≤ 1000000) : Fx Tryz.prog 122 [.slice A n c] w [] no (fun v L => v = .int .i64 (chkT tr) ∧ L = []) := by
 subst hn
 refine Sv.Fx.body Tryz.func122 rfl T122 rfl ?_
 intro I hro hI
 refine KV.e1 0 (CV.seq (CV.region ?_))
 refine RV.a rfl rfl ?_
 refine RV.nil (KV.then_n (KV.e1 0 (CV.seq (CV.seq (CV.region ?_)))))
 refine RV.m rfl rfl (RV.s (Step.lenSl Tryz.underlying43 rfl) rfl ?_)
 refine RV.op (OV.split gno (Step.gtr rfl rfl) rfl (fun cc1 => ?_) (fun cc1 => ?_))
 ·
  refine RV.nil (KV.then_n (KV.e2 0 7 (CV.cond_t rfl (CV.seq (CV.region ?_)))))
  refine RV.a rfl rfl ?_
  refine RV.nil (KV.then_n (KV.e1 2 (CV.ret (KV.then_ret ?_))))
  refine KV.sel [] [] rfl ?_
  exact KV.ret1 rfl rfl _ (fun _ h => h) ⟨by rw [chkT_long (by omega)], rfl⟩
 ·
  refine RV.nil (KV.then_n (KV.e2 0 7 (CV.cond_f rfl (CV.skip (KV.then_n ?_)))))
  refine KV.e1 0 (CV.seq (CV.seq (CV.region ?_)))
  refine RV.m rfl rfl (RV.s (Step.lenSl Tryz.underlying43 rfl) rfl (RV.m rfl rfl ?_))
  refine RV.nil (KV.then_n (KV.e3 8 9 10 (CV.block ?_)))
  refine KV.sel [] [] rfl ?_
  refine CV.loopI (fun (j : Nat) => j ≤ tr.length ∧ ∀ i, i < j → ¬ badT (tr.getD i trK.d)) (fun (j : Nat) => tr.length - j) (fun (j : Nat) => [(8, .slice A tr.length c), (9, .int .i64 tr.length), (10, .int .i64 j)]) (fun (j : Nat) => Hp I w []) (0) ⟨Nat.zero_le _, fun _ h => by omega⟩ ⟨rfl, rfl, rfl, trivial⟩ (fun _ h => h) ?_
  intro j hinv
  refine CV.seq (CV.region ?_)
  refine RV.op (OV.split gno (Step.lss rfl rfl) rfl (fun cc2 => ?_) (fun cc2 => ?_))
  ·
   refine RV.nil (KV.then_n (KV.e4 8 9 10 11 (CV.seq (CV.cond_t rfl (CV.skip ?_)))))
   refine KV.then_n (KV.e3 8 9 10 (CV.seq (CV.block (CV.seq (CV.region ?_)))))
   refine RV.s (Step.idx Tryz.underlying43 I190 (fun w h => h.rs hr (fun _ => hI _)) rfl rfl (rfl) _ rfl (by omega)) rfl ?_
   refine RV.s (Step.loadN _ Tryz.underlying190 rfl I190 rfl rfl (fun w h => (h.rs hr (fun _ => hI _)).cells (by omega))) rfl ?_
   refine RV.op (OV.alloc #[.int .i64 0, .int .i64 0, .int .i64 0] I190 rfl gno rfl (fun b5_2 => ?_))
   refine RV.op (OV.store 0 [_, _, _] #[_, _, _] I190 rfl rfl rfl rfl rfl (Nat.le_of_ble_eq_true rfl) (by simp [Value.oneCell']) rfl gno ?_)
   refine RV.nil (KV.then_n (KV.e4 4 8 9 10 (CV.seq (CV.seq (CV.region ?_)))))
   refine RV.s (Step.fieldAddr rfl (F190_0 _ _)) rfl ?_
   (first | refine RV.op (OV.step gno (Step.load Tryz.underlying3 rfl rfl (fun w h => h.cell 0 rfl rfl)) rfl ?_) | refine RV.op (OV.step gno (Step.load Tryz.underlying3 rfl rfl (fun w h => (h.rs hr (fun _ => hI _)).cell (by omega) rfl)) rfl ?_) | refine RV.op (OV.step gno (Step.load Tryz.underlying3 rfl rfl (fun w h => (h.rs hr (fun _ => hI _)).cell0 (by omega) rfl)) rfl ?_))
   refine RV.op (OV.split gno (Step.neq rfl rfl) rfl (fun cc3 => ?_) (fun cc3 => ?_))
   ·
    refine RV.m rfl rfl (RV.gw rfl (Step.fieldAddr rfl (F190_0 _ _)) rfl ?_)
    (first | refine RV.op (OV.step (gyes rfl) (Step.load Tryz.underlying3 rfl rfl (fun w h => h.cell 0 rfl rfl)) rfl ?_) | refine RV.op (OV.step (gyes rfl) (Step.load Tryz.underlying3 rfl rfl (fun w h => (h.rs hr (fun _ => hI _)).cell (by omega) rfl)) rfl ?_) | refine RV.op (OV.step (gyes rfl) (Step.load Tryz.underlying3 rfl rfl (fun w h => (h.rs hr (fun _ => hI _)).cell0 (by omega) rfl)) rfl ?_))
    refine RV.op (OV.split (gyes rfl) (Step.neq rfl rfl) rfl (fun cc4 => ?_) (fun cc4 => ?_))
    ·
     refine RV.s (Step.pick_t rfl rfl) rfl (RV.m rfl rfl (RV.gw rfl (Step.fieldAddr rfl (F190_0 _ _)) rfl ?_))
     (first | refine RV.op (OV.step (gyes rfl) (Step.load Tryz.underlying3 rfl rfl (fun w h => h.cell 0 rfl rfl)) rfl ?_) | refine RV.op (OV.step (gyes rfl) (Step.load Tryz.underlying3 rfl rfl (fun w h => (h.rs hr (fun _ => hI _)).cell (by omega) rfl)) rfl ?_) | refine RV.op (OV.step (gyes rfl) (Step.load Tryz.underlying3 rfl rfl (fun w h => (h.rs hr (fun _ => hI _)).cell0 (by omega) rfl)) rfl ?_))
     refine RV.op (OV.split (gyes rfl) (Step.neq rfl rfl) rfl (fun cc5 => ?_) (fun cc5 => ?_))
     ·
      refine RV.s (Step.pick_t rfl rfl) rfl ?_
      refine RV.nil (KV.then_n (KV.e5 4 8 9 10 26 (CV.cond_t rfl (CV.seq (CV.region ?_)))))
      refine RV.a rfl rfl ?_
      refine RV.nil (KV.then_n (KV.e1 2 (CV.ret (KV.then_ret (KV.block_ret ?_)))))
      refine KV.then_ret (KV.then_ret (KV.block_ret (KV.then_ret ?_)))
      refine KV.sel [] [] rfl ?_
      exact KV.ret1 rfl rfl _ (fun _ h => h) ⟨by rw [chkT_at (i := j) (by omega) (by unfold badT; omega)], rfl⟩
     ·
      refine RV.s (Step.pick_t rfl rfl) rfl ?_
      refine RV.nil (KV.then_n (KV.e5 4 8 9 10 26 (CV.cond_f rfl (CV.skip (KV.then_n ?_)))))
      refine KV.e4 4 8 9 10 (CV.seq (CV.seq (CV.region ?_)))
      refine RV.s (Step.fieldAddr rfl (F190_1 _ _)) rfl ?_
      (first | refine RV.op (OV.step gno (Step.load Tryz.underlying2 rfl rfl (fun w h => h.cell 0 rfl rfl)) rfl ?_) | refine RV.op (OV.step gno (Step.load Tryz.underlying2 rfl rfl (fun w h => (h.rs hr (fun _ => hI _)).cell (by omega) rfl)) rfl ?_) | refine RV.op (OV.step gno (Step.load Tryz.underlying2 rfl rfl (fun w h => (h.rs hr (fun _ => hI _)).cell0 (by omega) rfl)) rfl ?_))
      refine RV.op (OV.split gno (Step.lss rfl rfl) rfl (fun cc6 => ?_) (fun cc6 => ?_))
      ·
       refine RV.m rfl rfl (RV.k rfl rfl (RV.k rfl rfl (RV.k rfl rfl (RV.s (Step.pick_t rfl rfl) rfl ?_))))
       refine RV.nil (KV.then_n (KV.e5 4 8 9 10 34 (CV.cond_t rfl (CV.seq (CV.region ?_)))))
       refine RV.a rfl rfl ?_
       refine RV.nil (KV.then_n (KV.e1 2 (CV.ret (KV.then_ret (KV.block_ret ?_)))))
       refine KV.then_ret (KV.then_ret (KV.block_ret (KV.then_ret ?_)))
       refine KV.sel [] [] rfl ?_
       exact KV.ret1 rfl rfl _ (fun _ h => h) ⟨by rw [chkT_at (i := j) (by omega) (by unfold badT; omega)], rfl⟩
      ·
       refine RV.m rfl rfl (RV.gw rfl (Step.fieldAddr rfl (F190_1 _ _)) rfl ?_)
       (first | refine RV.op (OV.step (gyes rfl) (Step.load Tryz.underlying2 rfl rfl (fun w h => h.cell 0 rfl rfl)) rfl ?_) | refine RV.op (OV.step (gyes rfl) (Step.load Tryz.underlying2 rfl rfl (fun w h => (h.rs hr (fun _ => hI _)).cell (by omega) rfl)) rfl ?_) | refine RV.op (OV.step (gyes rfl) (Step.load Tryz.underlying2 rfl rfl (fun w h => (h.rs hr (fun _ => hI _)).cell0 (by omega) rfl)) rfl ?_))
       refine RV.op (OV.split (gyes rfl) (Step.gtr rfl rfl) rfl (fun cc7 => ?_) (fun cc7 => ?_))
       ·
        refine RV.s (Step.pick_f rfl rfl) rfl ?_
        refine RV.nil (KV.then_n (KV.e5 4 8 9 10 34 (CV.cond_t rfl (CV.seq (CV.region ?_)))))
        refine RV.a rfl rfl ?_
        refine RV.nil (KV.then_n (KV.e1 2 (CV.ret (KV.then_ret (KV.block_ret ?_)))))
        refine KV.then_ret (KV.then_ret (KV.block_ret (KV.then_ret ?_)))
        refine KV.sel [] [] rfl ?_
        exact KV.ret1 rfl rfl _ (fun _ h => h) ⟨by rw [chkT_at (i := j) (by omega) (by unfold badT; omega)], rfl⟩
       ·
        refine RV.s (Step.pick_f rfl rfl) rfl ?_
        refine RV.nil (KV.then_n (KV.e5 4 8 9 10 34 (CV.cond_f rfl (CV.skip (KV.then_n ?_)))))
        refine KV.e4 4 8 9 10 (CV.seq (CV.region ?_))
        refine RV.s (Step.fieldAddr rfl (F190_2 _ _)) rfl ?_
        (first | refine RV.op (OV.step gno (Step.load Tryz.underlying2 rfl rfl (fun w h => h.cell 0 rfl rfl)) rfl ?_) | refine RV.op (OV.step gno (Step.load Tryz.underlying2 rfl rfl (fun w h => (h.rs hr (fun _ => hI _)).cell (by omega) rfl)) rfl ?_) | refine RV.op (OV.step gno (Step.load Tryz.underlying2 rfl rfl (fun w h => (h.rs hr (fun _ => hI _)).cell0 (by omega) rfl)) rfl ?_))
        refine RV.op (OV.split gno (Step.lss rfl rfl) rfl (fun cc8 => ?_) (fun cc8 => ?_))
        ·
         refine RV.m rfl rfl (RV.k rfl rfl (RV.k rfl rfl (RV.k rfl rfl (RV.s (Step.pick_t rfl rfl) rfl ?_))))
         refine RV.nil (KV.then_n (KV.e4 8 9 10 42 (CV.cond_t rfl (CV.seq (CV.region ?_)))))
         refine RV.a rfl rfl ?_
         refine RV.nil (KV.then_n (KV.e1 2 (CV.ret (KV.block_ret (KV.then_ret ?_)))))
         refine KV.then_ret (KV.block_ret (KV.then_ret ?_))
         refine KV.sel [] [] rfl ?_
         exact KV.ret1 rfl rfl _ (fun _ h => h) ⟨by rw [chkT_at (i := j) (by omega) (by unfold badT; omega)], rfl⟩
        ·
         refine RV.m rfl rfl (RV.gw rfl (Step.fieldAddr rfl (F190_2 _ _)) rfl ?_)
         (first | refine RV.op (OV.step (gyes rfl) (Step.load Tryz.underlying2 rfl rfl (fun w h => h.cell 0 rfl rfl)) rfl ?_) | refine RV.op (OV.step (gyes rfl) (Step.load Tryz.underlying2 rfl rfl (fun w h => (h.rs hr (fun _ => hI _)).cell (by omega) rfl)) rfl ?_) | refine RV.op (OV.step (gyes rfl) (Step.load Tryz.underlying2 rfl rfl (fun w h => (h.rs hr (fun _ => hI _)).cell0 (by omega) rfl)) rfl ?_))
         refine RV.op (OV.split (gyes rfl) (Step.gtr rfl rfl) rfl (fun cc9 => ?_) (fun cc9 => ?_))
         ·
          refine RV.s (Step.pick_f rfl rfl) rfl ?_
          refine RV.nil (KV.then_n (KV.e4 8 9 10 42 (CV.cond_t rfl (CV.seq (CV.region ?_)))))
          refine RV.a rfl rfl ?_
          refine RV.nil (KV.then_n (KV.e1 2 (CV.ret (KV.block_ret (KV.then_ret ?_)))))
          refine KV.then_ret (KV.block_ret (KV.then_ret ?_))
          refine KV.sel [] [] rfl ?_
          exact KV.ret1 rfl rfl _ (fun _ h => h) ⟨by rw [chkT_at (i := j) (by omega) (by unfold badT; omega)], rfl⟩
         ·
          refine RV.s (Step.pick_f rfl rfl) rfl ?_
          refine RV.nil (KV.then_n (KV.e4 8 9 10 42 (CV.cond_f rfl (CV.skip (KV.block_n ?_)))))
          refine KV.then_n (KV.e3 8 9 10 (CV.region ?_))
          (first | refine RV.op (OV.step gno (Step.add rfl rfl (wI64 (by omega) (by omega))) rfl ?_) | refine RV.op (OV.step gno (Step.add rfl rfl rfl) rfl ?_))
          refine RV.m rfl rfl ?_
          refine RV.nil (KV.then_n (KV.e3 8 9 10 ?_))
          refine KV.sel [] [] rfl ?_
          have hnb : ¬ badT (tr.getD j trK.d) := by unfold badT; omega
          exact KV.loopI (z := j) (j + 1) ⟨by omega, fun i hi => by by_cases e : i = j; (subst e; exact hnb); exact hinv.2 i (by omega)⟩ (by omega) ⟨rfl, rfl, rfl, trivial⟩ (fun _ h => h)
    ·
     refine RV.s (Step.pick_t rfl rfl) rfl (RV.m rfl rfl (RV.k rfl rfl (RV.k rfl rfl (RV.k rfl rfl (RV.s (Step.pick_f rfl rfl) rfl ?_)))))
     refine RV.nil (KV.then_n (KV.e5 4 8 9 10 26 (CV.cond_f rfl (CV.skip (KV.then_n ?_)))))
     refine KV.e4 4 8 9 10 (CV.seq (CV.seq (CV.region ?_)))
     refine RV.s (Step.fieldAddr rfl (F190_1 _ _)) rfl ?_
     (first | refine RV.op (OV.step gno (Step.load Tryz.underlying2 rfl rfl (fun w h => h.cell 0 rfl rfl)) rfl ?_) | refine RV.op (OV.step gno (Step.load Tryz.underlying2 rfl rfl (fun w h => (h.rs hr (fun _ => hI _)).cell (by omega) rfl)) rfl ?_) | refine RV.op (OV.step gno (Step.load Tryz.underlying2 rfl rfl (fun w h => (h.rs hr (fun _ => hI _)).cell0 (by omega) rfl)) rfl ?_))
     refine RV.op (OV.split gno (Step.lss rfl rfl) rfl (fun cc10 => ?_) (fun cc10 => ?_))
     ·
      refine RV.m rfl rfl (RV.k rfl rfl (RV.k rfl rfl (RV.k rfl rfl (RV.s (Step.pick_t rfl rfl) rfl ?_))))
      refine RV.nil (KV.then_n (KV.e5 4 8 9 10 34 (CV.cond_t rfl (CV.seq (CV.region ?_)))))
      refine RV.a rfl rfl ?_
      refine RV.nil (KV.then_n (KV.e1 2 (CV.ret (KV.then_ret (KV.block_ret ?_)))))
      refine KV.then_ret (KV.then_ret (KV.block_ret (KV.then_ret ?_)))
      refine KV.sel [] [] rfl ?_
      exact KV.ret1 rfl rfl _ (fun _ h => h) ⟨by rw [chkT_at (i := j) (by omega) (by unfold badT; omega)], rfl⟩
     ·
      refine RV.m rfl rfl (RV.gw rfl (Step.fieldAddr rfl (F190_1 _ _)) rfl ?_)
      (first | refine RV.op (OV.step (gyes rfl) (Step.load Tryz.underlying2 rfl rfl (fun w h => h.cell 0 rfl rfl)) rfl ?_) | refine RV.op (OV.step (gyes rfl) (Step.load Tryz.underlying2 rfl rfl (fun w h => (h.rs hr (fun _ => hI _)).cell (by omega) rfl)) rfl ?_) | refine RV.op (OV.step (gyes rfl) (Step.load Tryz.underlying2 rfl rfl (fun w h => (h.rs hr (fun _ => hI _)).cell0 (by omega) rfl)) rfl ?_))
      refine RV.op (OV.split (gyes rfl) (Step.gtr rfl rfl) rfl (fun cc11 => ?_) (fun cc11 => ?_))
      ·
       refine RV.s (Step.pick_f rfl rfl) rfl ?_
       refine RV.nil (KV.then_n (KV.e5 4 8 9 10 34 (CV.cond_t rfl (CV.seq (CV.region ?_)))))
       refine RV.a rfl rfl ?_
       refine RV.nil (KV.then_n (KV.e1 2 (CV.ret (KV.then_ret (KV.block_ret ?_)))))
       refine KV.then_ret (KV.then_ret (KV.block_ret (KV.then_ret ?_)))
       refine KV.sel [] [] rfl ?_
       exact KV.ret1 rfl rfl _ (fun _ h => h) ⟨by rw [chkT_at (i := j) (by omega) (by unfold badT; omega)], rfl⟩
      ·
       refine RV.s (Step.pick_f rfl rfl) rfl ?_
       refine RV.nil (KV.then_n (KV.e5 4 8 9 10 34 (CV.cond_f rfl (CV.skip (KV.then_n ?_)))))
       refine KV.e4 4 8 9 10 (CV.seq (CV.region ?_))
       refine RV.s (Step.fieldAddr rfl (F190_2 _ _)) rfl ?_
       (first | refine RV.op (OV.step gno (Step.load Tryz.underlying2 rfl rfl (fun w h => h.cell 0 rfl rfl)) rfl ?_) | refine RV.op (OV.step gno (Step.load Tryz.underlying2 rfl rfl (fun w h => (h.rs hr (fun _ => hI _)).cell (by omega) rfl)) rfl ?_) | refine RV.op (OV.step gno (Step.load Tryz.underlying2 rfl rfl (fun w h => (h.rs hr (fun _ => hI _)).cell0 (by omega) rfl)) rfl ?_))
       refine RV.op (OV.split gno (Step.lss rfl rfl) rfl (fun cc12 => ?_) (fun cc12 => ?_))
       ·
        refine RV.m rfl rfl (RV.k rfl rfl (RV.k rfl rfl (RV.k rfl rfl (RV.s (Step.pick_t rfl rfl) rfl ?_))))
        refine RV.nil (KV.then_n (KV.e4 8 9 10 42 (CV.cond_t rfl (CV.seq (CV.region ?_)))))
        refine RV.a rfl rfl ?_
        refine RV.nil (KV.then_n (KV.e1 2 (CV.ret (KV.block_ret (KV.then_ret ?_)))))
        refine KV.then_ret (KV.block_ret (KV.then_ret ?_))
        refine KV.sel [] [] rfl ?_
        exact KV.ret1 rfl rfl _ (fun _ h => h) ⟨by rw [chkT_at (i := j) (by omega) (by unfold badT; omega)], rfl⟩
       ·
        refine RV.m rfl rfl (RV.gw rfl (Step.fieldAddr rfl (F190_2 _ _)) rfl ?_)
        (first | refine RV.op (OV.step (gyes rfl) (Step.load Tryz.underlying2 rfl rfl (fun w h => h.cell 0 rfl rfl)) rfl ?_) | refine RV.op (OV.step (gyes rfl) (Step.load Tryz.underlying2 rfl rfl (fun w h => (h.rs hr (fun _ => hI _)).cell (by omega) rfl)) rfl ?_) | refine RV.op (OV.step (gyes rfl) (Step.load Tryz.underlying2 rfl rfl (fun w h => (h.rs hr (fun _ => hI _)).cell0 (by omega) rfl)) rfl ?_))
        refine RV.op (OV.split (gyes rfl) (Step.gtr rfl rfl) rfl (fun cc13 => ?_) (fun cc13 => ?_))
        ·
         refine RV.s (Step.pick_f rfl rfl) rfl ?_
         refine RV.nil (KV.then_n (KV.e4 8 9 10 42 (CV.cond_t rfl (CV.seq (CV.region ?_)))))
         refine RV.a rfl rfl ?_
         refine RV.nil (KV.then_n (KV.e1 2 (CV.ret (KV.block_ret (KV.then_ret ?_)))))
         refine KV.then_ret (KV.block_ret (KV.then_ret ?_))
         refine KV.sel [] [] rfl ?_
         exact KV.ret1 rfl rfl _ (fun _ h => h) ⟨by rw [chkT_at (i := j) (by omega) (by unfold badT; omega)], rfl⟩
        ·
         refine RV.s (Step.pick_f rfl rfl) rfl ?_
         refine RV.nil (KV.then_n (KV.e4 8 9 10 42 (CV.cond_f rfl (CV.skip (KV.block_n ?_)))))
         refine KV.then_n (KV.e3 8 9 10 (CV.region ?_))
         (first | refine RV.op (OV.step gno (Step.add rfl rfl (wI64 (by omega) (by omega))) rfl ?_) | refine RV.op (OV.step gno (Step.add rfl rfl rfl) rfl ?_))
         refine RV.m rfl rfl ?_
         refine RV.nil (KV.then_n (KV.e3 8 9 10 ?_))
         refine KV.sel [] [] rfl ?_
         have hnb : ¬ badT (tr.getD j trK.d) := by unfold badT; omega
         exact KV.loopI (z := j) (j + 1) ⟨by omega, fun i hi => by by_cases e : i = j; (subst e; exact hnb); exact hinv.2 i (by omega)⟩ (by omega) ⟨rfl, rfl, rfl, trivial⟩ (fun _ h => h)
   ·
    refine RV.m rfl rfl (RV.k rfl rfl (RV.k rfl rfl (RV.k rfl rfl (RV.s (Step.pick_f rfl rfl) rfl (RV.m rfl rfl (RV.k rfl rfl (RV.k rfl rfl ?_)))))))
    refine RV.k rfl rfl (RV.s (Step.pick_f rfl rfl) rfl ?_)
    refine RV.nil (KV.then_n (KV.e5 4 8 9 10 26 (CV.cond_f rfl (CV.skip (KV.then_n ?_)))))
    refine KV.e4 4 8 9 10 (CV.seq (CV.seq (CV.region ?_)))
    refine RV.s (Step.fieldAddr rfl (F190_1 _ _)) rfl ?_
    (first | refine RV.op (OV.step gno (Step.load Tryz.underlying2 rfl rfl (fun w h => h.cell 0 rfl rfl)) rfl ?_) | refine RV.op (OV.step gno (Step.load Tryz.underlying2 rfl rfl (fun w h => (h.rs hr (fun _ => hI _)).cell (by omega) rfl)) rfl ?_) | refine RV.op (OV.step gno (Step.load Tryz.underlying2 rfl rfl (fun w h => (h.rs hr (fun _ => hI _)).cell0 (by omega) rfl)) rfl ?_))
    refine RV.op (OV.split gno (Step.lss rfl rfl) rfl (fun cc14 => ?_) (fun cc14 => ?_))
    ·
     refine RV.m rfl rfl (RV.k rfl rfl (RV.k rfl rfl (RV.k rfl rfl (RV.s (Step.pick_t rfl rfl) rfl ?_))))
     refine RV.nil (KV.then_n (KV.e5 4 8 9 10 34 (CV.cond_t rfl (CV.seq (CV.region ?_)))))
     refine RV.a rfl rfl ?_
     refine RV.nil (KV.then_n (KV.e1 2 (CV.ret (KV.then_ret (KV.block_ret ?_)))))
     refine KV.then_ret (KV.then_ret (KV.block_ret (KV.then_ret ?_)))
     refine KV.sel [] [] rfl ?_
     exact KV.ret1 rfl rfl _ (fun _ h => h) ⟨by rw [chkT_at (i := j) (by omega) (by unfold badT; omega)], rfl⟩
    ·
     refine RV.m rfl rfl (RV.gw rfl (Step.fieldAddr rfl (F190_1 _ _)) rfl ?_)
     (first | refine RV.op (OV.step (gyes rfl) (Step.load Tryz.underlying2 rfl rfl (fun w h => h.cell 0 rfl rfl)) rfl ?_) | refine RV.op (OV.step (gyes rfl) (Step.load Tryz.underlying2 rfl rfl (fun w h => (h.rs hr (fun _ => hI _)).cell (by omega) rfl)) rfl ?_) | refine RV.op (OV.step (gyes rfl) (Step.load Tryz.underlying2 rfl rfl (fun w h => (h.rs hr (fun _ => hI _)).cell0 (by omega) rfl)) rfl ?_))
     refine RV.op (OV.split (gyes rfl) (Step.gtr rfl rfl) rfl (fun cc15 => ?_) (fun cc15 => ?_))
     ·
      refine RV.s (Step.pick_f rfl rfl) rfl ?_
      refine RV.nil (KV.then_n (KV.e5 4 8 9 10 34 (CV.cond_t rfl (CV.seq (CV.region ?_)))))
      refine RV.a rfl rfl ?_
      refine RV.nil (KV.then_n (KV.e1 2 (CV.ret (KV.then_ret (KV.block_ret ?_)))))
      refine KV.then_ret (KV.then_ret (KV.block_ret (KV.then_ret ?_)))
      refine KV.sel [] [] rfl ?_
      exact KV.ret1 rfl rfl _ (fun _ h => h) ⟨by rw [chkT_at (i := j) (by omega) (by unfold badT; omega)], rfl⟩
     ·
      refine RV.s (Step.pick_f rfl rfl) rfl ?_
      refine RV.nil (KV.then_n (KV.e5 4 8 9 10 34 (CV.cond_f rfl (CV.skip (KV.then_n ?_)))))
      refine KV.e4 4 8 9 10 (CV.seq (CV.region ?_))
      refine RV.s (Step.fieldAddr rfl (F190_2 _ _)) rfl ?_
      (first | refine RV.op (OV.step gno (Step.load Tryz.underlying2 rfl rfl (fun w h => h.cell 0 rfl rfl)) rfl ?_) | refine RV.op (OV.step gno (Step.load Tryz.underlying2 rfl rfl (fun w h => (h.rs hr (fun _ => hI _)).cell (by omega) rfl)) rfl ?_) | refine RV.op (OV.step gno (Step.load Tryz.underlying2 rfl rfl (fun w h => (h.rs hr (fun _ => hI _)).cell0 (by omega) rfl)) rfl ?_))
      refine RV.op (OV.split gno (Step.lss rfl rfl) rfl (fun cc16 => ?_) (fun cc16 => ?_))
      ·
       refine RV.m rfl rfl (RV.k rfl rfl (RV.k rfl rfl (RV.k rfl rfl (RV.s (Step.pick_t rfl rfl) rfl ?_))))
       refine RV.nil (KV.then_n (KV.e4 8 9 10 42 (CV.cond_t rfl (CV.seq (CV.region ?_)))))
       refine RV.a rfl rfl ?_
       refine RV.nil (KV.then_n (KV.e1 2 (CV.ret (KV.block_ret (KV.then_ret ?_)))))
       refine KV.then_ret (KV.block_ret (KV.then_ret ?_))
       refine KV.sel [] [] rfl ?_
       exact KV.ret1 rfl rfl _ (fun _ h => h) ⟨by rw [chkT_at (i := j) (by omega) (by unfold badT; omega)], rfl⟩
      ·
       refine RV.m rfl rfl (RV.gw rfl (Step.fieldAddr rfl (F190_2 _ _)) rfl ?_)
       (first | refine RV.op (OV.step (gyes rfl) (Step.load Tryz.underlying2 rfl rfl (fun w h => h.cell 0 rfl rfl)) rfl ?_) | refine RV.op (OV.step (gyes rfl) (Step.load Tryz.underlying2 rfl rfl (fun w h => (h.rs hr (fun _ => hI _)).cell (by omega) rfl)) rfl ?_) | refine RV.op (OV.step (gyes rfl) (Step.load Tryz.underlying2 rfl rfl (fun w h => (h.rs hr (fun _ => hI _)).cell0 (by omega) rfl)) rfl ?_))
       refine RV.op (OV.split (gyes rfl) (Step.gtr rfl rfl) rfl (fun cc17 => ?_) (fun cc17 => ?_))
       ·
        refine RV.s (Step.pick_f rfl rfl) rfl ?_
        refine RV.nil (KV.then_n (KV.e4 8 9 10 42 (CV.cond_t rfl (CV.seq (CV.region ?_)))))
        refine RV.a rfl rfl ?_
        refine RV.nil (KV.then_n (KV.e1 2 (CV.ret (KV.block_ret (KV.then_ret ?_)))))
        refine KV.then_ret (KV.block_ret (KV.then_ret ?_))
        refine KV.sel [] [] rfl ?_
        exact KV.ret1 rfl rfl _ (fun _ h => h) ⟨by rw [chkT_at (i := j) (by omega) (by unfold badT; omega)], rfl⟩
       ·
        refine RV.s (Step.pick_f rfl rfl) rfl ?_
        refine RV.nil (KV.then_n (KV.e4 8 9 10 42 (CV.cond_f rfl (CV.skip (KV.block_n ?_)))))
        refine KV.then_n (KV.e3 8 9 10 (CV.region ?_))
        (first | refine RV.op (OV.step gno (Step.add rfl rfl (wI64 (by omega) (by omega))) rfl ?_) | refine RV.op (OV.step gno (Step.add rfl rfl rfl) rfl ?_))
        refine RV.m rfl rfl ?_
        refine RV.nil (KV.then_n (KV.e3 8 9 10 ?_))
        refine KV.sel [] [] rfl ?_
        have hnb : ¬ badT (tr.getD j trK.d) := by unfold badT; omega
        exact KV.loopI (z := j) (j + 1) ⟨by omega, fun i hi => by by_cases e : i = j; (subst e; exact hnb); exact hinv.2 i (by omega)⟩ (by omega) ⟨rfl, rfl, rfl, trivial⟩ (fun _ h => h)
  ·
   refine RV.nil (KV.then_n (KV.e4 8 9 10 11 (CV.seq (CV.cond_f rfl (CV.exit ?_)))))
   refine KV.then_exit (KV.then_exit (KV.block_hit (KV.then_n (KV.env [] trivial (CV.seq ?_)))))
   refine CV.region ?_
   refine RV.a rfl rfl ?_
   refine RV.nil (KV.then_n (KV.e1 2 (CV.ret ?_)))
   refine KV.sel [] [] rfl ?_
   exact KV.ret1 rfl rfl _ (fun _ h => h) ⟨by rw [chkT_ok (by omega) (fun i hi => hinv.2 i (by omega))], rfl⟩

set_option maxRecDepth 100000 in
set_option maxHeartbeats 1000000 in
theorem newZone_fn {A : Option Addr} {n c : Nat} {tr : List Trp} {w : World} (hr : RS w trK A tr) (hn : n = tr.length) (hl : tr.length ≤ 1000000) (lv : Int) (h0 : 0 ≤ lv) (h1 : lv ≤ 64) : Fx Tryz.prog 89 [.slice A n c, .int .i64 lv] w [] no (fun v L => (chkT tr = 0 → ∃ b A2 c2 oA oc, v = .tuple #[.pointer (some ⟨b, 0, none⟩), .int .i64 0] ∧ L = zobj b A2 c2 oA oc (zn0 tr lv)) ∧ (chkT tr ≠ 0 → v = .tuple #[.pointer none, .int .i64 1] ∧ L = [])) := by
 subst hn
 refine Sv.Fx.body Tryz.func89 rfl T89 rfl ?_
 intro I hro hI
 refine KV.e2 0 1 (CV.seq (CV.region ?_))
 refine RV.a rfl rfl (RV.a rfl rfl ?_)
 refine RV.nil (KV.then_n (KV.e2 0 1 (CV.seq (CV.seq (CV.region ?_)))))
 refine RV.m rfl rfl ?_
 refine RV.op (OV.call [] (F := []) Tryz.func122 B122 N122 rfl rfl (fun w h => checkTrips_fn (h.rs hr (fun _ => hI _)) rfl hl) (fun _ hb => hb.elim) gno rfl (fun v L' hp => ?_))
 obtain ⟨rfl, rfl⟩ := hp
 simp only [List.append_nil]
 refine RV.a rfl rfl ?_
 refine RV.nil (KV.then_n (KV.e3 0 1 6 (CV.seq (CV.region ?_))))
 refine RV.m rfl rfl ?_
 refine RV.op (OV.split gno (Step.neq rfl rfl) rfl (fun hc => ?_) (fun hc => ?_))
 ·
  refine RV.nil (KV.then_n (KV.e4 0 1 6 10 (CV.cond_t rfl (CV.seq (CV.region ?_)))))
  refine RV.m rfl rfl (RV.a rfl rfl (RV.a rfl rfl ?_))
  refine RV.nil (KV.then_n (KV.e2 4 5 (CV.ret (KV.then_ret ?_))))
  refine KV.sel [] [] rfl ?_
  exact KV.ret2 rfl rfl rfl _ (fun _ h => h) ⟨fun k => absurd k hc, fun _ => ⟨by rw [(chkT_cases tr).resolve_left hc], rfl⟩⟩
 ·
  refine RV.nil (KV.then_n (KV.e4 0 1 6 10 (CV.cond_f rfl (CV.skip (KV.then_n ?_)))))
  refine KV.e2 0 1 (CV.seq (CV.seq (CV.region ?_)))
  refine RV.m rfl rfl ?_
  refine RV.op (OV.split gno (Step.lss rfl rfl) rfl (fun e1 => ?_) (fun e1 => ?_))
  ·
   exfalso; omega
  ·
   refine RV.m rfl rfl (RV.gw rfl (Step.move rfl) rfl ?_)
   refine RV.op (OV.split (gyes rfl) (Step.gtr rfl rfl) rfl (fun e2 => ?_) (fun e2 => ?_))
   ·
    exfalso; omega
   ·
    refine RV.s (Step.pick_f rfl rfl) rfl ?_
    refine RV.nil (KV.then_n (KV.e3 0 1 17 (CV.cond_f rfl (CV.skip (KV.then_n ?_)))))
    refine KV.e2 0 1 (CV.seq ?_)
    refine CV.any (Hp I w []) (by kernel_rfl) (fun _ h => h.drew) 10 rfl ?_
    refine AV.u 0 (bl 10 1) rfl gno (Step.move rfl) rfl (fun _ h => h.sel [] rfl) ?_
    refine AV.u 2 (bl 10 5) rfl gno (Step.move rfl) rfl (fun _ h => h.sel [] rfl) ?_
    refine AV.u 3 (bl 10 13) rfl gno (Step.lenSl Tryz.underlying43 rfl) rfl (fun _ h => h.sel [] rfl) ?_
    refine AV.u 5 (bl 10 45) rfl gno (Step.move rfl) rfl (fun _ h => h.sel [] rfl) ?_
    refine AV.all [1, 4] (by kernel_rfl) (by decide) ?_
    refine ⟨⟨_, rfl, ?_⟩, ⟨⟨_, rfl, ?_⟩, trivial⟩⟩
    ·
     refine OV.call [] (F := []) Tryz.func76 B76 N76 rfl rfl (fun w h => cloneTr_fn (h.rs hr (fun _ => hI _)) rfl hl) (fun _ hb => hb.elim) gno rfl (fun v L' hp => ?_)
     obtain ⟨A2, c2, rfl, rfl⟩ := hp
     refine AV.next (bl 10 47) (by kernel_rfl) (fun _ h => h.sel [] rfl) ?_
     refine AV.all [4] (by kernel_rfl) (by decide) ?_
     refine ⟨⟨_, rfl, ?_⟩, trivial⟩
     ·
      refine OV.make (K := bolK) (tr.length) (tr.length) (false) Tryz.underlying202 I4 rfl rfl rfl rfl rfl (by omega) (by omega) (by omega) gno rfl (fun b6_4 => ?_)
      refine AV.next (bl 10 63) (by kernel_rfl) (fun _ h => h.sel [] rfl) ?_
      refine AV.u 6 (bl 10 127) rfl gno (Step.build rfl (Bd217_0_1_2 _ _ _ _ _ _ _)) rfl (fun _ h => h.sel [] rfl) ?_
      refine AV.all [7] (by kernel_rfl) (by decide) ?_
      refine ⟨⟨_, rfl, ?_⟩, trivial⟩
      ·
       refine OV.box (t := 217) #[_, _, _, _] rfl rfl gno rfl (fun b6_7 => ?_)
       refine AV.next (bl 10 255) (by kernel_rfl) (fun _ h => h.sel [] rfl) ?_
       refine AV.u 8 (bl 10 511) rfl gno (Step.assign rfl) rfl (fun _ h => h.sel [] rfl) ?_
       refine AV.u 9 (bl 10 1023) rfl gno (Step.assign rfl) rfl (fun _ h => h.sel [] rfl) ?_
       refine AV.done (by kernel_rfl) ?_
       refine KV.then_n (KV.e2 4 5 (CV.ret ?_))
       refine KV.sel [2, 0, 0] [_, _, _] rfl ?_
       exact KV.ret2 rfl rfl rfl _ (fun _ h => h) ⟨fun _ => ⟨_, _, _, _, _, rfl, rfl⟩, fun k => absurd (Decidable.not_not.1 hc) k⟩
    ·
     refine OV.make (K := bolK) (tr.length) (tr.length) (false) Tryz.underlying202 I4 rfl rfl rfl rfl rfl (by omega) (by omega) (by omega) gno rfl (fun b6_4 => ?_)
     refine AV.next (bl 10 61) (by kernel_rfl) (fun _ h => h.sel [] rfl) ?_
     refine AV.all [1] (by kernel_rfl) (by decide) ?_
     refine ⟨⟨_, rfl, ?_⟩, trivial⟩
     ·
      refine OV.call [] (F := [_]) Tryz.func76 B76 N76 rfl rfl (fun w h => cloneTr_fn (h.rs hr (fun _ => hI _)) rfl hl) (fun _ hb => hb.elim) gno rfl (fun v L' hp => ?_)
      obtain ⟨A2, c2, rfl, rfl⟩ := hp
      refine AV.next (bl 10 63) (by kernel_rfl) (fun _ h => h.sel [] rfl) ?_
      refine AV.u 6 (bl 10 127) rfl gno (Step.build rfl (Bd217_0_1_2 _ _ _ _ _ _ _)) rfl (fun _ h => h.sel [] rfl) ?_
      refine AV.all [7] (by kernel_rfl) (by decide) ?_
      refine ⟨⟨_, rfl, ?_⟩, trivial⟩
      ·
       refine OV.box (t := 217) #[_, _, _, _] rfl rfl gno rfl (fun b6_7 => ?_)
       refine AV.next (bl 10 255) (by kernel_rfl) (fun _ h => h.sel [] rfl) ?_
       refine AV.u 8 (bl 10 511) rfl gno (Step.assign rfl) rfl (fun _ h => h.sel [] rfl) ?_
       refine AV.u 9 (bl 10 1023) rfl gno (Step.assign rfl) rfl (fun _ h => h.sel [] rfl) ?_
       refine AV.done (by kernel_rfl) ?_
       refine KV.then_n (KV.e2 4 5 (CV.ret ?_))
       refine KV.sel [2, 1, 0] [_, _, _] rfl ?_
       exact KV.ret2 rfl rfl rfl _ (fun _ h => h) ⟨fun _ => ⟨_, _, _, _, _, rfl, rfl⟩, fun k => absurd (Decidable.not_not.1 hc) k⟩

set_option maxRecDepth 100000 in
set_option maxHeartbeats 1000000 in
theorem level_fn (b : Nat) {A oA : Option Addr} {nt c no2 oc : Nat} {lv la : Int} {fz : Nat × Nat} {w : World} (hb : w.heap[b]? = some (.cells #[.slice A nt c, .slice oA no2 oc, .int .i64 lv, .int .i64 la] 217 fz)) : Fx Tryz.prog 113 [.pointer (some ⟨b, 0, none⟩)] w [] no (fun v L => v = .int .i64 la ∧ L = []) := by
 refine Sv.Fx.body Tryz.func113 rfl T113 rfl ?_
 intro I hro hI
 refine KV.e1 0 (CV.seq (CV.region ?_))
 refine RV.a rfl rfl ?_
 refine RV.nil (KV.then_n (KV.e1 0 (CV.seq (CV.region ?_))))
 refine RV.m rfl rfl (RV.s (Step.nilCheck rfl) rfl (RV.s (Step.fieldAddr rfl (F217_3 _ _)) rfl (RV.s (Step.load Tryz.underlying3 rfl rfl (fun w h => (cell_of (h.ro hb (hI b)) 3).trans rfl)) rfl (RV.a rfl rfl ?_))))
 refine RV.nil (KV.then_n (KV.e1 2 (CV.ret ?_)))
 refine KV.sel [] [] rfl ?_
 exact KV.ret1 rfl rfl _ (fun _ h => h) ⟨rfl, rfl⟩

set_option maxRecDepth 100000 in
set_option maxHeartbeats 1000000 in
theorem update_fn (b : Nat) (A : Option Addr) (c : Nat) (oA : Option Addr) (oc : Nat) (z : Zn) (hz : z.ok) (t : Int) {w : World} : Fx Tryz.prog 50 [.pointer (some ⟨b, 0, none⟩), .int .i64 t] w (zobj b A c oA oc z) no (fun v L => ∃ z2, z.nx z2 ∧ L = zobj b A c oA oc z2) := by
 refine Sv.Fx.body Tryz.func50 rfl T50 rfl ?_
 intro I hro hI
 refine KV.e2 0 1 ?_
 have hz1 := hz.l
 have hz2 := hz.v0
 have hz3 := hz.v1
 have hz4 := hz.a0
 have hz5 := hz.a1
 have hz6 := hz.t.1
 refine CV.seq (CV.region ?_)
 refine RV.a rfl rfl (RV.a rfl rfl (RV.a rfl rfl ?_))
 refine RV.nil (KV.then_n (KV.e2 0 1 (CV.seq (CV.seq (CV.region ?_)))))
 refine RV.m rfl rfl ?_
 refine RV.op (OV.split gno (Step.lss rfl rfl) rfl (fun cc1 => ?_) (fun cc1 => ?_))
 ·
  refine RV.m rfl rfl (RV.k rfl rfl (RV.k rfl rfl (RV.s (Step.pick_t rfl rfl) rfl ?_)))
  refine RV.nil (KV.then_n (KV.e3 0 1 16 (CV.cond_t rfl (CV.seq (CV.region ?_)))))
  refine RV.a rfl rfl (RV.a rfl rfl (RV.a rfl rfl ?_))
  refine RV.nil (KV.then_n (KV.e3 4 5 6 (CV.ret (KV.then_ret ?_))))
  refine KV.sel [0, 0, 0] [_, _, _] rfl ?_
  exact KV.ret3 rfl rfl rfl rfl _ (fun _ h => h) ⟨z, ⟨rfl, rfl, rfl, hz.a0, hz.a1⟩, rfl⟩
 ·
  refine RV.m rfl rfl (RV.gw rfl (Step.move rfl) rfl ?_)
  refine RV.op (OV.split (gyes rfl) (Step.gtr rfl rfl) rfl (fun cc2 => ?_) (fun cc2 => ?_))
  ·
   refine RV.s (Step.pick_f rfl rfl) rfl ?_
   refine RV.nil (KV.then_n (KV.e3 0 1 16 (CV.cond_t rfl (CV.seq (CV.region ?_)))))
   refine RV.a rfl rfl (RV.a rfl rfl (RV.a rfl rfl ?_))
   refine RV.nil (KV.then_n (KV.e3 4 5 6 (CV.ret (KV.then_ret ?_))))
   refine KV.sel [0, 0, 0] [_, _, _] rfl ?_
   exact KV.ret3 rfl rfl rfl rfl _ (fun _ h => h) ⟨z, ⟨rfl, rfl, rfl, hz.a0, hz.a1⟩, rfl⟩
  ·
   refine RV.s (Step.pick_f rfl rfl) rfl ?_
   refine RV.nil (KV.then_n (KV.e3 0 1 16 (CV.cond_f rfl (CV.skip (KV.then_n ?_)))))
   refine KV.e2 0 1 (CV.seq (CV.region ?_))
   refine RV.a rfl rfl (RV.a rfl rfl ?_)
   refine RV.nil (KV.then_n (KV.e4 0 1 7 8 (CV.seq (CV.seq (CV.region ?_)))))
   refine RV.m rfl rfl (RV.s (Step.nilCheck rfl) rfl (RV.s (Step.fieldAddr rfl (F217_0 _ _)) rfl ?_))
   (first | refine RV.op (OV.step gno (Step.load Tryz.underlying43 rfl rfl (fun w h => h.cell 0 rfl rfl)) rfl ?_) | refine RV.op (OV.step gno (Step.load Tryz.underlying43 rfl rfl (fun w h => (h.os 1 rfl).cell (by first | omega | (simp only [List.length_set]; omega)) rfl)) rfl ?_) | refine RV.op (OV.step gno (Step.load Tryz.underlying43 rfl rfl (fun w h => (h.os 1 rfl).cell0 (by first | omega | (simp only [List.length_set]; omega)) rfl)) rfl ?_))
   refine RV.s (Step.lenSl Tryz.underlying43 rfl) rfl (RV.m rfl rfl ?_)
   refine RV.nil (KV.then_n (KV.e7 0 1 7 8 20 21 22 (CV.block ?_)))
   refine KV.sel [0, 0, 0] [_, _, _] rfl ?_
   refine CV.loop3 (fun (i : Nat) (on : List Bool) (pq : Bool × Bool) => i ≤ z.tr.length ∧ on.length = z.tr.length) (fun (i : Nat) (on : List Bool) (pq : Bool × Bool) => z.tr.length - i) (fun (i : Nat) (on : List Bool) (pq : Bool × Bool) => [(0, .pointer (some ⟨b, 0, none⟩)), (1, .int .i64 t), (7, .bool pq.1), (8, .bool pq.2), (20, .slice A z.tr.length c), (21, .int .i64 z.tr.length), (22, .int .i64 i)]) (fun (i : Nat) (on : List Bool) (pq : Bool × Bool) => Hp I w [Blk b (.cells #[.slice A z.tr.length c, .slice oA z.tr.length oc, .int .i64 z.lv, .int .i64 z.at_] 217 (0, 0)), OS 190 trK A c z.tr, OS 4 bolK oA oc on]) (0) (z.on) ((false, false)) ⟨Nat.zero_le _, hz.l⟩ ⟨rfl, rfl, rfl, rfl, rfl, rfl, rfl, trivial⟩ (fun _ h => h) ?_
   intro i on pq hinv
   refine CV.seq (CV.region ?_)
   refine RV.op (OV.split gno (Step.lss rfl rfl) rfl (fun cc3 => ?_) (fun cc3 => ?_))
   ·
    refine RV.nil (KV.then_n (KV.e8 0 1 7 8 20 21 22 23 (CV.seq (CV.cond_t rfl (CV.skip ?_)))))
    refine KV.then_n (KV.e7 0 1 7 8 20 21 22 (CV.seq (CV.block (CV.seq (CV.region ?_)))))
    refine RV.m rfl rfl ?_
    refine RV.op (OV.step gno (Step.idx Tryz.underlying43 I190 (fun w h => h.os 1 rfl) rfl rfl (by first | rfl | omega | (simp only [List.length_set]; omega)) _ rfl (by first | omega | (simp only [List.length_set]; omega))) rfl ?_)
    refine RV.s (Step.loadN _ Tryz.underlying190 rfl I190 rfl rfl (fun w h => (h.os 1 rfl).cells (by omega))) rfl ?_
    refine RV.op (OV.alloc #[.int .i64 0, .int .i64 0, .int .i64 0] I190 rfl gno rfl (fun b6_3 => ?_))
    refine RV.a rfl rfl ?_
    refine RV.op (OV.store 3 [_, _, _] #[_, _, _] I190 rfl rfl rfl rfl rfl (Nat.le_of_ble_eq_true rfl) (by simp [Value.oneCell']) rfl gno ?_)
    refine RV.nil (KV.then_n (KV.e9 0 1 7 8 9 10 20 21 22 ?_))
    refine CV.join (fun (o : Bool) => [(0, .pointer (some ⟨b, 0, none⟩)), (1, .int .i64 t), (7, .bool pq.1), (8, .bool pq.2), (9, .int .i64 i), (10, .pointer (some ⟨b6_3, 0, none⟩)), (20, .slice A z.tr.length c), (21, .int .i64 z.tr.length), (22, .int .i64 i)]) (fun (o : Bool) => Hp I w [Blk b (.cells #[.slice A z.tr.length c, .slice oA z.tr.length oc, .int .i64 z.lv, .int .i64 z.at_] 217 (0, 0)), OS 190 trK A c z.tr, OS 4 bolK oA oc (on.set i o), Blk b6_3 (.cells #[.int .i64 (z.tr.getD i trK.d).kd, .int .i64 (z.tr.getD i trK.d).tp, .int .i64 (z.tr.getD i trK.d).hy] 190 (0, 0))]) ?_ ?_
    ·
     skip
     refine CV.seq ?_
     have hbt := okTr_at hz.t (i := i) (by omega)
     unfold badT at hbt
     refine CV.region ?_
     refine RV.m rfl rfl (RV.s (Step.fieldAddr rfl (F190_1 _ _)) rfl ?_)
     (first | refine RV.op (OV.step gno (Step.load Tryz.underlying2 rfl rfl (fun w h => h.cell 0 rfl rfl)) rfl ?_) | refine RV.op (OV.step gno (Step.load Tryz.underlying2 rfl rfl (fun w h => h.cell 3 rfl rfl)) rfl ?_) | refine RV.op (OV.step gno (Step.load Tryz.underlying2 rfl rfl (fun w h => (h.os 1 rfl).cell (by first | omega | (simp only [List.length_set]; omega)) rfl)) rfl ?_) | refine RV.op (OV.step gno (Step.load Tryz.underlying2 rfl rfl (fun w h => (h.os 1 rfl).cell0 (by first | omega | (simp only [List.length_set]; omega)) rfl)) rfl ?_))
     refine RV.op (OV.split gno (Step.geq rfl rfl) rfl (fun cc4 => ?_) (fun cc4 => ?_))
     ·
      refine RV.nil (KV.then_n (KV.e10 0 1 7 8 9 10 20 21 22 30 (CV.cond_t rfl (CV.region ?_))))
      refine RV.m rfl rfl (RV.s (Step.nilCheck rfl) rfl (RV.s (Step.fieldAddr rfl (F217_1 _ _)) rfl ?_))
      (first | refine RV.op (OV.step gno (Step.load Tryz.underlying202 rfl rfl (fun w h => h.cell 0 rfl rfl)) rfl ?_) | refine RV.op (OV.step gno (Step.load Tryz.underlying202 rfl rfl (fun w h => h.cell 3 rfl rfl)) rfl ?_) | refine RV.op (OV.step gno (Step.load Tryz.underlying202 rfl rfl (fun w h => (h.os 1 rfl).cell (by first | omega | (simp only [List.length_set]; omega)) rfl)) rfl ?_) | refine RV.op (OV.step gno (Step.load Tryz.underlying202 rfl rfl (fun w h => (h.os 1 rfl).cell0 (by first | omega | (simp only [List.length_set]; omega)) rfl)) rfl ?_))
      refine RV.m rfl rfl ?_
      refine RV.op (OV.step gno (Step.idx Tryz.underlying202 I4 (fun w h => h.os 2 rfl) rfl rfl (by first | rfl | omega | (simp only [List.length_set]; omega)) _ rfl (by first | omega | (simp only [List.length_set]; omega))) rfl ?_)
      refine RV.op (OV.storeE 2 (i) (true) (j := 0) [_] I4 rfl rfl rfl rfl rfl rfl (by omega) rfl (Nat.le_of_ble_eq_true rfl) gno ?_)
      refine RV.nil (KV.then_n (KV.e9 0 1 7 8 9 10 20 21 22 ?_))
      refine KV.sel [0, 0, 0, 0] [_, _, _, _] rfl ?_
      (first | exact KV.join (true) ⟨rfl, rfl, rfl, rfl, rfl, rfl, rfl, rfl, rfl, trivial⟩ (fun _ h => by first | exact h | (rw [set_getD_self]; exact h)) | exact KV.join (false) ⟨rfl, rfl, rfl, rfl, rfl, rfl, rfl, rfl, rfl, trivial⟩ (fun _ h => by first | exact h | (rw [set_getD_self]; exact h)) | exact KV.join (on.getD i bolK.d) ⟨rfl, rfl, rfl, rfl, rfl, rfl, rfl, rfl, rfl, trivial⟩ (fun _ h => by first | exact h | (rw [set_getD_self]; exact h)))
     ·
      refine RV.nil (KV.then_n (KV.e10 0 1 7 8 9 10 20 21 22 30 (CV.cond_f rfl (CV.seq (CV.region ?_)))))
      refine RV.m rfl rfl (RV.s (Step.fieldAddr rfl (F190_1 _ _)) rfl ?_)
      (first | refine RV.op (OV.step gno (Step.load Tryz.underlying2 rfl rfl (fun w h => h.cell 0 rfl rfl)) rfl ?_) | refine RV.op (OV.step gno (Step.load Tryz.underlying2 rfl rfl (fun w h => h.cell 3 rfl rfl)) rfl ?_) | refine RV.op (OV.step gno (Step.load Tryz.underlying2 rfl rfl (fun w h => (h.os 1 rfl).cell (by first | omega | (simp only [List.length_set]; omega)) rfl)) rfl ?_) | refine RV.op (OV.step gno (Step.load Tryz.underlying2 rfl rfl (fun w h => (h.os 1 rfl).cell0 (by first | omega | (simp only [List.length_set]; omega)) rfl)) rfl ?_))
      refine RV.s (Step.fieldAddr rfl (F190_2 _ _)) rfl ?_
      (first | refine RV.op (OV.step gno (Step.load Tryz.underlying2 rfl rfl (fun w h => h.cell 0 rfl rfl)) rfl ?_) | refine RV.op (OV.step gno (Step.load Tryz.underlying2 rfl rfl (fun w h => h.cell 3 rfl rfl)) rfl ?_) | refine RV.op (OV.step gno (Step.load Tryz.underlying2 rfl rfl (fun w h => (h.os 1 rfl).cell (by first | omega | (simp only [List.length_set]; omega)) rfl)) rfl ?_) | refine RV.op (OV.step gno (Step.load Tryz.underlying2 rfl rfl (fun w h => (h.os 1 rfl).cell0 (by first | omega | (simp only [List.length_set]; omega)) rfl)) rfl ?_))
      (first | refine RV.op (OV.step gno (Step.sub rfl rfl (wI64 (by omega) (by omega))) rfl ?_) | refine RV.op (OV.step gno (Step.sub rfl rfl rfl) rfl ?_))
      refine RV.op (OV.split gno (Step.lss rfl rfl) rfl (fun cc5 => ?_) (fun cc5 => ?_))
      ·
       refine RV.nil (KV.then_n (KV.e10 0 1 7 8 9 10 20 21 22 43 (CV.cond_t rfl (CV.region ?_))))
       refine RV.m rfl rfl (RV.s (Step.nilCheck rfl) rfl (RV.s (Step.fieldAddr rfl (F217_1 _ _)) rfl ?_))
       (first | refine RV.op (OV.step gno (Step.load Tryz.underlying202 rfl rfl (fun w h => h.cell 0 rfl rfl)) rfl ?_) | refine RV.op (OV.step gno (Step.load Tryz.underlying202 rfl rfl (fun w h => h.cell 3 rfl rfl)) rfl ?_) | refine RV.op (OV.step gno (Step.load Tryz.underlying202 rfl rfl (fun w h => (h.os 1 rfl).cell (by first | omega | (simp only [List.length_set]; omega)) rfl)) rfl ?_) | refine RV.op (OV.step gno (Step.load Tryz.underlying202 rfl rfl (fun w h => (h.os 1 rfl).cell0 (by first | omega | (simp only [List.length_set]; omega)) rfl)) rfl ?_))
       refine RV.m rfl rfl ?_
       refine RV.op (OV.step gno (Step.idx Tryz.underlying202 I4 (fun w h => h.os 2 rfl) rfl rfl (by first | rfl | omega | (simp only [List.length_set]; omega)) _ rfl (by first | omega | (simp only [List.length_set]; omega))) rfl ?_)
       refine RV.op (OV.storeE 2 (i) (false) (j := 0) [_] I4 rfl rfl rfl rfl rfl rfl (by omega) rfl (Nat.le_of_ble_eq_true rfl) gno ?_)
       refine RV.nil (KV.then_n (KV.e9 0 1 7 8 9 10 20 21 22 ?_))
       refine KV.sel [0, 0, 0, 0] [_, _, _, _] rfl ?_
       (first | exact KV.join (true) ⟨rfl, rfl, rfl, rfl, rfl, rfl, rfl, rfl, rfl, trivial⟩ (fun _ h => by first | exact h | (rw [set_getD_self]; exact h)) | exact KV.join (false) ⟨rfl, rfl, rfl, rfl, rfl, rfl, rfl, rfl, rfl, trivial⟩ (fun _ h => by first | exact h | (rw [set_getD_self]; exact h)) | exact KV.join (on.getD i bolK.d) ⟨rfl, rfl, rfl, rfl, rfl, rfl, rfl, rfl, rfl, trivial⟩ (fun _ h => by first | exact h | (rw [set_getD_self]; exact h)))
      ·
       refine RV.nil (KV.then_n (KV.e10 0 1 7 8 9 10 20 21 22 43 (CV.cond_f rfl (CV.skip (KV.then_n ?_)))))
       refine KV.e9 0 1 7 8 9 10 20 21 22 ?_
       refine KV.sel [0, 0, 0, 0] [_, _, _, _] rfl ?_
       (first | exact KV.join (true) ⟨rfl, rfl, rfl, rfl, rfl, rfl, rfl, rfl, rfl, trivial⟩ (fun _ h => by first | exact h | (rw [set_getD_self]; exact h)) | exact KV.join (false) ⟨rfl, rfl, rfl, rfl, rfl, rfl, rfl, rfl, rfl, trivial⟩ (fun _ h => by first | exact h | (rw [set_getD_self]; exact h)) | exact KV.join (on.getD i bolK.d) ⟨rfl, rfl, rfl, rfl, rfl, rfl, rfl, rfl, rfl, trivial⟩ (fun _ h => by first | exact h | (rw [set_getD_self]; exact h)))
    ·
     intro o
     refine CV.seq (CV.region ?_)
     refine RV.m rfl rfl (RV.s (Step.nilCheck rfl) rfl (RV.s (Step.fieldAddr rfl (F217_1 _ _)) rfl ?_))
     (first | refine RV.op (OV.step gno (Step.load Tryz.underlying202 rfl rfl (fun w h => h.cell 0 rfl rfl)) rfl ?_) | refine RV.op (OV.step gno (Step.load Tryz.underlying202 rfl rfl (fun w h => h.cell 3 rfl rfl)) rfl ?_) | refine RV.op (OV.step gno (Step.load Tryz.underlying202 rfl rfl (fun w h => (h.os 1 rfl).cell (by first | omega | (simp only [List.length_set]; omega)) rfl)) rfl ?_) | refine RV.op (OV.step gno (Step.load Tryz.underlying202 rfl rfl (fun w h => (h.os 1 rfl).cell0 (by first | omega | (simp only [List.length_set]; omega)) rfl)) rfl ?_))
     refine RV.m rfl rfl ?_
     refine RV.op (OV.step gno (Step.idx Tryz.underlying202 I4 (fun w h => h.os 2 rfl) rfl rfl (by first | rfl | omega | (simp only [List.length_set]; omega)) _ rfl (by first | omega | (simp only [List.length_set]; omega))) rfl ?_)
     refine RV.s (Step.load Tryz.underlying4 rfl rfl (fun w h => (h.os 2 rfl).cell0 (by simp only [List.length_set]; omega) rfl)) rfl ?_
     refine RV.nil (KV.then_n (KV.e9 0 1 7 8 10 20 21 22 56 ?_))
     refine KV.cases 56 rfl (fun cc6 => ?_) (fun cc6 => ?_)
     ·
      refine CV.cond_t rfl (CV.seq (CV.region ?_))
      refine RV.m rfl rfl (RV.m rfl rfl ?_)
      refine KV.cases 58 rfl (fun cc7 => ?_) (fun cc7 => ?_)
      ·
       refine RV.k rfl rfl (RV.k rfl rfl (RV.k rfl rfl (RV.s (Step.pick_t rfl rfl) rfl (RV.a rfl rfl ?_))))
       refine RV.nil (KV.then_n (KV.e8 0 1 7 8 10 20 21 22 (CV.region ?_)))
       refine RV.m rfl rfl (RV.m rfl rfl ?_)
       refine KV.cases 64 rfl (fun cc8 => ?_) (fun cc8 => ?_)
       ·
        refine RV.k rfl rfl (RV.k rfl rfl (RV.k rfl rfl (RV.s (Step.pick_t rfl rfl) rfl (RV.a rfl rfl ?_))))
        refine RV.nil (KV.block_n (KV.then_n (KV.e7 0 1 7 8 20 21 22 (CV.region ?_))))
        (first | refine RV.op (OV.step gno (Step.add rfl rfl (wI64 (by omega) (by omega))) rfl ?_) | refine RV.op (OV.step gno (Step.add rfl rfl rfl) rfl ?_))
        refine RV.m rfl rfl ?_
        refine RV.nil (KV.then_n (KV.e7 0 1 7 8 20 21 22 ?_))
        refine KV.sel [0, 0, 0] [_, _, _] rfl ?_
        exact KV.loop3 (x := i) (y := on) (z := pq) (i + 1) ((on.set i o)) ((_, _)) ⟨by omega, by rw [List.length_set]; exact hinv.2⟩ (by omega) ⟨rfl, rfl, rfl, rfl, rfl, rfl, rfl, trivial⟩ (fun _ h => h)
       ·
        refine RV.gw rfl (Step.fieldAddr rfl (F190_0 _ _)) rfl ?_
        (first | refine RV.op (OV.step (gyes rfl) (Step.load Tryz.underlying3 rfl rfl (fun w h => h.cell 0 rfl rfl)) rfl ?_) | refine RV.op (OV.step (gyes rfl) (Step.load Tryz.underlying3 rfl rfl (fun w h => h.cell 3 rfl rfl)) rfl ?_) | refine RV.op (OV.step (gyes rfl) (Step.load Tryz.underlying3 rfl rfl (fun w h => (h.os 1 rfl).cell (by first | omega | (simp only [List.length_set]; omega)) rfl)) rfl ?_) | refine RV.op (OV.step (gyes rfl) (Step.load Tryz.underlying3 rfl rfl (fun w h => (h.os 1 rfl).cell0 (by first | omega | (simp only [List.length_set]; omega)) rfl)) rfl ?_))
        refine RV.op (OV.split (gyes rfl) (Step.eql rfl rfl) rfl (fun cc9 => ?_) (fun cc9 => ?_))
        ·
         refine RV.s (Step.pick_f rfl rfl) rfl (RV.a rfl rfl ?_)
         refine RV.nil (KV.block_n (KV.then_n (KV.e7 0 1 7 8 20 21 22 (CV.region ?_))))
         (first | refine RV.op (OV.step gno (Step.add rfl rfl (wI64 (by omega) (by omega))) rfl ?_) | refine RV.op (OV.step gno (Step.add rfl rfl rfl) rfl ?_))
         refine RV.m rfl rfl ?_
         refine RV.nil (KV.then_n (KV.e7 0 1 7 8 20 21 22 ?_))
         refine KV.sel [0, 0, 0] [_, _, _] rfl ?_
         exact KV.loop3 (x := i) (y := on) (z := pq) (i + 1) ((on.set i o)) ((_, _)) ⟨by omega, by rw [List.length_set]; exact hinv.2⟩ (by omega) ⟨rfl, rfl, rfl, rfl, rfl, rfl, rfl, trivial⟩ (fun _ h => h)
        ·
         refine RV.s (Step.pick_f rfl rfl) rfl (RV.a rfl rfl ?_)
         refine RV.nil (KV.block_n (KV.then_n (KV.e7 0 1 7 8 20 21 22 (CV.region ?_))))
         (first | refine RV.op (OV.step gno (Step.add rfl rfl (wI64 (by omega) (by omega))) rfl ?_) | refine RV.op (OV.step gno (Step.add rfl rfl rfl) rfl ?_))
         refine RV.m rfl rfl ?_
         refine RV.nil (KV.then_n (KV.e7 0 1 7 8 20 21 22 ?_))
         refine KV.sel [0, 0, 0] [_, _, _] rfl ?_
         exact KV.loop3 (x := i) (y := on) (z := pq) (i + 1) ((on.set i o)) ((_, _)) ⟨by omega, by rw [List.length_set]; exact hinv.2⟩ (by omega) ⟨rfl, rfl, rfl, rfl, rfl, rfl, rfl, trivial⟩ (fun _ h => h)
      ·
       refine RV.gw rfl (Step.fieldAddr rfl (F190_0 _ _)) rfl ?_
       (first | refine RV.op (OV.step (gyes rfl) (Step.load Tryz.underlying3 rfl rfl (fun w h => h.cell 0 rfl rfl)) rfl ?_) | refine RV.op (OV.step (gyes rfl) (Step.load Tryz.underlying3 rfl rfl (fun w h => h.cell 3 rfl rfl)) rfl ?_) | refine RV.op (OV.step (gyes rfl) (Step.load Tryz.underlying3 rfl rfl (fun w h => (h.os 1 rfl).cell (by first | omega | (simp only [List.length_set]; omega)) rfl)) rfl ?_) | refine RV.op (OV.step (gyes rfl) (Step.load Tryz.underlying3 rfl rfl (fun w h => (h.os 1 rfl).cell0 (by first | omega | (simp only [List.length_set]; omega)) rfl)) rfl ?_))
       refine RV.op (OV.split (gyes rfl) (Step.eql rfl rfl) rfl (fun cc10 => ?_) (fun cc10 => ?_))
       ·
        refine RV.s (Step.pick_f rfl rfl) rfl (RV.a rfl rfl ?_)
        refine RV.nil (KV.then_n (KV.e8 0 1 7 8 10 20 21 22 (CV.region ?_)))
        refine RV.m rfl rfl (RV.m rfl rfl ?_)
        refine KV.cases 64 rfl (fun cc11 => ?_) (fun cc11 => ?_)
        ·
         refine RV.k rfl rfl (RV.k rfl rfl (RV.k rfl rfl (RV.s (Step.pick_t rfl rfl) rfl (RV.a rfl rfl ?_))))
         refine RV.nil (KV.block_n (KV.then_n (KV.e7 0 1 7 8 20 21 22 (CV.region ?_))))
         (first | refine RV.op (OV.step gno (Step.add rfl rfl (wI64 (by omega) (by omega))) rfl ?_) | refine RV.op (OV.step gno (Step.add rfl rfl rfl) rfl ?_))
         refine RV.m rfl rfl ?_
         refine RV.nil (KV.then_n (KV.e7 0 1 7 8 20 21 22 ?_))
         refine KV.sel [0, 0, 0] [_, _, _] rfl ?_
         exact KV.loop3 (x := i) (y := on) (z := pq) (i + 1) ((on.set i o)) ((_, _)) ⟨by omega, by rw [List.length_set]; exact hinv.2⟩ (by omega) ⟨rfl, rfl, rfl, rfl, rfl, rfl, rfl, trivial⟩ (fun _ h => h)
        ·
         refine RV.gw rfl (Step.fieldAddr rfl (F190_0 _ _)) rfl ?_
         (first | refine RV.op (OV.step (gyes rfl) (Step.load Tryz.underlying3 rfl rfl (fun w h => h.cell 0 rfl rfl)) rfl ?_) | refine RV.op (OV.step (gyes rfl) (Step.load Tryz.underlying3 rfl rfl (fun w h => h.cell 3 rfl rfl)) rfl ?_) | refine RV.op (OV.step (gyes rfl) (Step.load Tryz.underlying3 rfl rfl (fun w h => (h.os 1 rfl).cell (by first | omega | (simp only [List.length_set]; omega)) rfl)) rfl ?_) | refine RV.op (OV.step (gyes rfl) (Step.load Tryz.underlying3 rfl rfl (fun w h => (h.os 1 rfl).cell0 (by first | omega | (simp only [List.length_set]; omega)) rfl)) rfl ?_))
         refine RV.op (OV.split (gyes rfl) (Step.eql rfl rfl) rfl (fun cc12 => ?_) (fun cc12 => ?_))
         ·
          refine RV.s (Step.pick_f rfl rfl) rfl (RV.a rfl rfl ?_)
          refine RV.nil (KV.block_n (KV.then_n (KV.e7 0 1 7 8 20 21 22 (CV.region ?_))))
          (first | refine RV.op (OV.step gno (Step.add rfl rfl (wI64 (by omega) (by omega))) rfl ?_) | refine RV.op (OV.step gno (Step.add rfl rfl rfl) rfl ?_))
          refine RV.m rfl rfl ?_
          refine RV.nil (KV.then_n (KV.e7 0 1 7 8 20 21 22 ?_))
          refine KV.sel [0, 0, 0] [_, _, _] rfl ?_
          exact KV.loop3 (x := i) (y := on) (z := pq) (i + 1) ((on.set i o)) ((_, _)) ⟨by omega, by rw [List.length_set]; exact hinv.2⟩ (by omega) ⟨rfl, rfl, rfl, rfl, rfl, rfl, rfl, trivial⟩ (fun _ h => h)
         ·
          refine RV.s (Step.pick_f rfl rfl) rfl (RV.a rfl rfl ?_)
          refine RV.nil (KV.block_n (KV.then_n (KV.e7 0 1 7 8 20 21 22 (CV.region ?_))))
          (first | refine RV.op (OV.step gno (Step.add rfl rfl (wI64 (by omega) (by omega))) rfl ?_) | refine RV.op (OV.step gno (Step.add rfl rfl rfl) rfl ?_))
          refine RV.m rfl rfl ?_
          refine RV.nil (KV.then_n (KV.e7 0 1 7 8 20 21 22 ?_))
          refine KV.sel [0, 0, 0] [_, _, _] rfl ?_
          exact KV.loop3 (x := i) (y := on) (z := pq) (i + 1) ((on.set i o)) ((_, _)) ⟨by omega, by rw [List.length_set]; exact hinv.2⟩ (by omega) ⟨rfl, rfl, rfl, rfl, rfl, rfl, rfl, trivial⟩ (fun _ h => h)
       ·
        refine RV.s (Step.pick_f rfl rfl) rfl (RV.a rfl rfl ?_)
        refine RV.nil (KV.then_n (KV.e8 0 1 7 8 10 20 21 22 (CV.region ?_)))
        refine RV.m rfl rfl (RV.m rfl rfl ?_)
        refine KV.cases 64 rfl (fun cc13 => ?_) (fun cc13 => ?_)
        ·
         refine RV.k rfl rfl (RV.k rfl rfl (RV.k rfl rfl (RV.s (Step.pick_t rfl rfl) rfl (RV.a rfl rfl ?_))))
         refine RV.nil (KV.block_n (KV.then_n (KV.e7 0 1 7 8 20 21 22 (CV.region ?_))))
         (first | refine RV.op (OV.step gno (Step.add rfl rfl (wI64 (by omega) (by omega))) rfl ?_) | refine RV.op (OV.step gno (Step.add rfl rfl rfl) rfl ?_))
         refine RV.m rfl rfl ?_
         refine RV.nil (KV.then_n (KV.e7 0 1 7 8 20 21 22 ?_))
         refine KV.sel [0, 0, 0] [_, _, _] rfl ?_
         exact KV.loop3 (x := i) (y := on) (z := pq) (i + 1) ((on.set i o)) ((_, _)) ⟨by omega, by rw [List.length_set]; exact hinv.2⟩ (by omega) ⟨rfl, rfl, rfl, rfl, rfl, rfl, rfl, trivial⟩ (fun _ h => h)
        ·
         refine RV.gw rfl (Step.fieldAddr rfl (F190_0 _ _)) rfl ?_
         (first | refine RV.op (OV.step (gyes rfl) (Step.load Tryz.underlying3 rfl rfl (fun w h => h.cell 0 rfl rfl)) rfl ?_) | refine RV.op (OV.step (gyes rfl) (Step.load Tryz.underlying3 rfl rfl (fun w h => h.cell 3 rfl rfl)) rfl ?_) | refine RV.op (OV.step (gyes rfl) (Step.load Tryz.underlying3 rfl rfl (fun w h => (h.os 1 rfl).cell (by first | omega | (simp only [List.length_set]; omega)) rfl)) rfl ?_) | refine RV.op (OV.step (gyes rfl) (Step.load Tryz.underlying3 rfl rfl (fun w h => (h.os 1 rfl).cell0 (by first | omega | (simp only [List.length_set]; omega)) rfl)) rfl ?_))
         refine RV.op (OV.split (gyes rfl) (Step.eql rfl rfl) rfl (fun cc14 => ?_) (fun cc14 => ?_))
         ·
          refine RV.s (Step.pick_f rfl rfl) rfl (RV.a rfl rfl ?_)
          refine RV.nil (KV.block_n (KV.then_n (KV.e7 0 1 7 8 20 21 22 (CV.region ?_))))
          (first | refine RV.op (OV.step gno (Step.add rfl rfl (wI64 (by omega) (by omega))) rfl ?_) | refine RV.op (OV.step gno (Step.add rfl rfl rfl) rfl ?_))
          refine RV.m rfl rfl ?_
          refine RV.nil (KV.then_n (KV.e7 0 1 7 8 20 21 22 ?_))
          refine KV.sel [0, 0, 0] [_, _, _] rfl ?_
          exact KV.loop3 (x := i) (y := on) (z := pq) (i + 1) ((on.set i o)) ((_, _)) ⟨by omega, by rw [List.length_set]; exact hinv.2⟩ (by omega) ⟨rfl, rfl, rfl, rfl, rfl, rfl, rfl, trivial⟩ (fun _ h => h)
         ·
          refine RV.s (Step.pick_f rfl rfl) rfl (RV.a rfl rfl ?_)
          refine RV.nil (KV.block_n (KV.then_n (KV.e7 0 1 7 8 20 21 22 (CV.region ?_))))
          (first | refine RV.op (OV.step gno (Step.add rfl rfl (wI64 (by omega) (by omega))) rfl ?_) | refine RV.op (OV.step gno (Step.add rfl rfl rfl) rfl ?_))
          refine RV.m rfl rfl ?_
          refine RV.nil (KV.then_n (KV.e7 0 1 7 8 20 21 22 ?_))
          refine KV.sel [0, 0, 0] [_, _, _] rfl ?_
          exact KV.loop3 (x := i) (y := on) (z := pq) (i + 1) ((on.set i o)) ((_, _)) ⟨by omega, by rw [List.length_set]; exact hinv.2⟩ (by omega) ⟨rfl, rfl, rfl, rfl, rfl, rfl, rfl, trivial⟩ (fun _ h => h)
     ·
      refine CV.cond_f rfl (CV.skip (KV.block_n (KV.then_n (KV.e7 0 1 7 8 20 21 22 (CV.region ?_)))))
      (first | refine RV.op (OV.step gno (Step.add rfl rfl (wI64 (by omega) (by omega))) rfl ?_) | refine RV.op (OV.step gno (Step.add rfl rfl rfl) rfl ?_))
      refine RV.m rfl rfl ?_
      refine RV.nil (KV.then_n (KV.e7 0 1 7 8 20 21 22 ?_))
      refine KV.sel [0, 0, 0] [_, _, _] rfl ?_
      exact KV.loop3 (x := i) (y := on) (z := pq) (i + 1) ((on.set i o)) ((_, _)) ⟨by omega, by rw [List.length_set]; exact hinv.2⟩ (by omega) ⟨rfl, rfl, rfl, rfl, rfl, rfl, rfl, trivial⟩ (fun _ h => h)
   ·
    refine RV.nil (KV.then_n (KV.e8 0 1 7 8 20 21 22 23 (CV.seq (CV.cond_f rfl (CV.exit ?_)))))
    refine KV.then_exit (KV.then_exit (KV.block_hit (KV.then_n (KV.e3 0 7 8 (CV.seq ?_)))))
    refine CV.seq (CV.region ?_)
    refine RV.m rfl rfl ?_
    refine RV.nil (KV.then_n (KV.e3 0 8 70 ?_))
    refine KV.cases 70 rfl (fun cc15 => ?_) (fun cc15 => ?_)
    ·
     refine CV.cond_t rfl ?_
     refine CV.stillTail 11 (by kernel_rfl) (by kernel_rfl) (fun _ h => h.drew) ?_
     refine SV.step gno (Step.move rfl) rfl ?_
     refine SV.step gno (Step.move rfl) rfl ?_
     refine SV.step gno (Step.nilCheck rfl) rfl ?_
     refine SV.step gno (Step.fieldAddr rfl (F217_3 _ _)) rfl ?_
     (first | refine SV.step gno (Step.load Tryz.underlying3 rfl rfl (fun w h => h.cell 0 rfl rfl)) rfl ?_ | refine SV.step gno (Step.load Tryz.underlying3 rfl rfl (fun w h => (h.os 1 rfl).cell (by first | omega | (simp only [List.length_set]; omega)) rfl)) rfl ?_ | refine SV.step gno (Step.load Tryz.underlying3 rfl rfl (fun w h => (h.os 1 rfl).cell0 (by first | omega | (simp only [List.length_set]; omega)) rfl)) rfl ?_)
     (first | refine SV.step gno (Step.add rfl rfl (wI64 (by omega) (by omega))) rfl ?_ | refine SV.step gno (Step.add rfl rfl rfl) rfl ?_)
     refine SV.step gno (Step.move rfl) rfl ?_
     refine SV.step gno (Step.nilCheck rfl) rfl ?_
     refine SV.step gno (Step.fieldAddr rfl (F217_2 _ _)) rfl ?_
     (first | refine SV.step gno (Step.load Tryz.underlying3 rfl rfl (fun w h => h.cell 0 rfl rfl)) rfl ?_ | refine SV.step gno (Step.load Tryz.underlying3 rfl rfl (fun w h => (h.os 1 rfl).cell (by first | omega | (simp only [List.length_set]; omega)) rfl)) rfl ?_ | refine SV.step gno (Step.load Tryz.underlying3 rfl rfl (fun w h => (h.os 1 rfl).cell0 (by first | omega | (simp only [List.length_set]; omega)) rfl)) rfl ?_)
     refine SV.step gno (Step.min2 rfl rfl) rfl ?_
     refine SV.nil ?_
     show KV _ (wpList _ _ _ _) _ _
     refine RV.s (Step.nilCheck rfl) rfl (RV.s (Step.fieldAddr rfl (F217_3 _ _)) rfl ?_)
     refine RV.op (OV.store 0 [_] #[_, _, _, _] I3 rfl rfl rfl rfl rfl (Nat.le_of_ble_eq_true rfl) (by simp [Value.oneCell']) rfl gno ?_)
     refine RV.nil (KV.then_n (KV.e2 0 8 (CV.seq (CV.region ?_))))
     refine RV.m rfl rfl (RV.s (Step.nilCheck rfl) rfl (RV.s (Step.fieldAddr rfl (F217_3 _ _)) rfl ?_))
     (first | refine RV.op (OV.step gno (Step.load Tryz.underlying3 rfl rfl (fun w h => h.cell 0 rfl rfl)) rfl ?_) | refine RV.op (OV.step gno (Step.load Tryz.underlying3 rfl rfl (fun w h => (h.os 1 rfl).cell (by first | omega | (simp only [List.length_set]; omega)) rfl)) rfl ?_) | refine RV.op (OV.step gno (Step.load Tryz.underlying3 rfl rfl (fun w h => (h.os 1 rfl).cell0 (by first | omega | (simp only [List.length_set]; omega)) rfl)) rfl ?_))
     refine RV.m rfl rfl (RV.a rfl rfl (RV.a rfl rfl (RV.a rfl rfl ?_)))
     refine RV.nil (KV.then_n (KV.e3 4 5 6 (CV.ret ?_)))
     refine KV.sel [0, 0, 0] [_, _, _] rfl ?_
     first | exact KV.ret3 rfl rfl rfl rfl _ (fun _ h => h) ⟨⟨z.tr, on, z.lv, min (z.at_ + 1) z.lv⟩, ⟨rfl, rfl, hinv.2.trans hz.l.symm, by show 0 ≤ min (z.at_ + 1) z.lv; omega, by show min (z.at_ + 1) z.lv ≤ z.lv; omega⟩, rfl⟩ | exact KV.ret3 rfl rfl rfl rfl _ (fun _ h => h) ⟨⟨z.tr, on, z.lv, max (z.at_ - 1) 0⟩, ⟨rfl, rfl, hinv.2.trans hz.l.symm, by show 0 ≤ max (z.at_ - 1) 0; omega, by show max (z.at_ - 1) 0 ≤ z.lv; omega⟩, rfl⟩
    ·
     refine CV.cond_f rfl (CV.region ?_)
     refine RV.m rfl rfl (RV.m rfl rfl (RV.s (Step.nilCheck rfl) rfl (RV.s (Step.fieldAddr rfl (F217_3 _ _)) rfl ?_)))
     (first | refine RV.op (OV.step gno (Step.load Tryz.underlying3 rfl rfl (fun w h => h.cell 0 rfl rfl)) rfl ?_) | refine RV.op (OV.step gno (Step.load Tryz.underlying3 rfl rfl (fun w h => (h.os 1 rfl).cell (by first | omega | (simp only [List.length_set]; omega)) rfl)) rfl ?_) | refine RV.op (OV.step gno (Step.load Tryz.underlying3 rfl rfl (fun w h => (h.os 1 rfl).cell0 (by first | omega | (simp only [List.length_set]; omega)) rfl)) rfl ?_))
     (first | refine RV.op (OV.step gno (Step.sub rfl rfl (wI64 (by omega) (by omega))) rfl ?_) | refine RV.op (OV.step gno (Step.sub rfl rfl rfl) rfl ?_))
     refine RV.s (Step.max2 rfl rfl) rfl (RV.s (Step.nilCheck rfl) rfl (RV.s (Step.fieldAddr rfl (F217_3 _ _)) rfl ?_))
     refine RV.op (OV.store 0 [_] #[_, _, _, _] I3 rfl rfl rfl rfl rfl (Nat.le_of_ble_eq_true rfl) (by simp [Value.oneCell']) rfl gno ?_)
     refine RV.nil (KV.then_n (KV.e2 0 8 (CV.seq (CV.region ?_))))
     refine RV.m rfl rfl (RV.s (Step.nilCheck rfl) rfl (RV.s (Step.fieldAddr rfl (F217_3 _ _)) rfl ?_))
     (first | refine RV.op (OV.step gno (Step.load Tryz.underlying3 rfl rfl (fun w h => h.cell 0 rfl rfl)) rfl ?_) | refine RV.op (OV.step gno (Step.load Tryz.underlying3 rfl rfl (fun w h => (h.os 1 rfl).cell (by first | omega | (simp only [List.length_set]; omega)) rfl)) rfl ?_) | refine RV.op (OV.step gno (Step.load Tryz.underlying3 rfl rfl (fun w h => (h.os 1 rfl).cell0 (by first | omega | (simp only [List.length_set]; omega)) rfl)) rfl ?_))
     refine RV.m rfl rfl (RV.a rfl rfl (RV.a rfl rfl (RV.a rfl rfl ?_)))
     refine RV.nil (KV.then_n (KV.e3 4 5 6 (CV.ret ?_)))
     refine KV.sel [0, 0, 0] [_, _, _] rfl ?_
     first | exact KV.ret3 rfl rfl rfl rfl _ (fun _ h => h) ⟨⟨z.tr, on, z.lv, min (z.at_ + 1) z.lv⟩, ⟨rfl, rfl, hinv.2.trans hz.l.symm, by show 0 ≤ min (z.at_ + 1) z.lv; omega, by show min (z.at_ + 1) z.lv ≤ z.lv; omega⟩, rfl⟩ | exact KV.ret3 rfl rfl rfl rfl _ (fun _ h => h) ⟨⟨z.tr, on, z.lv, max (z.at_ - 1) 0⟩, ⟨rfl, rfl, hinv.2.trans hz.l.symm, by show 0 ≤ max (z.at_ - 1) 0; omega, by show max (z.at_ - 1) 0 ≤ z.lv; omega⟩, rfl⟩

set_option maxRecDepth 100000 in
set_option maxHeartbeats 1000000 in
theorem validActors_fn {A : Option Addr} {n c : Nat} {al : List Ctl.Act} {w : World} (hr : RS w acK A al) (hn : n = al.length) (hl : al.length ≤ 1000000) (hA : AsOk al) : Fx Tryz.prog 116 [.slice A n c] w [] no (fun v L => v = .bool true ∧ L = []) := by
 subst hn
 refine Sv.Fx.body Tryz.func116 rfl T116 rfl ?_
 intro I hro hI
 refine KV.e1 0 ?_
 have hA1 := hA.n
 refine CV.seq (CV.region ?_)
 refine RV.a rfl rfl ?_
 refine RV.nil (KV.then_n (KV.e1 0 (CV.seq (CV.seq (CV.region ?_)))))
 refine RV.m rfl rfl (RV.s (Step.lenSl Tryz.underlying207 rfl) rfl ?_)
 refine RV.op (OV.split gno (Step.gtr rfl rfl) rfl (fun e1 => ?_) (fun e1 => ?_))
 ·
  exfalso; omega
 ·
  refine RV.nil (KV.then_n (KV.e2 0 7 (CV.cond_f rfl (CV.skip (KV.then_n ?_)))))
  refine KV.e1 0 (CV.seq (CV.seq (CV.region ?_)))
  refine RV.m rfl rfl (RV.s (Step.lenSl Tryz.underlying207 rfl) rfl (RV.m rfl rfl ?_))
  refine RV.nil (KV.then_n (KV.e3 8 9 10 (CV.block ?_)))
  refine KV.sel [] [] rfl ?_
  refine CV.loopI (fun (j : Nat) => j ≤ al.length) (fun (j : Nat) => al.length - j) (fun (j : Nat) => [(8, .slice A al.length c), (9, .int .i64 al.length), (10, .int .i64 j)]) (fun (j : Nat) => Hp I w []) (0) (Nat.zero_le _) ⟨rfl, rfl, rfl, trivial⟩ (fun _ h => h) ?_
  intro j hinv
  refine CV.seq (CV.region ?_)
  refine RV.op (OV.split gno (Step.lss rfl rfl) rfl (fun cc1 => ?_) (fun cc1 => ?_))
  ·
   refine RV.nil (KV.then_n (KV.e4 8 9 10 11 (CV.seq (CV.cond_t rfl (CV.skip ?_)))))
   refine KV.then_n (KV.e3 8 9 10 (CV.seq (CV.block (CV.seq (CV.region ?_)))))
   refine RV.s (Step.idx Tryz.underlying207 I211 (fun w h => h.rs hr (fun _ => hI _)) rfl rfl (rfl) _ rfl (by omega)) rfl ?_
   refine RV.s (Step.loadN _ Tryz.underlying211 rfl I211 rfl rfl (fun w h => (h.rs hr (fun _ => hI _)).cells (by omega))) rfl ?_
   refine RV.op (OV.alloc #[.int .u64 0, .int .u64 0, .int .u64 0] I211 rfl gno rfl (fun b5_2 => ?_))
   refine RV.op (OV.store 0 [_, _, _] #[_, _, _] I211 rfl rfl rfl rfl rfl (Nat.le_of_ble_eq_true rfl) (by simp [Value.oneCell']) rfl gno ?_)
   refine RV.nil (KV.then_n (KV.e4 4 8 9 10 (CV.seq ?_)))
   have hat := hA.at (i := j) (by omega)
   refine CV.region ?_
   refine RV.s (Step.fieldAddr rfl (F211_1 _ _)) rfl ?_
   (first | refine RV.op (OV.step gno (Step.load Tryz.underlying24 rfl rfl (fun w h => h.cell 0 rfl rfl)) rfl ?_) | refine RV.op (OV.step gno (Step.load Tryz.underlying24 rfl rfl (fun w h => (h.rs hr (fun _ => hI _)).cell (by omega) rfl)) rfl ?_) | refine RV.op (OV.step gno (Step.load Tryz.underlying24 rfl rfl (fun w h => (h.rs hr (fun _ => hI _)).cell0 (by omega) rfl)) rfl ?_))
   refine RV.s (Step.fieldAddr rfl (F211_2 _ _)) rfl ?_
   (first | refine RV.op (OV.step gno (Step.load Tryz.underlying24 rfl rfl (fun w h => h.cell 0 rfl rfl)) rfl ?_) | refine RV.op (OV.step gno (Step.load Tryz.underlying24 rfl rfl (fun w h => (h.rs hr (fun _ => hI _)).cell (by omega) rfl)) rfl ?_) | refine RV.op (OV.step gno (Step.load Tryz.underlying24 rfl rfl (fun w h => (h.rs hr (fun _ => hI _)).cell0 (by omega) rfl)) rfl ?_))
   refine RV.op (OV.split gno (Step.gtr rfl rfl) rfl (fun e2 => ?_) (fun e2 => ?_))
   ·
    exfalso; omega
   ·
    refine RV.m rfl rfl (RV.gw rfl (Step.fieldAddr rfl (F211_2 _ _)) rfl ?_)
    (first | refine RV.op (OV.step (gyes rfl) (Step.load Tryz.underlying24 rfl rfl (fun w h => h.cell 0 rfl rfl)) rfl ?_) | refine RV.op (OV.step (gyes rfl) (Step.load Tryz.underlying24 rfl rfl (fun w h => (h.rs hr (fun _ => hI _)).cell (by omega) rfl)) rfl ?_) | refine RV.op (OV.step (gyes rfl) (Step.load Tryz.underlying24 rfl rfl (fun w h => (h.rs hr (fun _ => hI _)).cell0 (by omega) rfl)) rfl ?_))
    refine RV.op (OV.split (gyes rfl) (Step.gtr rfl rfl) rfl (fun e3 => ?_) (fun e3 => ?_))
    ·
     exfalso; omega
    ·
     refine RV.s (Step.pick_f rfl rfl) rfl ?_
     refine RV.nil (KV.then_n (KV.e4 8 9 10 23 (CV.cond_f rfl (CV.skip (KV.block_n ?_)))))
     refine KV.then_n (KV.e3 8 9 10 (CV.region ?_))
     (first | refine RV.op (OV.step gno (Step.add rfl rfl (wI64 (by omega) (by omega))) rfl ?_) | refine RV.op (OV.step gno (Step.add rfl rfl rfl) rfl ?_))
     refine RV.m rfl rfl ?_
     refine RV.nil (KV.then_n (KV.e3 8 9 10 ?_))
     refine KV.sel [] [] rfl ?_
     exact KV.loopI (z := j) (j + 1) (by omega) (by omega) ⟨rfl, rfl, rfl, trivial⟩ (fun _ h => h)
  ·
   refine RV.nil (KV.then_n (KV.e4 8 9 10 11 (CV.seq (CV.cond_f rfl (CV.exit ?_)))))
   refine KV.then_exit (KV.then_exit (KV.block_hit (KV.then_n (KV.env [] trivial (CV.seq ?_)))))
   refine CV.region ?_
   refine RV.a rfl rfl ?_
   refine RV.nil (KV.then_n (KV.e1 2 (CV.ret ?_)))
   refine KV.sel [] [] rfl ?_
   exact KV.ret1 rfl rfl _ (fun _ h => h) ⟨rfl, rfl⟩

set_option maxRecDepth 100000 in
set_option maxHeartbeats 1000000 in
theorem want_fn (a : Ctl.Act) {w : World} : Fx Tryz.prog 119 [.agg #[.int .u64 a.rq, .int .u64 a.mn, .int .u64 a.mx]] w [] no (fun v L => v = .int .u64 (wnt a) ∧ L = []) := by
 refine Sv.Fx.body Tryz.func119 rfl T119 rfl ?_
 intro I hro hI
 refine KV.e1 0 (CV.seq (CV.region ?_))
 refine RV.op (OV.box (t := 211) #[_, _, _] rfl rfl gno rfl (fun b0_0 => ?_))
 refine RV.a rfl rfl ?_
 refine RV.nil (KV.then_n (KV.e1 1 (CV.seq (CV.region ?_))))
 refine RV.s (Step.fieldAddr rfl (F211_0 _ _)) rfl (RV.s (Step.load Tryz.underlying24 rfl rfl (fun w h => h.cell 0 rfl rfl)) rfl (RV.s (Step.fieldAddr rfl (F211_1 _ _)) rfl (RV.s (Step.load Tryz.underlying24 rfl rfl (fun w h => h.cell 0 rfl rfl)) rfl (RV.s (Step.max2 rfl rfl) rfl (RV.s (Step.fieldAddr rfl (F211_2 _ _)) rfl (RV.s (Step.load Tryz.underlying24 rfl rfl (fun w h => h.cell 0 rfl rfl)) rfl (RV.s (Step.min2 rfl rfl) rfl ?_)))))))
 refine RV.a rfl rfl ?_
 refine RV.nil (KV.then_n (KV.e1 2 (CV.ret ?_)))
 refine KV.sel [] [] rfl ?_
 exact KV.ret1 rfl rfl _ (fun _ h => h) ⟨rfl, rfl⟩

set_option maxRecDepth 100000 in
set_option maxHeartbeats 1000000 in
theorem at_fn (a : Ctl.Act) (l : Int) {w : World} : Fx Tryz.prog 118 [.agg #[.int .u64 a.rq, .int .u64 a.mn, .int .u64 a.mx], .int .u64 l] w [] no (fun v L => v = .int .u64 (atM a l) ∧ L = []) := by
 refine Sv.Fx.body Tryz.func118 rfl T118 rfl ?_
 intro I hro hI
 refine KV.e2 0 1 (CV.seq (CV.region ?_))
 refine RV.op (OV.box (t := 211) #[_, _, _] rfl rfl gno rfl (fun b0_0 => ?_))
 refine RV.a rfl rfl ?_
 refine RV.nil (KV.then_n (KV.e2 1 2 (CV.seq ?_)))
 refine CV.any (Hp I w [Blk b0_0 (.cells #[.int .u64 a.rq, .int .u64 a.mn, .int .u64 a.mx] 211 (0, 0))]) (by kernel_rfl) (fun _ h => h.drew) 8 rfl ?_
 refine AV.u 0 (bl 8 1) rfl gno (Step.move rfl) rfl (fun _ h => h.sel [0] rfl) ?_
 refine AV.u 1 (bl 8 3) rfl gno (Step.fieldAddr rfl (F211_1 _ _)) rfl (fun _ h => h.sel [0] rfl) ?_
 refine AV.u 2 (bl 8 7) rfl gno (Step.load Tryz.underlying24 rfl rfl (fun w h => h.cell 0 rfl rfl)) rfl (fun _ h => h.sel [0] rfl) ?_
 refine AV.u 3 (bl 8 15) rfl gno (Step.max2 rfl rfl) rfl (fun _ h => h.sel [0] rfl) ?_
 refine AV.u 4 (bl 8 31) rfl gno (Step.loadN _ Tryz.underlying211 rfl I211 rfl rfl (fun w h => h.cells 0 rfl)) rfl (fun _ h => h.sel [0] rfl) ?_
 refine AV.all [5] (by kernel_rfl) (by decide) ?_
 refine ⟨⟨_, rfl, ?_⟩, trivial⟩
 ·
  refine OV.call [] (F := [_]) Tryz.func119 B119 N119 rfl rfl (fun w h => want_fn a) (fun _ hb => hb.elim) gno rfl (fun v L' hp => ?_)
  obtain ⟨rfl, rfl⟩ := hp
  simp only [List.append_nil]
  refine AV.next (bl 8 63) (by kernel_rfl) (fun _ h => h.sel [0] rfl) ?_
  refine AV.u 6 (bl 8 127) rfl gno (Step.min2 rfl rfl) rfl (fun _ h => h.sel [0] rfl) ?_
  refine AV.u 7 (bl 8 255) rfl gno (Step.assign rfl) rfl (fun _ h => h.sel [0] rfl) ?_
  refine AV.done (by kernel_rfl) ?_
  refine KV.then_n (KV.e1 4 (CV.ret ?_))
  refine KV.sel [] [] rfl ?_
  exact KV.ret1 rfl rfl _ (fun _ h => h) ⟨rfl, rfl⟩

set_option maxRecDepth 100000 in
set_option maxHeartbeats 1000000 in
theorem total_fn {A : Option Addr} {n c : Nat} {al : List Ctl.Act} {w : World} (hr : RS w acK A al) (hn : n = al.length) (hl : al.length ≤ 1000000) (hA : AsOk al) (l : Int) (h0 : 0 ≤ l) : Fx Tryz.prog 117 [.slice A n c, .int .u64 l] w [] no (fun v L => v = .int .u64 (tot al l) ∧ L = []) := by
 subst hn
 refine Sv.Fx.body Tryz.func117 rfl T117 rfl ?_
 intro I hro hI
 refine KV.e2 0 1 ?_
 have hA1 := hA.n
 refine CV.seq (CV.region ?_)
 refine RV.a rfl rfl ?_
 refine RV.nil (KV.then_n (KV.e2 0 1 (CV.seq (CV.region ?_))))
 refine RV.a rfl rfl ?_
 refine RV.nil (KV.then_n (KV.e3 0 1 5 (CV.seq (CV.seq (CV.region ?_)))))
 refine RV.m rfl rfl (RV.s (Step.lenSl Tryz.underlying207 rfl) rfl (RV.m rfl rfl ?_))
 refine RV.nil (KV.then_n (KV.e5 1 5 8 9 10 (CV.block ?_)))
 refine KV.sel [] [] rfl ?_
 refine CV.loopI (fun (j : Nat) => j ≤ al.length) (fun (j : Nat) => al.length - j) (fun (j : Nat) => [(1, .int .u64 l), (5, .int .u64 (totK al l j)), (8, .slice A al.length c), (9, .int .i64 al.length), (10, .int .i64 j)]) (fun (j : Nat) => Hp I w []) (0) (Nat.zero_le _) ⟨rfl, rfl, rfl, rfl, rfl, trivial⟩ (fun _ h => h) ?_
 intro j hinv
 refine CV.seq (CV.region ?_)
 refine RV.op (OV.split gno (Step.lss rfl rfl) rfl (fun cc1 => ?_) (fun cc1 => ?_))
 ·
  refine RV.nil (KV.then_n (KV.e6 1 5 8 9 10 11 (CV.seq (CV.cond_t rfl (CV.skip ?_)))))
  refine KV.then_n (KV.e5 1 5 8 9 10 (CV.seq (CV.block (CV.seq (CV.region ?_)))))
  refine RV.s (Step.idx Tryz.underlying207 I211 (fun w h => h.rs hr (fun _ => hI _)) rfl rfl (rfl) _ rfl (by omega)) rfl ?_
  refine RV.s (Step.loadN _ Tryz.underlying211 rfl I211 rfl rfl (fun w h => (h.rs hr (fun _ => hI _)).cells (by omega))) rfl ?_
  refine RV.op (OV.alloc #[.int .u64 0, .int .u64 0, .int .u64 0] I211 rfl gno rfl (fun b4_2 => ?_))
  refine RV.op (OV.store 0 [_, _, _] #[_, _, _] I211 rfl rfl rfl rfl rfl (Nat.le_of_ble_eq_true rfl) (by simp [Value.oneCell']) rfl gno ?_)
  refine RV.nil (KV.then_n (KV.e6 1 5 7 8 9 10 ?_))
  have htb := hA.tot h0 (k := j) (by omega)
  have hab := hA.atb h0 (i := j) (by omega)
  refine CV.region ?_
  refine RV.m rfl rfl (RV.s (Step.loadN _ Tryz.underlying211 rfl I211 rfl rfl (fun w h => h.cells 0 rfl)) rfl (RV.m rfl rfl ?_))
  refine RV.op (OV.call [] (F := [_]) Tryz.func118 B118 N118 rfl rfl (fun w h => at_fn (al.getD j acK.d) l) (fun _ hb => hb.elim) gno rfl (fun v L' hp => ?_))
  obtain ⟨rfl, rfl⟩ := hp
  simp only [List.append_nil]
  (first | refine RV.op (OV.step gno (Step.add rfl rfl (wU64 (by omega) (by omega))) rfl ?_) | refine RV.op (OV.step gno (Step.add rfl rfl rfl) rfl ?_))
  refine RV.a rfl rfl ?_
  refine RV.nil (KV.block_n (KV.then_n (KV.e5 1 5 8 9 10 (CV.region ?_))))
  (first | refine RV.op (OV.step gno (Step.add rfl rfl (wI64 (by omega) (by omega))) rfl ?_) | refine RV.op (OV.step gno (Step.add rfl rfl rfl) rfl ?_))
  refine RV.m rfl rfl ?_
  refine RV.nil (KV.then_n (KV.e5 1 5 8 9 10 ?_))
  refine KV.sel [] [] rfl ?_
  exact KV.loopI (z := j) (j + 1) (by omega) (by omega) ⟨rfl, rfl, rfl, rfl, rfl, trivial⟩ (fun _ h => h)
 ·
  refine RV.nil (KV.then_n (KV.e6 1 5 8 9 10 11 (CV.seq (CV.cond_f rfl (CV.exit ?_)))))
  refine KV.then_exit (KV.then_exit (KV.block_hit (KV.then_n (KV.e1 5 (CV.seq ?_)))))
  obtain rfl : j = al.length := by omega
  refine CV.region ?_
  refine RV.m rfl rfl (RV.a rfl rfl ?_)
  refine RV.nil (KV.then_n (KV.e1 4 (CV.ret ?_)))
  refine KV.sel [] [] rfl ?_
  exact KV.ret1 rfl rfl _ (fun _ h => h) ⟨rfl, rfl⟩

set_option maxRecDepth 100000 in
set_option maxHeartbeats 1000000 in
theorem allocate_fn {A : Option Addr} {n c : Nat} {al : List Ctl.Act} {w : World} (hr : RS w acK A al) (hn : n = al.length) (hl : al.length ≤ 1000000) (hA : AsOk al) (b : Int) (hb0 : tot al 0 ≤ b) (hb1 : b ≤ 4294967296) : Fx Tryz.prog 84 [.int .u64 b, .slice A n c] w [] no (fun v L => ∃ A2 c2 g, v = .tuple #[.slice A2 al.length c2, .int .i64 0] ∧ Alc al b g ∧ L = [OS 24 (intK .u64) A2 c2 g]) := by
 subst hn
 refine Sv.Fx.body Tryz.func84 rfl T84 rfl ?_
 intro I hro hI
 refine KV.e2 0 1 ?_
 have hA1 := hA.n
 have ht0 := hA.tot (l := 0) (by omega) (Nat.le_refl al.length)
 rw [tot_def] at ht0
 refine CV.seq (CV.region ?_)
 refine RV.a rfl rfl (RV.a rfl rfl ?_)
 refine RV.nil (KV.then_n (KV.e2 0 1 (CV.seq (CV.seq (CV.region ?_)))))
 refine RV.m rfl rfl ?_
 refine RV.op (OV.call [] (F := []) Tryz.func116 B116 N116 rfl rfl (fun w h => validActors_fn (h.rs hr (fun _ => hI _)) rfl hl hA) (fun _ hb => hb.elim) gno rfl (fun v L' hp => ?_))
 obtain ⟨rfl, rfl⟩ := hp
 simp only [List.append_nil]
 refine RV.s (Step.not rfl) rfl ?_
 refine RV.nil (KV.then_n (KV.e3 0 1 16 (CV.cond_f rfl (CV.skip (KV.then_n ?_)))))
 refine KV.e2 0 1 (CV.seq (CV.seq (CV.region ?_)))
 refine RV.m rfl rfl ?_
 refine RV.op (OV.call [] (F := []) Tryz.func117 B117 N117 rfl rfl (fun w h => total_fn (h.rs hr (fun _ => hI _)) rfl hl hA 0 (by omega)) (fun _ hb => hb.elim) gno rfl (fun v L' hp => ?_))
 obtain ⟨rfl, rfl⟩ := hp
 simp only [List.append_nil]
 refine RV.m rfl rfl ?_
 refine RV.op (OV.split gno (Step.gtr rfl rfl) rfl (fun e3 => ?_) (fun e3 => ?_))
 ·
  exfalso; omega
 ·
  refine RV.nil (KV.then_n (KV.e3 0 1 20 (CV.cond_f rfl (CV.skip (KV.then_n ?_)))))
  refine KV.e2 0 1 (CV.seq (CV.region ?_))
  refine RV.a rfl rfl ?_
  refine RV.nil (KV.then_n (KV.e3 0 1 6 ?_))
  refine CV.join (fun (lv : {x : Int // (0 ≤ x ∧ x ≤ 4294967296) ∧ tot al x ≤ b ∧ (tot al 4294967296 ≤ b → x = 4294967296)}) => [(0, .int .u64 b), (1, .slice A al.length c), (6, .int .u64 lv.1)]) (fun (lv : {x : Int // (0 ≤ x ∧ x ≤ 4294967296) ∧ tot al x ≤ b ∧ (tot al 4294967296 ≤ b → x = 4294967296)}) => Hp I w []) ?_ ?_
  ·
   skip
   refine CV.seq (CV.region ?_)
   refine RV.m rfl rfl (RV.m rfl rfl ?_)
   refine RV.op (OV.call [] (F := []) Tryz.func117 B117 N117 rfl rfl (fun w h => total_fn (h.rs hr (fun _ => hI _)) rfl hl hA 4294967296 (by omega)) (fun _ hb => hb.elim) gno rfl (fun v L' hp => ?_))
   obtain ⟨rfl, rfl⟩ := hp
   simp only [List.append_nil]
   refine RV.m rfl rfl ?_
   refine RV.op (OV.split gno (Step.gtr rfl rfl) rfl (fun hbig => ?_) (fun hbig => ?_))
   ·
    refine RV.nil (KV.then_n (KV.e4 0 1 6 25 (CV.cond_t rfl (CV.seq (CV.region ?_)))))
    refine RV.m rfl rfl (RV.a rfl rfl (RV.a rfl rfl ?_))
    refine RV.nil (KV.then_n (KV.e4 0 1 7 8 (CV.seq (CV.block ?_))))
    refine KV.sel [] [] rfl ?_
    refine CV.loop2 (fun (low : Int) (high : Int) => (0 ≤ low ∧ low < high ∧ high ≤ 4294967296) ∧ tot al low ≤ b ∧ ¬ tot al high ≤ b) (fun (low : Int) (high : Int) => (high - low).toNat) (fun (low : Int) (high : Int) => [(0, .int .u64 b), (1, .slice A al.length c), (7, .int .u64 low), (8, .int .u64 high)]) (fun (low : Int) (high : Int) => Hp I w []) (0) (4294967296) ⟨⟨by decide, by decide, by decide⟩, hb0, by omega⟩ ⟨rfl, rfl, rfl, rfl, trivial⟩ (fun _ h => h) ?_
    intro low high hinv
    refine CV.seq (CV.seq (CV.region ?_))
    refine RV.m rfl rfl (RV.m rfl rfl ?_)
    (first | refine RV.op (OV.step gno (Step.sub rfl rfl (wU64 (by omega) (by omega))) rfl ?_) | refine RV.op (OV.step gno (Step.sub rfl rfl rfl) rfl ?_))
    refine RV.op (OV.split gno (Step.gtr rfl rfl) rfl (fun cc1 => ?_) (fun cc1 => ?_))
    ·
     refine RV.nil (KV.then_n (KV.e5 0 1 7 8 30 (CV.cond_t rfl (CV.skip (KV.then_n ?_)))))
     refine KV.e4 0 1 7 8 (CV.block (CV.seq (CV.region ?_)))
     refine RV.m rfl rfl (RV.m rfl rfl (RV.m rfl rfl ?_))
     (first | refine RV.op (OV.step gno (Step.sub rfl rfl (wU64 (by omega) (by omega))) rfl ?_) | refine RV.op (OV.step gno (Step.sub rfl rfl rfl) rfl ?_))
     refine RV.s (Step.quo rfl rfl (by omega) (half (by omega) (by omega))) rfl ?_
     (first | refine RV.op (OV.step gno (Step.add rfl rfl (wU64 (by omega) (by omega))) rfl ?_) | refine RV.op (OV.step gno (Step.add rfl rfl rfl) rfl ?_))
     refine RV.a rfl rfl ?_
     refine RV.nil (KV.then_n (KV.e5 0 1 7 8 9 (CV.seq (CV.region ?_))))
     refine RV.m rfl rfl (RV.m rfl rfl ?_)
     refine RV.op (OV.call [] (F := []) Tryz.func117 B117 N117 rfl rfl (fun w h => total_fn (h.rs hr (fun _ => hI _)) rfl hl hA (low + (high - low) / 2) (by omega)) (fun _ hb => hb.elim) gno rfl (fun v L' hp => ?_))
     obtain ⟨rfl, rfl⟩ := hp
     simp only [List.append_nil]
     refine RV.m rfl rfl ?_
     refine RV.op (OV.split gno (Step.leq rfl rfl) rfl (fun hmid => ?_) (fun hmid => ?_))
     ·
      refine RV.nil (KV.then_n (KV.e6 0 1 7 8 9 41 (CV.cond_t rfl (CV.region ?_))))
      refine RV.m rfl rfl (RV.a rfl rfl ?_)
      refine RV.nil (KV.block_n (KV.then_n (KV.e4 0 1 7 8 ?_)))
      refine KV.sel [] [] rfl ?_
      exact KV.loop2 (x := low) (y := high) (_) (_) ⟨by omega, by omega, by omega⟩ (by omega) ⟨rfl, rfl, rfl, rfl, trivial⟩ (fun _ h => h)
     ·
      refine RV.nil (KV.then_n (KV.e6 0 1 7 8 9 41 (CV.cond_f rfl (CV.region ?_))))
      refine RV.m rfl rfl (RV.a rfl rfl ?_)
      refine RV.nil (KV.block_n (KV.then_n (KV.e4 0 1 7 8 ?_)))
      refine KV.sel [] [] rfl ?_
      exact KV.loop2 (x := low) (y := high) (_) (_) ⟨by omega, by omega, by omega⟩ (by omega) ⟨rfl, rfl, rfl, rfl, trivial⟩ (fun _ h => h)
    ·
     refine RV.nil (KV.then_n (KV.e5 0 1 7 8 30 (CV.cond_f rfl (CV.exit (KV.then_exit ?_)))))
     refine KV.then_exit (KV.block_hit (KV.then_n (KV.e3 0 1 7 (CV.region ?_))))
     refine RV.m rfl rfl (RV.a rfl rfl ?_)
     refine RV.nil (KV.then_n (KV.e3 0 1 6 ?_))
     refine KV.sel [] [] rfl ?_
     (first | exact KV.join (⟨4294967296, ⟨by decide, by decide⟩, by omega, fun _ => rfl⟩) ⟨rfl, rfl, rfl, trivial⟩ (fun _ h => h) | exact KV.join (⟨low, ⟨by omega, by omega⟩, by omega, fun k => by omega⟩) ⟨rfl, rfl, rfl, trivial⟩ (fun _ h => h))
   ·
    refine RV.nil (KV.then_n (KV.e4 0 1 6 25 (CV.cond_f rfl (CV.skip (KV.then_n ?_)))))
    refine KV.e3 0 1 6 ?_
    refine KV.sel [] [] rfl ?_
    (first | exact KV.join (⟨4294967296, ⟨by decide, by decide⟩, by omega, fun _ => rfl⟩) ⟨rfl, rfl, rfl, trivial⟩ (fun _ h => h) | exact KV.join (⟨low, ⟨by omega, by omega⟩, by omega, fun k => by omega⟩) ⟨rfl, rfl, rfl, trivial⟩ (fun _ h => h))
  ·
   intro lv
   obtain ⟨lv, hlv, hlt, hlm⟩ := lv
   refine CV.seq ?_
   have htl := hA.tot hlv.1 (Nat.le_refl al.length)
   rw [tot_def] at htl
   refine CV.region ?_
   refine RV.m rfl rfl (RV.m rfl rfl (RV.m rfl rfl ?_))
   refine RV.op (OV.call [] (F := []) Tryz.func117 B117 N117 rfl rfl (fun w h => total_fn (h.rs hr (fun _ => hI _)) rfl hl hA lv (by exact hlv.1)) (fun _ hb => hb.elim) gno rfl (fun v L' hp => ?_))
   obtain ⟨rfl, rfl⟩ := hp
   simp only [List.append_nil]
   (first | refine RV.op (OV.step gno (Step.sub rfl rfl (wU64 (by omega) (by omega))) rfl ?_) | refine RV.op (OV.step gno (Step.sub rfl rfl rfl) rfl ?_))
   refine RV.a rfl rfl ?_
   refine RV.nil (KV.then_n (KV.e3 1 6 10 (CV.seq (CV.region ?_))))
   refine RV.m rfl rfl (RV.s (Step.lenSl Tryz.underlying207 rfl) rfl ?_)
   refine RV.op (OV.make (K := (intK .u64)) (al.length) (al.length) (0) Tryz.underlying85 I24 rfl rfl rfl rfl rfl (by omega) (by omega) (by omega) gno rfl (fun b15_2 => ?_))
   refine RV.a rfl rfl ?_
   refine RV.nil (KV.then_n (KV.e4 1 6 10 11 (CV.seq (CV.seq (CV.region ?_)))))
   refine RV.m rfl rfl (RV.s (Step.lenSl Tryz.underlying207 rfl) rfl (RV.m rfl rfl ?_))
   refine RV.nil (KV.then_n (KV.e6 6 10 11 53 54 55 (CV.block ?_)))
   refine KV.sel [0] [_] rfl ?_
   refine CV.loop3 (fun (k : Nat) (rest : Int) (g : List Int) => (k ≤ al.length ∧ rest ≤ 4294967296) ∧ AlcI al b lv g rest k) (fun (k : Nat) (rest : Int) (g : List Int) => al.length - k) (fun (k : Nat) (rest : Int) (g : List Int) => [(6, .int .u64 lv), (10, .int .u64 rest), (11, .slice b15_2 al.length al.length), (53, .slice A al.length c), (54, .int .i64 al.length), (55, .int .i64 k)]) (fun (k : Nat) (rest : Int) (g : List Int) => Hp I w [OS 24 (intK .u64) b15_2 al.length g]) (0) ((b - tot al lv)) ((List.replicate al.length 0)) ⟨⟨Nat.zero_le _, by omega⟩, AlcI.start hlt hlm⟩ ⟨rfl, rfl, rfl, rfl, rfl, rfl, trivial⟩ (fun _ h => h) ?_
   intro k rest g hinv2
   refine CV.seq (CV.region ?_)
   refine RV.op (OV.split gno (Step.lss rfl rfl) rfl (fun cc2 => ?_) (fun cc2 => ?_))
   ·
    refine RV.nil (KV.then_n (KV.e7 6 10 11 53 54 55 56 (CV.seq (CV.cond_t rfl (CV.skip ?_)))))
    refine KV.then_n (KV.e6 6 10 11 53 54 55 (CV.seq (CV.block (CV.seq (CV.region ?_)))))
    refine RV.m rfl rfl ?_
    refine RV.op (OV.step gno (Step.idx Tryz.underlying207 I211 (fun w h => h.rs hr (fun _ => hI _)) rfl rfl (by first | rfl | exact hgl.symm | (simp only [List.length_set]; exact hgl.symm)) _ rfl (by first | omega | (simp only [List.length_set]; omega))) rfl ?_)
    refine RV.s (Step.loadN _ Tryz.underlying211 rfl I211 rfl rfl (fun w h => (h.rs hr (fun _ => hI _)).cells (by omega))) rfl ?_
    refine RV.op (OV.alloc #[.int .u64 0, .int .u64 0, .int .u64 0] I211 rfl gno rfl (fun b18_3 => ?_))
    refine RV.a rfl rfl ?_
    refine RV.op (OV.store 1 [_, _, _] #[_, _, _] I211 rfl rfl rfl rfl rfl (Nat.le_of_ble_eq_true rfl) (by simp [Value.oneCell']) rfl gno ?_)
    refine RV.nil (KV.then_n (KV.e8 6 10 11 12 13 53 54 55 (CV.seq ?_)))
    have hab := hA.atb hlv.1 (i := k) (by omega)
    have hgl := hinv2.2.len
    refine CV.region ?_
    refine RV.m rfl rfl (RV.m rfl rfl (RV.s (Step.loadN _ Tryz.underlying211 rfl I211 rfl rfl (fun w h => h.cells 1 rfl)) rfl (RV.m rfl rfl ?_)))
    refine RV.op (OV.call [] (F := [_, _]) Tryz.func118 B118 N118 rfl rfl (fun w h => at_fn (al.getD k acK.d) lv) (fun _ hb => hb.elim) gno rfl (fun v L' hp => ?_))
    obtain ⟨rfl, rfl⟩ := hp
    simp only [List.append_nil]
    refine RV.op (OV.step gno (Step.idx Tryz.underlying85 I24 (fun w h => h.os 0 rfl) rfl rfl (by first | rfl | exact hgl.symm | (simp only [List.length_set]; exact hgl.symm)) _ rfl (by first | omega | (simp only [List.length_set]; omega))) rfl ?_)
    refine RV.op (OV.storeE 0 (k) ((atM (al.getD k acK.d) lv)) (j := 0) [_] I24 rfl rfl rfl rfl rfl rfl (by omega) rfl (Nat.le_of_ble_eq_true rfl) gno ?_)
    refine RV.nil (KV.then_n (KV.e8 6 10 11 12 13 53 54 55 (CV.seq ?_)))
    have hr0 := hinv2.2.r0
    have hr1 := hinv2.1.2
    refine CV.region ?_
    refine RV.m rfl rfl ?_
    refine RV.op (OV.split gno (Step.gtr rfl rfl) rfl (fun cc3 => ?_) (fun cc3 => ?_))
    ·
     refine RV.m rfl rfl (RV.gw rfl (Step.fieldAddr rfl (F211_1 _ _)) rfl ?_)
     (first | refine RV.op (OV.step (gyes rfl) (Step.load Tryz.underlying24 rfl rfl (fun w h => h.cell 1 rfl rfl)) rfl ?_) | refine RV.op (OV.step (gyes rfl) (Step.load Tryz.underlying24 rfl rfl (fun w h => (h.rs hr (fun _ => hI _)).cell (by first | omega | (simp only [List.length_set]; omega)) rfl)) rfl ?_) | refine RV.op (OV.step (gyes rfl) (Step.load Tryz.underlying24 rfl rfl (fun w h => (h.rs hr (fun _ => hI _)).cell0 (by first | omega | (simp only [List.length_set]; omega)) rfl)) rfl ?_))
     refine RV.gw rfl (Step.move rfl) rfl ?_
     refine RV.op (OV.split (gyes rfl) (Step.leq rfl rfl) rfl (fun cc4 => ?_) (fun cc4 => ?_))
     ·
      refine RV.s (Step.pick_t rfl rfl) rfl (RV.m rfl rfl (RV.gw rfl (Step.move rfl) rfl (RV.gw rfl (Step.loadN _ Tryz.underlying211 rfl I211 rfl rfl (fun w h => h.cells 1 rfl)) rfl ?_)))
      refine RV.op (OV.call [] (F := [_, _]) Tryz.func119 B119 N119 rfl rfl (fun w h => want_fn (al.getD k acK.d)) (fun _ hb => hb.elim) (gyes rfl) rfl (fun v L' hp => ?_))
      obtain ⟨rfl, rfl⟩ := hp
      simp only [List.append_nil]
      refine RV.op (OV.split (gyes rfl) (Step.lss rfl rfl) rfl (fun cc5 => ?_) (fun cc5 => ?_))
      ·
       refine RV.s (Step.pick_t rfl rfl) rfl ?_
       refine RV.nil (KV.then_n (KV.e8 6 10 11 12 53 54 55 79 (CV.cond_t rfl (CV.seq ?_))))
       have hge := alc_get (g := g) (k := k) (v := atM (al.getD k acK.d) lv) (by omega)
       refine CV.region ?_
       refine RV.m rfl rfl (RV.m rfl rfl ?_)
       refine RV.op (OV.step gno (Step.idx Tryz.underlying85 I24 (fun w h => h.os 0 rfl) rfl rfl (by first | rfl | exact hgl.symm | (simp only [List.length_set]; exact hgl.symm)) _ rfl (by first | omega | (simp only [List.length_set]; omega))) rfl ?_)
       refine RV.s (Step.load Tryz.underlying24 rfl rfl (fun w h => (h.os 0 rfl).cell0 (by simp only [List.length_set]; omega) rfl)) rfl ?_
       (first | refine RV.op (OV.step gno (Step.add rfl rfl (wU64 (by omega) (by omega))) rfl ?_) | refine RV.op (OV.step gno (Step.add rfl rfl rfl) rfl ?_))
       refine RV.op (OV.step gno (Step.idx Tryz.underlying85 I24 (fun w h => h.os 0 rfl) rfl rfl (by first | rfl | exact hgl.symm | (simp only [List.length_set]; exact hgl.symm)) _ rfl (by first | omega | (simp only [List.length_set]; omega))) rfl ?_)
       refine RV.op (OV.storeE 0 (k) (((g.set k (atM (al.getD k acK.d) lv)).getD k (intK .u64).d + 1)) (j := 0) [_] I24 rfl rfl rfl rfl rfl rfl (by simp only [List.length_set]; omega) rfl (Nat.le_of_ble_eq_true rfl) gno ?_)
       refine RV.nil (KV.then_n (KV.e6 6 10 11 53 54 55 (CV.region ?_)))
       refine RV.m rfl rfl ?_
       (first | refine RV.op (OV.step gno (Step.sub rfl rfl (wU64 (by omega) (by omega))) rfl ?_) | refine RV.op (OV.step gno (Step.sub rfl rfl rfl) rfl ?_))
       refine RV.a rfl rfl ?_
       refine RV.nil (KV.block_n (KV.then_n (KV.e6 6 10 11 53 54 55 (CV.region ?_))))
       (first | refine RV.op (OV.step gno (Step.add rfl rfl (wI64 (by omega) (by omega))) rfl ?_) | refine RV.op (OV.step gno (Step.add rfl rfl rfl) rfl ?_))
       refine RV.m rfl rfl ?_
       refine RV.nil (KV.then_n (KV.e6 6 10 11 53 54 55 ?_))
       refine KV.sel [0] [_] rfl ?_
       exact KV.loop3 (x := k) (y := rest) (z := g) (k + 1) (_) (_) (by first | exact ⟨by omega, alc_set1 hinv2.2 hA hlv.1 (by omega) (by omega) (by omega) (by omega)⟩ | exact ⟨by omega, alc_set0 hinv2.2 hA hlv.1 (by omega)⟩) (by omega) ⟨rfl, rfl, rfl, rfl, rfl, rfl, trivial⟩ (fun _ h => h)
      ·
       refine RV.s (Step.pick_t rfl rfl) rfl ?_
       refine RV.nil (KV.then_n (KV.e8 6 10 11 12 53 54 55 79 (CV.cond_f rfl (CV.skip (KV.block_n ?_)))))
       refine KV.then_n (KV.e6 6 10 11 53 54 55 (CV.region ?_))
       (first | refine RV.op (OV.step gno (Step.add rfl rfl (wI64 (by omega) (by omega))) rfl ?_) | refine RV.op (OV.step gno (Step.add rfl rfl rfl) rfl ?_))
       refine RV.m rfl rfl ?_
       refine RV.nil (KV.then_n (KV.e6 6 10 11 53 54 55 ?_))
       refine KV.sel [0] [_] rfl ?_
       exact KV.loop3 (x := k) (y := rest) (z := g) (k + 1) (_) (_) (by first | exact ⟨by omega, alc_set1 hinv2.2 hA hlv.1 (by omega) (by omega) (by omega) (by omega)⟩ | exact ⟨by omega, alc_set0 hinv2.2 hA hlv.1 (by omega)⟩) (by omega) ⟨rfl, rfl, rfl, rfl, rfl, rfl, trivial⟩ (fun _ h => h)
     ·
      refine RV.s (Step.pick_t rfl rfl) rfl (RV.m rfl rfl (RV.k rfl rfl (RV.k rfl rfl (RV.k rfl rfl (RV.k rfl rfl (RV.s (Step.pick_f rfl rfl) rfl ?_))))))
      refine RV.nil (KV.then_n (KV.e8 6 10 11 12 53 54 55 79 (CV.cond_f rfl (CV.skip (KV.block_n ?_)))))
      refine KV.then_n (KV.e6 6 10 11 53 54 55 (CV.region ?_))
      (first | refine RV.op (OV.step gno (Step.add rfl rfl (wI64 (by omega) (by omega))) rfl ?_) | refine RV.op (OV.step gno (Step.add rfl rfl rfl) rfl ?_))
      refine RV.m rfl rfl ?_
      refine RV.nil (KV.then_n (KV.e6 6 10 11 53 54 55 ?_))
      refine KV.sel [0] [_] rfl ?_
      exact KV.loop3 (x := k) (y := rest) (z := g) (k + 1) (_) (_) (by first | exact ⟨by omega, alc_set1 hinv2.2 hA hlv.1 (by omega) (by omega) (by omega) (by omega)⟩ | exact ⟨by omega, alc_set0 hinv2.2 hA hlv.1 (by omega)⟩) (by omega) ⟨rfl, rfl, rfl, rfl, rfl, rfl, trivial⟩ (fun _ h => h)
    ·
     refine RV.m rfl rfl (RV.k rfl rfl (RV.k rfl rfl (RV.k rfl rfl (RV.k rfl rfl (RV.s (Step.pick_f rfl rfl) rfl (RV.m rfl rfl (RV.k rfl rfl ?_)))))))
     refine RV.k rfl rfl (RV.k rfl rfl (RV.k rfl rfl (RV.s (Step.pick_f rfl rfl) rfl ?_)))
     refine RV.nil (KV.then_n (KV.e8 6 10 11 12 53 54 55 79 (CV.cond_f rfl (CV.skip (KV.block_n ?_)))))
     refine KV.then_n (KV.e6 6 10 11 53 54 55 (CV.region ?_))
     (first | refine RV.op (OV.step gno (Step.add rfl rfl (wI64 (by omega) (by omega))) rfl ?_) | refine RV.op (OV.step gno (Step.add rfl rfl rfl) rfl ?_))
     refine RV.m rfl rfl ?_
     refine RV.nil (KV.then_n (KV.e6 6 10 11 53 54 55 ?_))
     refine KV.sel [0] [_] rfl ?_
     exact KV.loop3 (x := k) (y := rest) (z := g) (k + 1) (_) (_) (by first | exact ⟨by omega, alc_set1 hinv2.2 hA hlv.1 (by omega) (by omega) (by omega) (by omega)⟩ | exact ⟨by omega, alc_set0 hinv2.2 hA hlv.1 (by omega)⟩) (by omega) ⟨rfl, rfl, rfl, rfl, rfl, rfl, trivial⟩ (fun _ h => h)
   ·
    refine RV.nil (KV.then_n (KV.e7 6 10 11 53 54 55 56 (CV.seq (CV.cond_f rfl (CV.exit ?_)))))
    refine KV.then_exit (KV.then_exit (KV.block_hit (KV.then_n (KV.e1 11 (CV.seq ?_)))))
    obtain rfl : k = al.length := by omega
    refine CV.region ?_
    refine RV.m rfl rfl (RV.a rfl rfl (RV.a rfl rfl ?_))
    refine RV.nil (KV.then_n (KV.e2 4 5 (CV.ret ?_)))
    refine KV.sel [0] [_] rfl ?_
    exact KV.ret2 rfl rfl rfl _ (fun _ h => h) ⟨_, _, g, rfl, hinv2.2.fin, rfl⟩

set_option maxRecDepth 100000 in
set_option maxHeartbeats 1000000 in
theorem throttle_fn {A : Option Addr} {n c : Nat} {ys : List Pt} {w : World} (hr : RS w ptK A ys) (hn : n = ys.length) (hl : ys.length ≤ 1000000) (x : Int) : Fx Tryz.prog 120 [.slice A n c, .int .u64 x] w [] no (fun v L => v = .tuple #[.int .i64 (thrV ys x).1, .int .i64 (thrV ys x).2] ∧ L = []) := by
 subst hn
 refine Sv.Fx.body Tryz.func120 rfl T120 rfl ?_
 intro I hro hI
 refine KV.e2 0 1 (CV.seq (CV.region ?_))
 refine RV.a rfl rfl (RV.a rfl rfl ?_)
 refine RV.nil (KV.then_n (KV.e2 0 1 (CV.seq (CV.seq (CV.region ?_)))))
 refine RV.m rfl rfl ?_
 refine RV.op (OV.call [] (F := []) Tryz.func121 B121 N121 rfl rfl (fun w h => check_fn (h.rs hr (fun _ => hI _)) rfl hl) (fun _ hb => hb.elim) gno rfl (fun v L' hp => ?_))
 obtain ⟨rfl, rfl⟩ := hp
 simp only [List.append_nil]
 refine RV.a rfl rfl ?_
 refine RV.nil (KV.then_n (KV.e3 0 1 6 (CV.seq (CV.region ?_))))
 refine RV.m rfl rfl ?_
 refine RV.op (OV.split gno (Step.neq rfl rfl) rfl (fun hc => ?_) (fun hc => ?_))
 ·
  refine RV.nil (KV.then_n (KV.e4 0 1 6 13 (CV.cond_t rfl (CV.seq (CV.region ?_)))))
  refine RV.m rfl rfl (RV.a rfl rfl (RV.a rfl rfl ?_))
  refine RV.nil (KV.then_n (KV.e2 4 5 (CV.ret (KV.then_ret ?_))))
  refine KV.sel [] [] rfl ?_
  exact KV.ret2 rfl rfl rfl _ (fun _ h => h) ⟨by rw [thrV_bad hc], rfl⟩
 ·
  refine RV.nil (KV.then_n (KV.e4 0 1 6 13 (CV.cond_f rfl (CV.skip (KV.then_n ?_)))))
  refine KV.e2 0 1 (CV.seq (CV.region ?_))
  refine RV.a rfl rfl ?_
  refine RV.nil (KV.then_n (KV.e3 0 1 7 (CV.seq (CV.seq (CV.region ?_)))))
  refine RV.m rfl rfl (RV.s (Step.lenSl Tryz.underlying42 rfl) rfl (RV.m rfl rfl ?_))
  refine RV.nil (KV.then_n (KV.e5 1 7 15 16 17 (CV.block ?_)))
  refine KV.sel [] [] rfl ?_
  refine CV.loopI (fun (j : Nat) => j ≤ ys.length) (fun (j : Nat) => ys.length - j) (fun (j : Nat) => [(1, .int .u64 x), (7, .int .i64 (thrK ys x j)), (15, .slice A ys.length c), (16, .int .i64 ys.length), (17, .int .i64 j)]) (fun (j : Nat) => Hp I w []) (0) (Nat.zero_le _) ⟨rfl, rfl, rfl, rfl, rfl, trivial⟩ (fun _ h => h) ?_
  intro j hinv
  refine CV.seq (CV.region ?_)
  refine RV.op (OV.split gno (Step.lss rfl rfl) rfl (fun cc1 => ?_) (fun cc1 => ?_))
  ·
   refine RV.nil (KV.then_n (KV.e6 1 7 15 16 17 18 (CV.seq (CV.cond_t rfl (CV.skip ?_)))))
   refine KV.then_n (KV.e5 1 7 15 16 17 (CV.seq (CV.block (CV.seq (CV.region ?_)))))
   refine RV.m rfl rfl ?_
   refine RV.s (Step.idx Tryz.underlying42 I61 (fun w h => h.rs hr (fun _ => hI _)) rfl rfl (rfl) _ rfl (by omega)) rfl ?_
   refine RV.s (Step.loadN _ Tryz.underlying61 rfl I61 rfl rfl (fun w h => (h.rs hr (fun _ => hI _)).cells (by omega))) rfl ?_
   refine RV.op (OV.alloc #[.int .u64 0, .int .u64 0, .int .u64 0] I61 rfl gno rfl (fun b7_3 => ?_))
   refine RV.a rfl rfl ?_
   refine RV.op (OV.store 0 [_, _, _] #[_, _, _] I61 rfl rfl rfl rfl rfl (Nat.le_of_ble_eq_true rfl) (by simp [Value.oneCell']) rfl gno ?_)
   refine RV.nil (KV.then_n (KV.e7 1 7 8 9 15 16 17 (CV.seq (CV.region ?_))))
   refine RV.s (Step.fieldAddr rfl (F61_2 _ _)) rfl ?_
   (first | refine RV.op (OV.step gno (Step.load Tryz.underlying24 rfl rfl (fun w h => h.cell 0 rfl rfl)) rfl ?_) | refine RV.op (OV.step gno (Step.load Tryz.underlying24 rfl rfl (fun w h => (h.rs hr (fun _ => hI _)).cell (by omega) rfl)) rfl ?_) | refine RV.op (OV.step gno (Step.load Tryz.underlying24 rfl rfl (fun w h => (h.rs hr (fun _ => hI _)).cell0 (by omega) rfl)) rfl ?_))
   refine RV.m rfl rfl ?_
   refine RV.op (OV.split gno (Step.leq rfl rfl) rfl (fun hq => ?_) (fun hq => ?_))
   ·
    refine RV.nil (KV.then_n (KV.e7 1 7 8 15 16 17 25 (CV.cond_t rfl (CV.region ?_))))
    refine RV.m rfl rfl (RV.a rfl rfl ?_)
    refine RV.nil (KV.block_n (KV.then_n (KV.e5 1 7 15 16 17 (CV.region ?_))))
    (first | refine RV.op (OV.step gno (Step.add rfl rfl (wI64 (by omega) (by omega))) rfl ?_) | refine RV.op (OV.step gno (Step.add rfl rfl rfl) rfl ?_))
    refine RV.m rfl rfl ?_
    refine RV.nil (KV.then_n (KV.e5 1 7 15 16 17 ?_))
    refine KV.sel [] [] rfl ?_
    exact KV.loopI (z := j) (j + 1) (by omega) (by omega) ⟨rfl, (show some (Value.int .i64 _) = some (Value.int .i64 _) by first | rw [thrK_t hq] | rw [thrK_f hq]), rfl, rfl, rfl, trivial⟩ (fun _ h => h)
   ·
    refine RV.nil (KV.then_n (KV.e7 1 7 8 15 16 17 25 (CV.cond_f rfl (CV.skip (KV.block_n ?_)))))
    refine KV.then_n (KV.e5 1 7 15 16 17 (CV.region ?_))
    (first | refine RV.op (OV.step gno (Step.add rfl rfl (wI64 (by omega) (by omega))) rfl ?_) | refine RV.op (OV.step gno (Step.add rfl rfl rfl) rfl ?_))
    refine RV.m rfl rfl ?_
    refine RV.nil (KV.then_n (KV.e5 1 7 15 16 17 ?_))
    refine KV.sel [] [] rfl ?_
    exact KV.loopI (z := j) (j + 1) (by omega) (by omega) ⟨rfl, (show some (Value.int .i64 _) = some (Value.int .i64 _) by first | rw [thrK_t hq] | rw [thrK_f hq]), rfl, rfl, rfl, trivial⟩ (fun _ h => h)
  ·
   refine RV.nil (KV.then_n (KV.e6 1 7 15 16 17 18 (CV.seq (CV.cond_f rfl (CV.exit ?_)))))
   refine KV.then_exit (KV.then_exit (KV.block_hit (KV.then_n (KV.e1 7 (CV.seq ?_)))))
   refine CV.seq ?_
   obtain rfl : j = ys.length := by omega
   refine CV.region ?_
   refine RV.m rfl rfl ?_
   refine RV.op (OV.split gno (Step.lss rfl rfl) rfl (fun hz => ?_) (fun hz => ?_))
   ·
    refine RV.nil (KV.then_n (KV.e2 7 29 (CV.cond_t rfl (CV.seq (CV.region ?_)))))
    refine RV.a rfl rfl (RV.a rfl rfl ?_)
    refine RV.nil (KV.then_n (KV.e2 4 5 (CV.ret (KV.then_ret ?_))))
    refine KV.sel [] [] rfl ?_
    exact KV.ret2 rfl rfl rfl _ (fun _ h => h) ⟨by rw [thrV_no (Decidable.not_not.1 hc) hz], rfl⟩
   ·
    refine RV.nil (KV.then_n (KV.e2 7 29 (CV.cond_f rfl (CV.skip (KV.then_n ?_)))))
    refine KV.e1 7 (CV.seq (CV.region ?_))
    refine RV.m rfl rfl (RV.a rfl rfl (RV.a rfl rfl ?_))
    refine RV.nil (KV.then_n (KV.e2 4 5 (CV.ret ?_)))
    refine KV.sel [] [] rfl ?_
    exact KV.ret2 rfl rfl rfl _ (fun _ h => h) ⟨by rw [thrV_yes (Decidable.not_not.1 hc) hz], rfl⟩
end Go.Proofs.YtdfkpdcpegcieaaGreatDoor
