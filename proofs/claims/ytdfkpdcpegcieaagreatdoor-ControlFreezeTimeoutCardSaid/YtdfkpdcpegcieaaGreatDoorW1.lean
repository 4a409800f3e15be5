/-
 Walks, part 1.
-/
import Derived.Test.YtdfkpdcpegcieaaGreatDoorTabA
import Derived.Test.YtdfkpdcpegcieaaGreatDoorObA
set_option linter.unusedSimpArgs false
set_option linter.unusedVariables false
namespace Go.Proofs.YtdfkpdcpegcieaaGreatDoor
open Go.Sv Go.Perf Go.Ctl
set_option maxRecDepth 100000 in
set_option maxHeartbeats 1000000 in
theorem mod_fn (v : Int) (n : Nat) (hn : 0 < n) (hn2 : n ≤ 1000000) : FxP Tryz.prog 14 [.int .i64 v, .int .i64 n] (.int .i64 (modM v n)) := by
 refine Sv.FxP.body Tryz.func14 rfl T14 rfl ?_
 intro wp
 refine KV.e2 0 1 (CV.seq (CV.region ?_))
 refine RV.a rfl rfl ?_
 refine RV.nil (KV.then_n (KV.e2 0 1 (CV.seq (CV.region ?_))))
 refine RV.m rfl rfl (RV.s (Step.convI Tryz.underlying3 Tryz.underlying131 rfl (rfl)) rfl (RV.m rfl rfl ?_))
 refine RV.s (Step.convI Tryz.underlying3 Tryz.underlying131 rfl (wU64 (by omega) (by omega))) rfl ?_
 refine RV.s (Step.rem rfl rfl (by omega) (rfl)) rfl ?_
 refine RV.s (Step.convI Tryz.underlying131 Tryz.underlying3 rfl (wI64 (by have := modT v hn; omega) (by have := modT v hn; omega))) rfl ?_
 refine RV.a rfl rfl ?_
 refine RV.nil (KV.then_n (KV.e1 4 (CV.ret ?_)))
 exact KV.retP1 rfl rfl (by rw [modM_t v hn])

set_option maxRecDepth 100000 in
set_option maxHeartbeats 1000000 in
theorem check_fn {A : Option Addr} {n c : Nat} {ys : List Pt} {w : World} (hr : RS w ptK A ys) (hn : n = ys.length) (hl : ys.length ≤ 1000000) : Fx Tryz.prog 121 [.slice A n c] w [] no (fun v L => v = .int .i64 (chkM ys) ∧ L = []) := by
 subst hn
 refine Sv.Fx.body Tryz.func121 rfl T121 rfl ?_
 intro I hro hI
 refine KV.e1 0 (CV.seq (CV.region ?_))
 refine RV.a rfl rfl ?_
 refine RV.nil (KV.then_n (KV.e1 0 (CV.seq (CV.seq (CV.region ?_)))))
 refine RV.m rfl rfl (RV.s (Step.lenSl Tryz.underlying42 rfl) rfl ?_)
 refine RV.op (OV.split gno (Step.lss rfl rfl) rfl (fun cc1 => ?_) (fun cc1 => ?_))
 ·
  refine RV.m rfl rfl (RV.k rfl rfl (RV.k rfl rfl (RV.k rfl rfl (RV.s (Step.pick_t rfl rfl) rfl ?_))))
  refine RV.nil (KV.then_n (KV.e2 0 13 (CV.cond_t rfl (CV.seq (CV.region ?_)))))
  refine RV.a rfl rfl ?_
  refine RV.nil (KV.then_n (KV.e1 2 (CV.ret (KV.then_ret ?_))))
  refine KV.sel [] [] rfl ?_
  exact KV.ret1 rfl rfl _ (fun _ h => h) ⟨by rw [chkM_short (by omega)], rfl⟩
 ·
  refine RV.m rfl rfl (RV.gw rfl (Step.move rfl) rfl (RV.gw rfl (Step.lenSl Tryz.underlying42 rfl) rfl ?_))
  refine RV.op (OV.split (gyes rfl) (Step.gtr rfl rfl) rfl (fun cc2 => ?_) (fun cc2 => ?_))
  ·
   refine RV.s (Step.pick_f rfl rfl) rfl ?_
   refine RV.nil (KV.then_n (KV.e2 0 13 (CV.cond_t rfl (CV.seq (CV.region ?_)))))
   refine RV.a rfl rfl ?_
   refine RV.nil (KV.then_n (KV.e1 2 (CV.ret (KV.then_ret ?_))))
   refine KV.sel [] [] rfl ?_
   exact KV.ret1 rfl rfl _ (fun _ h => h) ⟨by rw [chkM_short (by omega)], rfl⟩
  ·
   refine RV.s (Step.pick_f rfl rfl) rfl ?_
   refine RV.nil (KV.then_n (KV.e2 0 13 (CV.cond_f rfl (CV.skip (KV.then_n ?_)))))
   refine KV.e1 0 (CV.seq (CV.seq (CV.region ?_)))
   refine RV.m rfl rfl (RV.s (Step.lenSl Tryz.underlying42 rfl) rfl (RV.m rfl rfl ?_))
   refine RV.nil (KV.then_n (KV.e4 0 14 15 16 (CV.block ?_)))
   refine KV.sel [] [] rfl ?_
   refine CV.loopI (fun (j : Nat) => j ≤ ys.length ∧ ∀ i, i < j → ¬ badAt ys i) (fun (j : Nat) => ys.length - j) (fun (j : Nat) => [(0, .slice A ys.length c), (14, .slice A ys.length c), (15, .int .i64 ys.length), (16, .int .i64 j)]) (fun (j : Nat) => Hp I w []) (0) ⟨Nat.zero_le _, fun _ h => by omega⟩ ⟨rfl, rfl, rfl, rfl, trivial⟩ (fun _ h => h) ?_
   intro j hinv
   refine CV.seq (CV.region ?_)
   refine RV.op (OV.split gno (Step.lss rfl rfl) rfl (fun cc3 => ?_) (fun cc3 => ?_))
   ·
    refine RV.nil (KV.then_n (KV.e5 0 14 15 16 17 (CV.seq (CV.cond_t rfl (CV.skip ?_)))))
    refine KV.then_n (KV.e4 0 14 15 16 (CV.seq (CV.block (CV.seq (CV.region ?_)))))
    refine RV.m rfl rfl ?_
    refine RV.s (Step.idx Tryz.underlying42 I61 (fun w h => h.rs hr (fun _ => hI _)) rfl rfl (rfl) _ rfl (by omega)) rfl ?_
    refine RV.s (Step.loadN _ Tryz.underlying61 rfl I61 rfl rfl (fun w h => (h.rs hr (fun _ => hI _)).cells (by omega))) rfl ?_
    refine RV.op (OV.alloc #[.int .u64 0, .int .u64 0, .int .u64 0] I61 rfl gno rfl (fun b5_3 => ?_))
    refine RV.a rfl rfl ?_
    refine RV.op (OV.store 0 [_, _, _] #[_, _, _] I61 rfl rfl rfl rfl rfl (Nat.le_of_ble_eq_true rfl) (by simp [Value.oneCell']) rfl gno ?_)
    refine RV.nil (KV.then_n (KV.e6 0 3 4 14 15 16 (CV.seq (CV.seq (CV.region ?_)))))
    refine RV.s (Step.fieldAddr rfl (F61_0 _ _)) rfl ?_
    (first | refine RV.op (OV.step gno (Step.load Tryz.underlying24 rfl rfl (fun w h => h.cell 0 rfl rfl)) rfl ?_) | refine RV.op (OV.step gno (Step.load Tryz.underlying24 rfl rfl (fun w h => (h.rs hr (fun _ => hI _)).cell (by omega) rfl)) rfl ?_) | refine RV.op (OV.step gno (Step.load Tryz.underlying24 rfl rfl (fun w h => (h.rs hr (fun _ => hI _)).cell0 (by omega) rfl)) rfl ?_))
    refine RV.op (OV.split gno (Step.lss rfl rfl) rfl (fun cc4 => ?_) (fun cc4 => ?_))
    ·
     refine RV.m rfl rfl (RV.k rfl rfl (RV.k rfl rfl (RV.k rfl rfl (RV.s (Step.pick_t rfl rfl) rfl (RV.m rfl rfl (RV.k rfl rfl (RV.k rfl rfl ?_)))))))
     refine RV.k rfl rfl (RV.s (Step.pick_t rfl rfl) rfl (RV.m rfl rfl (RV.k rfl rfl (RV.k rfl rfl (RV.k rfl rfl (RV.s (Step.pick_t rfl rfl) rfl ?_))))))
     refine RV.nil (KV.then_n (KV.e7 0 3 4 14 15 16 38 (CV.cond_t rfl (CV.seq (CV.region ?_)))))
     refine RV.a rfl rfl ?_
     refine RV.nil (KV.then_n (KV.e1 2 (CV.ret (KV.then_ret (KV.block_ret ?_)))))
     refine KV.then_ret (KV.then_ret (KV.block_ret (KV.then_ret ?_)))
     refine KV.sel [] [] rfl ?_
     exact KV.ret1 rfl rfl _ (fun _ h => h) ⟨by rw [chkM_bad (i := j) (by omega) (by unfold badAt bigP lowP pt; omega)], rfl⟩
    ·
     refine RV.m rfl rfl (RV.gw rfl (Step.fieldAddr rfl (F61_0 _ _)) rfl ?_)
     (first | refine RV.op (OV.step (gyes rfl) (Step.load Tryz.underlying24 rfl rfl (fun w h => h.cell 0 rfl rfl)) rfl ?_) | refine RV.op (OV.step (gyes rfl) (Step.load Tryz.underlying24 rfl rfl (fun w h => (h.rs hr (fun _ => hI _)).cell (by omega) rfl)) rfl ?_) | refine RV.op (OV.step (gyes rfl) (Step.load Tryz.underlying24 rfl rfl (fun w h => (h.rs hr (fun _ => hI _)).cell0 (by omega) rfl)) rfl ?_))
     refine RV.op (OV.split (gyes rfl) (Step.gtr rfl rfl) rfl (fun cc5 => ?_) (fun cc5 => ?_))
     ·
      refine RV.s (Step.pick_f rfl rfl) rfl (RV.m rfl rfl (RV.k rfl rfl (RV.k rfl rfl (RV.k rfl rfl (RV.s (Step.pick_t rfl rfl) rfl (RV.m rfl rfl (RV.k rfl rfl ?_)))))))
      refine RV.k rfl rfl (RV.k rfl rfl (RV.s (Step.pick_t rfl rfl) rfl ?_))
      refine RV.nil (KV.then_n (KV.e7 0 3 4 14 15 16 38 (CV.cond_t rfl (CV.seq (CV.region ?_)))))
      refine RV.a rfl rfl ?_
      refine RV.nil (KV.then_n (KV.e1 2 (CV.ret (KV.then_ret (KV.block_ret ?_)))))
      refine KV.then_ret (KV.then_ret (KV.block_ret (KV.then_ret ?_)))
      refine KV.sel [] [] rfl ?_
      exact KV.ret1 rfl rfl _ (fun _ h => h) ⟨by rw [chkM_bad (i := j) (by omega) (by unfold badAt bigP lowP pt; omega)], rfl⟩
     ·
      refine RV.s (Step.pick_f rfl rfl) rfl (RV.m rfl rfl (RV.gw rfl (Step.fieldAddr rfl (F61_1 _ _)) rfl ?_))
      (first | refine RV.op (OV.step (gyes rfl) (Step.load Tryz.underlying24 rfl rfl (fun w h => h.cell 0 rfl rfl)) rfl ?_) | refine RV.op (OV.step (gyes rfl) (Step.load Tryz.underlying24 rfl rfl (fun w h => (h.rs hr (fun _ => hI _)).cell (by omega) rfl)) rfl ?_) | refine RV.op (OV.step (gyes rfl) (Step.load Tryz.underlying24 rfl rfl (fun w h => (h.rs hr (fun _ => hI _)).cell0 (by omega) rfl)) rfl ?_))
      refine RV.op (OV.split (gyes rfl) (Step.gtr rfl rfl) rfl (fun cc6 => ?_) (fun cc6 => ?_))
      ·
       refine RV.s (Step.pick_f rfl rfl) rfl (RV.m rfl rfl (RV.k rfl rfl (RV.k rfl rfl (RV.k rfl rfl (RV.s (Step.pick_t rfl rfl) rfl ?_)))))
       refine RV.nil (KV.then_n (KV.e7 0 3 4 14 15 16 38 (CV.cond_t rfl (CV.seq (CV.region ?_)))))
       refine RV.a rfl rfl ?_
       refine RV.nil (KV.then_n (KV.e1 2 (CV.ret (KV.then_ret (KV.block_ret ?_)))))
       refine KV.then_ret (KV.then_ret (KV.block_ret (KV.then_ret ?_)))
       refine KV.sel [] [] rfl ?_
       exact KV.ret1 rfl rfl _ (fun _ h => h) ⟨by rw [chkM_bad (i := j) (by omega) (by unfold badAt bigP lowP pt; omega)], rfl⟩
      ·
       refine RV.s (Step.pick_f rfl rfl) rfl (RV.m rfl rfl (RV.gw rfl (Step.fieldAddr rfl (F61_2 _ _)) rfl ?_))
       (first | refine RV.op (OV.step (gyes rfl) (Step.load Tryz.underlying24 rfl rfl (fun w h => h.cell 0 rfl rfl)) rfl ?_) | refine RV.op (OV.step (gyes rfl) (Step.load Tryz.underlying24 rfl rfl (fun w h => (h.rs hr (fun _ => hI _)).cell (by omega) rfl)) rfl ?_) | refine RV.op (OV.step (gyes rfl) (Step.load Tryz.underlying24 rfl rfl (fun w h => (h.rs hr (fun _ => hI _)).cell0 (by omega) rfl)) rfl ?_))
       refine RV.op (OV.split (gyes rfl) (Step.gtr rfl rfl) rfl (fun cc7 => ?_) (fun cc7 => ?_))
       ·
        refine RV.s (Step.pick_f rfl rfl) rfl ?_
        refine RV.nil (KV.then_n (KV.e7 0 3 4 14 15 16 38 (CV.cond_t rfl (CV.seq (CV.region ?_)))))
        refine RV.a rfl rfl ?_
        refine RV.nil (KV.then_n (KV.e1 2 (CV.ret (KV.then_ret (KV.block_ret ?_)))))
        refine KV.then_ret (KV.then_ret (KV.block_ret (KV.then_ret ?_)))
        refine KV.sel [] [] rfl ?_
        exact KV.ret1 rfl rfl _ (fun _ h => h) ⟨by rw [chkM_bad (i := j) (by omega) (by unfold badAt bigP lowP pt; omega)], rfl⟩
       ·
        refine RV.s (Step.pick_f rfl rfl) rfl ?_
        refine RV.nil (KV.then_n (KV.e7 0 3 4 14 15 16 38 (CV.cond_f rfl (CV.skip (KV.then_n ?_)))))
        refine KV.e6 0 3 4 14 15 16 (CV.seq (CV.seq (CV.region ?_)))
        refine RV.m rfl rfl ?_
        refine RV.op (OV.split gno (Step.eql rfl rfl) rfl (fun cc8 => ?_) (fun cc8 => ?_))
        ·
         refine RV.nil (KV.then_n (KV.e7 0 3 4 14 15 16 40 (CV.cond_t rfl (CV.exit (KV.then_exit ?_)))))
         refine KV.block_hit (KV.then_n (KV.e4 0 14 15 16 (CV.region ?_)))
         (first | refine RV.op (OV.step gno (Step.add rfl rfl (wI64 (by omega) (by omega))) rfl ?_) | refine RV.op (OV.step gno (Step.add rfl rfl rfl) rfl ?_))
         refine RV.m rfl rfl ?_
         refine RV.nil (KV.then_n (KV.e4 0 14 15 16 ?_))
         refine KV.sel [] [] rfl ?_
         have hnb : ¬ badAt ys j := by unfold badAt bigP lowP pt; omega
         exact KV.loopI (z := j) (j + 1) ⟨by omega, fun i hi => by by_cases e : i = j; (subst e; exact hnb); exact hinv.2 i (by omega)⟩ (by omega) ⟨rfl, rfl, rfl, rfl, trivial⟩ (fun _ h => h)
        ·
         refine RV.nil (KV.then_n (KV.e7 0 3 4 14 15 16 40 (CV.cond_f rfl (CV.skip (KV.then_n ?_)))))
         refine KV.e6 0 3 4 14 15 16 (CV.seq (CV.region ?_))
         refine RV.m rfl rfl (RV.m rfl rfl ?_)
         (first | refine RV.op (OV.step gno (Step.sub rfl rfl (wI64 (by omega) (by omega))) rfl ?_) | refine RV.op (OV.step gno (Step.sub rfl rfl rfl) rfl ?_))
         refine RV.s (Step.idx Tryz.underlying42 I61 (fun w h => h.rs hr (fun _ => hI _)) rfl rfl (rfl) _ (show (j : Int) - 1 = ((j - 1 : Nat) : Int) by omega) (by omega)) rfl ?_
         (first | refine RV.op (OV.step gno (Step.loadN _ Tryz.underlying61 rfl I61 rfl rfl (fun w h => h.cells 0 rfl)) rfl ?_) | refine RV.op (OV.step gno (Step.loadN _ Tryz.underlying61 rfl I61 rfl rfl (fun w h => (h.rs hr (fun _ => hI _)).cells (by omega))) rfl ?_))
         refine RV.op (OV.alloc #[.int .u64 0, .int .u64 0, .int .u64 0] I61 rfl gno rfl (fun b9_5 => ?_))
         refine RV.op (OV.store 1 [_, _, _] #[_, _, _] I61 rfl rfl rfl rfl rfl (Nat.le_of_ble_eq_true rfl) (by simp [Value.oneCell']) rfl gno ?_)
         refine RV.nil (KV.then_n (KV.e6 0 4 5 14 15 16 (CV.seq (CV.region ?_))))
         refine RV.s (Step.fieldAddr rfl (F61_0 _ _)) rfl ?_
         (first | refine RV.op (OV.step gno (Step.load Tryz.underlying24 rfl rfl (fun w h => h.cell 0 rfl rfl)) rfl ?_) | refine RV.op (OV.step gno (Step.load Tryz.underlying24 rfl rfl (fun w h => h.cell 1 rfl rfl)) rfl ?_) | refine RV.op (OV.step gno (Step.load Tryz.underlying24 rfl rfl (fun w h => (h.rs hr (fun _ => hI _)).cell (by omega) rfl)) rfl ?_) | refine RV.op (OV.step gno (Step.load Tryz.underlying24 rfl rfl (fun w h => (h.rs hr (fun _ => hI _)).cell0 (by omega) rfl)) rfl ?_))
         refine RV.s (Step.fieldAddr rfl (F61_0 _ _)) rfl ?_
         (first | refine RV.op (OV.step gno (Step.load Tryz.underlying24 rfl rfl (fun w h => h.cell 0 rfl rfl)) rfl ?_) | refine RV.op (OV.step gno (Step.load Tryz.underlying24 rfl rfl (fun w h => h.cell 1 rfl rfl)) rfl ?_) | refine RV.op (OV.step gno (Step.load Tryz.underlying24 rfl rfl (fun w h => (h.rs hr (fun _ => hI _)).cell (by omega) rfl)) rfl ?_) | refine RV.op (OV.step gno (Step.load Tryz.underlying24 rfl rfl (fun w h => (h.rs hr (fun _ => hI _)).cell0 (by omega) rfl)) rfl ?_))
         refine RV.op (OV.split gno (Step.leq rfl rfl) rfl (fun cc9 => ?_) (fun cc9 => ?_))
         ·
          refine RV.m rfl rfl (RV.k rfl rfl (RV.k rfl rfl (RV.k rfl rfl (RV.k rfl rfl (RV.k rfl rfl (RV.s (Step.pick_t rfl rfl) rfl (RV.m rfl rfl ?_)))))))
          refine RV.k rfl rfl (RV.k rfl rfl (RV.k rfl rfl (RV.k rfl rfl (RV.k rfl rfl (RV.s (Step.pick_t rfl rfl) rfl ?_)))))
          refine RV.nil (KV.then_n (KV.e5 0 14 15 16 64 (CV.cond_t rfl (CV.seq (CV.region ?_)))))
          refine RV.a rfl rfl ?_
          refine RV.nil (KV.then_n (KV.e1 2 (CV.ret (KV.block_ret (KV.then_ret ?_)))))
          refine KV.then_ret (KV.block_ret (KV.then_ret ?_))
          refine KV.sel [] [] rfl ?_
          exact KV.ret1 rfl rfl _ (fun _ h => h) ⟨by rw [chkM_bad (i := j) (by omega) (by unfold badAt bigP lowP pt; omega)], rfl⟩
         ·
          refine RV.m rfl rfl (RV.gw rfl (Step.fieldAddr rfl (F61_1 _ _)) rfl ?_)
          (first | refine RV.op (OV.step (gyes rfl) (Step.load Tryz.underlying24 rfl rfl (fun w h => h.cell 0 rfl rfl)) rfl ?_) | refine RV.op (OV.step (gyes rfl) (Step.load Tryz.underlying24 rfl rfl (fun w h => h.cell 1 rfl rfl)) rfl ?_) | refine RV.op (OV.step (gyes rfl) (Step.load Tryz.underlying24 rfl rfl (fun w h => (h.rs hr (fun _ => hI _)).cell (by omega) rfl)) rfl ?_) | refine RV.op (OV.step (gyes rfl) (Step.load Tryz.underlying24 rfl rfl (fun w h => (h.rs hr (fun _ => hI _)).cell0 (by omega) rfl)) rfl ?_))
          refine RV.gw rfl (Step.fieldAddr rfl (F61_1 _ _)) rfl ?_
          (first | refine RV.op (OV.step (gyes rfl) (Step.load Tryz.underlying24 rfl rfl (fun w h => h.cell 0 rfl rfl)) rfl ?_) | refine RV.op (OV.step (gyes rfl) (Step.load Tryz.underlying24 rfl rfl (fun w h => h.cell 1 rfl rfl)) rfl ?_) | refine RV.op (OV.step (gyes rfl) (Step.load Tryz.underlying24 rfl rfl (fun w h => (h.rs hr (fun _ => hI _)).cell (by omega) rfl)) rfl ?_) | refine RV.op (OV.step (gyes rfl) (Step.load Tryz.underlying24 rfl rfl (fun w h => (h.rs hr (fun _ => hI _)).cell0 (by omega) rfl)) rfl ?_))
          refine RV.op (OV.split (gyes rfl) (Step.lss rfl rfl) rfl (fun cc10 => ?_) (fun cc10 => ?_))
          ·
           refine RV.s (Step.pick_f rfl rfl) rfl (RV.m rfl rfl (RV.k rfl rfl (RV.k rfl rfl (RV.k rfl rfl (RV.k rfl rfl (RV.k rfl rfl (RV.s (Step.pick_t rfl rfl) rfl ?_)))))))
           refine RV.nil (KV.then_n (KV.e5 0 14 15 16 64 (CV.cond_t rfl (CV.seq (CV.region ?_)))))
           refine RV.a rfl rfl ?_
           refine RV.nil (KV.then_n (KV.e1 2 (CV.ret (KV.block_ret (KV.then_ret ?_)))))
           refine KV.then_ret (KV.block_ret (KV.then_ret ?_))
           refine KV.sel [] [] rfl ?_
           exact KV.ret1 rfl rfl _ (fun _ h => h) ⟨by rw [chkM_bad (i := j) (by omega) (by unfold badAt bigP lowP pt; omega)], rfl⟩
          ·
           refine RV.s (Step.pick_f rfl rfl) rfl (RV.m rfl rfl (RV.gw rfl (Step.fieldAddr rfl (F61_2 _ _)) rfl ?_))
           (first | refine RV.op (OV.step (gyes rfl) (Step.load Tryz.underlying24 rfl rfl (fun w h => h.cell 0 rfl rfl)) rfl ?_) | refine RV.op (OV.step (gyes rfl) (Step.load Tryz.underlying24 rfl rfl (fun w h => h.cell 1 rfl rfl)) rfl ?_) | refine RV.op (OV.step (gyes rfl) (Step.load Tryz.underlying24 rfl rfl (fun w h => (h.rs hr (fun _ => hI _)).cell (by omega) rfl)) rfl ?_) | refine RV.op (OV.step (gyes rfl) (Step.load Tryz.underlying24 rfl rfl (fun w h => (h.rs hr (fun _ => hI _)).cell0 (by omega) rfl)) rfl ?_))
           refine RV.gw rfl (Step.fieldAddr rfl (F61_2 _ _)) rfl ?_
           (first | refine RV.op (OV.step (gyes rfl) (Step.load Tryz.underlying24 rfl rfl (fun w h => h.cell 0 rfl rfl)) rfl ?_) | refine RV.op (OV.step (gyes rfl) (Step.load Tryz.underlying24 rfl rfl (fun w h => h.cell 1 rfl rfl)) rfl ?_) | refine RV.op (OV.step (gyes rfl) (Step.load Tryz.underlying24 rfl rfl (fun w h => (h.rs hr (fun _ => hI _)).cell (by omega) rfl)) rfl ?_) | refine RV.op (OV.step (gyes rfl) (Step.load Tryz.underlying24 rfl rfl (fun w h => (h.rs hr (fun _ => hI _)).cell0 (by omega) rfl)) rfl ?_))
           refine RV.op (OV.split (gyes rfl) (Step.lss rfl rfl) rfl (fun cc11 => ?_) (fun cc11 => ?_))
           ·
            refine RV.s (Step.pick_f rfl rfl) rfl ?_
            refine RV.nil (KV.then_n (KV.e5 0 14 15 16 64 (CV.cond_t rfl (CV.seq (CV.region ?_)))))
            refine RV.a rfl rfl ?_
            refine RV.nil (KV.then_n (KV.e1 2 (CV.ret (KV.block_ret (KV.then_ret ?_)))))
            refine KV.then_ret (KV.block_ret (KV.then_ret ?_))
            refine KV.sel [] [] rfl ?_
            exact KV.ret1 rfl rfl _ (fun _ h => h) ⟨by rw [chkM_bad (i := j) (by omega) (by unfold badAt bigP lowP pt; omega)], rfl⟩
           ·
            refine RV.s (Step.pick_f rfl rfl) rfl ?_
            refine RV.nil (KV.then_n (KV.e5 0 14 15 16 64 (CV.cond_f rfl (CV.skip (KV.block_n ?_)))))
            refine KV.then_n (KV.e4 0 14 15 16 (CV.region ?_))
            (first | refine RV.op (OV.step gno (Step.add rfl rfl (wI64 (by omega) (by omega))) rfl ?_) | refine RV.op (OV.step gno (Step.add rfl rfl rfl) rfl ?_))
            refine RV.m rfl rfl ?_
            refine RV.nil (KV.then_n (KV.e4 0 14 15 16 ?_))
            refine KV.sel [] [] rfl ?_
            have hnb : ¬ badAt ys j := by unfold badAt bigP lowP pt; omega
            exact KV.loopI (z := j) (j + 1) ⟨by omega, fun i hi => by by_cases e : i = j; (subst e; exact hnb); exact hinv.2 i (by omega)⟩ (by omega) ⟨rfl, rfl, rfl, rfl, trivial⟩ (fun _ h => h)
   ·
    refine RV.nil (KV.then_n (KV.e5 0 14 15 16 17 (CV.seq (CV.cond_f rfl (CV.exit ?_)))))
    refine KV.then_exit (KV.then_exit (KV.block_hit (KV.then_n (KV.env [] trivial (CV.seq ?_)))))
    refine CV.region ?_
    refine RV.a rfl rfl ?_
    refine RV.nil (KV.then_n (KV.e1 2 (CV.ret ?_)))
    refine KV.sel [] [] rfl ?_
    exact KV.ret1 rfl rfl _ (fun _ h => h) ⟨by rw [chkM_ok (by omega) (fun i hi => hinv.2 i (by omega))], rfl⟩

set_option maxRecDepth 100000 in
set_option maxHeartbeats 1000000 in
theorem checkR_fn {A : Option Addr} {n c : Nat} {ys : List Pt} {w : World} (hr : RS w ptK A ys) (hn : n = ys.length) (hl : ys.length ≤ 1000000) : Fx Tryz.prog 80 [.slice A n c] w [] no (fun v L => v = .int .i64 (chkM ys) ∧ L = []) := by
 subst hn
 refine Sv.Fx.body Tryz.func80 rfl T80 rfl ?_
 intro I hro hI
 refine KV.e1 0 (CV.seq (CV.region ?_))
 refine RV.a rfl rfl ?_
 refine RV.nil (KV.then_n (KV.e1 0 (CV.seq (CV.seq (CV.region ?_)))))
 refine RV.m rfl rfl (RV.s (Step.lenSl Tryz.underlying42 rfl) rfl ?_)
 refine RV.op (OV.split gno (Step.lss rfl rfl) rfl (fun cc1 => ?_) (fun cc1 => ?_))
 ·
  refine RV.m rfl rfl (RV.k rfl rfl (RV.k rfl rfl (RV.k rfl rfl (RV.s (Step.pick_t rfl rfl) rfl ?_))))
  refine RV.nil (KV.then_n (KV.e2 0 12 (CV.cond_t rfl (CV.seq (CV.region ?_)))))
  refine RV.a rfl rfl ?_
  refine RV.nil (KV.then_n (KV.e1 2 (CV.ret (KV.then_ret ?_))))
  refine KV.sel [] [] rfl ?_
  exact KV.ret1 rfl rfl _ (fun _ h => h) ⟨by rw [chkM_short (by omega)], rfl⟩
 ·
  refine RV.m rfl rfl (RV.gw rfl (Step.move rfl) rfl (RV.gw rfl (Step.lenSl Tryz.underlying42 rfl) rfl ?_))
  refine RV.op (OV.split (gyes rfl) (Step.gtr rfl rfl) rfl (fun cc2 => ?_) (fun cc2 => ?_))
  ·
   refine RV.s (Step.pick_f rfl rfl) rfl ?_
   refine RV.nil (KV.then_n (KV.e2 0 12 (CV.cond_t rfl (CV.seq (CV.region ?_)))))
   refine RV.a rfl rfl ?_
   refine RV.nil (KV.then_n (KV.e1 2 (CV.ret (KV.then_ret ?_))))
   refine KV.sel [] [] rfl ?_
   exact KV.ret1 rfl rfl _ (fun _ h => h) ⟨by rw [chkM_short (by omega)], rfl⟩
  ·
   refine RV.s (Step.pick_f rfl rfl) rfl ?_
   refine RV.nil (KV.then_n (KV.e2 0 12 (CV.cond_f rfl (CV.skip (KV.then_n ?_)))))
   refine KV.e1 0 (CV.seq (CV.seq (CV.region ?_)))
   refine RV.a rfl rfl ?_
   refine RV.nil (KV.then_n (KV.e2 0 3 (CV.block ?_)))
   refine KV.sel [] [] rfl ?_
   refine CV.loopI (fun (j : Nat) => j ≤ ys.length ∧ ∀ i, i < j → ¬ badAt ys i) (fun (j : Nat) => ys.length - j) (fun (j : Nat) => [(0, .slice A ys.length c), (3, .int .i64 j)]) (fun (j : Nat) => Hp I w []) (0) ⟨Nat.zero_le _, fun _ h => by omega⟩ ⟨rfl, rfl, trivial⟩ (fun _ h => h) ?_
   intro j hinv
   refine CV.seq (CV.seq (CV.region ?_))
   refine RV.m rfl rfl (RV.m rfl rfl (RV.s (Step.lenSl Tryz.underlying42 rfl) rfl ?_))
   refine RV.op (OV.split gno (Step.lss rfl rfl) rfl (fun cc3 => ?_) (fun cc3 => ?_))
   ·
    refine RV.nil (KV.then_n (KV.e3 0 3 16 (CV.cond_t rfl (CV.skip (KV.then_n ?_)))))
    refine KV.e2 0 3 (CV.seq (CV.block (CV.seq (CV.region ?_))))
    refine RV.m rfl rfl (RV.m rfl rfl ?_)
    refine RV.s (Step.idx Tryz.underlying42 I61 (fun w h => h.rs hr (fun _ => hI _)) rfl rfl (rfl) _ rfl (by omega)) rfl ?_
    refine RV.s (Step.loadN _ Tryz.underlying61 rfl I61 rfl rfl (fun w h => (h.rs hr (fun _ => hI _)).cells (by omega))) rfl ?_
    refine RV.op (OV.alloc #[.int .u64 0, .int .u64 0, .int .u64 0] I61 rfl gno rfl (fun b6_4 => ?_))
    refine RV.op (OV.store 0 [_, _, _] #[_, _, _] I61 rfl rfl rfl rfl rfl (Nat.le_of_ble_eq_true rfl) (by simp [Value.oneCell']) rfl gno ?_)
    refine RV.nil (KV.then_n (KV.e3 0 3 4 (CV.seq (CV.seq (CV.region ?_)))))
    refine RV.s (Step.fieldAddr rfl (F61_0 _ _)) rfl ?_
    (first | refine RV.op (OV.step gno (Step.load Tryz.underlying24 rfl rfl (fun w h => h.cell 0 rfl rfl)) rfl ?_) | refine RV.op (OV.step gno (Step.load Tryz.underlying24 rfl rfl (fun w h => (h.rs hr (fun _ => hI _)).cell (by omega) rfl)) rfl ?_) | refine RV.op (OV.step gno (Step.load Tryz.underlying24 rfl rfl (fun w h => (h.rs hr (fun _ => hI _)).cell0 (by omega) rfl)) rfl ?_))
    refine RV.op (OV.split gno (Step.lss rfl rfl) rfl (fun cc4 => ?_) (fun cc4 => ?_))
    ·
     refine RV.m rfl rfl (RV.k rfl rfl (RV.k rfl rfl (RV.k rfl rfl (RV.s (Step.pick_t rfl rfl) rfl (RV.m rfl rfl (RV.k rfl rfl (RV.k rfl rfl ?_)))))))
     refine RV.k rfl rfl (RV.s (Step.pick_t rfl rfl) rfl (RV.m rfl rfl (RV.k rfl rfl (RV.k rfl rfl (RV.k rfl rfl (RV.s (Step.pick_t rfl rfl) rfl ?_))))))
     refine RV.nil (KV.then_n (KV.e4 0 3 4 40 (CV.cond_t rfl (CV.seq (CV.region ?_)))))
     refine RV.a rfl rfl ?_
     refine RV.nil (KV.then_n (KV.e1 2 (CV.ret (KV.then_ret (KV.block_ret ?_)))))
     refine KV.then_ret (KV.then_ret (KV.block_ret (KV.then_ret ?_)))
     refine KV.sel [] [] rfl ?_
     exact KV.ret1 rfl rfl _ (fun _ h => h) ⟨by rw [chkM_bad (i := j) (by omega) (by unfold badAt bigP lowP pt; omega)], rfl⟩
    ·
     refine RV.m rfl rfl (RV.gw rfl (Step.fieldAddr rfl (F61_0 _ _)) rfl ?_)
     (first | refine RV.op (OV.step (gyes rfl) (Step.load Tryz.underlying24 rfl rfl (fun w h => h.cell 0 rfl rfl)) rfl ?_) | refine RV.op (OV.step (gyes rfl) (Step.load Tryz.underlying24 rfl rfl (fun w h => (h.rs hr (fun _ => hI _)).cell (by omega) rfl)) rfl ?_) | refine RV.op (OV.step (gyes rfl) (Step.load Tryz.underlying24 rfl rfl (fun w h => (h.rs hr (fun _ => hI _)).cell0 (by omega) rfl)) rfl ?_))
     refine RV.op (OV.split (gyes rfl) (Step.gtr rfl rfl) rfl (fun cc5 => ?_) (fun cc5 => ?_))
     ·
      refine RV.s (Step.pick_f rfl rfl) rfl (RV.m rfl rfl (RV.k rfl rfl (RV.k rfl rfl (RV.k rfl rfl (RV.s (Step.pick_t rfl rfl) rfl (RV.m rfl rfl (RV.k rfl rfl ?_)))))))
      refine RV.k rfl rfl (RV.k rfl rfl (RV.s (Step.pick_t rfl rfl) rfl ?_))
      refine RV.nil (KV.then_n (KV.e4 0 3 4 40 (CV.cond_t rfl (CV.seq (CV.region ?_)))))
      refine RV.a rfl rfl ?_
      refine RV.nil (KV.then_n (KV.e1 2 (CV.ret (KV.then_ret (KV.block_ret ?_)))))
      refine KV.then_ret (KV.then_ret (KV.block_ret (KV.then_ret ?_)))
      refine KV.sel [] [] rfl ?_
      exact KV.ret1 rfl rfl _ (fun _ h => h) ⟨by rw [chkM_bad (i := j) (by omega) (by unfold badAt bigP lowP pt; omega)], rfl⟩
     ·
      refine RV.s (Step.pick_f rfl rfl) rfl (RV.m rfl rfl (RV.gw rfl (Step.fieldAddr rfl (F61_1 _ _)) rfl ?_))
      (first | refine RV.op (OV.step (gyes rfl) (Step.load Tryz.underlying24 rfl rfl (fun w h => h.cell 0 rfl rfl)) rfl ?_) | refine RV.op (OV.step (gyes rfl) (Step.load Tryz.underlying24 rfl rfl (fun w h => (h.rs hr (fun _ => hI _)).cell (by omega) rfl)) rfl ?_) | refine RV.op (OV.step (gyes rfl) (Step.load Tryz.underlying24 rfl rfl (fun w h => (h.rs hr (fun _ => hI _)).cell0 (by omega) rfl)) rfl ?_))
      refine RV.op (OV.split (gyes rfl) (Step.gtr rfl rfl) rfl (fun cc6 => ?_) (fun cc6 => ?_))
      ·
       refine RV.s (Step.pick_f rfl rfl) rfl (RV.m rfl rfl (RV.k rfl rfl (RV.k rfl rfl (RV.k rfl rfl (RV.s (Step.pick_t rfl rfl) rfl ?_)))))
       refine RV.nil (KV.then_n (KV.e4 0 3 4 40 (CV.cond_t rfl (CV.seq (CV.region ?_)))))
       refine RV.a rfl rfl ?_
       refine RV.nil (KV.then_n (KV.e1 2 (CV.ret (KV.then_ret (KV.block_ret ?_)))))
       refine KV.then_ret (KV.then_ret (KV.block_ret (KV.then_ret ?_)))
       refine KV.sel [] [] rfl ?_
       exact KV.ret1 rfl rfl _ (fun _ h => h) ⟨by rw [chkM_bad (i := j) (by omega) (by unfold badAt bigP lowP pt; omega)], rfl⟩
      ·
       refine RV.s (Step.pick_f rfl rfl) rfl (RV.m rfl rfl (RV.gw rfl (Step.fieldAddr rfl (F61_2 _ _)) rfl ?_))
       (first | refine RV.op (OV.step (gyes rfl) (Step.load Tryz.underlying24 rfl rfl (fun w h => h.cell 0 rfl rfl)) rfl ?_) | refine RV.op (OV.step (gyes rfl) (Step.load Tryz.underlying24 rfl rfl (fun w h => (h.rs hr (fun _ => hI _)).cell (by omega) rfl)) rfl ?_) | refine RV.op (OV.step (gyes rfl) (Step.load Tryz.underlying24 rfl rfl (fun w h => (h.rs hr (fun _ => hI _)).cell0 (by omega) rfl)) rfl ?_))
       refine RV.op (OV.split (gyes rfl) (Step.gtr rfl rfl) rfl (fun cc7 => ?_) (fun cc7 => ?_))
       ·
        refine RV.s (Step.pick_f rfl rfl) rfl ?_
        refine RV.nil (KV.then_n (KV.e4 0 3 4 40 (CV.cond_t rfl (CV.seq (CV.region ?_)))))
        refine RV.a rfl rfl ?_
        refine RV.nil (KV.then_n (KV.e1 2 (CV.ret (KV.then_ret (KV.block_ret ?_)))))
        refine KV.then_ret (KV.then_ret (KV.block_ret (KV.then_ret ?_)))
        refine KV.sel [] [] rfl ?_
        exact KV.ret1 rfl rfl _ (fun _ h => h) ⟨by rw [chkM_bad (i := j) (by omega) (by unfold badAt bigP lowP pt; omega)], rfl⟩
       ·
        refine RV.s (Step.pick_f rfl rfl) rfl ?_
        refine RV.nil (KV.then_n (KV.e4 0 3 4 40 (CV.cond_f rfl (CV.skip (KV.then_n ?_)))))
        refine KV.e3 0 3 4 (CV.seq ?_)
        refine CV.still (by kernel_rfl) (by kernel_rfl) (fun _ h => h.drew) ?_
        refine SV.step gno (Step.move rfl) rfl ?_
        refine SV.split gno (Step.gtr rfl rfl) rfl (fun cc8 => ?_) (fun cc8 => ?_)
        ·
         refine SV.step gno (Step.move rfl) rfl ?_
         refine SV.step (gyes rfl) (Step.fieldAddr rfl (F61_0 _ _)) rfl ?_
         (first | refine SV.step (gyes rfl) (Step.load Tryz.underlying24 rfl rfl (fun w h => h.cell 0 rfl rfl)) rfl ?_ | refine SV.step (gyes rfl) (Step.load Tryz.underlying24 rfl rfl (fun w h => (h.rs hr (fun _ => hI _)).cell (by omega) rfl)) rfl ?_ | refine SV.step (gyes rfl) (Step.load Tryz.underlying24 rfl rfl (fun w h => (h.rs hr (fun _ => hI _)).cell0 (by omega) rfl)) rfl ?_)
         refine SV.step (gyes rfl) (Step.move rfl) rfl ?_
         refine SV.step (gyes rfl) (Step.move rfl) rfl ?_
         (first | refine SV.step (gyes rfl) (Step.sub rfl rfl (wI64 (by omega) (by omega))) rfl ?_ | refine SV.step (gyes rfl) (Step.sub rfl rfl rfl) rfl ?_)
         refine SV.step (gyes rfl) (Step.idx Tryz.underlying42 I61 (fun w h => h.rs hr (fun _ => hI _)) rfl rfl (rfl) _ (show (j : Int) - 1 = ((j - 1 : Nat) : Int) by omega) (by omega)) rfl ?_
         refine SV.step (gyes rfl) (Step.fieldAddr rfl (F61_0 _ _)) rfl ?_
         (first | refine SV.step (gyes rfl) (Step.load Tryz.underlying24 rfl rfl (fun w h => h.cell 0 rfl rfl)) rfl ?_ | refine SV.step (gyes rfl) (Step.load Tryz.underlying24 rfl rfl (fun w h => (h.rs hr (fun _ => hI _)).cell (by omega) rfl)) rfl ?_ | refine SV.step (gyes rfl) (Step.load Tryz.underlying24 rfl rfl (fun w h => (h.rs hr (fun _ => hI _)).cell0 (by omega) rfl)) rfl ?_)
         refine SV.split (gyes rfl) (Step.leq rfl rfl) rfl (fun cc9 => ?_) (fun cc9 => ?_)
         ·
          refine SV.step (gyes rfl) (Step.move rfl) rfl ?_
          refine SV.skip rfl rfl ?_
          refine SV.skip rfl rfl ?_
          refine SV.skip rfl rfl ?_
          refine SV.skip rfl rfl ?_
          refine SV.skip rfl rfl ?_
          refine SV.skip rfl rfl ?_
          refine SV.skip rfl rfl ?_
          refine SV.skip rfl rfl ?_
          refine SV.skip rfl rfl ?_
          refine SV.step (gyes rfl) (Step.pick_t rfl rfl) rfl ?_
          refine SV.step (gyes rfl) (Step.move rfl) rfl ?_
          refine SV.skip rfl rfl ?_
          refine SV.skip rfl rfl ?_
          refine SV.skip rfl rfl ?_
          refine SV.skip rfl rfl ?_
          refine SV.skip rfl rfl ?_
          refine SV.skip rfl rfl ?_
          refine SV.skip rfl rfl ?_
          refine SV.skip rfl rfl ?_
          refine SV.skip rfl rfl ?_
          refine SV.step (gyes rfl) (Step.pick_t rfl rfl) rfl ?_
          refine SV.step gno (Step.pick_t rfl rfl) rfl ?_
          refine SV.nil (KV.then_n (KV.e3 0 3 75 (CV.cond_t rfl (CV.seq (CV.region ?_)))))
          refine RV.a rfl rfl ?_
          refine RV.nil (KV.then_n (KV.e1 2 (CV.ret (KV.block_ret (KV.then_ret ?_)))))
          refine KV.then_ret (KV.block_ret (KV.then_ret ?_))
          refine KV.sel [] [] rfl ?_
          exact KV.ret1 rfl rfl _ (fun _ h => h) ⟨by rw [chkM_bad (i := j) (by omega) (by unfold badAt bigP lowP pt; omega)], rfl⟩
         ·
          refine SV.step (gyes rfl) (Step.move rfl) rfl ?_
          refine SV.step (gyes rfl) (Step.fieldAddr rfl (F61_1 _ _)) rfl ?_
          (first | refine SV.step (gyes rfl) (Step.load Tryz.underlying24 rfl rfl (fun w h => h.cell 0 rfl rfl)) rfl ?_ | refine SV.step (gyes rfl) (Step.load Tryz.underlying24 rfl rfl (fun w h => (h.rs hr (fun _ => hI _)).cell (by omega) rfl)) rfl ?_ | refine SV.step (gyes rfl) (Step.load Tryz.underlying24 rfl rfl (fun w h => (h.rs hr (fun _ => hI _)).cell0 (by omega) rfl)) rfl ?_)
          refine SV.step (gyes rfl) (Step.move rfl) rfl ?_
          refine SV.step (gyes rfl) (Step.move rfl) rfl ?_
          (first | refine SV.step (gyes rfl) (Step.sub rfl rfl (wI64 (by omega) (by omega))) rfl ?_ | refine SV.step (gyes rfl) (Step.sub rfl rfl rfl) rfl ?_)
          refine SV.step (gyes rfl) (Step.idx Tryz.underlying42 I61 (fun w h => h.rs hr (fun _ => hI _)) rfl rfl (rfl) _ (show (j : Int) - 1 = ((j - 1 : Nat) : Int) by omega) (by omega)) rfl ?_
          refine SV.step (gyes rfl) (Step.fieldAddr rfl (F61_1 _ _)) rfl ?_
          (first | refine SV.step (gyes rfl) (Step.load Tryz.underlying24 rfl rfl (fun w h => h.cell 0 rfl rfl)) rfl ?_ | refine SV.step (gyes rfl) (Step.load Tryz.underlying24 rfl rfl (fun w h => (h.rs hr (fun _ => hI _)).cell (by omega) rfl)) rfl ?_ | refine SV.step (gyes rfl) (Step.load Tryz.underlying24 rfl rfl (fun w h => (h.rs hr (fun _ => hI _)).cell0 (by omega) rfl)) rfl ?_)
          refine SV.split (gyes rfl) (Step.lss rfl rfl) rfl (fun cc10 => ?_) (fun cc10 => ?_)
          ·
           refine SV.step (gyes rfl) (Step.pick_f rfl rfl) rfl ?_
           refine SV.step (gyes rfl) (Step.move rfl) rfl ?_
           refine SV.skip rfl rfl ?_
           refine SV.skip rfl rfl ?_
           refine SV.skip rfl rfl ?_
           refine SV.skip rfl rfl ?_
           refine SV.skip rfl rfl ?_
           refine SV.skip rfl rfl ?_
           refine SV.skip rfl rfl ?_
           refine SV.skip rfl rfl ?_
           refine SV.skip rfl rfl ?_
           refine SV.step (gyes rfl) (Step.pick_t rfl rfl) rfl ?_
           refine SV.step gno (Step.pick_t rfl rfl) rfl ?_
           refine SV.nil (KV.then_n (KV.e3 0 3 75 (CV.cond_t rfl (CV.seq (CV.region ?_)))))
           refine RV.a rfl rfl ?_
           refine RV.nil (KV.then_n (KV.e1 2 (CV.ret (KV.block_ret (KV.then_ret ?_)))))
           refine KV.then_ret (KV.block_ret (KV.then_ret ?_))
           refine KV.sel [] [] rfl ?_
           exact KV.ret1 rfl rfl _ (fun _ h => h) ⟨by rw [chkM_bad (i := j) (by omega) (by unfold badAt bigP lowP pt; omega)], rfl⟩
          ·
           refine SV.step (gyes rfl) (Step.pick_f rfl rfl) rfl ?_
           refine SV.step (gyes rfl) (Step.move rfl) rfl ?_
           refine SV.step (gyes rfl) (Step.fieldAddr rfl (F61_2 _ _)) rfl ?_
           (first | refine SV.step (gyes rfl) (Step.load Tryz.underlying24 rfl rfl (fun w h => h.cell 0 rfl rfl)) rfl ?_ | refine SV.step (gyes rfl) (Step.load Tryz.underlying24 rfl rfl (fun w h => (h.rs hr (fun _ => hI _)).cell (by omega) rfl)) rfl ?_ | refine SV.step (gyes rfl) (Step.load Tryz.underlying24 rfl rfl (fun w h => (h.rs hr (fun _ => hI _)).cell0 (by omega) rfl)) rfl ?_)
           refine SV.step (gyes rfl) (Step.move rfl) rfl ?_
           refine SV.step (gyes rfl) (Step.move rfl) rfl ?_
           (first | refine SV.step (gyes rfl) (Step.sub rfl rfl (wI64 (by omega) (by omega))) rfl ?_ | refine SV.step (gyes rfl) (Step.sub rfl rfl rfl) rfl ?_)
           refine SV.step (gyes rfl) (Step.idx Tryz.underlying42 I61 (fun w h => h.rs hr (fun _ => hI _)) rfl rfl (rfl) _ (show (j : Int) - 1 = ((j - 1 : Nat) : Int) by omega) (by omega)) rfl ?_
           refine SV.step (gyes rfl) (Step.fieldAddr rfl (F61_2 _ _)) rfl ?_
           (first | refine SV.step (gyes rfl) (Step.load Tryz.underlying24 rfl rfl (fun w h => h.cell 0 rfl rfl)) rfl ?_ | refine SV.step (gyes rfl) (Step.load Tryz.underlying24 rfl rfl (fun w h => (h.rs hr (fun _ => hI _)).cell (by omega) rfl)) rfl ?_ | refine SV.step (gyes rfl) (Step.load Tryz.underlying24 rfl rfl (fun w h => (h.rs hr (fun _ => hI _)).cell0 (by omega) rfl)) rfl ?_)
           refine SV.split (gyes rfl) (Step.lss rfl rfl) rfl (fun cc11 => ?_) (fun cc11 => ?_)
           ·
            refine SV.step (gyes rfl) (Step.pick_f rfl rfl) rfl ?_
            refine SV.step gno (Step.pick_t rfl rfl) rfl ?_
            refine SV.nil (KV.then_n (KV.e3 0 3 75 (CV.cond_t rfl (CV.seq (CV.region ?_)))))
            refine RV.a rfl rfl ?_
            refine RV.nil (KV.then_n (KV.e1 2 (CV.ret (KV.block_ret (KV.then_ret ?_)))))
            refine KV.then_ret (KV.block_ret (KV.then_ret ?_))
            refine KV.sel [] [] rfl ?_
            exact KV.ret1 rfl rfl _ (fun _ h => h) ⟨by rw [chkM_bad (i := j) (by omega) (by unfold badAt bigP lowP pt; omega)], rfl⟩
           ·
            refine SV.step (gyes rfl) (Step.pick_f rfl rfl) rfl ?_
            refine SV.step gno (Step.pick_t rfl rfl) rfl ?_
            refine SV.nil (KV.then_n (KV.e3 0 3 75 (CV.cond_f rfl (CV.skip (KV.block_n ?_)))))
            refine KV.then_n (KV.e2 0 3 (CV.region ?_))
            refine RV.m rfl rfl ?_
            (first | refine RV.op (OV.step gno (Step.add rfl rfl (wI64 (by omega) (by omega))) rfl ?_) | refine RV.op (OV.step gno (Step.add rfl rfl rfl) rfl ?_))
            refine RV.a rfl rfl ?_
            refine RV.nil (KV.then_n (KV.e2 0 3 ?_))
            refine KV.sel [] [] rfl ?_
            have hnb : ¬ badAt ys j := by unfold badAt bigP lowP pt; omega
            exact KV.loopI (z := j) (j + 1) ⟨by omega, fun i hi => by by_cases e : i = j; (subst e; exact hnb); exact hinv.2 i (by omega)⟩ (by omega) ⟨rfl, rfl, trivial⟩ (fun _ h => h)
        ·
         refine SV.step gno (Step.move rfl) rfl ?_
         refine SV.skip rfl rfl ?_
         refine SV.skip rfl rfl ?_
         refine SV.skip rfl rfl ?_
         refine SV.skip rfl rfl ?_
         refine SV.skip rfl rfl ?_
         refine SV.skip rfl rfl ?_
         refine SV.skip rfl rfl ?_
         refine SV.skip rfl rfl ?_
         refine SV.skip rfl rfl ?_
         refine SV.skip rfl rfl ?_
         refine SV.skipU rfl rfl ?_
         refine SV.skipU rfl rfl ?_
         refine SV.skipU rfl rfl ?_
         refine SV.skipU rfl rfl ?_
         refine SV.skipU rfl rfl ?_
         refine SV.skipU rfl rfl ?_
         refine SV.skipU rfl rfl ?_
         refine SV.skipU rfl rfl ?_
         refine SV.skipU rfl rfl ?_
         refine SV.skip rfl rfl ?_
         refine SV.skip rfl rfl ?_
         refine SV.skipU rfl rfl ?_
         refine SV.skipU rfl rfl ?_
         refine SV.skipU rfl rfl ?_
         refine SV.skipU rfl rfl ?_
         refine SV.skipU rfl rfl ?_
         refine SV.skipU rfl rfl ?_
         refine SV.skipU rfl rfl ?_
         refine SV.skipU rfl rfl ?_
         refine SV.skipU rfl rfl ?_
         refine SV.skip rfl rfl ?_
         refine SV.step gno (Step.pick_f rfl rfl) rfl ?_
         refine SV.nil (KV.then_n (KV.e3 0 3 75 (CV.cond_f rfl (CV.skip (KV.block_n ?_)))))
         refine KV.then_n (KV.e2 0 3 (CV.region ?_))
         refine RV.m rfl rfl ?_
         (first | refine RV.op (OV.step gno (Step.add rfl rfl (wI64 (by omega) (by omega))) rfl ?_) | refine RV.op (OV.step gno (Step.add rfl rfl rfl) rfl ?_))
         refine RV.a rfl rfl ?_
         refine RV.nil (KV.then_n (KV.e2 0 3 ?_))
         refine KV.sel [] [] rfl ?_
         have hnb : ¬ badAt ys j := by unfold badAt bigP lowP pt; omega
         exact KV.loopI (z := j) (j + 1) ⟨by omega, fun i hi => by by_cases e : i = j; (subst e; exact hnb); exact hinv.2 i (by omega)⟩ (by omega) ⟨rfl, rfl, trivial⟩ (fun _ h => h)
   ·
    refine RV.nil (KV.then_n (KV.e3 0 3 16 (CV.cond_f rfl (CV.exit (KV.then_exit ?_)))))
    refine KV.then_exit (KV.block_hit (KV.then_n (KV.env [] trivial (CV.seq (CV.region ?_)))))
    refine RV.a rfl rfl ?_
    refine RV.nil (KV.then_n (KV.e1 2 (CV.ret ?_)))
    refine KV.sel [] [] rfl ?_
    exact KV.ret1 rfl rfl _ (fun _ h => h) ⟨by rw [chkM_ok (by omega) (fun i hi => hinv.2 i (by omega))], rfl⟩

set_option maxRecDepth 100000 in
set_option maxHeartbeats 1000000 in
theorem clonePt_fn {A : Option Addr} {n c : Nat} {ys : List Pt} {w : World} (hr : RS w ptK A ys) (hn : n = ys.length) (hl : ys.length ≤ 1000000) : Fx Tryz.prog 75 [.slice A n c] w [] no (fun v L => ∃ A2 c2, v = .slice A2 ys.length c2 ∧ L = [OS 61 ptK A2 c2 ys]) := by
 subst hn
 refine Sv.Fx.body Tryz.func75 rfl T75 rfl ?_
 intro I hro hI
 refine KV.e1 0 (CV.seq (CV.region ?_))
 refine RV.a rfl rfl ?_
 refine RV.nil (KV.then_n (KV.e1 0 (CV.seq (CV.seq (CV.region ?_)))))
 refine RV.m rfl rfl ?_
 refine RV.op (OV.split gno (Step.nilSl Tryz.underlying42 rfl rfl) rfl (fun hq => ?_) (fun hq => ?_))
 ·
  subst hq
  obtain rfl := hr.nil_of
  refine RV.nil (KV.then_n (KV.e2 0 4 (CV.cond_t rfl (CV.seq (CV.region ?_)))))
  refine RV.a rfl rfl ?_
  refine RV.nil (KV.then_n (KV.e1 2 (CV.ret (KV.then_ret ?_))))
  refine KV.sel [] [] rfl ?_
  exact KV.ret1 rfl rfl _ (fun _ h => h.nilOS) ⟨none, 0, rfl, rfl⟩
 ·
  refine RV.nil (KV.then_n (KV.e2 0 4 (CV.cond_f rfl (CV.skip (KV.then_n ?_)))))
  refine KV.e1 0 (CV.seq (CV.region ?_))
  refine RV.op (OV.buildSlice (K := ptK) ([]) rfl (Bs42_0_) rfl rfl (by omega) gno rfl (fun b3_0 => ?_))
  refine RV.m rfl rfl ?_
  refine RV.op (OV.append 0 Tryz.underlying42 I61 rfl rfl rfl rfl rfl rfl (fun w h => h.rs hr (fun _ => hI _)) (by simp only [List.length_nil]; omega) (by simp only [List.length_nil]; omega) gno rfl (fun b3_2a b3_2c => ?_))
  refine RV.a rfl rfl ?_
  refine RV.nil (KV.then_n (KV.e1 2 (CV.ret ?_)))
  refine KV.sel [0] [_] rfl ?_
  exact KV.ret1 rfl rfl _ (fun _ h => h) ⟨_, _, rfl, rfl⟩

set_option maxRecDepth 100000 in
set_option maxHeartbeats 1000000 in
theorem cloneTr_fn {A : Option Addr} {n c : Nat} {ys : List Trp} {w : World} (hr : RS w trK A ys) (hn : n = ys.length) (hl : ys.length ≤ 1000000) : Fx Tryz.prog 76 [.slice A n c] w [] no (fun v L => ∃ A2 c2, v = .slice A2 ys.length c2 ∧ L = [OS 190 trK A2 c2 ys]) := by
 subst hn
 refine Sv.Fx.body Tryz.func76 rfl T76 rfl ?_
 intro I hro hI
 refine KV.e1 0 (CV.seq (CV.region ?_))
 refine RV.a rfl rfl ?_
 refine RV.nil (KV.then_n (KV.e1 0 (CV.seq (CV.seq (CV.region ?_)))))
 refine RV.m rfl rfl ?_
 refine RV.op (OV.split gno (Step.nilSl Tryz.underlying43 rfl rfl) rfl (fun hq => ?_) (fun hq => ?_))
 ·
  subst hq
  obtain rfl := hr.nil_of
  refine RV.nil (KV.then_n (KV.e2 0 4 (CV.cond_t rfl (CV.seq (CV.region ?_)))))
  refine RV.a rfl rfl ?_
  refine RV.nil (KV.then_n (KV.e1 2 (CV.ret (KV.then_ret ?_))))
  refine KV.sel [] [] rfl ?_
  exact KV.ret1 rfl rfl _ (fun _ h => h.nilOS) ⟨none, 0, rfl, rfl⟩
 ·
  refine RV.nil (KV.then_n (KV.e2 0 4 (CV.cond_f rfl (CV.skip (KV.then_n ?_)))))
  refine KV.e1 0 (CV.seq (CV.region ?_))
  refine RV.op (OV.buildSlice (K := trK) ([]) rfl (Bs43_0_) rfl rfl (by omega) gno rfl (fun b3_0 => ?_))
  refine RV.m rfl rfl ?_
  refine RV.op (OV.append 0 Tryz.underlying43 I190 rfl rfl rfl rfl rfl rfl (fun w h => h.rs hr (fun _ => hI _)) (by simp only [List.length_nil]; omega) (by simp only [List.length_nil]; omega) gno rfl (fun b3_2a b3_2c => ?_))
  refine RV.a rfl rfl ?_
  refine RV.nil (KV.then_n (KV.e1 2 (CV.ret ?_)))
  refine KV.sel [0] [_] rfl ?_
  exact KV.ret1 rfl rfl _ (fun _ h => h) ⟨_, _, rfl, rfl⟩

set_option maxRecDepth 100000 in
set_option maxHeartbeats 1000000 in
theorem cloneHd_fn {A : Option Addr} {n c : Nat} {ys : List HD} {w : World} (hr : RS w hdK A ys) (hn : n = ys.length) (hl : ys.length ≤ 1000000) : Fx Tryz.prog 78 [.slice A n c] w [] no (fun v L => ∃ A2 c2, v = .slice A2 ys.length c2 ∧ L = [OS 41 hdK A2 c2 ys]) := by
 subst hn
 refine Sv.Fx.body Tryz.func78 rfl T78 rfl ?_
 intro I hro hI
 refine KV.e1 0 (CV.seq (CV.region ?_))
 refine RV.a rfl rfl ?_
 refine RV.nil (KV.then_n (KV.e1 0 (CV.seq (CV.seq (CV.region ?_)))))
 refine RV.m rfl rfl ?_
 refine RV.op (OV.split gno (Step.nilSl Tryz.underlying104 rfl rfl) rfl (fun hq => ?_) (fun hq => ?_))
 ·
  subst hq
  obtain rfl := hr.nil_of
  refine RV.nil (KV.then_n (KV.e2 0 4 (CV.cond_t rfl (CV.seq (CV.region ?_)))))
  refine RV.a rfl rfl ?_
  refine RV.nil (KV.then_n (KV.e1 2 (CV.ret (KV.then_ret ?_))))
  refine KV.sel [] [] rfl ?_
  exact KV.ret1 rfl rfl _ (fun _ h => h.nilOS) ⟨none, 0, rfl, rfl⟩
 ·
  refine RV.nil (KV.then_n (KV.e2 0 4 (CV.cond_f rfl (CV.skip (KV.then_n ?_)))))
  refine KV.e1 0 (CV.seq (CV.region ?_))
  refine RV.op (OV.buildSlice (K := hdK) ([]) rfl (Bs104_0_) rfl rfl (by omega) gno rfl (fun b3_0 => ?_))
  refine RV.m rfl rfl ?_
  refine RV.op (OV.append 0 Tryz.underlying104 I41 rfl rfl rfl rfl rfl rfl (fun w h => h.rs hr (fun _ => hI _)) (by simp only [List.length_nil]; omega) (by simp only [List.length_nil]; omega) gno rfl (fun b3_2a b3_2c => ?_))
  refine RV.a rfl rfl ?_
  refine RV.nil (KV.then_n (KV.e1 2 (CV.ret ?_)))
  refine KV.sel [0] [_] rfl ?_
  exact KV.ret1 rfl rfl _ (fun _ h => h) ⟨_, _, rfl, rfl⟩

set_option maxRecDepth 100000 in
set_option maxHeartbeats 1000000 in
theorem cloneHl_fn {A : Option Addr} {n c : Nat} {ys : List HL} {w : World} (hr : RS w hlK A ys) (hn : n = ys.length) (hl : ys.length ≤ 1000000) : Fx Tryz.prog 79 [.slice A n c] w [] no (fun v L => ∃ A2 c2, v = .slice A2 ys.length c2 ∧ L = [OS 195 hlK A2 c2 ys]) := by
 subst hn
 refine Sv.Fx.body Tryz.func79 rfl T79 rfl ?_
 intro I hro hI
 refine KV.e1 0 (CV.seq (CV.region ?_))
 refine RV.a rfl rfl ?_
 refine RV.nil (KV.then_n (KV.e1 0 (CV.seq (CV.seq (CV.region ?_)))))
 refine RV.m rfl rfl ?_
 refine RV.op (OV.split gno (Step.nilSl Tryz.underlying23 rfl rfl) rfl (fun hq => ?_) (fun hq => ?_))
 ·
  subst hq
  obtain rfl := hr.nil_of
  refine RV.nil (KV.then_n (KV.e2 0 4 (CV.cond_t rfl (CV.seq (CV.region ?_)))))
  refine RV.a rfl rfl ?_
  refine RV.nil (KV.then_n (KV.e1 2 (CV.ret (KV.then_ret ?_))))
  refine KV.sel [] [] rfl ?_
  exact KV.ret1 rfl rfl _ (fun _ h => h.nilOS) ⟨none, 0, rfl, rfl⟩
 ·
  refine RV.nil (KV.then_n (KV.e2 0 4 (CV.cond_f rfl (CV.skip (KV.then_n ?_)))))
  refine KV.e1 0 (CV.seq (CV.region ?_))
  refine RV.op (OV.buildSlice (K := hlK) ([]) rfl (Bs23_0_) rfl rfl (by omega) gno rfl (fun b3_0 => ?_))
  refine RV.m rfl rfl ?_
  refine RV.op (OV.append 0 Tryz.underlying23 I195 rfl rfl rfl rfl rfl rfl (fun w h => h.rs hr (fun _ => hI _)) (by simp only [List.length_nil]; omega) (by simp only [List.length_nil]; omega) gno rfl (fun b3_2a b3_2c => ?_))
  refine RV.a rfl rfl ?_
  refine RV.nil (KV.then_n (KV.e1 2 (CV.ret ?_)))
  refine KV.sel [0] [_] rfl ?_
  exact KV.ret1 rfl rfl _ (fun _ h => h) ⟨_, _, rfl, rfl⟩

set_option maxRecDepth 100000 in
set_option maxHeartbeats 1000000 in
theorem cloneI_fn {A : Option Addr} {n c : Nat} {ys : List Int} {w : World} (hr : RS w (intK .i64) A ys) (hn : n = ys.length) (hl : ys.length ≤ 1000000) : Fx Tryz.prog 51 [.slice A n c] w [] no (fun v L => ∃ A2 c2, v = .slice A2 ys.length c2 ∧ L = [OS 2 (intK .i64) A2 c2 ys]) := by
 subst hn
 refine Sv.Fx.body Tryz.func51 rfl T51 rfl ?_
 intro I hro hI
 refine KV.e1 0 (CV.seq (CV.region ?_))
 refine RV.a rfl rfl ?_
 refine RV.nil (KV.then_n (KV.e1 0 (CV.seq (CV.seq (CV.region ?_)))))
 refine RV.m rfl rfl ?_
 refine RV.op (OV.split gno (Step.nilSl Tryz.underlying56 rfl rfl) rfl (fun hq => ?_) (fun hq => ?_))
 ·
  subst hq
  obtain rfl := hr.nil_of
  refine RV.nil (KV.then_n (KV.e2 0 4 (CV.cond_t rfl (CV.seq (CV.region ?_)))))
  refine RV.a rfl rfl ?_
  refine RV.nil (KV.then_n (KV.e1 2 (CV.ret (KV.then_ret ?_))))
  refine KV.sel [] [] rfl ?_
  exact KV.ret1 rfl rfl _ (fun _ h => h.nilOS) ⟨none, 0, rfl, rfl⟩
 ·
  refine RV.nil (KV.then_n (KV.e2 0 4 (CV.cond_f rfl (CV.skip (KV.then_n ?_)))))
  refine KV.e1 0 (CV.seq (CV.region ?_))
  refine RV.op (OV.buildSlice (K := (intK .i64)) ([]) rfl (Bs56_0_) rfl rfl (by omega) gno rfl (fun b3_0 => ?_))
  refine RV.m rfl rfl ?_
  refine RV.op (OV.append 0 Tryz.underlying56 I2 rfl rfl rfl rfl rfl rfl (fun w h => h.rs hr (fun _ => hI _)) (by simp only [List.length_nil]; omega) (by simp only [List.length_nil]; omega) gno rfl (fun b3_2a b3_2c => ?_))
  refine RV.a rfl rfl ?_
  refine RV.nil (KV.then_n (KV.e1 2 (CV.ret ?_)))
  refine KV.sel [0] [_] rfl ?_
  exact KV.ret1 rfl rfl _ (fun _ h => h) ⟨_, _, rfl, rfl⟩

set_option maxRecDepth 100000 in
set_option maxHeartbeats 1000000 in
theorem new_fn {A : Option Addr} {n c : Nat} {ys : List Pt} {w : World} (hr : RS w ptK A ys) (hn : n = ys.length) (hl : ys.length ≤ 1000000) (u d s : Int) : Fx Tryz.prog 88 [.slice A n c, .agg #[.int .i64 u, .int .i64 d, .int .i64 s]] w [] no (fun v L => (newE ys u d s = 0 → ∃ b A2 c2, v = .tuple #[.pointer (some ⟨b, 0, none⟩), .int .i64 0] ∧ L = gobj 223 b A2 c2 (gov0 ys u d s)) ∧ (newE ys u d s ≠ 0 → v = .tuple #[.pointer none, .int .i64 (newE ys u d s)] ∧ L = [])) := by
 subst hn
 refine Sv.Fx.body Tryz.func88 rfl T88 rfl ?_
 intro I hro hI
 refine KV.e2 0 1 (CV.seq (CV.region ?_))
 refine RV.op (OV.box (t := 39) #[_, _, _] rfl rfl gno rfl (fun b0_0 => ?_))
 refine RV.a rfl rfl (RV.a rfl rfl ?_)
 refine RV.nil (KV.then_n (KV.e2 0 3 (CV.seq (CV.seq (CV.region ?_)))))
 refine RV.m rfl rfl ?_
 refine RV.op (OV.call [] (F := [_]) Tryz.func121 B121 N121 rfl rfl (fun w h => check_fn (h.rs hr (fun _ => hI _)) rfl hl) (fun _ hb => hb.elim) gno rfl (fun v L' hp => ?_))
 obtain ⟨rfl, rfl⟩ := hp
 simp only [List.append_nil]
 refine RV.a rfl rfl ?_
 refine RV.nil (KV.then_n (KV.e3 0 3 6 (CV.seq (CV.region ?_))))
 refine RV.m rfl rfl ?_
 refine RV.op (OV.split gno (Step.neq rfl rfl) rfl (fun hc => ?_) (fun hc => ?_))
 ·
  refine RV.nil (KV.then_n (KV.e4 0 3 6 10 (CV.cond_t rfl (CV.seq (CV.region ?_)))))
  refine RV.m rfl rfl (RV.a rfl rfl (RV.a rfl rfl ?_))
  refine RV.nil (KV.then_n (KV.e2 4 5 (CV.ret (KV.then_ret ?_))))
  refine KV.sel [] [] rfl ?_
  have hE : newE ys u d s = chkM ys := newE_chk hc
  exact KV.ret2 rfl rfl rfl _ (fun _ h => h) ⟨fun h0 => absurd h0 (by rw [hE]; first | decide | exact hc), fun _ => ⟨by rw [hE], rfl⟩⟩
 ·
  refine RV.nil (KV.then_n (KV.e4 0 3 6 10 (CV.cond_f rfl (CV.skip (KV.then_n ?_)))))
  refine KV.e2 0 3 (CV.seq (CV.seq (CV.region ?_)))
  refine RV.s (Step.fieldAddr rfl (F39_0 _ _)) rfl ?_
  (first | refine RV.op (OV.step gno (Step.load Tryz.underlying3 rfl rfl (fun w h => h.cell 0 rfl rfl)) rfl ?_) | refine RV.op (OV.step gno (Step.load Tryz.underlying3 rfl rfl (fun w h => (h.rs hr (fun _ => hI _)).cell (by omega) rfl)) rfl ?_) | refine RV.op (OV.step gno (Step.load Tryz.underlying3 rfl rfl (fun w h => (h.rs hr (fun _ => hI _)).cell0 (by omega) rfl)) rfl ?_))
  refine RV.op (OV.split gno (Step.lss rfl rfl) rfl (fun cc1 => ?_) (fun cc1 => ?_))
  ·
   refine RV.m rfl rfl (RV.k rfl rfl (RV.k rfl rfl (RV.k rfl rfl (RV.s (Step.pick_t rfl rfl) rfl (RV.m rfl rfl (RV.k rfl rfl (RV.k rfl rfl ?_)))))))
   refine RV.k rfl rfl (RV.s (Step.pick_t rfl rfl) rfl (RV.m rfl rfl (RV.k rfl rfl (RV.k rfl rfl (RV.k rfl rfl (RV.k rfl rfl (RV.k rfl rfl ?_)))))))
   refine RV.s (Step.pick_t rfl rfl) rfl (RV.m rfl rfl (RV.k rfl rfl (RV.k rfl rfl (RV.k rfl rfl (RV.s (Step.pick_t rfl rfl) rfl (RV.m rfl rfl (RV.k rfl rfl ?_)))))))
   refine RV.k rfl rfl (RV.k rfl rfl (RV.s (Step.pick_t rfl rfl) rfl ?_))
   refine RV.nil (KV.then_n (KV.e3 0 3 41 (CV.cond_t rfl (CV.seq (CV.region ?_)))))
   refine RV.a rfl rfl (RV.a rfl rfl ?_)
   refine RV.nil (KV.then_n (KV.e2 4 5 (CV.ret (KV.then_ret ?_))))
   refine KV.sel [] [] rfl ?_
   have hE : newE ys u d s = 1 := newE_bad (Decidable.not_not.1 hc) (by unfold badPr; omega)
   exact KV.ret2 rfl rfl rfl _ (fun _ h => h) ⟨fun h0 => absurd h0 (by rw [hE]; first | decide | exact hc), fun _ => ⟨by rw [hE], rfl⟩⟩
  ·
   refine RV.m rfl rfl (RV.gw rfl (Step.fieldAddr rfl (F39_0 _ _)) rfl ?_)
   (first | refine RV.op (OV.step (gyes rfl) (Step.load Tryz.underlying3 rfl rfl (fun w h => h.cell 0 rfl rfl)) rfl ?_) | refine RV.op (OV.step (gyes rfl) (Step.load Tryz.underlying3 rfl rfl (fun w h => (h.rs hr (fun _ => hI _)).cell (by omega) rfl)) rfl ?_) | refine RV.op (OV.step (gyes rfl) (Step.load Tryz.underlying3 rfl rfl (fun w h => (h.rs hr (fun _ => hI _)).cell0 (by omega) rfl)) rfl ?_))
   refine RV.op (OV.split (gyes rfl) (Step.gtr rfl rfl) rfl (fun cc2 => ?_) (fun cc2 => ?_))
   ·
    refine RV.s (Step.pick_f rfl rfl) rfl (RV.m rfl rfl (RV.k rfl rfl (RV.k rfl rfl (RV.k rfl rfl (RV.s (Step.pick_t rfl rfl) rfl (RV.m rfl rfl (RV.k rfl rfl ?_)))))))
    refine RV.k rfl rfl (RV.k rfl rfl (RV.k rfl rfl (RV.k rfl rfl (RV.s (Step.pick_t rfl rfl) rfl (RV.m rfl rfl (RV.k rfl rfl (RV.k rfl rfl ?_)))))))
    refine RV.k rfl rfl (RV.s (Step.pick_t rfl rfl) rfl (RV.m rfl rfl (RV.k rfl rfl (RV.k rfl rfl (RV.k rfl rfl (RV.s (Step.pick_t rfl rfl) rfl ?_))))))
    refine RV.nil (KV.then_n (KV.e3 0 3 41 (CV.cond_t rfl (CV.seq (CV.region ?_)))))
    refine RV.a rfl rfl (RV.a rfl rfl ?_)
    refine RV.nil (KV.then_n (KV.e2 4 5 (CV.ret (KV.then_ret ?_))))
    refine KV.sel [] [] rfl ?_
    have hE : newE ys u d s = 1 := newE_bad (Decidable.not_not.1 hc) (by unfold badPr; omega)
    exact KV.ret2 rfl rfl rfl _ (fun _ h => h) ⟨fun h0 => absurd h0 (by rw [hE]; first | decide | exact hc), fun _ => ⟨by rw [hE], rfl⟩⟩
   ·
    refine RV.s (Step.pick_f rfl rfl) rfl (RV.m rfl rfl (RV.gw rfl (Step.fieldAddr rfl (F39_1 _ _)) rfl ?_))
    (first | refine RV.op (OV.step (gyes rfl) (Step.load Tryz.underlying3 rfl rfl (fun w h => h.cell 0 rfl rfl)) rfl ?_) | refine RV.op (OV.step (gyes rfl) (Step.load Tryz.underlying3 rfl rfl (fun w h => (h.rs hr (fun _ => hI _)).cell (by omega) rfl)) rfl ?_) | refine RV.op (OV.step (gyes rfl) (Step.load Tryz.underlying3 rfl rfl (fun w h => (h.rs hr (fun _ => hI _)).cell0 (by omega) rfl)) rfl ?_))
    refine RV.op (OV.split (gyes rfl) (Step.lss rfl rfl) rfl (fun cc3 => ?_) (fun cc3 => ?_))
    ·
     refine RV.s (Step.pick_f rfl rfl) rfl (RV.m rfl rfl (RV.k rfl rfl (RV.k rfl rfl (RV.k rfl rfl (RV.k rfl rfl (RV.k rfl rfl (RV.s (Step.pick_t rfl rfl) rfl ?_)))))))
     refine RV.m rfl rfl (RV.k rfl rfl (RV.k rfl rfl (RV.k rfl rfl (RV.s (Step.pick_t rfl rfl) rfl (RV.m rfl rfl (RV.k rfl rfl (RV.k rfl rfl ?_)))))))
     refine RV.k rfl rfl (RV.s (Step.pick_t rfl rfl) rfl ?_)
     refine RV.nil (KV.then_n (KV.e3 0 3 41 (CV.cond_t rfl (CV.seq (CV.region ?_)))))
     refine RV.a rfl rfl (RV.a rfl rfl ?_)
     refine RV.nil (KV.then_n (KV.e2 4 5 (CV.ret (KV.then_ret ?_))))
     refine KV.sel [] [] rfl ?_
     have hE : newE ys u d s = 1 := newE_bad (Decidable.not_not.1 hc) (by unfold badPr; omega)
     exact KV.ret2 rfl rfl rfl _ (fun _ h => h) ⟨fun h0 => absurd h0 (by rw [hE]; first | decide | exact hc), fun _ => ⟨by rw [hE], rfl⟩⟩
    ·
     refine RV.s (Step.pick_f rfl rfl) rfl (RV.m rfl rfl (RV.gw rfl (Step.fieldAddr rfl (F39_1 _ _)) rfl ?_))
     (first | refine RV.op (OV.step (gyes rfl) (Step.load Tryz.underlying3 rfl rfl (fun w h => h.cell 0 rfl rfl)) rfl ?_) | refine RV.op (OV.step (gyes rfl) (Step.load Tryz.underlying3 rfl rfl (fun w h => (h.rs hr (fun _ => hI _)).cell (by omega) rfl)) rfl ?_) | refine RV.op (OV.step (gyes rfl) (Step.load Tryz.underlying3 rfl rfl (fun w h => (h.rs hr (fun _ => hI _)).cell0 (by omega) rfl)) rfl ?_))
     refine RV.gw rfl (Step.fieldAddr rfl (F39_0 _ _)) rfl ?_
     (first | refine RV.op (OV.step (gyes rfl) (Step.load Tryz.underlying3 rfl rfl (fun w h => h.cell 0 rfl rfl)) rfl ?_) | refine RV.op (OV.step (gyes rfl) (Step.load Tryz.underlying3 rfl rfl (fun w h => (h.rs hr (fun _ => hI _)).cell (by omega) rfl)) rfl ?_) | refine RV.op (OV.step (gyes rfl) (Step.load Tryz.underlying3 rfl rfl (fun w h => (h.rs hr (fun _ => hI _)).cell0 (by omega) rfl)) rfl ?_))
     refine RV.op (OV.split (gyes rfl) (Step.geq rfl rfl) rfl (fun cc4 => ?_) (fun cc4 => ?_))
     ·
      refine RV.s (Step.pick_f rfl rfl) rfl (RV.m rfl rfl (RV.k rfl rfl (RV.k rfl rfl (RV.k rfl rfl (RV.s (Step.pick_t rfl rfl) rfl (RV.m rfl rfl (RV.k rfl rfl ?_)))))))
      refine RV.k rfl rfl (RV.k rfl rfl (RV.s (Step.pick_t rfl rfl) rfl ?_))
      refine RV.nil (KV.then_n (KV.e3 0 3 41 (CV.cond_t rfl (CV.seq (CV.region ?_)))))
      refine RV.a rfl rfl (RV.a rfl rfl ?_)
      refine RV.nil (KV.then_n (KV.e2 4 5 (CV.ret (KV.then_ret ?_))))
      refine KV.sel [] [] rfl ?_
      have hE : newE ys u d s = 1 := newE_bad (Decidable.not_not.1 hc) (by unfold badPr; omega)
      exact KV.ret2 rfl rfl rfl _ (fun _ h => h) ⟨fun h0 => absurd h0 (by rw [hE]; first | decide | exact hc), fun _ => ⟨by rw [hE], rfl⟩⟩
     ·
      refine RV.s (Step.pick_f rfl rfl) rfl (RV.m rfl rfl (RV.gw rfl (Step.fieldAddr rfl (F39_2 _ _)) rfl ?_))
      (first | refine RV.op (OV.step (gyes rfl) (Step.load Tryz.underlying3 rfl rfl (fun w h => h.cell 0 rfl rfl)) rfl ?_) | refine RV.op (OV.step (gyes rfl) (Step.load Tryz.underlying3 rfl rfl (fun w h => (h.rs hr (fun _ => hI _)).cell (by omega) rfl)) rfl ?_) | refine RV.op (OV.step (gyes rfl) (Step.load Tryz.underlying3 rfl rfl (fun w h => (h.rs hr (fun _ => hI _)).cell0 (by omega) rfl)) rfl ?_))
      refine RV.op (OV.split (gyes rfl) (Step.lss rfl rfl) rfl (fun cc5 => ?_) (fun cc5 => ?_))
      ·
       refine RV.s (Step.pick_f rfl rfl) rfl (RV.m rfl rfl (RV.k rfl rfl (RV.k rfl rfl (RV.k rfl rfl (RV.s (Step.pick_t rfl rfl) rfl ?_)))))
       refine RV.nil (KV.then_n (KV.e3 0 3 41 (CV.cond_t rfl (CV.seq (CV.region ?_)))))
       refine RV.a rfl rfl (RV.a rfl rfl ?_)
       refine RV.nil (KV.then_n (KV.e2 4 5 (CV.ret (KV.then_ret ?_))))
       refine KV.sel [] [] rfl ?_
       have hE : newE ys u d s = 1 := newE_bad (Decidable.not_not.1 hc) (by unfold badPr; omega)
       exact KV.ret2 rfl rfl rfl _ (fun _ h => h) ⟨fun h0 => absurd h0 (by rw [hE]; first | decide | exact hc), fun _ => ⟨by rw [hE], rfl⟩⟩
      ·
       refine RV.s (Step.pick_f rfl rfl) rfl (RV.m rfl rfl (RV.gw rfl (Step.fieldAddr rfl (F39_2 _ _)) rfl ?_))
       (first | refine RV.op (OV.step (gyes rfl) (Step.load Tryz.underlying3 rfl rfl (fun w h => h.cell 0 rfl rfl)) rfl ?_) | refine RV.op (OV.step (gyes rfl) (Step.load Tryz.underlying3 rfl rfl (fun w h => (h.rs hr (fun _ => hI _)).cell (by omega) rfl)) rfl ?_) | refine RV.op (OV.step (gyes rfl) (Step.load Tryz.underlying3 rfl rfl (fun w h => (h.rs hr (fun _ => hI _)).cell0 (by omega) rfl)) rfl ?_))
       refine RV.op (OV.split (gyes rfl) (Step.gtr rfl rfl) rfl (fun cc6 => ?_) (fun cc6 => ?_))
       ·
        refine RV.s (Step.pick_f rfl rfl) rfl ?_
        refine RV.nil (KV.then_n (KV.e3 0 3 41 (CV.cond_t rfl (CV.seq (CV.region ?_)))))
        refine RV.a rfl rfl (RV.a rfl rfl ?_)
        refine RV.nil (KV.then_n (KV.e2 4 5 (CV.ret (KV.then_ret ?_))))
        refine KV.sel [] [] rfl ?_
        have hE : newE ys u d s = 1 := newE_bad (Decidable.not_not.1 hc) (by unfold badPr; omega)
        exact KV.ret2 rfl rfl rfl _ (fun _ h => h) ⟨fun h0 => absurd h0 (by rw [hE]; first | decide | exact hc), fun _ => ⟨by rw [hE], rfl⟩⟩
       ·
        refine RV.s (Step.pick_f rfl rfl) rfl ?_
        refine RV.nil (KV.then_n (KV.e3 0 3 41 (CV.cond_f rfl (CV.skip (KV.then_n ?_)))))
        refine KV.e2 0 3 (CV.seq ?_)
        have hpos := (okT_of (Decidable.not_not.1 hc)).1
        have hlen : ((ys.length - 1 : Nat) : Int) = (ys.length : Int) - 1 := by omega
        refine CV.any (Hp I w [Blk b0_0 (.cells #[.int .i64 u, .int .i64 d, .int .i64 s] 39 (0, 0))]) (by kernel_rfl) (fun _ h => h.drew) 10 rfl ?_
        refine AV.u 0 (bl 10 1) rfl gno (Step.move rfl) rfl (fun _ h => h.sel [0] rfl) ?_
        refine AV.u 2 (bl 10 5) rfl gno (Step.loadN _ Tryz.underlying39 rfl I39 rfl rfl (fun w h => h.cells 0 rfl)) rfl (fun _ h => h.sel [0] rfl) ?_
        refine AV.u 3 (bl 10 13) rfl gno (Step.move rfl) rfl (fun _ h => h.sel [0] rfl) ?_
        refine AV.u 4 (bl 10 29) rfl gno (Step.lenSl Tryz.underlying42 rfl) rfl (fun _ h => h.sel [0] rfl) ?_
        (first | refine AV.take 5 (bl 10 61) rfl (by kernel_rfl) (by kernel_rfl) (by kernel_rfl) (fun _ _ _ h => h) gno (Step.sub rfl rfl (wI64 (by omega) (by omega))) rfl (fun _ h => h.sel [0] rfl) (by kernel_rfl) ?_ | refine AV.take 5 (bl 10 61) rfl (by kernel_rfl) (by kernel_rfl) (by kernel_rfl) (fun _ _ _ h => h) gno (Step.sub rfl rfl rfl) rfl (fun _ h => h.sel [0] rfl) (by kernel_rfl) ?_)
        refine AV.all [1] (by kernel_rfl) (by decide) ?_
        refine ⟨⟨_, rfl, ?_⟩, trivial⟩
        ·
         refine OV.call [] (F := [_]) Tryz.func75 B75 N75 rfl rfl (fun w h => clonePt_fn (h.rs hr (fun _ => hI _)) rfl hl) (fun _ hb => hb.elim) gno rfl (fun v L' hp => ?_)
         obtain ⟨A2, c2, rfl, rfl⟩ := hp
         refine AV.next (bl 10 63) (by kernel_rfl) (fun _ h => h.sel [0] rfl) ?_
         refine AV.u 6 (bl 10 127) rfl gno (Step.build rfl (Bd223_0_1_3 _ _ _ _ _ _ _)) rfl (fun _ h => h.sel [0] rfl) ?_
         refine AV.all [7] (by kernel_rfl) (by decide) ?_
         refine ⟨⟨_, rfl, ?_⟩, trivial⟩
         ·
          refine OV.box (t := 223) #[_, _, _, _, _, _, _, _] rfl rfl gno rfl (fun b6_7 => ?_)
          refine AV.next (bl 10 255) (by kernel_rfl) (fun _ h => h.sel [0] rfl) ?_
          refine AV.u 8 (bl 10 511) rfl gno (Step.assign rfl) rfl (fun _ h => h.sel [0] rfl) ?_
          refine AV.u 9 (bl 10 1023) rfl gno (Step.assign rfl) rfl (fun _ h => h.sel [0] rfl) ?_
          refine AV.done (by kernel_rfl) ?_
          refine KV.then_n (KV.e2 4 5 (CV.ret ?_))
          refine KV.sel [2, 1] [_, _] rfl ?_
          have hE : newE ys u d s = 0 := newE_ok (Decidable.not_not.1 hc) (by unfold badPr; omega)
          exact KV.ret2 rfl rfl rfl _ (fun _ h => h) ⟨fun _ => ⟨_, _, _, rfl, by rw [gobj, gov0]; simp only [hlen]; rfl⟩, fun h0 => absurd hE h0⟩

set_option maxRecDepth 100000 in
set_option maxHeartbeats 1000000 in
theorem newR_fn {A : Option Addr} {n c : Nat} {ys : List Pt} {w : World} (hr : RS w ptK A ys) (hn : n = ys.length) (hl : ys.length ≤ 1000000) (u d s : Int) : Fx Tryz.prog 40 [.slice A n c, .agg #[.int .i64 u, .int .i64 d, .int .i64 s]] w [] no (fun v L => (newE ys u d s = 0 → ∃ b A2 c2, v = .tuple #[.pointer (some ⟨b, 0, none⟩), .int .i64 0] ∧ L = gobj 200 b A2 c2 (gov0 ys u d s)) ∧ (newE ys u d s ≠ 0 → v = .tuple #[.pointer none, .int .i64 (newE ys u d s)] ∧ L = [])) := by
 subst hn
 refine Sv.Fx.body Tryz.func40 rfl T40 rfl ?_
 intro I hro hI
 refine KV.e2 0 1 (CV.seq (CV.region ?_))
 refine RV.op (OV.box (t := 39) #[_, _, _] rfl rfl gno rfl (fun b0_0 => ?_))
 refine RV.a rfl rfl (RV.a rfl rfl ?_)
 refine RV.nil (KV.then_n (KV.e2 0 3 (CV.seq (CV.seq (CV.region ?_)))))
 refine RV.m rfl rfl ?_
 refine RV.op (OV.call [] (F := [_]) Tryz.func80 B80 N80 rfl rfl (fun w h => checkR_fn (h.rs hr (fun _ => hI _)) rfl hl) (fun _ hb => hb.elim) gno rfl (fun v L' hp => ?_))
 obtain ⟨rfl, rfl⟩ := hp
 simp only [List.append_nil]
 refine RV.a rfl rfl ?_
 refine RV.nil (KV.then_n (KV.e3 0 3 6 (CV.seq (CV.region ?_))))
 refine RV.m rfl rfl ?_
 refine RV.op (OV.split gno (Step.neq rfl rfl) rfl (fun hc => ?_) (fun hc => ?_))
 ·
  refine RV.nil (KV.then_n (KV.e4 0 3 6 10 (CV.cond_t rfl (CV.seq (CV.region ?_)))))
  refine RV.m rfl rfl (RV.a rfl rfl (RV.a rfl rfl ?_))
  refine RV.nil (KV.then_n (KV.e2 4 5 (CV.ret (KV.then_ret ?_))))
  refine KV.sel [] [] rfl ?_
  have hE : newE ys u d s = chkM ys := newE_chk hc
  exact KV.ret2 rfl rfl rfl _ (fun _ h => h) ⟨fun h0 => absurd h0 (by rw [hE]; first | decide | exact hc), fun _ => ⟨by rw [hE], rfl⟩⟩
 ·
  refine RV.nil (KV.then_n (KV.e4 0 3 6 10 (CV.cond_f rfl (CV.skip (KV.then_n ?_)))))
  refine KV.e2 0 3 (CV.seq (CV.seq (CV.region ?_)))
  refine RV.s (Step.fieldAddr rfl (F39_0 _ _)) rfl ?_
  (first | refine RV.op (OV.step gno (Step.load Tryz.underlying3 rfl rfl (fun w h => h.cell 0 rfl rfl)) rfl ?_) | refine RV.op (OV.step gno (Step.load Tryz.underlying3 rfl rfl (fun w h => (h.rs hr (fun _ => hI _)).cell (by omega) rfl)) rfl ?_) | refine RV.op (OV.step gno (Step.load Tryz.underlying3 rfl rfl (fun w h => (h.rs hr (fun _ => hI _)).cell0 (by omega) rfl)) rfl ?_))
  refine RV.op (OV.split gno (Step.lss rfl rfl) rfl (fun cc1 => ?_) (fun cc1 => ?_))
  ·
   refine RV.m rfl rfl (RV.k rfl rfl (RV.k rfl rfl (RV.k rfl rfl (RV.s (Step.pick_t rfl rfl) rfl (RV.m rfl rfl (RV.k rfl rfl (RV.k rfl rfl ?_)))))))
   refine RV.k rfl rfl (RV.s (Step.pick_t rfl rfl) rfl (RV.m rfl rfl (RV.k rfl rfl (RV.k rfl rfl (RV.k rfl rfl (RV.k rfl rfl (RV.k rfl rfl ?_)))))))
   refine RV.s (Step.pick_t rfl rfl) rfl (RV.m rfl rfl (RV.k rfl rfl (RV.k rfl rfl (RV.k rfl rfl (RV.s (Step.pick_t rfl rfl) rfl (RV.m rfl rfl (RV.k rfl rfl ?_)))))))
   refine RV.k rfl rfl (RV.k rfl rfl (RV.s (Step.pick_t rfl rfl) rfl ?_))
   refine RV.nil (KV.then_n (KV.e3 0 3 41 (CV.cond_t rfl (CV.seq (CV.region ?_)))))
   refine RV.a rfl rfl (RV.a rfl rfl ?_)
   refine RV.nil (KV.then_n (KV.e2 4 5 (CV.ret (KV.then_ret ?_))))
   refine KV.sel [] [] rfl ?_
   have hE : newE ys u d s = 1 := newE_bad (Decidable.not_not.1 hc) (by unfold badPr; omega)
   exact KV.ret2 rfl rfl rfl _ (fun _ h => h) ⟨fun h0 => absurd h0 (by rw [hE]; first | decide | exact hc), fun _ => ⟨by rw [hE], rfl⟩⟩
  ·
   refine RV.m rfl rfl (RV.gw rfl (Step.fieldAddr rfl (F39_0 _ _)) rfl ?_)
   (first | refine RV.op (OV.step (gyes rfl) (Step.load Tryz.underlying3 rfl rfl (fun w h => h.cell 0 rfl rfl)) rfl ?_) | refine RV.op (OV.step (gyes rfl) (Step.load Tryz.underlying3 rfl rfl (fun w h => (h.rs hr (fun _ => hI _)).cell (by omega) rfl)) rfl ?_) | refine RV.op (OV.step (gyes rfl) (Step.load Tryz.underlying3 rfl rfl (fun w h => (h.rs hr (fun _ => hI _)).cell0 (by omega) rfl)) rfl ?_))
   refine RV.op (OV.split (gyes rfl) (Step.gtr rfl rfl) rfl (fun cc2 => ?_) (fun cc2 => ?_))
   ·
    refine RV.s (Step.pick_f rfl rfl) rfl (RV.m rfl rfl (RV.k rfl rfl (RV.k rfl rfl (RV.k rfl rfl (RV.s (Step.pick_t rfl rfl) rfl (RV.m rfl rfl (RV.k rfl rfl ?_)))))))
    refine RV.k rfl rfl (RV.k rfl rfl (RV.k rfl rfl (RV.k rfl rfl (RV.s (Step.pick_t rfl rfl) rfl (RV.m rfl rfl (RV.k rfl rfl (RV.k rfl rfl ?_)))))))
    refine RV.k rfl rfl (RV.s (Step.pick_t rfl rfl) rfl (RV.m rfl rfl (RV.k rfl rfl (RV.k rfl rfl (RV.k rfl rfl (RV.s (Step.pick_t rfl rfl) rfl ?_))))))
    refine RV.nil (KV.then_n (KV.e3 0 3 41 (CV.cond_t rfl (CV.seq (CV.region ?_)))))
    refine RV.a rfl rfl (RV.a rfl rfl ?_)
    refine RV.nil (KV.then_n (KV.e2 4 5 (CV.ret (KV.then_ret ?_))))
    refine KV.sel [] [] rfl ?_
    have hE : newE ys u d s = 1 := newE_bad (Decidable.not_not.1 hc) (by unfold badPr; omega)
    exact KV.ret2 rfl rfl rfl _ (fun _ h => h) ⟨fun h0 => absurd h0 (by rw [hE]; first | decide | exact hc), fun _ => ⟨by rw [hE], rfl⟩⟩
   ·
    refine RV.s (Step.pick_f rfl rfl) rfl (RV.m rfl rfl (RV.gw rfl (Step.fieldAddr rfl (F39_1 _ _)) rfl ?_))
    (first | refine RV.op (OV.step (gyes rfl) (Step.load Tryz.underlying3 rfl rfl (fun w h => h.cell 0 rfl rfl)) rfl ?_) | refine RV.op (OV.step (gyes rfl) (Step.load Tryz.underlying3 rfl rfl (fun w h => (h.rs hr (fun _ => hI _)).cell (by omega) rfl)) rfl ?_) | refine RV.op (OV.step (gyes rfl) (Step.load Tryz.underlying3 rfl rfl (fun w h => (h.rs hr (fun _ => hI _)).cell0 (by omega) rfl)) rfl ?_))
    refine RV.op (OV.split (gyes rfl) (Step.lss rfl rfl) rfl (fun cc3 => ?_) (fun cc3 => ?_))
    ·
     refine RV.s (Step.pick_f rfl rfl) rfl (RV.m rfl rfl (RV.k rfl rfl (RV.k rfl rfl (RV.k rfl rfl (RV.k rfl rfl (RV.k rfl rfl (RV.s (Step.pick_t rfl rfl) rfl ?_)))))))
     refine RV.m rfl rfl (RV.k rfl rfl (RV.k rfl rfl (RV.k rfl rfl (RV.s (Step.pick_t rfl rfl) rfl (RV.m rfl rfl (RV.k rfl rfl (RV.k rfl rfl ?_)))))))
     refine RV.k rfl rfl (RV.s (Step.pick_t rfl rfl) rfl ?_)
     refine RV.nil (KV.then_n (KV.e3 0 3 41 (CV.cond_t rfl (CV.seq (CV.region ?_)))))
     refine RV.a rfl rfl (RV.a rfl rfl ?_)
     refine RV.nil (KV.then_n (KV.e2 4 5 (CV.ret (KV.then_ret ?_))))
     refine KV.sel [] [] rfl ?_
     have hE : newE ys u d s = 1 := newE_bad (Decidable.not_not.1 hc) (by unfold badPr; omega)
     exact KV.ret2 rfl rfl rfl _ (fun _ h => h) ⟨fun h0 => absurd h0 (by rw [hE]; first | decide | exact hc), fun _ => ⟨by rw [hE], rfl⟩⟩
    ·
     refine RV.s (Step.pick_f rfl rfl) rfl (RV.m rfl rfl (RV.gw rfl (Step.fieldAddr rfl (F39_1 _ _)) rfl ?_))
     (first | refine RV.op (OV.step (gyes rfl) (Step.load Tryz.underlying3 rfl rfl (fun w h => h.cell 0 rfl rfl)) rfl ?_) | refine RV.op (OV.step (gyes rfl) (Step.load Tryz.underlying3 rfl rfl (fun w h => (h.rs hr (fun _ => hI _)).cell (by omega) rfl)) rfl ?_) | refine RV.op (OV.step (gyes rfl) (Step.load Tryz.underlying3 rfl rfl (fun w h => (h.rs hr (fun _ => hI _)).cell0 (by omega) rfl)) rfl ?_))
     refine RV.gw rfl (Step.fieldAddr rfl (F39_0 _ _)) rfl ?_
     (first | refine RV.op (OV.step (gyes rfl) (Step.load Tryz.underlying3 rfl rfl (fun w h => h.cell 0 rfl rfl)) rfl ?_) | refine RV.op (OV.step (gyes rfl) (Step.load Tryz.underlying3 rfl rfl (fun w h => (h.rs hr (fun _ => hI _)).cell (by omega) rfl)) rfl ?_) | refine RV.op (OV.step (gyes rfl) (Step.load Tryz.underlying3 rfl rfl (fun w h => (h.rs hr (fun _ => hI _)).cell0 (by omega) rfl)) rfl ?_))
     refine RV.op (OV.split (gyes rfl) (Step.geq rfl rfl) rfl (fun cc4 => ?_) (fun cc4 => ?_))
     ·
      refine RV.s (Step.pick_f rfl rfl) rfl (RV.m rfl rfl (RV.k rfl rfl (RV.k rfl rfl (RV.k rfl rfl (RV.s (Step.pick_t rfl rfl) rfl (RV.m rfl rfl (RV.k rfl rfl ?_)))))))
      refine RV.k rfl rfl (RV.k rfl rfl (RV.s (Step.pick_t rfl rfl) rfl ?_))
      refine RV.nil (KV.then_n (KV.e3 0 3 41 (CV.cond_t rfl (CV.seq (CV.region ?_)))))
      refine RV.a rfl rfl (RV.a rfl rfl ?_)
      refine RV.nil (KV.then_n (KV.e2 4 5 (CV.ret (KV.then_ret ?_))))
      refine KV.sel [] [] rfl ?_
      have hE : newE ys u d s = 1 := newE_bad (Decidable.not_not.1 hc) (by unfold badPr; omega)
      exact KV.ret2 rfl rfl rfl _ (fun _ h => h) ⟨fun h0 => absurd h0 (by rw [hE]; first | decide | exact hc), fun _ => ⟨by rw [hE], rfl⟩⟩
     ·
      refine RV.s (Step.pick_f rfl rfl) rfl (RV.m rfl rfl (RV.gw rfl (Step.fieldAddr rfl (F39_2 _ _)) rfl ?_))
      (first | refine RV.op (OV.step (gyes rfl) (Step.load Tryz.underlying3 rfl rfl (fun w h => h.cell 0 rfl rfl)) rfl ?_) | refine RV.op (OV.step (gyes rfl) (Step.load Tryz.underlying3 rfl rfl (fun w h => (h.rs hr (fun _ => hI _)).cell (by omega) rfl)) rfl ?_) | refine RV.op (OV.step (gyes rfl) (Step.load Tryz.underlying3 rfl rfl (fun w h => (h.rs hr (fun _ => hI _)).cell0 (by omega) rfl)) rfl ?_))
      refine RV.op (OV.split (gyes rfl) (Step.lss rfl rfl) rfl (fun cc5 => ?_) (fun cc5 => ?_))
      ·
       refine RV.s (Step.pick_f rfl rfl) rfl (RV.m rfl rfl (RV.k rfl rfl (RV.k rfl rfl (RV.k rfl rfl (RV.s (Step.pick_t rfl rfl) rfl ?_)))))
       refine RV.nil (KV.then_n (KV.e3 0 3 41 (CV.cond_t rfl (CV.seq (CV.region ?_)))))
       refine RV.a rfl rfl (RV.a rfl rfl ?_)
       refine RV.nil (KV.then_n (KV.e2 4 5 (CV.ret (KV.then_ret ?_))))
       refine KV.sel [] [] rfl ?_
       have hE : newE ys u d s = 1 := newE_bad (Decidable.not_not.1 hc) (by unfold badPr; omega)
       exact KV.ret2 rfl rfl rfl _ (fun _ h => h) ⟨fun h0 => absurd h0 (by rw [hE]; first | decide | exact hc), fun _ => ⟨by rw [hE], rfl⟩⟩
      ·
       refine RV.s (Step.pick_f rfl rfl) rfl (RV.m rfl rfl (RV.gw rfl (Step.fieldAddr rfl (F39_2 _ _)) rfl ?_))
       (first | refine RV.op (OV.step (gyes rfl) (Step.load Tryz.underlying3 rfl rfl (fun w h => h.cell 0 rfl rfl)) rfl ?_) | refine RV.op (OV.step (gyes rfl) (Step.load Tryz.underlying3 rfl rfl (fun w h => (h.rs hr (fun _ => hI _)).cell (by omega) rfl)) rfl ?_) | refine RV.op (OV.step (gyes rfl) (Step.load Tryz.underlying3 rfl rfl (fun w h => (h.rs hr (fun _ => hI _)).cell0 (by omega) rfl)) rfl ?_))
       refine RV.op (OV.split (gyes rfl) (Step.gtr rfl rfl) rfl (fun cc6 => ?_) (fun cc6 => ?_))
       ·
        refine RV.s (Step.pick_f rfl rfl) rfl ?_
        refine RV.nil (KV.then_n (KV.e3 0 3 41 (CV.cond_t rfl (CV.seq (CV.region ?_)))))
        refine RV.a rfl rfl (RV.a rfl rfl ?_)
        refine RV.nil (KV.then_n (KV.e2 4 5 (CV.ret (KV.then_ret ?_))))
        refine KV.sel [] [] rfl ?_
        have hE : newE ys u d s = 1 := newE_bad (Decidable.not_not.1 hc) (by unfold badPr; omega)
        exact KV.ret2 rfl rfl rfl _ (fun _ h => h) ⟨fun h0 => absurd h0 (by rw [hE]; first | decide | exact hc), fun _ => ⟨by rw [hE], rfl⟩⟩
       ·
        refine RV.s (Step.pick_f rfl rfl) rfl ?_
        refine RV.nil (KV.then_n (KV.e3 0 3 41 (CV.cond_f rfl (CV.skip (KV.then_n ?_)))))
        refine KV.e2 0 3 (CV.seq ?_)
        have hpos := (okT_of (Decidable.not_not.1 hc)).1
        have hlen : ((ys.length - 1 : Nat) : Int) = (ys.length : Int) - 1 := by omega
        refine CV.any (Hp I w [Blk b0_0 (.cells #[.int .i64 u, .int .i64 d, .int .i64 s] 39 (0, 0))]) (by kernel_rfl) (fun _ h => h.drew) 11 rfl ?_
        refine AV.u 1 (bl 11 2) rfl gno (Step.move rfl) rfl (fun _ h => h.sel [0] rfl) ?_
        refine AV.u 3 (bl 11 10) rfl gno (Step.loadN _ Tryz.underlying39 rfl I39 rfl rfl (fun w h => h.cells 0 rfl)) rfl (fun _ h => h.sel [0] rfl) ?_
        refine AV.u 4 (bl 11 26) rfl gno (Step.move rfl) rfl (fun _ h => h.sel [0] rfl) ?_
        refine AV.u 5 (bl 11 58) rfl gno (Step.lenSl Tryz.underlying42 rfl) rfl (fun _ h => h.sel [0] rfl) ?_
        (first | refine AV.take 6 (bl 11 122) rfl (by kernel_rfl) (by kernel_rfl) (by kernel_rfl) (fun _ _ _ h => h) gno (Step.sub rfl rfl (wI64 (by omega) (by omega))) rfl (fun _ h => h.sel [0] rfl) (by kernel_rfl) ?_ | refine AV.take 6 (bl 11 122) rfl (by kernel_rfl) (by kernel_rfl) (by kernel_rfl) (fun _ _ _ h => h) gno (Step.sub rfl rfl rfl) rfl (fun _ h => h.sel [0] rfl) (by kernel_rfl) ?_)
        refine AV.all [0] (by kernel_rfl) (by decide) ?_
        refine ⟨⟨_, rfl, ?_⟩, trivial⟩
        ·
         refine OV.buildSlice (K := ptK) ([]) rfl (Bs42_0_) rfl rfl (by omega) gno rfl (fun b6_0 => ?_)
         refine AV.next (bl 11 123) (by kernel_rfl) (fun _ h => h.sel [0] rfl) ?_
         refine AV.all [2] (by kernel_rfl) (by decide) ?_
         refine ⟨⟨_, rfl, ?_⟩, trivial⟩
         ·
          refine OV.append 1 Tryz.underlying42 I61 rfl rfl rfl rfl rfl rfl (fun w h => h.rs hr (fun _ => hI _)) (by simp only [List.length_nil]; omega) (by simp only [List.length_nil]; omega) gno rfl (fun b6_2a b6_2c => ?_)
          refine AV.next (bl 11 127) (by kernel_rfl) (fun _ h => h.sel [0] rfl) ?_
          refine AV.u 7 (bl 11 255) rfl gno (Step.build rfl (Bd200_0_1_3 _ _ _ _ _ _ _)) rfl (fun _ h => h.sel [0] rfl) ?_
          refine AV.all [8] (by kernel_rfl) (by decide) ?_
          refine ⟨⟨_, rfl, ?_⟩, trivial⟩
          ·
           refine OV.box (t := 200) #[_, _, _, _, _, _, _, _] rfl rfl gno rfl (fun b6_8 => ?_)
           refine AV.next (bl 11 511) (by kernel_rfl) (fun _ h => h.sel [0] rfl) ?_
           refine AV.u 9 (bl 11 1023) rfl gno (Step.assign rfl) rfl (fun _ h => h.sel [0] rfl) ?_
           refine AV.u 10 (bl 11 2047) rfl gno (Step.assign rfl) rfl (fun _ h => h.sel [0] rfl) ?_
           refine AV.done (by kernel_rfl) ?_
           refine KV.then_n (KV.e2 4 5 (CV.ret ?_))
           refine KV.sel [2, 1] [_, _] rfl ?_
           have hE : newE ys u d s = 0 := newE_ok (Decidable.not_not.1 hc) (by unfold badPr; omega)
           exact KV.ret2 rfl rfl rfl _ (fun _ h => h) ⟨fun _ => ⟨_, _, _, rfl, by rw [gobj, gov0]; simp only [hlen]; rfl⟩, fun h0 => absurd hE h0⟩

set_option maxRecDepth 100000 in
set_option maxHeartbeats 1000000 in
theorem current_fn (b : Nat) (A : Option Addr) (c : Nat) (g : Gov) {w : World} : Fx Tryz.prog 54 [.pointer (some ⟨b, 0, none⟩)] w (gobj 223 b A c g) no (fun v L => v = .int .i64 g.cu ∧ L = gobj 223 b A c g) := by
 refine Sv.Fx.body Tryz.func54 rfl T54 rfl ?_
 intro I hro hI
 refine KV.e1 0 (CV.seq (CV.region ?_))
 refine RV.a rfl rfl ?_
 refine RV.nil (KV.then_n (KV.e1 0 (CV.seq (CV.region ?_))))
 refine RV.m rfl rfl (RV.s (Step.nilCheck rfl) rfl (RV.s (Step.fieldAddr rfl (F223_4 _ _)) rfl (RV.s (Step.load Tryz.underlying3 rfl rfl (fun w h => h.cell 0 rfl rfl)) rfl (RV.a rfl rfl ?_))))
 refine RV.nil (KV.then_n (KV.e1 2 (CV.ret ?_)))
 exact KV.ret1 rfl rfl _ (fun _ h => h) ⟨rfl, rfl⟩

set_option maxRecDepth 100000 in
set_option maxHeartbeats 1000000 in
theorem limit_fn (b : Nat) (A : Option Addr) (c : Nat) (g : Gov) {w : World} (l h : Int) : Fx Tryz.prog 114 [.pointer (some ⟨b, 0, none⟩), .int .i64 l, .int .i64 h] w (gobj 223 b A c g) no (fun v L => v = .int .i64 (limE g l h) ∧ L = gobj 223 b A c (limG g l h)) := by
 refine Sv.Fx.body Tryz.func114 rfl T114 rfl ?_
 intro I hro hI
 refine KV.e3 0 1 2 (CV.seq (CV.region ?_))
 refine RV.a rfl rfl ?_
 refine RV.nil (KV.then_n (KV.e3 0 1 2 (CV.seq (CV.seq (CV.region ?_)))))
 refine RV.m rfl rfl ?_
 refine RV.op (OV.split gno (Step.lss rfl rfl) rfl (fun cc1 => ?_) (fun cc1 => ?_))
 ·
  refine RV.m rfl rfl (RV.k rfl rfl (RV.k rfl rfl (RV.k rfl rfl (RV.s (Step.pick_t rfl rfl) rfl (RV.m rfl rfl (RV.k rfl rfl (RV.k rfl rfl ?_)))))))
  refine RV.k rfl rfl (RV.k rfl rfl (RV.k rfl rfl (RV.k rfl rfl (RV.k rfl rfl (RV.s (Step.pick_t rfl rfl) rfl ?_)))))
  refine RV.nil (KV.then_n (KV.e4 0 1 2 22 (CV.cond_t rfl (CV.seq (CV.region ?_)))))
  refine RV.a rfl rfl ?_
  refine RV.nil (KV.then_n (KV.e1 6 (CV.ret (KV.then_ret ?_))))
  exact KV.ret1 rfl rfl _ (fun _ h => h) ⟨by rw [limE, if_pos (by unfold badL; omega)], by rw [limG, if_pos (by unfold badL; omega)]⟩
 ·
  refine RV.m rfl rfl (RV.gw rfl (Step.move rfl) rfl (RV.gw rfl (Step.move rfl) rfl ?_))
  refine RV.op (OV.split (gyes rfl) (Step.gtr rfl rfl) rfl (fun cc2 => ?_) (fun cc2 => ?_))
  ·
   refine RV.s (Step.pick_f rfl rfl) rfl (RV.m rfl rfl (RV.k rfl rfl (RV.k rfl rfl (RV.k rfl rfl (RV.k rfl rfl (RV.k rfl rfl (RV.k rfl rfl ?_)))))))
   refine RV.k rfl rfl (RV.s (Step.pick_t rfl rfl) rfl ?_)
   refine RV.nil (KV.then_n (KV.e4 0 1 2 22 (CV.cond_t rfl (CV.seq (CV.region ?_)))))
   refine RV.a rfl rfl ?_
   refine RV.nil (KV.then_n (KV.e1 6 (CV.ret (KV.then_ret ?_))))
   exact KV.ret1 rfl rfl _ (fun _ h => h) ⟨by rw [limE, if_pos (by unfold badL; omega)], by rw [limG, if_pos (by unfold badL; omega)]⟩
  ·
   refine RV.s (Step.pick_f rfl rfl) rfl (RV.m rfl rfl (RV.gw rfl (Step.move rfl) rfl (RV.gw rfl (Step.move rfl) rfl (RV.gw rfl (Step.nilCheck rfl) rfl (RV.gw rfl (Step.fieldAddr rfl (F223_0 _ _)) rfl (RV.gw rfl (Step.load Tryz.underlying42 rfl rfl (fun w h => h.cell 0 rfl rfl)) rfl (RV.gw rfl (Step.lenSl Tryz.underlying42 rfl) rfl ?_)))))))
   refine RV.op (OV.split (gyes rfl) (Step.geq rfl rfl) rfl (fun cc3 => ?_) (fun cc3 => ?_))
   ·
    refine RV.s (Step.pick_f rfl rfl) rfl ?_
    refine RV.nil (KV.then_n (KV.e4 0 1 2 22 (CV.cond_t rfl (CV.seq (CV.region ?_)))))
    refine RV.a rfl rfl ?_
    refine RV.nil (KV.then_n (KV.e1 6 (CV.ret (KV.then_ret ?_))))
    exact KV.ret1 rfl rfl _ (fun _ h => h) ⟨by rw [limE, if_pos (by unfold badL; omega)], by rw [limG, if_pos (by unfold badL; omega)]⟩
   ·
    refine RV.s (Step.pick_f rfl rfl) rfl ?_
    refine RV.nil (KV.then_n (KV.e4 0 1 2 22 (CV.cond_f rfl (CV.skip (KV.then_n ?_)))))
    refine KV.e3 0 1 2 (CV.seq ?_)
    obtain ⟨p, rfl⟩ := Int.eq_ofNat_of_zero_le (show 0 ≤ l by omega)
    obtain ⟨q, rfl⟩ := Int.eq_ofNat_of_zero_le (show 0 ≤ h by omega)
    refine CV.region ?_
    refine RV.m rfl rfl (RV.m rfl rfl (RV.m rfl rfl (RV.m rfl rfl (RV.s (Step.nilCheck rfl) rfl (RV.s (Step.fieldAddr rfl (F223_2 _ _)) rfl ?_)))))
    refine RV.op (OV.store 0 [_] #[_, _, _, _, _, _, _, _] I3 rfl rfl rfl rfl rfl (Nat.le_of_ble_eq_true rfl) (by simp [Value.oneCell']) rfl gno ?_)
    refine RV.s (Step.nilCheck rfl) rfl (RV.s (Step.fieldAddr rfl (F223_3 _ _)) rfl ?_)
    refine RV.op (OV.store 0 [_] #[_, _, _, _, _, _, _, _] I3 rfl rfl rfl rfl rfl (Nat.le_of_ble_eq_true rfl) (by simp [Value.oneCell']) rfl gno ?_)
    refine RV.nil (KV.then_n (KV.e3 0 1 2 (CV.seq (CV.region ?_))))
    refine RV.m rfl rfl (RV.m rfl rfl (RV.s (Step.nilCheck rfl) rfl (RV.s (Step.fieldAddr rfl (F223_4 _ _)) rfl (RV.s (Step.load Tryz.underlying3 rfl rfl (fun w h => h.cell 0 rfl rfl)) rfl (RV.m rfl rfl (RV.s (Step.max2 rfl rfl) rfl (RV.m rfl rfl ?_)))))))
    refine RV.s (Step.min2 rfl rfl) rfl (RV.s (Step.nilCheck rfl) rfl (RV.s (Step.fieldAddr rfl (F223_4 _ _)) rfl ?_))
    refine RV.op (OV.store 0 [_] #[_, _, _, _, _, _, _, _] I3 rfl rfl rfl rfl rfl (Nat.le_of_ble_eq_true rfl) (by simp [Value.oneCell']) rfl gno ?_)
    refine RV.nil (KV.then_n (KV.e1 0 (CV.seq (CV.region ?_))))
    refine RV.m rfl rfl (RV.s (Step.nilCheck rfl) rfl (RV.s (Step.fieldAddr rfl (F223_5 _ _)) rfl ?_))
    refine RV.op (OV.store 0 [_] #[_, _, _, _, _, _, _, _] I3 rfl rfl rfl rfl rfl (Nat.le_of_ble_eq_true rfl) (by simp [Value.oneCell']) rfl gno ?_)
    refine RV.nil (KV.then_n (KV.env [] trivial (CV.seq (CV.region ?_))))
    refine RV.a rfl rfl ?_
    refine RV.nil (KV.then_n (KV.e1 6 (CV.ret ?_)))
    exact KV.ret1 rfl rfl _ (fun _ h => h) ⟨by rw [limE, if_neg (by unfold badL; omega)], by rw [limG, if_neg (by unfold badL; omega)]; simp only [gobj, Int.toNat_natCast, mm1]; rfl⟩

set_option maxRecDepth 100000 in
set_option maxHeartbeats 1000000 in
theorem sufficient_fn (b : Nat) (A : Option Addr) (c : Nat) (g : Gov) {w : World} (x : Int) (hg : g.ok) (hx : okX x) : Fx Tryz.prog 148 [.pointer (some ⟨b, 0, none⟩), .int .i64 x] w (gobj 223 b A c g) no (fun v L => v = .int .i64 (sufM g x) ∧ L = gobj 223 b A c g) := by
 refine Sv.Fx.body Tryz.func148 rfl T148 rfl ?_
 intro I hro hI
 refine KV.e2 0 1 ?_
 have hx4 := hx
 unfold okX at hx4
 have hyl := hg.t.1
 have hl1 := hg.l1
 have hl2 := hg.l2
 have hl3 := hg.l3
 have hu1 := hg.u1
 have hu2 := hg.u2
 have hbc := hg.t.big (show g.cu < g.ys.length by omega)
 unfold pt at hbc
 have hmc := mulB (f := (g.ys.getD g.cu ptK.d).f) (show 0 ≤ x by omega) (by omega) (by omega) (by omega)
 refine CV.seq (CV.region ?_)
 refine RV.a rfl rfl ?_
 refine RV.nil (KV.then_n (KV.e2 0 1 (CV.seq ?_)))
 refine CV.still (by kernel_rfl) (by kernel_rfl) (fun _ h => h.drew) ?_
 refine SV.step gno (Step.move rfl) rfl ?_
 (first | refine SV.step gno (Step.convI Tryz.underlying3 Tryz.underlying24 rfl (wU64 (by omega) (by omega))) rfl ?_ | refine SV.step gno (Step.convI Tryz.underlying3 Tryz.underlying24 rfl rfl) rfl ?_)
 refine SV.step gno (Step.move rfl) rfl ?_
 refine SV.step gno (Step.nilCheck rfl) rfl ?_
 refine SV.step gno (Step.fieldAddr rfl (F223_0 _ _)) rfl ?_
 refine SV.step gno (Step.load Tryz.underlying42 rfl rfl (fun w h => h.cell 0 rfl rfl)) rfl ?_
 refine SV.step gno (Step.move rfl) rfl ?_
 refine SV.step gno (Step.nilCheck rfl) rfl ?_
 refine SV.step gno (Step.fieldAddr rfl (F223_4 _ _)) rfl ?_
 refine SV.step gno (Step.load Tryz.underlying3 rfl rfl (fun w h => h.cell 0 rfl rfl)) rfl ?_
 refine SV.step gno (Step.idx Tryz.underlying42 I61 (fun w h => h.os 1 rfl) rfl rfl (rfl) _ rfl (by omega)) rfl ?_
 refine SV.step gno (Step.fieldAddr rfl (F61_0 _ _)) rfl ?_
 refine SV.step gno (Step.load Tryz.underlying24 rfl rfl (fun w h => (h.os 1 rfl).cell0 (by omega) rfl)) rfl ?_
 (first | refine SV.step gno (Step.mul rfl rfl (wU64 (by omega) (by omega))) rfl ?_ | refine SV.step gno (Step.mul rfl rfl rfl) rfl ?_)
 refine SV.step gno (Step.assign rfl) rfl ?_
 refine SV.nil (KV.then_n (KV.e2 0 5 (CV.seq (CV.seq (CV.region ?_)))))
 refine RV.m rfl rfl (RV.s (Step.nilCheck rfl) rfl (RV.s (Step.fieldAddr rfl (F223_2 _ _)) rfl (RV.s (Step.load Tryz.underlying3 rfl rfl (fun w h => h.cell 0 rfl rfl)) rfl (RV.a rfl rfl ?_))))
 refine RV.nil (KV.then_n (KV.e3 0 5 6 (CV.block ?_)))
 refine KV.sel [0, 0] [_, _] rfl ?_
 refine CV.loopI (fun (p : Nat) => (g.lo ≤ p ∧ p ≤ g.hi) ∧ ∀ i, g.lo ≤ i → i < p → ¬ good g x i) (fun (p : Nat) => g.hi - p) (fun (p : Nat) => [(0, .pointer (some ⟨b, 0, none⟩)), (5, .int .u64 (x * (g.ys.getD g.cu ptK.d).f)), (6, .int .i64 p)]) (fun (p : Nat) => Hp I w (gobj 223 b A c g)) (g.lo) ⟨⟨Nat.le_refl _, by omega⟩, fun i h1 h2 => by omega⟩ ⟨rfl, rfl, rfl, trivial⟩ (fun _ h => h) ?_
 intro p hinv
 refine CV.seq (CV.seq (CV.region ?_))
 refine RV.m rfl rfl (RV.m rfl rfl (RV.s (Step.nilCheck rfl) rfl (RV.s (Step.fieldAddr rfl (F223_3 _ _)) rfl (RV.s (Step.load Tryz.underlying3 rfl rfl (fun w h => h.cell 0 rfl rfl)) rfl ?_))))
 refine RV.op (OV.split gno (Step.lss rfl rfl) rfl (fun hp => ?_) (fun hp => ?_))
 ·
  refine RV.nil (KV.then_n (KV.e4 0 5 6 30 (CV.cond_t rfl (CV.skip (KV.then_n ?_)))))
  refine KV.e3 0 5 6 (CV.seq (CV.block (CV.seq ?_)))
  have hbp := hg.t.big (show p < g.ys.length by omega)
  unfold pt at hbp
  have hmp := mulB (f := (g.ys.getD p ptK.d).f) (show 0 ≤ g.up by omega) hu2 (by omega) (by omega)
  refine CV.still (by kernel_rfl) (by kernel_rfl) (fun _ h => h.drew) ?_
  refine SV.step gno (Step.move rfl) rfl ?_
  refine SV.step gno (Step.move rfl) rfl ?_
  refine SV.step gno (Step.nilCheck rfl) rfl ?_
  refine SV.step gno (Step.fieldAddr rfl (F223_1 _ _)) rfl ?_
  refine SV.step gno (Step.fieldAddr rfl (F39_0 _ _)) rfl ?_
  refine SV.step gno (Step.load Tryz.underlying3 rfl rfl (fun w h => h.cell 0 rfl rfl)) rfl ?_
  (first | refine SV.step gno (Step.convI Tryz.underlying3 Tryz.underlying24 rfl (wU64 (by omega) (by omega))) rfl ?_ | refine SV.step gno (Step.convI Tryz.underlying3 Tryz.underlying24 rfl rfl) rfl ?_)
  refine SV.step gno (Step.move rfl) rfl ?_
  refine SV.step gno (Step.nilCheck rfl) rfl ?_
  refine SV.step gno (Step.fieldAddr rfl (F223_0 _ _)) rfl ?_
  refine SV.step gno (Step.load Tryz.underlying42 rfl rfl (fun w h => h.cell 0 rfl rfl)) rfl ?_
  refine SV.step gno (Step.move rfl) rfl ?_
  refine SV.step gno (Step.idx Tryz.underlying42 I61 (fun w h => h.os 1 rfl) rfl rfl (rfl) _ rfl (by omega)) rfl ?_
  refine SV.step gno (Step.fieldAddr rfl (F61_0 _ _)) rfl ?_
  refine SV.step gno (Step.load Tryz.underlying24 rfl rfl (fun w h => (h.os 1 rfl).cell0 (by omega) rfl)) rfl ?_
  (first | refine SV.step gno (Step.mul rfl rfl (wU64 (by omega) (by omega))) rfl ?_ | refine SV.step gno (Step.mul rfl rfl rfl) rfl ?_)
  refine SV.split gno (Step.leq rfl rfl) rfl (fun hq => ?_) (fun hq => ?_)
  ·
   refine SV.nil (KV.then_n (KV.e4 0 5 6 49 (CV.cond_t rfl (CV.seq (CV.region ?_)))))
   refine RV.m rfl rfl (RV.a rfl rfl ?_)
   refine RV.nil (KV.then_n (KV.e1 4 (CV.ret (KV.block_ret (KV.then_ret ?_)))))
   refine KV.then_ret (KV.block_ret (KV.then_ret ?_))
   exact KV.ret1 rfl rfl _ (fun _ h => h) ⟨by rw [sufM_at hinv.1.1 (by omega) hinv.2 hq], rfl⟩
  ·
   refine SV.nil (KV.then_n (KV.e4 0 5 6 49 (CV.cond_f rfl (CV.skip (KV.block_n ?_)))))
   refine KV.then_n (KV.e3 0 5 6 (CV.region ?_))
   refine RV.m rfl rfl ?_
   (first | refine RV.op (OV.step gno (Step.add rfl rfl (wI64 (by omega) (by omega))) rfl ?_) | refine RV.op (OV.step gno (Step.add rfl rfl rfl) rfl ?_))
   refine RV.a rfl rfl ?_
   refine RV.nil (KV.then_n (KV.e3 0 5 6 ?_))
   refine KV.sel [0, 0] [_, _] rfl ?_
   exact KV.loopI (z := p) (p + 1) ⟨by omega, fun i h1 h2 => by by_cases e : i = p; (subst e; exact hq); exact hinv.2 i h1 (by omega)⟩ (by omega) ⟨rfl, rfl, rfl, trivial⟩ (fun _ h => h)
 ·
  refine RV.nil (KV.then_n (KV.e4 0 5 6 30 (CV.cond_f rfl (CV.exit (KV.then_exit ?_)))))
  refine KV.then_exit (KV.block_hit (KV.then_n (KV.e1 0 (CV.seq (CV.region ?_)))))
  refine RV.m rfl rfl (RV.s (Step.nilCheck rfl) rfl (RV.s (Step.fieldAddr rfl (F223_3 _ _)) rfl (RV.s (Step.load Tryz.underlying3 rfl rfl (fun w h => h.cell 0 rfl rfl)) rfl (RV.a rfl rfl ?_))))
  refine RV.nil (KV.then_n (KV.e1 4 (CV.ret ?_)))
  exact KV.ret1 rfl rfl _ (fun _ h => h) ⟨by rw [sufM_end (by omega) fun i h1 h2 => hinv.2 i h1 (by omega)], rfl⟩

set_option maxRecDepth 100000 in
set_option maxHeartbeats 1000000 in
theorem sample_fn (b : Nat) (A : Option Addr) (c : Nat) (g : Gov) {w : World} (x : Int) (hg : g.ok) : Fx Tryz.prog 115 [.pointer (some ⟨b, 0, none⟩), .int .i64 x] w (gobj 223 b A c g) no (fun v L => v = .tuple #[.int .i64 (sampV g x), .int .i64 (sampE x)] ∧ L = gobj 223 b A c (sampG g x)) := by
 refine Sv.Fx.body Tryz.func115 rfl T115 rfl ?_
 intro I hro hI
 refine KV.e2 0 1 ?_
 have hn1 := hg.n1
 have hn2 := hg.n2
 have hs2 := hg.s2
 refine CV.seq (CV.region ?_)
 refine RV.a rfl rfl (RV.a rfl rfl ?_)
 refine RV.nil (KV.then_n (KV.e2 0 1 (CV.seq (CV.seq (CV.region ?_)))))
 refine RV.m rfl rfl ?_
 refine RV.op (OV.split gno (Step.lss rfl rfl) rfl (fun cc1 => ?_) (fun cc1 => ?_))
 ·
  refine RV.m rfl rfl (RV.k rfl rfl (RV.k rfl rfl (RV.s (Step.pick_t rfl rfl) rfl ?_)))
  refine RV.nil (KV.then_n (KV.e3 0 1 11 (CV.cond_t rfl (CV.seq (CV.region ?_)))))
  refine RV.a rfl rfl (RV.a rfl rfl ?_)
  refine RV.nil (KV.then_n (KV.e2 4 5 (CV.ret (KV.then_ret ?_))))
  exact KV.ret2 rfl rfl rfl _ (fun _ h => h) ⟨by rw [(samp_no (g := g) (show ¬ okX x by unfold okX; omega)).2.1, (samp_no (g := g) (show ¬ okX x by unfold okX; omega)).2.2] <;> rfl, by rw [(samp_no (g := g) (show ¬ okX x by unfold okX; omega)).1] <;> rfl⟩
 ·
  refine RV.m rfl rfl (RV.gw rfl (Step.move rfl) rfl ?_)
  refine RV.op (OV.split (gyes rfl) (Step.gtr rfl rfl) rfl (fun cc2 => ?_) (fun cc2 => ?_))
  ·
   refine RV.s (Step.pick_f rfl rfl) rfl ?_
   refine RV.nil (KV.then_n (KV.e3 0 1 11 (CV.cond_t rfl (CV.seq (CV.region ?_)))))
   refine RV.a rfl rfl (RV.a rfl rfl ?_)
   refine RV.nil (KV.then_n (KV.e2 4 5 (CV.ret (KV.then_ret ?_))))
   exact KV.ret2 rfl rfl rfl _ (fun _ h => h) ⟨by rw [(samp_no (g := g) (show ¬ okX x by unfold okX; omega)).2.1, (samp_no (g := g) (show ¬ okX x by unfold okX; omega)).2.2] <;> rfl, by rw [(samp_no (g := g) (show ¬ okX x by unfold okX; omega)).1] <;> rfl⟩
  ·
   refine RV.s (Step.pick_f rfl rfl) rfl ?_
   refine RV.nil (KV.then_n (KV.e3 0 1 11 (CV.cond_f rfl (CV.skip (KV.then_n ?_)))))
   refine KV.e2 0 1 (CV.seq (CV.block (CV.seq (CV.region ?_))))
   refine RV.m rfl rfl (RV.m rfl rfl (RV.s (Step.nilCheck rfl) rfl (RV.s (Step.fieldAddr rfl (F223_1 _ _)) rfl (RV.s (Step.fieldAddr rfl (F39_0 _ _)) rfl (RV.s (Step.load Tryz.underlying3 rfl rfl (fun w h => h.cell 0 rfl rfl)) rfl ?_)))))
   refine RV.op (OV.split gno (Step.gtr rfl rfl) rfl (fun h1 => ?_) (fun h1 => ?_))
   ·
    refine RV.a rfl rfl ?_
    refine RV.nil (KV.then_n (KV.e3 0 1 15 (CV.cond_t rfl (CV.seq (CV.region ?_)))))
    refine RV.m rfl rfl (RV.m rfl rfl (RV.s (Step.nilCheck rfl) rfl (RV.s (Step.fieldAddr rfl (F223_3 _ _)) rfl (RV.s (Step.load Tryz.underlying3 rfl rfl (fun w h => h.cell 0 rfl rfl)) rfl (RV.s (Step.nilCheck rfl) rfl (RV.s (Step.fieldAddr rfl (F223_4 _ _)) rfl ?_))))))
    refine RV.op (OV.store 0 [_] #[_, _, _, _, _, _, _, _] I3 rfl rfl rfl rfl rfl (Nat.le_of_ble_eq_true rfl) (by simp [Value.oneCell']) rfl gno ?_)
    refine RV.nil (KV.then_n (KV.e1 0 (CV.region ?_)))
    refine RV.m rfl rfl (RV.s (Step.nilCheck rfl) rfl (RV.s (Step.fieldAddr rfl (F223_5 _ _)) rfl ?_))
    refine RV.op (OV.store 0 [_] #[_, _, _, _, _, _, _, _] I3 rfl rfl rfl rfl rfl (Nat.le_of_ble_eq_true rfl) (by simp [Value.oneCell']) rfl gno ?_)
    refine RV.nil (KV.block_n (KV.then_n (KV.e1 0 (CV.seq (CV.region ?_)))))
    refine RV.m rfl rfl (RV.s (Step.nilCheck rfl) rfl (RV.s (Step.fieldAddr rfl (F223_4 _ _)) rfl (RV.s (Step.load Tryz.underlying3 rfl rfl (fun w h => h.cell 0 rfl rfl)) rfl (RV.a rfl rfl (RV.a rfl rfl ?_)))))
    refine RV.nil (KV.then_n (KV.e2 4 5 (CV.ret ?_)))
    first | exact KV.ret2 rfl rfl rfl _ (fun _ h => h) ⟨by rw [(samp_hi (g := g) (show okX x by unfold okX; omega) h1).2.1, (samp_hi (g := g) (show okX x by unfold okX; omega) h1).2.2] <;> rfl, by rw [(samp_hi (g := g) (show okX x by unfold okX; omega) h1).1] <;> rfl⟩ | exact KV.ret2 rfl rfl rfl _ (fun _ h => h) ⟨by rw [(samp_suf (g := g) (show okX x by unfold okX; omega) h1 h2 h3).2.1, (samp_suf (g := g) (show okX x by unfold okX; omega) h1 h2 h3).2.2] <;> rfl, by rw [(samp_suf (g := g) (show okX x by unfold okX; omega) h1 h2 h3).1] <;> rfl⟩ | exact KV.ret2 rfl rfl rfl _ (fun _ h => h) ⟨by rw [(samp_wait (g := g) (show okX x by unfold okX; omega) h1 h2 h3).2.1, (samp_wait (g := g) (show okX x by unfold okX; omega) h1 h2 h3).2.2] <;> rfl, by rw [(samp_wait (g := g) (show okX x by unfold okX; omega) h1 h2 h3).1] <;> rfl⟩ | exact KV.ret2 rfl rfl rfl _ (fun _ h => h) ⟨by rw [(samp_mid (g := g) (show okX x by unfold okX; omega) h1 h2).2.1, (samp_mid (g := g) (show okX x by unfold okX; omega) h1 h2).2.2] <;> rfl, by rw [(samp_mid (g := g) (show okX x by unfold okX; omega) h1 h2).1] <;> rfl⟩
   ·
    refine RV.a rfl rfl ?_
    refine RV.nil (KV.then_n (KV.e3 0 1 15 (CV.cond_f rfl (CV.seq (CV.region ?_)))))
    refine RV.m rfl rfl (RV.m rfl rfl (RV.s (Step.nilCheck rfl) rfl (RV.s (Step.fieldAddr rfl (F223_1 _ _)) rfl (RV.s (Step.fieldAddr rfl (F39_1 _ _)) rfl (RV.s (Step.load Tryz.underlying3 rfl rfl (fun w h => h.cell 0 rfl rfl)) rfl ?_)))))
    refine RV.op (OV.split gno (Step.lss rfl rfl) rfl (fun h2 => ?_) (fun h2 => ?_))
    ·
     refine RV.a rfl rfl ?_
     refine RV.nil (KV.then_n (KV.e3 0 1 33 (CV.cond_t rfl (CV.seq (CV.region ?_)))))
     refine RV.m rfl rfl (RV.s (Step.nilCheck rfl) rfl (RV.s (Step.fieldAddr rfl (F223_5 _ _)) rfl (RV.s (Step.load Tryz.underlying3 rfl rfl (fun w h => h.cell 0 rfl rfl)) rfl ?_)))
     (first | refine RV.op (OV.step gno (Step.add rfl rfl (wI64 (by omega) (by omega))) rfl ?_) | refine RV.op (OV.step gno (Step.add rfl rfl rfl) rfl ?_))
     refine RV.s (Step.nilCheck rfl) rfl (RV.s (Step.fieldAddr rfl (F223_5 _ _)) rfl ?_)
     refine RV.op (OV.store 0 [_] #[_, _, _, _, _, _, _, _] I3 rfl rfl rfl rfl rfl (Nat.le_of_ble_eq_true rfl) (by simp [Value.oneCell']) rfl gno ?_)
     refine RV.nil (KV.then_n (KV.e2 0 1 (CV.seq ?_)))
     refine CV.still (by kernel_rfl) (by kernel_rfl) (fun _ h => h.drew) ?_
     refine SV.step gno (Step.move rfl) rfl ?_
     refine SV.step gno (Step.nilCheck rfl) rfl ?_
     refine SV.step gno (Step.fieldAddr rfl (F223_5 _ _)) rfl ?_
     refine SV.step gno (Step.load Tryz.underlying3 rfl rfl (fun w h => h.cell 0 rfl rfl)) rfl ?_
     refine SV.step gno (Step.move rfl) rfl ?_
     refine SV.step gno (Step.nilCheck rfl) rfl ?_
     refine SV.step gno (Step.fieldAddr rfl (F223_1 _ _)) rfl ?_
     refine SV.step gno (Step.fieldAddr rfl (F39_2 _ _)) rfl ?_
     refine SV.step gno (Step.load Tryz.underlying3 rfl rfl (fun w h => h.cell 0 rfl rfl)) rfl ?_
     refine SV.split gno (Step.geq rfl rfl) rfl (fun h3 => ?_) (fun h3 => ?_)
     ·
      refine SV.nil (KV.then_n (KV.e3 0 1 57 (CV.cond_t rfl (CV.seq (CV.region ?_)))))
      refine RV.m rfl rfl (RV.s (Step.nilCheck rfl) rfl (RV.s (Step.fieldAddr rfl (F223_5 _ _)) rfl ?_))
      refine RV.op (OV.store 0 [_] #[_, _, _, _, _, _, _, _] I3 rfl rfl rfl rfl rfl (Nat.le_of_ble_eq_true rfl) (by simp [Value.oneCell']) rfl gno ?_)
      refine RV.nil (KV.then_n (KV.e2 0 1 (CV.region ?_)))
      refine RV.m rfl rfl (RV.m rfl rfl (RV.m rfl rfl ?_))
      refine RV.op (OV.call [0, 0] (F := []) Tryz.func148 B148 N148 rfl rfl (fun w h => sufficient_fn b A c { g with n := 0 } x ⟨hg.t, hg.u1, hg.u2, hg.d1, hg.d2, hg.s1, hg.s2, hg.l1, hg.l2, hg.l3, Int.le_refl _, (by have := hg.s1; simp only []; omega)⟩ (show okX x by unfold okX; omega)) (fun _ hb => hb.elim) gno rfl (fun v L' hp => ?_))
      obtain ⟨rfl, rfl⟩ := hp
      refine RV.s (Step.nilCheck rfl) rfl (RV.s (Step.fieldAddr rfl (F223_4 _ _)) rfl ?_)
      refine RV.op (OV.store 0 [_] #[_, _, _, _, _, _, _, _] I3 rfl rfl rfl rfl rfl (Nat.le_of_ble_eq_true rfl) (by simp [Value.oneCell']) rfl gno ?_)
      refine RV.nil (KV.block_n (KV.then_n (KV.e1 0 (CV.seq (CV.region ?_)))))
      refine RV.m rfl rfl (RV.s (Step.nilCheck rfl) rfl (RV.s (Step.fieldAddr rfl (F223_4 _ _)) rfl (RV.s (Step.load Tryz.underlying3 rfl rfl (fun w h => h.cell 0 rfl rfl)) rfl (RV.a rfl rfl (RV.a rfl rfl ?_)))))
      refine RV.nil (KV.then_n (KV.e2 4 5 (CV.ret ?_)))
      first | exact KV.ret2 rfl rfl rfl _ (fun _ h => h) ⟨by rw [(samp_hi (g := g) (show okX x by unfold okX; omega) h1).2.1, (samp_hi (g := g) (show okX x by unfold okX; omega) h1).2.2] <;> rfl, by rw [(samp_hi (g := g) (show okX x by unfold okX; omega) h1).1] <;> rfl⟩ | exact KV.ret2 rfl rfl rfl _ (fun _ h => h) ⟨by rw [(samp_suf (g := g) (show okX x by unfold okX; omega) h1 h2 h3).2.1, (samp_suf (g := g) (show okX x by unfold okX; omega) h1 h2 h3).2.2] <;> rfl, by rw [(samp_suf (g := g) (show okX x by unfold okX; omega) h1 h2 h3).1] <;> rfl⟩ | exact KV.ret2 rfl rfl rfl _ (fun _ h => h) ⟨by rw [(samp_wait (g := g) (show okX x by unfold okX; omega) h1 h2 h3).2.1, (samp_wait (g := g) (show okX x by unfold okX; omega) h1 h2 h3).2.2] <;> rfl, by rw [(samp_wait (g := g) (show okX x by unfold okX; omega) h1 h2 h3).1] <;> rfl⟩ | exact KV.ret2 rfl rfl rfl _ (fun _ h => h) ⟨by rw [(samp_mid (g := g) (show okX x by unfold okX; omega) h1 h2).2.1, (samp_mid (g := g) (show okX x by unfold okX; omega) h1 h2).2.2] <;> rfl, by rw [(samp_mid (g := g) (show okX x by unfold okX; omega) h1 h2).1] <;> rfl⟩
     ·
      refine SV.nil (KV.then_n (KV.e3 0 1 57 (CV.cond_f rfl (CV.skip (KV.block_n ?_)))))
      refine KV.then_n (KV.e1 0 (CV.seq (CV.region ?_)))
      refine RV.m rfl rfl (RV.s (Step.nilCheck rfl) rfl (RV.s (Step.fieldAddr rfl (F223_4 _ _)) rfl (RV.s (Step.load Tryz.underlying3 rfl rfl (fun w h => h.cell 0 rfl rfl)) rfl (RV.a rfl rfl (RV.a rfl rfl ?_)))))
      refine RV.nil (KV.then_n (KV.e2 4 5 (CV.ret ?_)))
      first | exact KV.ret2 rfl rfl rfl _ (fun _ h => h) ⟨by rw [(samp_hi (g := g) (show okX x by unfold okX; omega) h1).2.1, (samp_hi (g := g) (show okX x by unfold okX; omega) h1).2.2] <;> rfl, by rw [(samp_hi (g := g) (show okX x by unfold okX; omega) h1).1] <;> rfl⟩ | exact KV.ret2 rfl rfl rfl _ (fun _ h => h) ⟨by rw [(samp_suf (g := g) (show okX x by unfold okX; omega) h1 h2 h3).2.1, (samp_suf (g := g) (show okX x by unfold okX; omega) h1 h2 h3).2.2] <;> rfl, by rw [(samp_suf (g := g) (show okX x by unfold okX; omega) h1 h2 h3).1] <;> rfl⟩ | exact KV.ret2 rfl rfl rfl _ (fun _ h => h) ⟨by rw [(samp_wait (g := g) (show okX x by unfold okX; omega) h1 h2 h3).2.1, (samp_wait (g := g) (show okX x by unfold okX; omega) h1 h2 h3).2.2] <;> rfl, by rw [(samp_wait (g := g) (show okX x by unfold okX; omega) h1 h2 h3).1] <;> rfl⟩ | exact KV.ret2 rfl rfl rfl _ (fun _ h => h) ⟨by rw [(samp_mid (g := g) (show okX x by unfold okX; omega) h1 h2).2.1, (samp_mid (g := g) (show okX x by unfold okX; omega) h1 h2).2.2] <;> rfl, by rw [(samp_mid (g := g) (show okX x by unfold okX; omega) h1 h2).1] <;> rfl⟩
    ·
     refine RV.a rfl rfl ?_
     refine RV.nil (KV.then_n (KV.e3 0 1 33 (CV.cond_f rfl (CV.region ?_))))
     refine RV.m rfl rfl (RV.s (Step.nilCheck rfl) rfl (RV.s (Step.fieldAddr rfl (F223_5 _ _)) rfl ?_))
     refine RV.op (OV.store 0 [_] #[_, _, _, _, _, _, _, _] I3 rfl rfl rfl rfl rfl (Nat.le_of_ble_eq_true rfl) (by simp [Value.oneCell']) rfl gno ?_)
     refine RV.nil (KV.block_n (KV.then_n (KV.e1 0 (CV.seq (CV.region ?_)))))
     refine RV.m rfl rfl (RV.s (Step.nilCheck rfl) rfl (RV.s (Step.fieldAddr rfl (F223_4 _ _)) rfl (RV.s (Step.load Tryz.underlying3 rfl rfl (fun w h => h.cell 0 rfl rfl)) rfl (RV.a rfl rfl (RV.a rfl rfl ?_)))))
     refine RV.nil (KV.then_n (KV.e2 4 5 (CV.ret ?_)))
     first | exact KV.ret2 rfl rfl rfl _ (fun _ h => h) ⟨by rw [(samp_hi (g := g) (show okX x by unfold okX; omega) h1).2.1, (samp_hi (g := g) (show okX x by unfold okX; omega) h1).2.2] <;> rfl, by rw [(samp_hi (g := g) (show okX x by unfold okX; omega) h1).1] <;> rfl⟩ | exact KV.ret2 rfl rfl rfl _ (fun _ h => h) ⟨by rw [(samp_suf (g := g) (show okX x by unfold okX; omega) h1 h2 h3).2.1, (samp_suf (g := g) (show okX x by unfold okX; omega) h1 h2 h3).2.2] <;> rfl, by rw [(samp_suf (g := g) (show okX x by unfold okX; omega) h1 h2 h3).1] <;> rfl⟩ | exact KV.ret2 rfl rfl rfl _ (fun _ h => h) ⟨by rw [(samp_wait (g := g) (show okX x by unfold okX; omega) h1 h2 h3).2.1, (samp_wait (g := g) (show okX x by unfold okX; omega) h1 h2 h3).2.2] <;> rfl, by rw [(samp_wait (g := g) (show okX x by unfold okX; omega) h1 h2 h3).1] <;> rfl⟩ | exact KV.ret2 rfl rfl rfl _ (fun _ h => h) ⟨by rw [(samp_mid (g := g) (show okX x by unfold okX; omega) h1 h2).2.1, (samp_mid (g := g) (show okX x by unfold okX; omega) h1 h2).2.2] <;> rfl, by rw [(samp_mid (g := g) (show okX x by unfold okX; omega) h1 h2).1] <;> rfl⟩
end Go.Proofs.YtdfkpdcpegcieaaGreatDoor
