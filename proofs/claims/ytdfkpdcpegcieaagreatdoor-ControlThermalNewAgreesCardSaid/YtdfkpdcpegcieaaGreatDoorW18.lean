/-
 Walks, part 18.
-/
import Derived.Test.YtdfkpdcpegcieaaGreatDoorTab18
import Derived.Test.YtdfkpdcpegcieaaGreatDoorW13
import Derived.Test.YtdfkpdcpegcieaaGreatDoorRf
set_option linter.unusedSimpArgs false
set_option linter.unusedVariables false
namespace Go.Proofs.YtdfkpdcpegcieaaGreatDoor
open Go.Sv Go.Perf Go.Ctl
set_option maxRecDepth 100000 in
set_option maxHeartbeats 1000000 in
theorem tripsR2_fn {A : Option Addr} {n c : Nat} {tr : List Trp} {w : World} (hr : RS w trK A tr) (hn : n = tr.length) (hl : tr.length ≤ 1000000) : Fx Tryz.prog 81 [.slice A n c] w [] no (fun v L => v = .int .i64 (chkT tr) ∧ L = []) := by
 subst hn
 refine Sv.Fx.body Tryz.func81 rfl T81 rfl ?_
 intro I hro hI
 refine KV.e1 0 (CV.seq (CV.region ?_))
 refine RV.a rfl rfl ?_
 refine RV.nil (KV.then_n (KV.e1 0 (CV.seq (CV.seq (CV.region ?_)))))
 refine RV.m rfl rfl (RV.s (Step.lenSl Tryz.underlying43 rfl) rfl ?_)
 refine RV.op (OV.split gno (Step.gtr rfl rfl) rfl (fun cc1 => ?_) (fun cc1 => ?_))
 ·
  refine RV.nil (KV.then_n (KV.e2 0 7 (CV.cond_t rfl (CV.seq (CV.region ?_)))))
  refine RV.a rfl rfl ?_
  refine RV.nil (KV.then_n (KV.e1 2 (CV.ret (KV.then_ret ?_))))
  refine KV.sel [] [] rfl ?_
  exact KV.ret1 rfl rfl _ (fun _ h => h) ⟨by rw [chkT_long (by omega)], rfl⟩
 ·
  refine RV.nil (KV.then_n (KV.e2 0 7 (CV.cond_f rfl (CV.skip (KV.then_n ?_)))))
  refine KV.e1 0 (CV.seq (CV.seq (CV.region ?_)))
  refine RV.a rfl rfl ?_
  refine RV.nil (KV.then_n (KV.e2 0 3 (CV.block ?_)))
  refine KV.sel [] [] rfl ?_
  refine CV.loopI (fun (j : Nat) => j ≤ tr.length ∧ ∀ i, i < j → ¬ badT (tr.getD i trK.d)) (fun (j : Nat) => tr.length - j) (fun (j : Nat) => [(0, .slice A tr.length c), (3, .int .i64 j)]) (fun (j : Nat) => Hp I w []) (0) ⟨Nat.zero_le _, fun _ h => by omega⟩ ⟨rfl, rfl, trivial⟩ (fun _ h => h) ?_
  intro j hinv
  refine CV.seq (CV.seq (CV.region ?_))
  refine RV.m rfl rfl (RV.m rfl rfl (RV.s (Step.lenSl Tryz.underlying43 rfl) rfl ?_))
  refine RV.op (OV.split gno (Step.lss rfl rfl) rfl (fun cc2 => ?_) (fun cc2 => ?_))
  ·
   refine RV.nil (KV.then_n (KV.e3 0 3 11 (CV.cond_t rfl (CV.skip (KV.then_n ?_)))))
   refine KV.e2 0 3 (CV.seq (CV.block (CV.seq (CV.region ?_))))
   refine RV.m rfl rfl (RV.m rfl rfl ?_)
   refine RV.s (Step.idx Tryz.underlying43 I190 (fun w h => h.rs hr (fun _ => hI _)) rfl rfl (rfl) _ rfl (by omega)) rfl ?_
   refine RV.s (Step.loadN _ Tryz.underlying190 rfl I190 rfl rfl (fun w h => (h.rs hr (fun _ => hI _)).cells (by omega))) rfl ?_
   refine RV.op (OV.alloc #[.int .i64 0, .int .i64 0, .int .i64 0] I190 rfl gno rfl (fun b6_4 => ?_))
   refine RV.op (OV.store 0 [_, _, _] #[_, _, _] I190 rfl rfl rfl rfl rfl (Nat.le_of_ble_eq_true rfl) (by simp [Value.oneCell']) rfl gno ?_)
   refine RV.nil (KV.then_n (KV.e3 0 3 4 (CV.seq (CV.region ?_))))
   refine RV.s (Step.fieldAddr rfl (F190_0 _ _)) rfl ?_
   (first | refine RV.op (OV.step gno (Step.load Tryz.underlying3 rfl rfl (fun w h => h.cell 0 rfl rfl)) rfl ?_) | refine RV.op (OV.step gno (Step.load Tryz.underlying3 rfl rfl (fun w h => (h.rs hr (fun _ => hI _)).cell (by omega) rfl)) rfl ?_) | refine RV.op (OV.step gno (Step.load Tryz.underlying3 rfl rfl (fun w h => (h.rs hr (fun _ => hI _)).cell0 (by omega) rfl)) rfl ?_))
   refine RV.op (OV.split gno (Step.lss rfl rfl) rfl (fun cc3 => ?_) (fun cc3 => ?_))
   ·
    refine RV.m rfl rfl (RV.k rfl rfl (RV.k rfl rfl (RV.k rfl rfl (RV.s (Step.pick_t rfl rfl) rfl (RV.m rfl rfl (RV.k rfl rfl (RV.k rfl rfl ?_)))))))
    refine RV.k rfl rfl (RV.s (Step.pick_t rfl rfl) rfl (RV.m rfl rfl (RV.k rfl rfl (RV.k rfl rfl (RV.k rfl rfl (RV.s (Step.pick_t rfl rfl) rfl (RV.m rfl rfl ?_)))))))
    refine RV.k rfl rfl (RV.k rfl rfl (RV.k rfl rfl (RV.s (Step.pick_t rfl rfl) rfl (RV.m rfl rfl (RV.k rfl rfl (RV.k rfl rfl (RV.k rfl rfl ?_)))))))
    refine RV.s (Step.pick_t rfl rfl) rfl ?_
    refine RV.nil (KV.then_n (KV.e3 0 3 45 (CV.cond_t rfl (CV.seq (CV.region ?_)))))
    refine RV.a rfl rfl ?_
    refine RV.nil (KV.then_n (KV.e1 2 (CV.ret (KV.block_ret (KV.then_ret ?_)))))
    refine KV.then_ret (KV.block_ret (KV.then_ret ?_))
    refine KV.sel [] [] rfl ?_
    exact KV.ret1 rfl rfl _ (fun _ h => h) ⟨by rw [chkT_at (i := j) (by omega) (by unfold badT; omega)], rfl⟩
   ·
    refine RV.m rfl rfl (RV.gw rfl (Step.fieldAddr rfl (F190_0 _ _)) rfl ?_)
    (first | refine RV.op (OV.step (gyes rfl) (Step.load Tryz.underlying3 rfl rfl (fun w h => h.cell 0 rfl rfl)) rfl ?_) | refine RV.op (OV.step (gyes rfl) (Step.load Tryz.underlying3 rfl rfl (fun w h => (h.rs hr (fun _ => hI _)).cell (by omega) rfl)) rfl ?_) | refine RV.op (OV.step (gyes rfl) (Step.load Tryz.underlying3 rfl rfl (fun w h => (h.rs hr (fun _ => hI _)).cell0 (by omega) rfl)) rfl ?_))
    refine RV.op (OV.split (gyes rfl) (Step.gtr rfl rfl) rfl (fun cc4 => ?_) (fun cc4 => ?_))
    ·
     refine RV.s (Step.pick_f rfl rfl) rfl (RV.m rfl rfl (RV.k rfl rfl (RV.k rfl rfl (RV.k rfl rfl (RV.s (Step.pick_t rfl rfl) rfl (RV.m rfl rfl (RV.k rfl rfl ?_)))))))
     refine RV.k rfl rfl (RV.k rfl rfl (RV.s (Step.pick_t rfl rfl) rfl (RV.m rfl rfl (RV.k rfl rfl (RV.k rfl rfl (RV.k rfl rfl (RV.s (Step.pick_t rfl rfl) rfl ?_)))))))
     refine RV.m rfl rfl (RV.k rfl rfl (RV.k rfl rfl (RV.k rfl rfl (RV.s (Step.pick_t rfl rfl) rfl ?_))))
     refine RV.nil (KV.then_n (KV.e3 0 3 45 (CV.cond_t rfl (CV.seq (CV.region ?_)))))
     refine RV.a rfl rfl ?_
     refine RV.nil (KV.then_n (KV.e1 2 (CV.ret (KV.block_ret (KV.then_ret ?_)))))
     refine KV.then_ret (KV.block_ret (KV.then_ret ?_))
     refine KV.sel [] [] rfl ?_
     exact KV.ret1 rfl rfl _ (fun _ h => h) ⟨by rw [chkT_at (i := j) (by omega) (by unfold badT; omega)], rfl⟩
    ·
     refine RV.s (Step.pick_f rfl rfl) rfl (RV.m rfl rfl (RV.gw rfl (Step.fieldAddr rfl (F190_1 _ _)) rfl ?_))
     (first | refine RV.op (OV.step (gyes rfl) (Step.load Tryz.underlying2 rfl rfl (fun w h => h.cell 0 rfl rfl)) rfl ?_) | refine RV.op (OV.step (gyes rfl) (Step.load Tryz.underlying2 rfl rfl (fun w h => (h.rs hr (fun _ => hI _)).cell (by omega) rfl)) rfl ?_) | refine RV.op (OV.step (gyes rfl) (Step.load Tryz.underlying2 rfl rfl (fun w h => (h.rs hr (fun _ => hI _)).cell0 (by omega) rfl)) rfl ?_))
     refine RV.op (OV.split (gyes rfl) (Step.lss rfl rfl) rfl (fun cc5 => ?_) (fun cc5 => ?_))
     ·
      refine RV.s (Step.pick_f rfl rfl) rfl (RV.m rfl rfl (RV.k rfl rfl (RV.k rfl rfl (RV.k rfl rfl (RV.s (Step.pick_t rfl rfl) rfl (RV.m rfl rfl (RV.k rfl rfl ?_)))))))
      refine RV.k rfl rfl (RV.k rfl rfl (RV.s (Step.pick_t rfl rfl) rfl (RV.m rfl rfl (RV.k rfl rfl (RV.k rfl rfl (RV.k rfl rfl (RV.s (Step.pick_t rfl rfl) rfl ?_)))))))
      refine RV.nil (KV.then_n (KV.e3 0 3 45 (CV.cond_t rfl (CV.seq (CV.region ?_)))))
      refine RV.a rfl rfl ?_
      refine RV.nil (KV.then_n (KV.e1 2 (CV.ret (KV.block_ret (KV.then_ret ?_)))))
      refine KV.then_ret (KV.block_ret (KV.then_ret ?_))
      refine KV.sel [] [] rfl ?_
      exact KV.ret1 rfl rfl _ (fun _ h => h) ⟨by rw [chkT_at (i := j) (by omega) (by unfold badT; omega)], rfl⟩
     ·
      refine RV.s (Step.pick_f rfl rfl) rfl (RV.m rfl rfl (RV.gw rfl (Step.fieldAddr rfl (F190_1 _ _)) rfl ?_))
      (first | refine RV.op (OV.step (gyes rfl) (Step.load Tryz.underlying2 rfl rfl (fun w h => h.cell 0 rfl rfl)) rfl ?_) | refine RV.op (OV.step (gyes rfl) (Step.load Tryz.underlying2 rfl rfl (fun w h => (h.rs hr (fun _ => hI _)).cell (by omega) rfl)) rfl ?_) | refine RV.op (OV.step (gyes rfl) (Step.load Tryz.underlying2 rfl rfl (fun w h => (h.rs hr (fun _ => hI _)).cell0 (by omega) rfl)) rfl ?_))
      refine RV.op (OV.split (gyes rfl) (Step.gtr rfl rfl) rfl (fun cc6 => ?_) (fun cc6 => ?_))
      ·
       refine RV.s (Step.pick_f rfl rfl) rfl (RV.m rfl rfl (RV.k rfl rfl (RV.k rfl rfl (RV.k rfl rfl (RV.s (Step.pick_t rfl rfl) rfl (RV.m rfl rfl (RV.k rfl rfl ?_)))))))
       refine RV.k rfl rfl (RV.k rfl rfl (RV.s (Step.pick_t rfl rfl) rfl ?_))
       refine RV.nil (KV.then_n (KV.e3 0 3 45 (CV.cond_t rfl (CV.seq (CV.region ?_)))))
       refine RV.a rfl rfl ?_
       refine RV.nil (KV.then_n (KV.e1 2 (CV.ret (KV.block_ret (KV.then_ret ?_)))))
       refine KV.then_ret (KV.block_ret (KV.then_ret ?_))
       refine KV.sel [] [] rfl ?_
       exact KV.ret1 rfl rfl _ (fun _ h => h) ⟨by rw [chkT_at (i := j) (by omega) (by unfold badT; omega)], rfl⟩
      ·
       refine RV.s (Step.pick_f rfl rfl) rfl (RV.m rfl rfl (RV.gw rfl (Step.fieldAddr rfl (F190_2 _ _)) rfl ?_))
       (first | refine RV.op (OV.step (gyes rfl) (Step.load Tryz.underlying2 rfl rfl (fun w h => h.cell 0 rfl rfl)) rfl ?_) | refine RV.op (OV.step (gyes rfl) (Step.load Tryz.underlying2 rfl rfl (fun w h => (h.rs hr (fun _ => hI _)).cell (by omega) rfl)) rfl ?_) | refine RV.op (OV.step (gyes rfl) (Step.load Tryz.underlying2 rfl rfl (fun w h => (h.rs hr (fun _ => hI _)).cell0 (by omega) rfl)) rfl ?_))
       refine RV.op (OV.split (gyes rfl) (Step.lss rfl rfl) rfl (fun cc7 => ?_) (fun cc7 => ?_))
       ·
        refine RV.s (Step.pick_f rfl rfl) rfl (RV.m rfl rfl (RV.k rfl rfl (RV.k rfl rfl (RV.k rfl rfl (RV.s (Step.pick_t rfl rfl) rfl ?_)))))
        refine RV.nil (KV.then_n (KV.e3 0 3 45 (CV.cond_t rfl (CV.seq (CV.region ?_)))))
        refine RV.a rfl rfl ?_
        refine RV.nil (KV.then_n (KV.e1 2 (CV.ret (KV.block_ret (KV.then_ret ?_)))))
        refine KV.then_ret (KV.block_ret (KV.then_ret ?_))
        refine KV.sel [] [] rfl ?_
        exact KV.ret1 rfl rfl _ (fun _ h => h) ⟨by rw [chkT_at (i := j) (by omega) (by unfold badT; omega)], rfl⟩
       ·
        refine RV.s (Step.pick_f rfl rfl) rfl (RV.m rfl rfl (RV.gw rfl (Step.fieldAddr rfl (F190_2 _ _)) rfl ?_))
        (first | refine RV.op (OV.step (gyes rfl) (Step.load Tryz.underlying2 rfl rfl (fun w h => h.cell 0 rfl rfl)) rfl ?_) | refine RV.op (OV.step (gyes rfl) (Step.load Tryz.underlying2 rfl rfl (fun w h => (h.rs hr (fun _ => hI _)).cell (by omega) rfl)) rfl ?_) | refine RV.op (OV.step (gyes rfl) (Step.load Tryz.underlying2 rfl rfl (fun w h => (h.rs hr (fun _ => hI _)).cell0 (by omega) rfl)) rfl ?_))
        refine RV.op (OV.split (gyes rfl) (Step.gtr rfl rfl) rfl (fun cc8 => ?_) (fun cc8 => ?_))
        ·
         refine RV.s (Step.pick_f rfl rfl) rfl ?_
         refine RV.nil (KV.then_n (KV.e3 0 3 45 (CV.cond_t rfl (CV.seq (CV.region ?_)))))
         refine RV.a rfl rfl ?_
         refine RV.nil (KV.then_n (KV.e1 2 (CV.ret (KV.block_ret (KV.then_ret ?_)))))
         refine KV.then_ret (KV.block_ret (KV.then_ret ?_))
         refine KV.sel [] [] rfl ?_
         exact KV.ret1 rfl rfl _ (fun _ h => h) ⟨by rw [chkT_at (i := j) (by omega) (by unfold badT; omega)], rfl⟩
        ·
         refine RV.s (Step.pick_f rfl rfl) rfl ?_
         refine RV.nil (KV.then_n (KV.e3 0 3 45 (CV.cond_f rfl (CV.skip (KV.block_n ?_)))))
         refine KV.then_n (KV.e2 0 3 (CV.region ?_))
         refine RV.m rfl rfl ?_
         (first | refine RV.op (OV.step gno (Step.add rfl rfl (wI64 (by omega) (by omega))) rfl ?_) | refine RV.op (OV.step gno (Step.add rfl rfl rfl) rfl ?_))
         refine RV.a rfl rfl ?_
         refine RV.nil (KV.then_n (KV.e2 0 3 ?_))
         refine KV.sel [] [] rfl ?_
         have hnb : ¬ badT (tr.getD j trK.d) := by unfold badT; omega
         exact KV.loopI (z := j) (j + 1) ⟨by omega, fun i hi => by by_cases e : i = j; (subst e; exact hnb); exact hinv.2 i (by omega)⟩ (by omega) ⟨rfl, rfl, trivial⟩ (fun _ h => h)
  ·
   refine RV.nil (KV.then_n (KV.e3 0 3 11 (CV.cond_f rfl (CV.exit (KV.then_exit ?_)))))
   refine KV.then_exit (KV.block_hit (KV.then_n (KV.env [] trivial (CV.seq (CV.region ?_)))))
   refine RV.a rfl rfl ?_
   refine RV.nil (KV.then_n (KV.e1 2 (CV.ret ?_)))
   refine KV.sel [] [] rfl ?_
   exact KV.ret1 rfl rfl _ (fun _ h => h) ⟨by rw [chkT_ok (by omega) (fun i hi => hinv.2 i (by omega))], rfl⟩

set_option maxRecDepth 100000 in
set_option maxHeartbeats 1000000 in
theorem zoneR_fn {A : Option Addr} {n c : Nat} {tr : List Trp} {w : World} (hr : RS w trK A tr) (hn : n = tr.length) (hl : tr.length ≤ 1000000) (lv : Int) (h0 : 0 ≤ lv) (h1 : lv ≤ 64) : Fx Tryz.prog 41 [.slice A n c, .int .i64 lv] w [] no (fun v L => ((chkT tr = 0 → ∃ b, v = .tuple #[.pointer (some ⟨b, 0, none⟩), .int .i64 0]) ∧ (chkT tr ≠ 0 → v = .tuple #[.pointer none, .int .i64 (chkT tr)])) ∧ L = []) := by
 subst hn
 refine Sv.Fx.body Tryz.func41 rfl T41 rfl ?_
 intro I hro hI
 refine KV.e2 0 1 (CV.seq (CV.region ?_))
 refine RV.a rfl rfl (RV.a rfl rfl ?_)
 refine RV.nil (KV.then_n (KV.e2 0 1 (CV.seq (CV.seq (CV.region ?_)))))
 refine RV.m rfl rfl ?_
 refine RV.op (OV.call [] (F := []) Tryz.func81 B81 N81 rfl rfl (fun w h => tripsR2_fn (h.rs hr (fun _ => hI _)) rfl hl) (fun _ hb => hb.elim) gno rfl (fun v L' hp => ?_))
 obtain ⟨rfl, rfl⟩ := hp
 simp only [List.append_nil]
 refine RV.a rfl rfl ?_
 refine RV.nil (KV.then_n (KV.e3 0 1 6 (CV.seq (CV.region ?_))))
 refine RV.m rfl rfl ?_
 refine RV.op (OV.split gno (Step.neq rfl rfl) rfl (fun hc => ?_) (fun hc => ?_))
 ·
  refine RV.nil (KV.then_n (KV.e4 0 1 6 10 (CV.cond_t rfl (CV.seq (CV.region ?_)))))
  refine RV.m rfl rfl (RV.a rfl rfl (RV.a rfl rfl ?_))
  refine RV.nil (KV.then_n (KV.e2 4 5 (CV.ret (KV.then_ret ?_))))
  refine KV.sel [] [] rfl ?_
  exact KV.ret2 rfl rfl rfl _ (fun _ h => h) ⟨⟨fun k => absurd k hc, fun _ => rfl⟩, rfl⟩
 ·
  refine RV.nil (KV.then_n (KV.e4 0 1 6 10 (CV.cond_f rfl (CV.skip (KV.then_n ?_)))))
  refine KV.e2 0 1 (CV.seq (CV.seq (CV.region ?_)))
  refine RV.m rfl rfl ?_
  refine RV.op (OV.split gno (Step.lss rfl rfl) rfl (fun e1 => ?_) (fun e1 => ?_))
  ·
   exfalso; omega
  ·
   refine RV.m rfl rfl (RV.gw rfl (Step.move rfl) rfl ?_)
   refine RV.op (OV.split (gyes rfl) (Step.gtr rfl rfl) rfl (fun e2 => ?_) (fun e2 => ?_))
   ·
    exfalso; omega
   ·
    refine RV.s (Step.pick_f rfl rfl) rfl ?_
    refine RV.nil (KV.then_n (KV.e3 0 1 17 (CV.cond_f rfl (CV.skip (KV.then_n ?_)))))
    refine KV.e2 0 1 (CV.seq ?_)
    have hlt : tr.length ≤ 12 := chk12 (Decidable.not_not.1 hc)
    refine CV.region ?_
    refine RV.m rfl rfl (RV.m rfl rfl (RV.s (Step.lenSl Tryz.underlying43 rfl) rfl ?_))
    refine RV.op (OV.make (K := bolK) (tr.length) (tr.length) (false) Tryz.underlying202 I4 rfl rfl rfl rfl rfl (by omega) (by omega) (by omega) gno rfl (fun b6_3 => ?_))
    refine RV.m rfl rfl (RV.s (Step.build rfl (Bd204_0_1_2 _ _ _ _ _ _ _)) rfl ?_)
    refine RV.op (OV.box (t := 204) #[_, _, _, _] rfl rfl gno rfl (fun b6_6 => ?_))
    refine RV.a rfl rfl (RV.a rfl rfl ?_)
    refine RV.nil (KV.then_n (KV.e2 4 5 (CV.ret ?_)))
    refine KV.sel [] [] rfl ?_
    exact KV.ret2 rfl rfl rfl _ (fun _ h => h) ⟨⟨fun _ => ⟨_, rfl⟩, fun k => absurd (Decidable.not_not.1 hc) k⟩, rfl⟩

set_option maxRecDepth 100000 in
set_option maxHeartbeats 4000000 in
theorem validR_fn {A : Option Addr} {n c : Nat} {D : List HD} {w : World} (hr : RS w hdK A D) (hn : n = D.length) (hl : D.length ≤ 1000000) {B : Option Addr} {m d : Nat} {M : List HL} (hr2 : RS w hlK B M) (hm : m = M.length) (hl2 : M.length ≤ 1000000) (base : Int) : Fx Tryz.prog 82 [.slice A n c, .slice B m d, .int .i64 base] w [] no (fun v L => v = .bool (vldB D M base) ∧ L = []) := by
 subst hn
 subst hm
 refine Sv.Fx.body Tryz.func82 rfl T82 rfl ?_
 intro I hro hI
 refine KV.e3 0 1 2 (CV.seq (CV.region ?_))
 refine RV.a rfl rfl ?_
 refine RV.nil (KV.then_n (KV.e3 0 1 2 (CV.seq (CV.seq (CV.region ?_)))))
 refine RV.m rfl rfl (RV.s (Step.lenSl Tryz.underlying104 rfl) rfl ?_)
 refine RV.op (OV.split gno (Step.lss rfl rfl) rfl (fun cc1 => ?_) (fun cc1 => ?_))
 ·
  refine RV.m rfl rfl (RV.k rfl rfl (RV.k rfl rfl (RV.k rfl rfl (RV.s (Step.pick_t rfl rfl) rfl (RV.m rfl rfl (RV.k rfl rfl (RV.k rfl rfl ?_)))))))
  refine RV.s (Step.pick_t rfl rfl) rfl (RV.m rfl rfl (RV.k rfl rfl (RV.k rfl rfl (RV.s (Step.pick_t rfl rfl) rfl ?_))))
  refine RV.nil (KV.then_n (KV.e3 0 1 28 (CV.cond_t rfl (CV.seq (CV.region ?_)))))
  refine RV.a rfl rfl ?_
  refine RV.nil (KV.then_n (KV.e1 6 (CV.ret (KV.then_ret ?_))))
  refine KV.sel [] [] rfl ?_
  exact KV.ret1 rfl rfl _ (fun _ h => h) ⟨by rw [vldB_f (fun hv => by have h1 := hv.n1; have h2 := hv.n2; have h3 := hv.b1; have h4 := hv.b2; omega)], rfl⟩
 ·
  refine RV.m rfl rfl (RV.gw rfl (Step.move rfl) rfl (RV.gw rfl (Step.lenSl Tryz.underlying104 rfl) rfl ?_))
  refine RV.op (OV.split (gyes rfl) (Step.gtr rfl rfl) rfl (fun cc2 => ?_) (fun cc2 => ?_))
  ·
   refine RV.s (Step.pick_f rfl rfl) rfl (RV.m rfl rfl (RV.k rfl rfl (RV.k rfl rfl (RV.s (Step.pick_t rfl rfl) rfl (RV.m rfl rfl (RV.k rfl rfl (RV.k rfl rfl ?_)))))))
   refine RV.s (Step.pick_t rfl rfl) rfl ?_
   refine RV.nil (KV.then_n (KV.e3 0 1 28 (CV.cond_t rfl (CV.seq (CV.region ?_)))))
   refine RV.a rfl rfl ?_
   refine RV.nil (KV.then_n (KV.e1 6 (CV.ret (KV.then_ret ?_))))
   refine KV.sel [] [] rfl ?_
   exact KV.ret1 rfl rfl _ (fun _ h => h) ⟨by rw [vldB_f (fun hv => by have h1 := hv.n1; have h2 := hv.n2; have h3 := hv.b1; have h4 := hv.b2; omega)], rfl⟩
  ·
   refine RV.s (Step.pick_f rfl rfl) rfl (RV.m rfl rfl (RV.gw rfl (Step.move rfl) rfl ?_))
   refine RV.op (OV.split (gyes rfl) (Step.lss rfl rfl) rfl (fun cc3 => ?_) (fun cc3 => ?_))
   ·
    refine RV.s (Step.pick_f rfl rfl) rfl (RV.m rfl rfl (RV.k rfl rfl (RV.k rfl rfl (RV.s (Step.pick_t rfl rfl) rfl ?_))))
    refine RV.nil (KV.then_n (KV.e3 0 1 28 (CV.cond_t rfl (CV.seq (CV.region ?_)))))
    refine RV.a rfl rfl ?_
    refine RV.nil (KV.then_n (KV.e1 6 (CV.ret (KV.then_ret ?_))))
    refine KV.sel [] [] rfl ?_
    exact KV.ret1 rfl rfl _ (fun _ h => h) ⟨by rw [vldB_f (fun hv => by have h1 := hv.n1; have h2 := hv.n2; have h3 := hv.b1; have h4 := hv.b2; omega)], rfl⟩
   ·
    refine RV.s (Step.pick_f rfl rfl) rfl (RV.m rfl rfl (RV.gw rfl (Step.move rfl) rfl ?_))
    refine RV.op (OV.split (gyes rfl) (Step.gtr rfl rfl) rfl (fun cc4 => ?_) (fun cc4 => ?_))
    ·
     refine RV.s (Step.pick_f rfl rfl) rfl ?_
     refine RV.nil (KV.then_n (KV.e3 0 1 28 (CV.cond_t rfl (CV.seq (CV.region ?_)))))
     refine RV.a rfl rfl ?_
     refine RV.nil (KV.then_n (KV.e1 6 (CV.ret (KV.then_ret ?_))))
     refine KV.sel [] [] rfl ?_
     exact KV.ret1 rfl rfl _ (fun _ h => h) ⟨by rw [vldB_f (fun hv => by have h1 := hv.n1; have h2 := hv.n2; have h3 := hv.b1; have h4 := hv.b2; omega)], rfl⟩
    ·
     refine RV.s (Step.pick_f rfl rfl) rfl ?_
     refine RV.nil (KV.then_n (KV.e3 0 1 28 (CV.cond_f rfl (CV.skip (KV.then_n ?_)))))
     refine KV.e2 0 1 (CV.seq (CV.region ?_))
     refine RV.m rfl rfl (RV.s (Step.lenSl Tryz.underlying104 rfl) rfl ?_)
     refine RV.op (OV.make (K := (intK .i64)) (D.length) (D.length) (0) Tryz.underlying56 I2 rfl rfl rfl rfl rfl (by omega) (by omega) (by omega) gno rfl (fun b3_2 => ?_))
     refine RV.a rfl rfl ?_
     refine RV.nil (KV.then_n (KV.e3 0 1 7 (CV.seq (CV.seq (CV.region ?_)))))
     refine RV.a rfl rfl ?_
     refine RV.nil (KV.then_n (KV.e4 0 1 7 8 (CV.block ?_)))
     refine KV.sel [0] [_] rfl ?_
     refine CV.loopI (fun (i : Nat) => i ≤ D.length ∧ ∀ k, k < i → 1 ≤ (hdA D k).amb ∧ (hdA D k).cap ≤ 16777216 ∧ (hdA D k).amb ≤ (hdA D k).cap) (fun (i : Nat) => D.length - i) (fun (i : Nat) => [(0, .slice A D.length c), (1, .slice B M.length d), (7, .slice b3_2 D.length D.length), (8, .int .i64 i)]) (fun (i : Nat) => Hp I w [OS 2 (intK .i64) b3_2 D.length (lfA D i)]) (0) ⟨Nat.zero_le _, fun k hk => by omega⟩ ⟨rfl, rfl, rfl, rfl, trivial⟩ (fun _ h => by rw [lfA_zero]; exact h) ?_
     intro i hinv
     refine CV.seq (CV.seq (CV.region ?_))
     refine RV.m rfl rfl (RV.m rfl rfl (RV.s (Step.lenSl Tryz.underlying104 rfl) rfl ?_))
     refine RV.op (OV.split gno (Step.lss rfl rfl) rfl (fun cc5 => ?_) (fun cc5 => ?_))
     ·
      refine RV.nil (KV.then_n (KV.e5 0 1 7 8 35 (CV.cond_t rfl (CV.skip (KV.then_n ?_)))))
      refine KV.e4 0 1 7 8 (CV.seq (CV.block (CV.seq (CV.region ?_))))
      refine RV.m rfl rfl (RV.m rfl rfl ?_)
      refine RV.op (OV.step gno (Step.idx Tryz.underlying104 I41 (fun w h => h.rs hr (fun _ => hI _)) rfl rfl (by first | rfl | (rw [lfA_len]) | (rw [lfL_len]) | (simp only [List.length_set, lfL_len])) _ rfl (by first | omega | (rw [lfA_len]; omega) | (rw [lfL_len]; omega) | (simp only [List.length_set, lfL_len]; omega))) rfl ?_)
      refine RV.s (Step.loadN _ Tryz.underlying41 rfl I41 rfl rfl (fun w h => (h.rs hr (fun _ => hI _)).cells (by omega))) rfl ?_
      refine RV.op (OV.alloc #[.int .i64 0, .int .i64 0] I41 rfl gno rfl (fun b7_4 => ?_))
      refine RV.op (OV.store 1 [_, _] #[_, _] I41 rfl rfl rfl rfl rfl (Nat.le_of_ble_eq_true rfl) (by simp [Value.oneCell']) rfl gno ?_)
      refine RV.nil (KV.then_n (KV.e5 0 1 7 8 9 (CV.seq (CV.seq (CV.region ?_)))))
      refine RV.s (Step.fieldAddr rfl (F41_1 _ _)) rfl (RV.s (Step.load Tryz.underlying2 rfl rfl (fun w h => h.cell 1 rfl rfl)) rfl ?_)
      refine RV.op (OV.split gno (Step.lss rfl rfl) rfl (fun cc6 => ?_) (fun cc6 => ?_))
      ·
       refine RV.m rfl rfl (RV.k rfl rfl (RV.k rfl rfl (RV.k rfl rfl (RV.s (Step.pick_t rfl rfl) rfl (RV.m rfl rfl (RV.k rfl rfl (RV.k rfl rfl ?_)))))))
       refine RV.k rfl rfl (RV.k rfl rfl (RV.k rfl rfl (RV.s (Step.pick_t rfl rfl) rfl ?_)))
       refine RV.nil (KV.then_n (KV.e6 0 1 7 8 9 56 (CV.cond_t rfl (CV.seq (CV.region ?_)))))
       refine RV.a rfl rfl ?_
       refine RV.nil (KV.then_n (KV.e1 6 (CV.ret (KV.then_ret (KV.block_ret ?_)))))
       refine KV.then_ret (KV.then_ret (KV.block_ret (KV.then_ret ?_)))
       refine KV.sel [] [] rfl ?_
       exact KV.ret1 rfl rfl _ (fun _ h => h) ⟨by rw [vldB_f (fun hv => by have hq := hv.toR.dom i (by omega); change 1 ≤ (D.getD i hdK.d).amb ∧ (D.getD i hdK.d).cap ≤ 16777216 ∧ (D.getD i hdK.d).amb ≤ (D.getD i hdK.d).cap at hq; omega)], rfl⟩
      ·
       refine RV.m rfl rfl (RV.gw rfl (Step.fieldAddr rfl (F41_0 _ _)) rfl (RV.gw rfl (Step.load Tryz.underlying2 rfl rfl (fun w h => h.cell 1 rfl rfl)) rfl ?_))
       refine RV.op (OV.split (gyes rfl) (Step.gtr rfl rfl) rfl (fun cc7 => ?_) (fun cc7 => ?_))
       ·
        refine RV.s (Step.pick_f rfl rfl) rfl (RV.m rfl rfl (RV.k rfl rfl (RV.k rfl rfl (RV.k rfl rfl (RV.k rfl rfl (RV.k rfl rfl (RV.s (Step.pick_t rfl rfl) rfl ?_)))))))
        refine RV.nil (KV.then_n (KV.e6 0 1 7 8 9 56 (CV.cond_t rfl (CV.seq (CV.region ?_)))))
        refine RV.a rfl rfl ?_
        refine RV.nil (KV.then_n (KV.e1 6 (CV.ret (KV.then_ret (KV.block_ret ?_)))))
        refine KV.then_ret (KV.then_ret (KV.block_ret (KV.then_ret ?_)))
        refine KV.sel [] [] rfl ?_
        exact KV.ret1 rfl rfl _ (fun _ h => h) ⟨by rw [vldB_f (fun hv => by have hq := hv.toR.dom i (by omega); change 1 ≤ (D.getD i hdK.d).amb ∧ (D.getD i hdK.d).cap ≤ 16777216 ∧ (D.getD i hdK.d).amb ≤ (D.getD i hdK.d).cap at hq; omega)], rfl⟩
       ·
        refine RV.s (Step.pick_f rfl rfl) rfl (RV.m rfl rfl (RV.gw rfl (Step.fieldAddr rfl (F41_0 _ _)) rfl (RV.gw rfl (Step.load Tryz.underlying2 rfl rfl (fun w h => h.cell 1 rfl rfl)) rfl (RV.gw rfl (Step.fieldAddr rfl (F41_1 _ _)) rfl (RV.gw rfl (Step.load Tryz.underlying2 rfl rfl (fun w h => h.cell 1 rfl rfl)) rfl ?_)))))
        refine RV.op (OV.split (gyes rfl) (Step.lss rfl rfl) rfl (fun cc8 => ?_) (fun cc8 => ?_))
        ·
         refine RV.s (Step.pick_f rfl rfl) rfl ?_
         refine RV.nil (KV.then_n (KV.e6 0 1 7 8 9 56 (CV.cond_t rfl (CV.seq (CV.region ?_)))))
         refine RV.a rfl rfl ?_
         refine RV.nil (KV.then_n (KV.e1 6 (CV.ret (KV.then_ret (KV.block_ret ?_)))))
         refine KV.then_ret (KV.then_ret (KV.block_ret (KV.then_ret ?_)))
         refine KV.sel [] [] rfl ?_
         exact KV.ret1 rfl rfl _ (fun _ h => h) ⟨by rw [vldB_f (fun hv => by have hq := hv.toR.dom i (by omega); change 1 ≤ (D.getD i hdK.d).amb ∧ (D.getD i hdK.d).cap ≤ 16777216 ∧ (D.getD i hdK.d).amb ≤ (D.getD i hdK.d).cap at hq; omega)], rfl⟩
        ·
         refine RV.s (Step.pick_f rfl rfl) rfl ?_
         refine RV.nil (KV.then_n (KV.e6 0 1 7 8 9 56 (CV.cond_f rfl (CV.skip (KV.then_n ?_)))))
         refine KV.e5 0 1 7 8 9 (CV.region ?_)
         refine RV.m rfl rfl (RV.m rfl rfl (RV.s (Step.fieldAddr rfl (F41_0 _ _)) rfl (RV.s (Step.load Tryz.underlying2 rfl rfl (fun w h => h.cell 1 rfl rfl)) rfl (RV.s (Step.fieldAddr rfl (F41_1 _ _)) rfl (RV.s (Step.load Tryz.underlying2 rfl rfl (fun w h => h.cell 1 rfl rfl)) rfl ?_)))))
         (first | refine RV.op (OV.step gno (Step.sub rfl rfl (wI64 (by omega) (by omega))) rfl ?_) | refine RV.op (OV.step gno (Step.sub rfl rfl rfl) rfl ?_))
         refine RV.op (OV.step gno (Step.idx Tryz.underlying56 I2 (fun w h => h.os 0 rfl) rfl rfl (by first | rfl | (rw [lfA_len]) | (rw [lfL_len]) | (simp only [List.length_set, lfL_len])) _ rfl (by first | omega | (rw [lfA_len]; omega) | (rw [lfL_len]; omega) | (simp only [List.length_set, lfL_len]; omega))) rfl ?_)
         refine RV.op (OV.storeE 0 (i) (((D.getD i hdK.d).cap - (D.getD i hdK.d).amb)) (j := 0) [_] I2 rfl rfl rfl rfl rfl rfl (by rw [lfA_len]; omega) rfl (Nat.le_of_ble_eq_true rfl) gno ?_)
         refine RV.nil (KV.block_n (KV.then_n (KV.e4 0 1 7 8 (CV.region ?_))))
         refine RV.m rfl rfl ?_
         (first | refine RV.op (OV.step gno (Step.add rfl rfl (wI64 (by omega) (by omega))) rfl ?_) | refine RV.op (OV.step gno (Step.add rfl rfl rfl) rfl ?_))
         refine RV.a rfl rfl ?_
         refine RV.nil (KV.then_n (KV.e4 0 1 7 8 ?_))
         refine KV.sel [0] [_] rfl ?_
         exact KV.loopI (z := i) (i + 1) ⟨by omega, fun k hk => by by_cases e : k = i; (subst e; change 1 ≤ (D.getD k hdK.d).amb ∧ (D.getD k hdK.d).cap ≤ 16777216 ∧ (D.getD k hdK.d).amb ≤ (D.getD k hdK.d).cap; omega); exact hinv.2 k (by omega)⟩ (by omega) ⟨rfl, rfl, rfl, rfl, trivial⟩ (fun _ h => by rw [← lfA_set (by omega)]; exact h)
     ·
      refine RV.nil (KV.then_n (KV.e5 0 1 7 8 35 (CV.cond_f rfl (CV.exit (KV.then_exit ?_)))))
      refine KV.then_exit (KV.block_hit (KV.then_n (KV.e3 0 1 7 (CV.seq (CV.seq ?_)))))
      obtain rfl : i = D.length := by omega
      refine CV.region ?_
      refine RV.a rfl rfl ?_
      refine RV.nil (KV.then_n (KV.e4 0 1 7 10 (CV.block ?_)))
      refine KV.sel [0] [_] rfl ?_
      refine CV.loopI (fun (j : Nat) => j ≤ M.length ∧ ∀ k, k < j → refLnk D M k) (fun (j : Nat) => M.length - j) (fun (j : Nat) => [(0, .slice A D.length c), (1, .slice B M.length d), (7, .slice b3_2 D.length D.length), (10, .int .i64 j)]) (fun (j : Nat) => Hp I w [OS 2 (intK .i64) b3_2 D.length (lfL D M j)]) (0) ⟨Nat.zero_le _, fun k hk => by omega⟩ ⟨rfl, rfl, rfl, rfl, trivial⟩ (fun _ h => by rw [← lfA_end]; exact h) ?_
      intro j hinv2
      refine CV.seq (CV.seq (CV.region ?_))
      refine RV.m rfl rfl (RV.m rfl rfl (RV.s (Step.lenSl Tryz.underlying23 rfl) rfl ?_))
      refine RV.op (OV.split gno (Step.lss rfl rfl) rfl (fun cc9 => ?_) (fun cc9 => ?_))
      ·
       refine RV.nil (KV.then_n (KV.e5 0 1 7 10 68 (CV.cond_t rfl (CV.skip (KV.then_n ?_)))))
       refine KV.e4 0 1 7 10 (CV.seq (CV.block (CV.seq (CV.region ?_))))
       refine RV.m rfl rfl (RV.m rfl rfl ?_)
       refine RV.op (OV.step gno (Step.idx Tryz.underlying23 I195 (fun w h => h.rs hr2 (fun _ => hI _)) rfl rfl (by first | rfl | (rw [lfA_len]) | (rw [lfL_len]) | (simp only [List.length_set, lfL_len])) _ rfl (by first | omega | (rw [lfA_len]; omega) | (rw [lfL_len]; omega) | (simp only [List.length_set, lfL_len]; omega))) rfl ?_)
       refine RV.s (Step.loadN _ Tryz.underlying195 rfl I195 rfl rfl (fun w h => (h.rs hr2 (fun _ => hI _)).cells (by omega))) rfl ?_
       refine RV.op (OV.alloc #[.int .i64 0, .int .i64 0, .int .i64 0] I195 rfl gno rfl (fun b14_4 => ?_))
       refine RV.op (OV.store 1 [_, _, _] #[_, _, _] I195 rfl rfl rfl rfl rfl (Nat.le_of_ble_eq_true rfl) (by simp [Value.oneCell']) rfl gno ?_)
       refine RV.nil (KV.then_n (KV.e5 0 1 7 10 11 (CV.seq (CV.seq ?_))))
       refine CV.still (by kernel_rfl) (by kernel_rfl) (fun _ h => h.drew) ?_
       refine SV.step gno (Step.fieldAddr rfl (F195_0 _ _)) rfl ?_
       refine SV.step gno (Step.load Tryz.underlying3 rfl rfl (fun w h => h.cell 1 rfl rfl)) rfl ?_
       refine SV.split gno (Step.lss rfl rfl) rfl (fun cc10 => ?_) (fun cc10 => ?_)
       ·
        refine SV.step gno (Step.move rfl) rfl ?_
        refine SV.skip rfl rfl ?_
        refine SV.skip rfl rfl ?_
        refine SV.skip rfl rfl ?_
        refine SV.skip rfl rfl ?_
        refine SV.skip rfl rfl ?_
        refine SV.step gno (Step.pick_t rfl rfl) rfl ?_
        refine SV.step gno (Step.move rfl) rfl ?_
        refine SV.skip rfl rfl ?_
        refine SV.skip rfl rfl ?_
        refine SV.skip rfl rfl ?_
        refine SV.step gno (Step.pick_t rfl rfl) rfl ?_
        refine SV.step gno (Step.move rfl) rfl ?_
        refine SV.skip rfl rfl ?_
        refine SV.skip rfl rfl ?_
        refine SV.skip rfl rfl ?_
        refine SV.skip rfl rfl ?_
        refine SV.skip rfl rfl ?_
        refine SV.step gno (Step.pick_t rfl rfl) rfl ?_
        refine SV.step gno (Step.move rfl) rfl ?_
        refine SV.skip rfl rfl ?_
        refine SV.skip rfl rfl ?_
        refine SV.skip rfl rfl ?_
        refine SV.skip rfl rfl ?_
        refine SV.skip rfl rfl ?_
        refine SV.step gno (Step.pick_t rfl rfl) rfl ?_
        refine SV.step gno (Step.move rfl) rfl ?_
        refine SV.skip rfl rfl ?_
        refine SV.skip rfl rfl ?_
        refine SV.skip rfl rfl ?_
        refine SV.step gno (Step.pick_t rfl rfl) rfl ?_
        refine SV.step gno (Step.move rfl) rfl ?_
        refine SV.skip rfl rfl ?_
        refine SV.skip rfl rfl ?_
        refine SV.skip rfl rfl ?_
        refine SV.skip rfl rfl ?_
        refine SV.skip rfl rfl ?_
        refine SV.skip rfl rfl ?_
        refine SV.skip rfl rfl ?_
        refine SV.skip rfl rfl ?_
        refine SV.step gno (Step.pick_t rfl rfl) rfl ?_
        refine SV.step gno (Step.move rfl) rfl ?_
        refine SV.skip rfl rfl ?_
        refine SV.skip rfl rfl ?_
        refine SV.skip rfl rfl ?_
        refine SV.skip rfl rfl ?_
        refine SV.skip rfl rfl ?_
        refine SV.skip rfl rfl ?_
        refine SV.skip rfl rfl ?_
        refine SV.skip rfl rfl ?_
        refine SV.step gno (Step.pick_t rfl rfl) rfl ?_
        refine SV.nil (KV.then_n (KV.e6 0 1 7 10 11 128 (CV.cond_t rfl (CV.seq (CV.region ?_)))))
        refine RV.a rfl rfl ?_
        refine RV.nil (KV.then_n (KV.e1 6 (CV.ret (KV.then_ret (KV.block_ret ?_)))))
        refine KV.then_ret (KV.then_ret (KV.block_ret (KV.then_ret ?_)))
        refine KV.sel [] [] rfl ?_
        exact KV.ret1 rfl rfl _ (fun _ h => h) ⟨by rw [vldB_f (fun hv => by have hq := hv.toR.lnk j (by omega); first | (have he := ref_ends hq; omega) | (have he := ref_left hq ha hb ha2 hb2; omega) | exact hq.2.2.2.2 k (by omega) (by unfold pairEq; first | exact .inl ⟨by assumption, by assumption⟩ | exact .inr ⟨by assumption, by assumption⟩))], rfl⟩
       ·
        refine SV.step gno (Step.move rfl) rfl ?_
        refine SV.step (gyes rfl) (Step.fieldAddr rfl (F195_0 _ _)) rfl ?_
        refine SV.step (gyes rfl) (Step.load Tryz.underlying3 rfl rfl (fun w h => h.cell 1 rfl rfl)) rfl ?_
        refine SV.step (gyes rfl) (Step.move rfl) rfl ?_
        refine SV.step (gyes rfl) (Step.lenSl Tryz.underlying104 rfl) rfl ?_
        refine SV.split (gyes rfl) (Step.geq rfl rfl) rfl (fun cc11 => ?_) (fun cc11 => ?_)
        ·
         refine SV.step gno (Step.pick_f rfl rfl) rfl ?_
         refine SV.step gno (Step.move rfl) rfl ?_
         refine SV.skip rfl rfl ?_
         refine SV.skip rfl rfl ?_
         refine SV.skip rfl rfl ?_
         refine SV.step gno (Step.pick_t rfl rfl) rfl ?_
         refine SV.step gno (Step.move rfl) rfl ?_
         refine SV.skip rfl rfl ?_
         refine SV.skip rfl rfl ?_
         refine SV.skip rfl rfl ?_
         refine SV.skip rfl rfl ?_
         refine SV.skip rfl rfl ?_
         refine SV.step gno (Step.pick_t rfl rfl) rfl ?_
         refine SV.step gno (Step.move rfl) rfl ?_
         refine SV.skip rfl rfl ?_
         refine SV.skip rfl rfl ?_
         refine SV.skip rfl rfl ?_
         refine SV.skip rfl rfl ?_
         refine SV.skip rfl rfl ?_
         refine SV.step gno (Step.pick_t rfl rfl) rfl ?_
         refine SV.step gno (Step.move rfl) rfl ?_
         refine SV.skip rfl rfl ?_
         refine SV.skip rfl rfl ?_
         refine SV.skip rfl rfl ?_
         refine SV.step gno (Step.pick_t rfl rfl) rfl ?_
         refine SV.step gno (Step.move rfl) rfl ?_
         refine SV.skip rfl rfl ?_
         refine SV.skip rfl rfl ?_
         refine SV.skip rfl rfl ?_
         refine SV.skip rfl rfl ?_
         refine SV.skip rfl rfl ?_
         refine SV.skip rfl rfl ?_
         refine SV.skip rfl rfl ?_
         refine SV.skip rfl rfl ?_
         refine SV.step gno (Step.pick_t rfl rfl) rfl ?_
         refine SV.step gno (Step.move rfl) rfl ?_
         refine SV.skip rfl rfl ?_
         refine SV.skip rfl rfl ?_
         refine SV.skip rfl rfl ?_
         refine SV.skip rfl rfl ?_
         refine SV.skip rfl rfl ?_
         refine SV.skip rfl rfl ?_
         refine SV.skip rfl rfl ?_
         refine SV.skip rfl rfl ?_
         refine SV.step gno (Step.pick_t rfl rfl) rfl ?_
         refine SV.nil (KV.then_n (KV.e6 0 1 7 10 11 128 (CV.cond_t rfl (CV.seq (CV.region ?_)))))
         refine RV.a rfl rfl ?_
         refine RV.nil (KV.then_n (KV.e1 6 (CV.ret (KV.then_ret (KV.block_ret ?_)))))
         refine KV.then_ret (KV.then_ret (KV.block_ret (KV.then_ret ?_)))
         refine KV.sel [] [] rfl ?_
         exact KV.ret1 rfl rfl _ (fun _ h => h) ⟨by rw [vldB_f (fun hv => by have hq := hv.toR.lnk j (by omega); first | (have he := ref_ends hq; omega) | (have he := ref_left hq ha hb ha2 hb2; omega) | exact hq.2.2.2.2 k (by omega) (by unfold pairEq; first | exact .inl ⟨by assumption, by assumption⟩ | exact .inr ⟨by assumption, by assumption⟩))], rfl⟩
        ·
         refine SV.step gno (Step.pick_f rfl rfl) rfl ?_
         refine SV.step gno (Step.move rfl) rfl ?_
         refine SV.step (gyes rfl) (Step.fieldAddr rfl (F195_1 _ _)) rfl ?_
         refine SV.step (gyes rfl) (Step.load Tryz.underlying3 rfl rfl (fun w h => h.cell 1 rfl rfl)) rfl ?_
         refine SV.split (gyes rfl) (Step.lss rfl rfl) rfl (fun cc12 => ?_) (fun cc12 => ?_)
         ·
          refine SV.step gno (Step.pick_f rfl rfl) rfl ?_
          refine SV.step gno (Step.move rfl) rfl ?_
          refine SV.skip rfl rfl ?_
          refine SV.skip rfl rfl ?_
          refine SV.skip rfl rfl ?_
          refine SV.skip rfl rfl ?_
          refine SV.skip rfl rfl ?_
          refine SV.step gno (Step.pick_t rfl rfl) rfl ?_
          refine SV.step gno (Step.move rfl) rfl ?_
          refine SV.skip rfl rfl ?_
          refine SV.skip rfl rfl ?_
          refine SV.skip rfl rfl ?_
          refine SV.skip rfl rfl ?_
          refine SV.skip rfl rfl ?_
          refine SV.step gno (Step.pick_t rfl rfl) rfl ?_
          refine SV.step gno (Step.move rfl) rfl ?_
          refine SV.skip rfl rfl ?_
          refine SV.skip rfl rfl ?_
          refine SV.skip rfl rfl ?_
          refine SV.step gno (Step.pick_t rfl rfl) rfl ?_
          refine SV.step gno (Step.move rfl) rfl ?_
          refine SV.skip rfl rfl ?_
          refine SV.skip rfl rfl ?_
          refine SV.skip rfl rfl ?_
          refine SV.skip rfl rfl ?_
          refine SV.skip rfl rfl ?_
          refine SV.skip rfl rfl ?_
          refine SV.skip rfl rfl ?_
          refine SV.skip rfl rfl ?_
          refine SV.step gno (Step.pick_t rfl rfl) rfl ?_
          refine SV.step gno (Step.move rfl) rfl ?_
          refine SV.skip rfl rfl ?_
          refine SV.skip rfl rfl ?_
          refine SV.skip rfl rfl ?_
          refine SV.skip rfl rfl ?_
          refine SV.skip rfl rfl ?_
          refine SV.skip rfl rfl ?_
          refine SV.skip rfl rfl ?_
          refine SV.skip rfl rfl ?_
          refine SV.step gno (Step.pick_t rfl rfl) rfl ?_
          refine SV.nil (KV.then_n (KV.e6 0 1 7 10 11 128 (CV.cond_t rfl (CV.seq (CV.region ?_)))))
          refine RV.a rfl rfl ?_
          refine RV.nil (KV.then_n (KV.e1 6 (CV.ret (KV.then_ret (KV.block_ret ?_)))))
          refine KV.then_ret (KV.then_ret (KV.block_ret (KV.then_ret ?_)))
          refine KV.sel [] [] rfl ?_
          exact KV.ret1 rfl rfl _ (fun _ h => h) ⟨by rw [vldB_f (fun hv => by have hq := hv.toR.lnk j (by omega); first | (have he := ref_ends hq; omega) | (have he := ref_left hq ha hb ha2 hb2; omega) | exact hq.2.2.2.2 k (by omega) (by unfold pairEq; first | exact .inl ⟨by assumption, by assumption⟩ | exact .inr ⟨by assumption, by assumption⟩))], rfl⟩
         ·
          refine SV.step gno (Step.pick_f rfl rfl) rfl ?_
          refine SV.step gno (Step.move rfl) rfl ?_
          refine SV.step (gyes rfl) (Step.fieldAddr rfl (F195_1 _ _)) rfl ?_
          refine SV.step (gyes rfl) (Step.load Tryz.underlying3 rfl rfl (fun w h => h.cell 1 rfl rfl)) rfl ?_
          refine SV.step (gyes rfl) (Step.move rfl) rfl ?_
          refine SV.step (gyes rfl) (Step.lenSl Tryz.underlying104 rfl) rfl ?_
          refine SV.split (gyes rfl) (Step.geq rfl rfl) rfl (fun cc13 => ?_) (fun cc13 => ?_)
          ·
           refine SV.step gno (Step.pick_f rfl rfl) rfl ?_
           refine SV.step gno (Step.move rfl) rfl ?_
           refine SV.skip rfl rfl ?_
           refine SV.skip rfl rfl ?_
           refine SV.skip rfl rfl ?_
           refine SV.skip rfl rfl ?_
           refine SV.skip rfl rfl ?_
           refine SV.step gno (Step.pick_t rfl rfl) rfl ?_
           refine SV.step gno (Step.move rfl) rfl ?_
           refine SV.skip rfl rfl ?_
           refine SV.skip rfl rfl ?_
           refine SV.skip rfl rfl ?_
           refine SV.step gno (Step.pick_t rfl rfl) rfl ?_
           refine SV.step gno (Step.move rfl) rfl ?_
           refine SV.skip rfl rfl ?_
           refine SV.skip rfl rfl ?_
           refine SV.skip rfl rfl ?_
           refine SV.skip rfl rfl ?_
           refine SV.skip rfl rfl ?_
           refine SV.skip rfl rfl ?_
           refine SV.skip rfl rfl ?_
           refine SV.skip rfl rfl ?_
           refine SV.step gno (Step.pick_t rfl rfl) rfl ?_
           refine SV.step gno (Step.move rfl) rfl ?_
           refine SV.skip rfl rfl ?_
           refine SV.skip rfl rfl ?_
           refine SV.skip rfl rfl ?_
           refine SV.skip rfl rfl ?_
           refine SV.skip rfl rfl ?_
           refine SV.skip rfl rfl ?_
           refine SV.skip rfl rfl ?_
           refine SV.skip rfl rfl ?_
           refine SV.step gno (Step.pick_t rfl rfl) rfl ?_
           refine SV.nil (KV.then_n (KV.e6 0 1 7 10 11 128 (CV.cond_t rfl (CV.seq (CV.region ?_)))))
           refine RV.a rfl rfl ?_
           refine RV.nil (KV.then_n (KV.e1 6 (CV.ret (KV.then_ret (KV.block_ret ?_)))))
           refine KV.then_ret (KV.then_ret (KV.block_ret (KV.then_ret ?_)))
           refine KV.sel [] [] rfl ?_
           exact KV.ret1 rfl rfl _ (fun _ h => h) ⟨by rw [vldB_f (fun hv => by have hq := hv.toR.lnk j (by omega); first | (have he := ref_ends hq; omega) | (have he := ref_left hq ha hb ha2 hb2; omega) | exact hq.2.2.2.2 k (by omega) (by unfold pairEq; first | exact .inl ⟨by assumption, by assumption⟩ | exact .inr ⟨by assumption, by assumption⟩))], rfl⟩
          ·
           refine SV.step gno (Step.pick_f rfl rfl) rfl ?_
           refine SV.step gno (Step.move rfl) rfl ?_
           refine SV.step (gyes rfl) (Step.fieldAddr rfl (F195_0 _ _)) rfl ?_
           refine SV.step (gyes rfl) (Step.load Tryz.underlying3 rfl rfl (fun w h => h.cell 1 rfl rfl)) rfl ?_
           refine SV.step (gyes rfl) (Step.fieldAddr rfl (F195_1 _ _)) rfl ?_
           refine SV.step (gyes rfl) (Step.load Tryz.underlying3 rfl rfl (fun w h => h.cell 1 rfl rfl)) rfl ?_
           refine SV.split (gyes rfl) (Step.eql rfl rfl) rfl (fun cc14 => ?_) (fun cc14 => ?_)
           ·
            refine SV.step gno (Step.pick_f rfl rfl) rfl ?_
            refine SV.step gno (Step.move rfl) rfl ?_
            refine SV.skip rfl rfl ?_
            refine SV.skip rfl rfl ?_
            refine SV.skip rfl rfl ?_
            refine SV.step gno (Step.pick_t rfl rfl) rfl ?_
            refine SV.step gno (Step.move rfl) rfl ?_
            refine SV.skip rfl rfl ?_
            refine SV.skip rfl rfl ?_
            refine SV.skip rfl rfl ?_
            refine SV.skip rfl rfl ?_
            refine SV.skip rfl rfl ?_
            refine SV.skip rfl rfl ?_
            refine SV.skip rfl rfl ?_
            refine SV.skip rfl rfl ?_
            refine SV.step gno (Step.pick_t rfl rfl) rfl ?_
            refine SV.step gno (Step.move rfl) rfl ?_
            refine SV.skip rfl rfl ?_
            refine SV.skip rfl rfl ?_
            refine SV.skip rfl rfl ?_
            refine SV.skip rfl rfl ?_
            refine SV.skip rfl rfl ?_
            refine SV.skip rfl rfl ?_
            refine SV.skip rfl rfl ?_
            refine SV.skip rfl rfl ?_
            refine SV.step gno (Step.pick_t rfl rfl) rfl ?_
            refine SV.nil (KV.then_n (KV.e6 0 1 7 10 11 128 (CV.cond_t rfl (CV.seq (CV.region ?_)))))
            refine RV.a rfl rfl ?_
            refine RV.nil (KV.then_n (KV.e1 6 (CV.ret (KV.then_ret (KV.block_ret ?_)))))
            refine KV.then_ret (KV.then_ret (KV.block_ret (KV.then_ret ?_)))
            refine KV.sel [] [] rfl ?_
            exact KV.ret1 rfl rfl _ (fun _ h => h) ⟨by rw [vldB_f (fun hv => by have hq := hv.toR.lnk j (by omega); first | (have he := ref_ends hq; omega) | (have he := ref_left hq ha hb ha2 hb2; omega) | exact hq.2.2.2.2 k (by omega) (by unfold pairEq; first | exact .inl ⟨by assumption, by assumption⟩ | exact .inr ⟨by assumption, by assumption⟩))], rfl⟩
           ·
            refine SV.step gno (Step.pick_f rfl rfl) rfl ?_
            refine SV.step gno (Step.move rfl) rfl ?_
            refine SV.step (gyes rfl) (Step.fieldAddr rfl (F195_2 _ _)) rfl ?_
            refine SV.step (gyes rfl) (Step.load Tryz.underlying2 rfl rfl (fun w h => h.cell 1 rfl rfl)) rfl ?_
            refine SV.split (gyes rfl) (Step.lss rfl rfl) rfl (fun cc15 => ?_) (fun cc15 => ?_)
            ·
             refine SV.step gno (Step.pick_f rfl rfl) rfl ?_
             refine SV.step gno (Step.move rfl) rfl ?_
             refine SV.skip rfl rfl ?_
             refine SV.skip rfl rfl ?_
             refine SV.skip rfl rfl ?_
             refine SV.skip rfl rfl ?_
             refine SV.skip rfl rfl ?_
             refine SV.skip rfl rfl ?_
             refine SV.skip rfl rfl ?_
             refine SV.skip rfl rfl ?_
             refine SV.step gno (Step.pick_t rfl rfl) rfl ?_
             refine SV.step gno (Step.move rfl) rfl ?_
             refine SV.skip rfl rfl ?_
             refine SV.skip rfl rfl ?_
             refine SV.skip rfl rfl ?_
             refine SV.skip rfl rfl ?_
             refine SV.skip rfl rfl ?_
             refine SV.skip rfl rfl ?_
             refine SV.skip rfl rfl ?_
             refine SV.skip rfl rfl ?_
             refine SV.step gno (Step.pick_t rfl rfl) rfl ?_
             refine SV.nil (KV.then_n (KV.e6 0 1 7 10 11 128 (CV.cond_t rfl (CV.seq (CV.region ?_)))))
             refine RV.a rfl rfl ?_
             refine RV.nil (KV.then_n (KV.e1 6 (CV.ret (KV.then_ret (KV.block_ret ?_)))))
             refine KV.then_ret (KV.then_ret (KV.block_ret (KV.then_ret ?_)))
             refine KV.sel [] [] rfl ?_
             exact KV.ret1 rfl rfl _ (fun _ h => h) ⟨by rw [vldB_f (fun hv => by have hq := hv.toR.lnk j (by omega); first | (have he := ref_ends hq; omega) | (have he := ref_left hq ha hb ha2 hb2; omega) | exact hq.2.2.2.2 k (by omega) (by unfold pairEq; first | exact .inl ⟨by assumption, by assumption⟩ | exact .inr ⟨by assumption, by assumption⟩))], rfl⟩
            ·
             refine SV.step gno (Step.pick_f rfl rfl) rfl ?_
             refine SV.step gno (Step.move rfl) rfl ?_
             refine SV.step (gyes rfl) (Step.fieldAddr rfl (F195_2 _ _)) rfl ?_
             refine SV.step (gyes rfl) (Step.load Tryz.underlying2 rfl rfl (fun w h => h.cell 1 rfl rfl)) rfl ?_
             have hxa : 0 ≤ (M.getD j hlK.d).a := by omega
             have hxb : 0 ≤ (M.getD j hlK.d).b := by omega
             obtain ⟨a, ha⟩ := Int.eq_ofNat_of_zero_le hxa
             obtain ⟨b, hb⟩ := Int.eq_ofNat_of_zero_le hxb
             have hne : a ≠ b := by omega
             have ha2 : a < D.length := by omega
             have hb2 : b < D.length := by omega
             refine SV.step (gyes rfl) (Step.move rfl) rfl ?_
             refine SV.step (gyes rfl) (Step.fieldAddr rfl (F195_0 _ _)) rfl ?_
             refine SV.step (gyes rfl) (Step.load Tryz.underlying3 rfl rfl (fun w h => h.cell 1 rfl rfl)) rfl ?_
             refine SV.step (gyes rfl) (Step.idx Tryz.underlying56 I2 (fun w h => h.os 0 rfl) rfl rfl (by first | rfl | (rw [lfA_len]) | (rw [lfL_len]) | (simp only [List.length_set, lfL_len])) _ ha (by first | omega | (rw [lfA_len]; omega) | (rw [lfL_len]; omega) | (simp only [List.length_set, lfL_len]; omega))) rfl ?_
             refine SV.step (gyes rfl) (Step.load Tryz.underlying2 rfl rfl (fun w h => (h.os 0 rfl).cell0 (by rw [lfL_len]; omega) rfl)) rfl ?_
             refine SV.split (gyes rfl) (Step.gtr rfl rfl) rfl (fun cc16 => ?_) (fun cc16 => ?_)
             ·
              refine SV.step gno (Step.pick_f rfl rfl) rfl ?_
              refine SV.step gno (Step.move rfl) rfl ?_
              refine SV.skip rfl rfl ?_
              refine SV.skip rfl rfl ?_
              refine SV.skip rfl rfl ?_
              refine SV.skip rfl rfl ?_
              refine SV.skip rfl rfl ?_
              refine SV.skip rfl rfl ?_
              refine SV.skip rfl rfl ?_
              refine SV.skip rfl rfl ?_
              refine SV.step gno (Step.pick_t rfl rfl) rfl ?_
              refine SV.nil (KV.then_n (KV.e6 0 1 7 10 11 128 (CV.cond_t rfl (CV.seq (CV.region ?_)))))
              refine RV.a rfl rfl ?_
              refine RV.nil (KV.then_n (KV.e1 6 (CV.ret (KV.then_ret (KV.block_ret ?_)))))
              refine KV.then_ret (KV.then_ret (KV.block_ret (KV.then_ret ?_)))
              refine KV.sel [] [] rfl ?_
              exact KV.ret1 rfl rfl _ (fun _ h => h) ⟨by rw [vldB_f (fun hv => by have hq := hv.toR.lnk j (by omega); first | (have he := ref_ends hq; omega) | (have he := ref_left hq ha hb ha2 hb2; omega) | exact hq.2.2.2.2 k (by omega) (by unfold pairEq; first | exact .inl ⟨by assumption, by assumption⟩ | exact .inr ⟨by assumption, by assumption⟩))], rfl⟩
             ·
              refine SV.step gno (Step.pick_f rfl rfl) rfl ?_
              refine SV.step gno (Step.move rfl) rfl ?_
              refine SV.step (gyes rfl) (Step.fieldAddr rfl (F195_2 _ _)) rfl ?_
              refine SV.step (gyes rfl) (Step.load Tryz.underlying2 rfl rfl (fun w h => h.cell 1 rfl rfl)) rfl ?_
              refine SV.step (gyes rfl) (Step.move rfl) rfl ?_
              refine SV.step (gyes rfl) (Step.fieldAddr rfl (F195_1 _ _)) rfl ?_
              refine SV.step (gyes rfl) (Step.load Tryz.underlying3 rfl rfl (fun w h => h.cell 1 rfl rfl)) rfl ?_
              refine SV.step (gyes rfl) (Step.idx Tryz.underlying56 I2 (fun w h => h.os 0 rfl) rfl rfl (by first | rfl | (rw [lfA_len]) | (rw [lfL_len]) | (simp only [List.length_set, lfL_len])) _ hb (by first | omega | (rw [lfA_len]; omega) | (rw [lfL_len]; omega) | (simp only [List.length_set, lfL_len]; omega))) rfl ?_
              refine SV.step (gyes rfl) (Step.load Tryz.underlying2 rfl rfl (fun w h => (h.os 0 rfl).cell0 (by rw [lfL_len]; omega) rfl)) rfl ?_
              refine SV.split (gyes rfl) (Step.gtr rfl rfl) rfl (fun cc17 => ?_) (fun cc17 => ?_)
              ·
               refine SV.step gno (Step.pick_f rfl rfl) rfl ?_
               refine SV.nil (KV.then_n (KV.e6 0 1 7 10 11 128 (CV.cond_t rfl (CV.seq (CV.region ?_)))))
               refine RV.a rfl rfl ?_
               refine RV.nil (KV.then_n (KV.e1 6 (CV.ret (KV.then_ret (KV.block_ret ?_)))))
               refine KV.then_ret (KV.then_ret (KV.block_ret (KV.then_ret ?_)))
               refine KV.sel [] [] rfl ?_
               exact KV.ret1 rfl rfl _ (fun _ h => h) ⟨by rw [vldB_f (fun hv => by have hq := hv.toR.lnk j (by omega); first | (have he := ref_ends hq; omega) | (have he := ref_left hq ha hb ha2 hb2; omega) | exact hq.2.2.2.2 k (by omega) (by unfold pairEq; first | exact .inl ⟨by assumption, by assumption⟩ | exact .inr ⟨by assumption, by assumption⟩))], rfl⟩
              ·
               refine SV.step gno (Step.pick_f rfl rfl) rfl ?_
               refine SV.nil (KV.then_n (KV.e6 0 1 7 10 11 128 (CV.cond_f rfl (CV.skip (KV.then_n ?_)))))
               refine KV.e5 0 1 7 10 11 (CV.seq ?_)
               have hbd := lf_bd (k := a) hinv.2 (by omega) hinv2.2 ha2
               refine CV.stillTail 11 (by kernel_rfl) (by kernel_rfl) (fun _ h => h.drew) ?_
               refine SV.step gno (Step.move rfl) rfl ?_
               refine SV.step gno (Step.fieldAddr rfl (F195_0 _ _)) rfl ?_
               refine SV.step gno (Step.load Tryz.underlying3 rfl rfl (fun w h => h.cell 1 rfl rfl)) rfl ?_
               refine SV.step gno (Step.move rfl) rfl ?_
               refine SV.step gno (Step.fieldAddr rfl (F195_0 _ _)) rfl ?_
               refine SV.step gno (Step.load Tryz.underlying3 rfl rfl (fun w h => h.cell 1 rfl rfl)) rfl ?_
               refine SV.step gno (Step.idx Tryz.underlying56 I2 (fun w h => h.os 0 rfl) rfl rfl (by first | rfl | (rw [lfA_len]) | (rw [lfL_len]) | (simp only [List.length_set, lfL_len])) _ ha (by first | omega | (rw [lfA_len]; omega) | (rw [lfL_len]; omega) | (simp only [List.length_set, lfL_len]; omega))) rfl ?_
               refine SV.step gno (Step.load Tryz.underlying2 rfl rfl (fun w h => (h.os 0 rfl).cell0 (by rw [lfL_len]; omega) rfl)) rfl ?_
               refine SV.step gno (Step.fieldAddr rfl (F195_2 _ _)) rfl ?_
               refine SV.step gno (Step.load Tryz.underlying2 rfl rfl (fun w h => h.cell 1 rfl rfl)) rfl ?_
               (first | refine SV.step gno (Step.sub rfl rfl (wI64 (by omega) (by omega))) rfl ?_ | refine SV.step gno (Step.sub rfl rfl rfl) rfl ?_)
               refine SV.nil ?_
               show KV _ (wpList _ _ _ _) _ _
               refine RV.op (OV.step gno (Step.idx Tryz.underlying56 I2 (fun w h => h.os 0 rfl) rfl rfl (by first | rfl | (rw [lfA_len]) | (rw [lfL_len]) | (simp only [List.length_set, lfL_len])) _ ha (by first | omega | (rw [lfA_len]; omega) | (rw [lfL_len]; omega) | (simp only [List.length_set, lfL_len]; omega))) rfl ?_)
               refine RV.op (OV.storeE 0 (a) (((lfL D M j).getD a (intK .i64).d - (M.getD j hlK.d).g)) (j := 0) [_] I2 rfl rfl rfl rfl rfl rfl (by rw [lfL_len]; omega) rfl (Nat.le_of_ble_eq_true rfl) gno ?_)
               refine RV.nil (KV.then_n (KV.e5 0 1 7 10 11 (CV.seq ?_)))
               have hbd2 := lf_bd (k := b) hinv.2 (by omega) hinv2.2 hb2
               have hlo := lf_other (D := D) (M := M) (j := j) ((lfL D M j).getD a (intK .i64).d - (M.getD j hlK.d).g) hne
               refine CV.stillTail 11 (by kernel_rfl) (by kernel_rfl) (fun _ h => h.drew) ?_
               refine SV.step gno (Step.move rfl) rfl ?_
               refine SV.step gno (Step.fieldAddr rfl (F195_1 _ _)) rfl ?_
               refine SV.step gno (Step.load Tryz.underlying3 rfl rfl (fun w h => h.cell 1 rfl rfl)) rfl ?_
               refine SV.step gno (Step.move rfl) rfl ?_
               refine SV.step gno (Step.fieldAddr rfl (F195_1 _ _)) rfl ?_
               refine SV.step gno (Step.load Tryz.underlying3 rfl rfl (fun w h => h.cell 1 rfl rfl)) rfl ?_
               refine SV.step gno (Step.idx Tryz.underlying56 I2 (fun w h => h.os 0 rfl) rfl rfl (by first | rfl | (rw [lfA_len]) | (rw [lfL_len]) | (simp only [List.length_set, lfL_len])) _ hb (by first | omega | (rw [lfA_len]; omega) | (rw [lfL_len]; omega) | (simp only [List.length_set, lfL_len]; omega))) rfl ?_
               refine SV.step gno (Step.load Tryz.underlying2 rfl rfl (fun w h => (h.os 0 rfl).cell0 (by simp only [List.length_set, lfL_len]; omega) rfl)) rfl ?_
               refine SV.step gno (Step.fieldAddr rfl (F195_2 _ _)) rfl ?_
               refine SV.step gno (Step.load Tryz.underlying2 rfl rfl (fun w h => h.cell 1 rfl rfl)) rfl ?_
               (first | refine SV.step gno (Step.sub rfl rfl (wI64 (by omega) (by omega))) rfl ?_ | refine SV.step gno (Step.sub rfl rfl rfl) rfl ?_)
               refine SV.nil ?_
               show KV _ (wpList _ _ _ _) _ _
               refine RV.op (OV.step gno (Step.idx Tryz.underlying56 I2 (fun w h => h.os 0 rfl) rfl rfl (by first | rfl | (rw [lfA_len]) | (rw [lfL_len]) | (simp only [List.length_set, lfL_len])) _ hb (by first | omega | (rw [lfA_len]; omega) | (rw [lfL_len]; omega) | (simp only [List.length_set, lfL_len]; omega))) rfl ?_)
               refine RV.op (OV.storeE 0 (b) ((((lfL D M j).set a ((lfL D M j).getD a (intK .i64).d - (M.getD j hlK.d).g)).getD b (intK .i64).d - (M.getD j hlK.d).g)) (j := 0) [_] I2 rfl rfl rfl rfl rfl rfl (by simp only [List.length_set, lfL_len]; omega) rfl (Nat.le_of_ble_eq_true rfl) gno ?_)
               refine RV.nil (KV.then_n (KV.e5 0 1 7 10 11 (CV.seq (CV.region ?_))))
               refine RV.a rfl rfl ?_
               refine RV.nil (KV.then_n (KV.e6 0 1 7 10 11 12 (CV.block ?_)))
               refine KV.sel [0, 0] [_, _] rfl ?_
               refine CV.loopI (fun (k : Nat) => k ≤ j ∧ ∀ x, x < k → ¬ pairEq (hlA M x) (hlA M j)) (fun (k : Nat) => j - k) (fun (k : Nat) => [(0, .slice A D.length c), (1, .slice B M.length d), (7, .slice b3_2 D.length D.length), (10, .int .i64 j), (11, .pointer (some ⟨b14_4, 0, none⟩)), (12, .int .i64 k)]) (fun (k : Nat) => Hp I w [OS 2 (intK .i64) b3_2 D.length (lfL D M (j + 1)), Blk b14_4 (.cells #[.int .i64 (M.getD j hlK.d).a, .int .i64 (M.getD j hlK.d).b, .int .i64 (M.getD j hlK.d).g] 195 (0, 0))]) (0) ⟨Nat.zero_le _, fun _ h => absurd h (Nat.not_lt_zero _)⟩ ⟨rfl, rfl, rfl, rfl, rfl, rfl, trivial⟩ (fun _ h => by rw [← lf_step (by omega) ha hb ha2 hb2 hne]; exact h) ?_
               intro k hinv3
               refine CV.seq (CV.seq (CV.region ?_))
               refine RV.m rfl rfl (RV.m rfl rfl ?_)
               refine RV.op (OV.split gno (Step.lss rfl rfl) rfl (fun cc18 => ?_) (fun cc18 => ?_))
               ·
                refine RV.nil (KV.then_n (KV.e7 0 1 7 10 11 12 155 (CV.cond_t rfl (CV.skip (KV.then_n ?_)))))
                refine KV.e6 0 1 7 10 11 12 (CV.seq (CV.block (CV.seq ?_)))
                refine CV.still (by kernel_rfl) (by kernel_rfl) (fun _ h => h.drew) ?_
                refine SV.step gno (Step.move rfl) rfl ?_
                refine SV.step gno (Step.move rfl) rfl ?_
                refine SV.step gno (Step.idx Tryz.underlying23 I195 (fun w h => h.rs hr2 (fun _ => hI _)) rfl rfl (by first | rfl | (rw [lfA_len]) | (rw [lfL_len]) | (simp only [List.length_set, lfL_len])) _ rfl (by first | omega | (rw [lfA_len]; omega) | (rw [lfL_len]; omega) | (simp only [List.length_set, lfL_len]; omega))) rfl ?_
                refine SV.step gno (Step.fieldAddr rfl (F195_0 _ _)) rfl ?_
                refine SV.step gno (Step.load Tryz.underlying3 rfl rfl (fun w h => (h.rs hr2 (fun _ => hI _)).cell0 (by omega) rfl)) rfl ?_
                refine SV.step gno (Step.fieldAddr rfl (F195_0 _ _)) rfl ?_
                refine SV.step gno (Step.load Tryz.underlying3 rfl rfl (fun w h => h.cell 1 rfl rfl)) rfl ?_
                refine SV.split gno (Step.eql rfl rfl) rfl (fun cc19 => ?_) (fun cc19 => ?_)
                ·
                 refine SV.step gno (Step.move rfl) rfl ?_
                 refine SV.step (gyes rfl) (Step.move rfl) rfl ?_
                 refine SV.step (gyes rfl) (Step.move rfl) rfl ?_
                 refine SV.step (gyes rfl) (Step.idx Tryz.underlying23 I195 (fun w h => h.rs hr2 (fun _ => hI _)) rfl rfl (by first | rfl | (rw [lfA_len]) | (rw [lfL_len]) | (simp only [List.length_set, lfL_len])) _ rfl (by first | omega | (rw [lfA_len]; omega) | (rw [lfL_len]; omega) | (simp only [List.length_set, lfL_len]; omega))) rfl ?_
                 refine SV.step (gyes rfl) (Step.fieldAddr rfl (F195_1 _ _)) rfl ?_
                 refine SV.step (gyes rfl) (Step.load Tryz.underlying3 rfl rfl (fun w h => (h.rs hr2 (fun _ => hI _)).cell (by omega) rfl)) rfl ?_
                 refine SV.step (gyes rfl) (Step.fieldAddr rfl (F195_1 _ _)) rfl ?_
                 refine SV.step (gyes rfl) (Step.load Tryz.underlying3 rfl rfl (fun w h => h.cell 1 rfl rfl)) rfl ?_
                 refine SV.split (gyes rfl) (Step.eql rfl rfl) rfl (fun cc20 => ?_) (fun cc20 => ?_)
                 ·
                  refine SV.step gno (Step.pick_t rfl rfl) rfl ?_
                  refine SV.step gno (Step.move rfl) rfl ?_
                  refine SV.skip rfl rfl ?_
                  refine SV.skip rfl rfl ?_
                  refine SV.skip rfl rfl ?_
                  refine SV.skip rfl rfl ?_
                  refine SV.skip rfl rfl ?_
                  refine SV.skip rfl rfl ?_
                  refine SV.skip rfl rfl ?_
                  refine SV.skip rfl rfl ?_
                  refine SV.skip rfl rfl ?_
                  refine SV.skipU rfl rfl ?_
                  refine SV.skipU rfl rfl ?_
                  refine SV.skipU rfl rfl ?_
                  refine SV.skipU rfl rfl ?_
                  refine SV.skipU rfl rfl ?_
                  refine SV.skipU rfl rfl ?_
                  refine SV.skipU rfl rfl ?_
                  refine SV.skipU rfl rfl ?_
                  refine SV.skip rfl rfl ?_
                  refine SV.step gno (Step.pick_t rfl rfl) rfl ?_
                  refine SV.nil (KV.then_n (KV.e7 0 1 7 10 11 12 195 (CV.cond_t rfl (CV.seq (CV.region ?_)))))
                  refine RV.a rfl rfl ?_
                  refine RV.nil (KV.then_n (KV.e1 6 (CV.ret (KV.block_ret (KV.then_ret ?_)))))
                  refine KV.then_ret (KV.block_ret (KV.block_ret (KV.then_ret (KV.then_ret (KV.block_ret ?_)))))
                  refine KV.then_ret ?_
                  refine KV.sel [] [] rfl ?_
                  exact KV.ret1 rfl rfl _ (fun _ h => h) ⟨by rw [vldB_f (fun hv => by have hq := hv.toR.lnk j (by omega); first | (have he := ref_ends hq; omega) | (have he := ref_left hq ha hb ha2 hb2; omega) | exact hq.2.2.2.2 k (by omega) (by unfold pairEq; first | exact .inl ⟨by assumption, by assumption⟩ | exact .inr ⟨by assumption, by assumption⟩))], rfl⟩
                 ·
                  refine SV.step gno (Step.pick_t rfl rfl) rfl ?_
                  refine SV.step gno (Step.move rfl) rfl ?_
                  refine SV.step (gyes rfl) (Step.move rfl) rfl ?_
                  refine SV.step (gyes rfl) (Step.move rfl) rfl ?_
                  refine SV.step (gyes rfl) (Step.idx Tryz.underlying23 I195 (fun w h => h.rs hr2 (fun _ => hI _)) rfl rfl (by first | rfl | (rw [lfA_len]) | (rw [lfL_len]) | (simp only [List.length_set, lfL_len])) _ rfl (by first | omega | (rw [lfA_len]; omega) | (rw [lfL_len]; omega) | (simp only [List.length_set, lfL_len]; omega))) rfl ?_
                  refine SV.step (gyes rfl) (Step.fieldAddr rfl (F195_0 _ _)) rfl ?_
                  refine SV.step (gyes rfl) (Step.load Tryz.underlying3 rfl rfl (fun w h => (h.rs hr2 (fun _ => hI _)).cell0 (by omega) rfl)) rfl ?_
                  refine SV.step (gyes rfl) (Step.fieldAddr rfl (F195_1 _ _)) rfl ?_
                  refine SV.step (gyes rfl) (Step.load Tryz.underlying3 rfl rfl (fun w h => h.cell 1 rfl rfl)) rfl ?_
                  refine SV.split (gyes rfl) (Step.eql rfl rfl) rfl (fun cc21 => ?_) (fun cc21 => ?_)
                  ·
                   refine SV.step (gyes rfl) (Step.move rfl) rfl ?_
                   refine SV.step (gyes rfl) (Step.move rfl) rfl ?_
                   refine SV.step (gyes rfl) (Step.move rfl) rfl ?_
                   refine SV.step (gyes rfl) (Step.idx Tryz.underlying23 I195 (fun w h => h.rs hr2 (fun _ => hI _)) rfl rfl (by first | rfl | (rw [lfA_len]) | (rw [lfL_len]) | (simp only [List.length_set, lfL_len])) _ rfl (by first | omega | (rw [lfA_len]; omega) | (rw [lfL_len]; omega) | (simp only [List.length_set, lfL_len]; omega))) rfl ?_
                   refine SV.step (gyes rfl) (Step.fieldAddr rfl (F195_1 _ _)) rfl ?_
                   refine SV.step (gyes rfl) (Step.load Tryz.underlying3 rfl rfl (fun w h => (h.rs hr2 (fun _ => hI _)).cell (by omega) rfl)) rfl ?_
                   refine SV.step (gyes rfl) (Step.fieldAddr rfl (F195_0 _ _)) rfl ?_
                   refine SV.step (gyes rfl) (Step.load Tryz.underlying3 rfl rfl (fun w h => h.cell 1 rfl rfl)) rfl ?_
                   refine SV.split (gyes rfl) (Step.eql rfl rfl) rfl (fun cc22 => ?_) (fun cc22 => ?_)
                   ·
                    refine SV.step (gyes rfl) (Step.pick_t rfl rfl) rfl ?_
                    refine SV.step gno (Step.pick_f rfl rfl) rfl ?_
                    refine SV.nil (KV.then_n (KV.e7 0 1 7 10 11 12 195 (CV.cond_t rfl (CV.seq (CV.region ?_)))))
                    refine RV.a rfl rfl ?_
                    refine RV.nil (KV.then_n (KV.e1 6 (CV.ret (KV.block_ret (KV.then_ret ?_)))))
                    refine KV.then_ret (KV.block_ret (KV.block_ret (KV.then_ret (KV.then_ret (KV.block_ret ?_)))))
                    refine KV.then_ret ?_
                    refine KV.sel [] [] rfl ?_
                    exact KV.ret1 rfl rfl _ (fun _ h => h) ⟨by rw [vldB_f (fun hv => by have hq := hv.toR.lnk j (by omega); first | (have he := ref_ends hq; omega) | (have he := ref_left hq ha hb ha2 hb2; omega) | exact hq.2.2.2.2 k (by omega) (by unfold pairEq; first | exact .inl ⟨by assumption, by assumption⟩ | exact .inr ⟨by assumption, by assumption⟩))], rfl⟩
                   ·
                    refine SV.step (gyes rfl) (Step.pick_t rfl rfl) rfl ?_
                    refine SV.step gno (Step.pick_f rfl rfl) rfl ?_
                    refine SV.nil (KV.then_n (KV.e7 0 1 7 10 11 12 195 (CV.cond_f rfl (CV.skip (KV.block_n ?_)))))
                    refine KV.then_n (KV.e6 0 1 7 10 11 12 (CV.region ?_))
                    refine RV.m rfl rfl ?_
                    (first | refine RV.op (OV.step gno (Step.add rfl rfl (wI64 (by omega) (by omega))) rfl ?_) | refine RV.op (OV.step gno (Step.add rfl rfl rfl) rfl ?_))
                    refine RV.a rfl rfl ?_
                    refine RV.nil (KV.then_n (KV.e6 0 1 7 10 11 12 ?_))
                    refine KV.sel [0, 0] [_, _] rfl ?_
                    exact KV.loopI (z := k) (k + 1) ⟨by omega, fun x hx => by by_cases e : x = k; (subst e; show ¬ pairEq (M.getD x hlK.d) (M.getD j hlK.d); unfold pairEq; omega); exact hinv3.2 x (by omega)⟩ (by omega) ⟨rfl, rfl, rfl, rfl, rfl, rfl, trivial⟩ (fun _ h => h)
                  ·
                   refine SV.step (gyes rfl) (Step.move rfl) rfl ?_
                   refine SV.skip rfl rfl ?_
                   refine SV.skip rfl rfl ?_
                   refine SV.skip rfl rfl ?_
                   refine SV.skip rfl rfl ?_
                   refine SV.skip rfl rfl ?_
                   refine SV.skip rfl rfl ?_
                   refine SV.skip rfl rfl ?_
                   refine SV.skip rfl rfl ?_
                   refine SV.step (gyes rfl) (Step.pick_f rfl rfl) rfl ?_
                   refine SV.step gno (Step.pick_f rfl rfl) rfl ?_
                   refine SV.nil (KV.then_n (KV.e7 0 1 7 10 11 12 195 (CV.cond_f rfl (CV.skip (KV.block_n ?_)))))
                   refine KV.then_n (KV.e6 0 1 7 10 11 12 (CV.region ?_))
                   refine RV.m rfl rfl ?_
                   (first | refine RV.op (OV.step gno (Step.add rfl rfl (wI64 (by omega) (by omega))) rfl ?_) | refine RV.op (OV.step gno (Step.add rfl rfl rfl) rfl ?_))
                   refine RV.a rfl rfl ?_
                   refine RV.nil (KV.then_n (KV.e6 0 1 7 10 11 12 ?_))
                   refine KV.sel [0, 0] [_, _] rfl ?_
                   exact KV.loopI (z := k) (k + 1) ⟨by omega, fun x hx => by by_cases e : x = k; (subst e; show ¬ pairEq (M.getD x hlK.d) (M.getD j hlK.d); unfold pairEq; omega); exact hinv3.2 x (by omega)⟩ (by omega) ⟨rfl, rfl, rfl, rfl, rfl, rfl, trivial⟩ (fun _ h => h)
                ·
                 refine SV.step gno (Step.move rfl) rfl ?_
                 refine SV.skip rfl rfl ?_
                 refine SV.skip rfl rfl ?_
                 refine SV.skip rfl rfl ?_
                 refine SV.skip rfl rfl ?_
                 refine SV.skip rfl rfl ?_
                 refine SV.skip rfl rfl ?_
                 refine SV.skip rfl rfl ?_
                 refine SV.skip rfl rfl ?_
                 refine SV.step gno (Step.pick_f rfl rfl) rfl ?_
                 refine SV.step gno (Step.move rfl) rfl ?_
                 refine SV.step (gyes rfl) (Step.move rfl) rfl ?_
                 refine SV.step (gyes rfl) (Step.move rfl) rfl ?_
                 refine SV.step (gyes rfl) (Step.idx Tryz.underlying23 I195 (fun w h => h.rs hr2 (fun _ => hI _)) rfl rfl (by first | rfl | (rw [lfA_len]) | (rw [lfL_len]) | (simp only [List.length_set, lfL_len])) _ rfl (by first | omega | (rw [lfA_len]; omega) | (rw [lfL_len]; omega) | (simp only [List.length_set, lfL_len]; omega))) rfl ?_
                 refine SV.step (gyes rfl) (Step.fieldAddr rfl (F195_0 _ _)) rfl ?_
                 refine SV.step (gyes rfl) (Step.load Tryz.underlying3 rfl rfl (fun w h => (h.rs hr2 (fun _ => hI _)).cell0 (by omega) rfl)) rfl ?_
                 refine SV.step (gyes rfl) (Step.fieldAddr rfl (F195_1 _ _)) rfl ?_
                 refine SV.step (gyes rfl) (Step.load Tryz.underlying3 rfl rfl (fun w h => h.cell 1 rfl rfl)) rfl ?_
                 refine SV.split (gyes rfl) (Step.eql rfl rfl) rfl (fun cc23 => ?_) (fun cc23 => ?_)
                 ·
                  refine SV.step (gyes rfl) (Step.move rfl) rfl ?_
                  refine SV.step (gyes rfl) (Step.move rfl) rfl ?_
                  refine SV.step (gyes rfl) (Step.move rfl) rfl ?_
                  refine SV.step (gyes rfl) (Step.idx Tryz.underlying23 I195 (fun w h => h.rs hr2 (fun _ => hI _)) rfl rfl (by first | rfl | (rw [lfA_len]) | (rw [lfL_len]) | (simp only [List.length_set, lfL_len])) _ rfl (by first | omega | (rw [lfA_len]; omega) | (rw [lfL_len]; omega) | (simp only [List.length_set, lfL_len]; omega))) rfl ?_
                  refine SV.step (gyes rfl) (Step.fieldAddr rfl (F195_1 _ _)) rfl ?_
                  refine SV.step (gyes rfl) (Step.load Tryz.underlying3 rfl rfl (fun w h => (h.rs hr2 (fun _ => hI _)).cell (by omega) rfl)) rfl ?_
                  refine SV.step (gyes rfl) (Step.fieldAddr rfl (F195_0 _ _)) rfl ?_
                  refine SV.step (gyes rfl) (Step.load Tryz.underlying3 rfl rfl (fun w h => h.cell 1 rfl rfl)) rfl ?_
                  refine SV.split (gyes rfl) (Step.eql rfl rfl) rfl (fun cc24 => ?_) (fun cc24 => ?_)
                  ·
                   refine SV.step (gyes rfl) (Step.pick_t rfl rfl) rfl ?_
                   refine SV.step gno (Step.pick_f rfl rfl) rfl ?_
                   refine SV.nil (KV.then_n (KV.e7 0 1 7 10 11 12 195 (CV.cond_t rfl (CV.seq (CV.region ?_)))))
                   refine RV.a rfl rfl ?_
                   refine RV.nil (KV.then_n (KV.e1 6 (CV.ret (KV.block_ret (KV.then_ret ?_)))))
                   refine KV.then_ret (KV.block_ret (KV.block_ret (KV.then_ret (KV.then_ret (KV.block_ret ?_)))))
                   refine KV.then_ret ?_
                   refine KV.sel [] [] rfl ?_
                   exact KV.ret1 rfl rfl _ (fun _ h => h) ⟨by rw [vldB_f (fun hv => by have hq := hv.toR.lnk j (by omega); first | (have he := ref_ends hq; omega) | (have he := ref_left hq ha hb ha2 hb2; omega) | exact hq.2.2.2.2 k (by omega) (by unfold pairEq; first | exact .inl ⟨by assumption, by assumption⟩ | exact .inr ⟨by assumption, by assumption⟩))], rfl⟩
                  ·
                   refine SV.step (gyes rfl) (Step.pick_t rfl rfl) rfl ?_
                   refine SV.step gno (Step.pick_f rfl rfl) rfl ?_
                   refine SV.nil (KV.then_n (KV.e7 0 1 7 10 11 12 195 (CV.cond_f rfl (CV.skip (KV.block_n ?_)))))
                   refine KV.then_n (KV.e6 0 1 7 10 11 12 (CV.region ?_))
                   refine RV.m rfl rfl ?_
                   (first | refine RV.op (OV.step gno (Step.add rfl rfl (wI64 (by omega) (by omega))) rfl ?_) | refine RV.op (OV.step gno (Step.add rfl rfl rfl) rfl ?_))
                   refine RV.a rfl rfl ?_
                   refine RV.nil (KV.then_n (KV.e6 0 1 7 10 11 12 ?_))
                   refine KV.sel [0, 0] [_, _] rfl ?_
                   exact KV.loopI (z := k) (k + 1) ⟨by omega, fun x hx => by by_cases e : x = k; (subst e; show ¬ pairEq (M.getD x hlK.d) (M.getD j hlK.d); unfold pairEq; omega); exact hinv3.2 x (by omega)⟩ (by omega) ⟨rfl, rfl, rfl, rfl, rfl, rfl, trivial⟩ (fun _ h => h)
                 ·
                  refine SV.step (gyes rfl) (Step.move rfl) rfl ?_
                  refine SV.skip rfl rfl ?_
                  refine SV.skip rfl rfl ?_
                  refine SV.skip rfl rfl ?_
                  refine SV.skip rfl rfl ?_
                  refine SV.skip rfl rfl ?_
                  refine SV.skip rfl rfl ?_
                  refine SV.skip rfl rfl ?_
                  refine SV.skip rfl rfl ?_
                  refine SV.step (gyes rfl) (Step.pick_f rfl rfl) rfl ?_
                  refine SV.step gno (Step.pick_f rfl rfl) rfl ?_
                  refine SV.nil (KV.then_n (KV.e7 0 1 7 10 11 12 195 (CV.cond_f rfl (CV.skip (KV.block_n ?_)))))
                  refine KV.then_n (KV.e6 0 1 7 10 11 12 (CV.region ?_))
                  refine RV.m rfl rfl ?_
                  (first | refine RV.op (OV.step gno (Step.add rfl rfl (wI64 (by omega) (by omega))) rfl ?_) | refine RV.op (OV.step gno (Step.add rfl rfl rfl) rfl ?_))
                  refine RV.a rfl rfl ?_
                  refine RV.nil (KV.then_n (KV.e6 0 1 7 10 11 12 ?_))
                  refine KV.sel [0, 0] [_, _] rfl ?_
                  exact KV.loopI (z := k) (k + 1) ⟨by omega, fun x hx => by by_cases e : x = k; (subst e; show ¬ pairEq (M.getD x hlK.d) (M.getD j hlK.d); unfold pairEq; omega); exact hinv3.2 x (by omega)⟩ (by omega) ⟨rfl, rfl, rfl, rfl, rfl, rfl, trivial⟩ (fun _ h => h)
               ·
                refine RV.nil (KV.then_n (KV.e7 0 1 7 10 11 12 155 (CV.cond_f rfl (CV.exit (KV.then_exit ?_)))))
                refine KV.then_exit (KV.block_hit (KV.block_n (KV.then_n (KV.e4 0 1 7 10 (CV.region ?_)))))
                refine RV.m rfl rfl ?_
                (first | refine RV.op (OV.step gno (Step.add rfl rfl (wI64 (by omega) (by omega))) rfl ?_) | refine RV.op (OV.step gno (Step.add rfl rfl rfl) rfl ?_))
                refine RV.a rfl rfl ?_
                refine RV.nil (KV.then_n (KV.e4 0 1 7 10 ?_))
                refine KV.sel [0] [_] rfl ?_
                exact KV.loopI (z := j) (j + 1) ⟨by omega, fun q hq => by by_cases e : q = j; (subst e; exact ref_of ha hb ha2 hb2 hne (by omega) (by omega) (by omega) (fun x hx => hinv3.2 x (by omega))); exact hinv2.2 q (by omega)⟩ (by omega) ⟨rfl, rfl, rfl, rfl, trivial⟩ (fun _ h => h)
      ·
       refine RV.nil (KV.then_n (KV.e5 0 1 7 10 68 (CV.cond_f rfl (CV.exit (KV.then_exit ?_)))))
       refine KV.then_exit (KV.block_hit (KV.then_n (KV.env [] trivial (CV.seq ?_))))
       obtain rfl : j = M.length := by omega
       refine CV.region ?_
       refine RV.a rfl rfl ?_
       refine RV.nil (KV.then_n (KV.e1 6 (CV.ret ?_)))
       refine KV.sel [] [] rfl ?_
       exact KV.ret1 rfl rfl _ (fun _ h => h) ⟨by rw [vldB_t (VldR.toV ⟨by omega, by omega, by omega, by omega, hinv.2, hinv2.2⟩)], rfl⟩

set_option maxRecDepth 100000 in
set_option maxHeartbeats 1000000 in
theorem heatNewR_fn {A : Option Addr} {n c : Nat} {D : List HD} {w : World} (hr : RS w hdK A D) (hn : n = D.length) (hl : D.length ≤ 1000000) {B : Option Addr} {m d : Nat} {M : List HL} (hr2 : RS w hlK B M) (hm : m = M.length) (hl2 : M.length ≤ 1000000) (base : Int) : Fx Tryz.prog 43 [.slice A n c, .slice B m d, .int .i64 base] w [] no (fun v L => ((Vld D M base → ∃ b, v = .tuple #[.pointer (some ⟨b, 0, none⟩), .int .i64 0]) ∧ (¬ Vld D M base → v = .tuple #[.pointer none, .int .i64 1])) ∧ L = []) := by
 subst hn
 subst hm
 refine Sv.Fx.body Tryz.func43 rfl T43 rfl ?_
 intro I hro hI
 refine KV.e3 0 1 2 (CV.seq (CV.region ?_))
 refine RV.a rfl rfl (RV.a rfl rfl ?_)
 refine RV.nil (KV.then_n (KV.e3 0 1 2 (CV.seq (CV.seq (CV.region ?_)))))
 refine RV.m rfl rfl (RV.m rfl rfl (RV.m rfl rfl ?_))
 refine RV.op (OV.call [] (F := []) Tryz.func82 B82 N82 rfl rfl (fun w h => validR_fn (h.rs hr (fun _ => hI _)) rfl hl (h.rs hr2 (fun _ => hI _)) rfl hl2 base) (fun _ hb => hb.elim) gno rfl (fun v L' hp => ?_))
 obtain ⟨rfl, rfl⟩ := hp
 simp only [List.append_nil]
 refine RV.s (Step.not rfl) rfl ?_
 refine RV.nil (KV.then_n (KV.e4 0 1 2 14 ?_))
 refine KV.cases 14 rfl (fun cc1 => ?_) (fun cc1 => ?_)
 ·
  have hv := vldB_nt cc1
  refine CV.cond_t rfl (CV.seq (CV.region ?_))
  refine RV.a rfl rfl (RV.a rfl rfl ?_)
  refine RV.nil (KV.then_n (KV.e2 6 7 (CV.ret (KV.then_ret ?_))))
  refine KV.sel [] [] rfl ?_
  exact KV.ret2 rfl rfl rfl _ (fun _ h => h) ⟨⟨fun k => absurd k hv, fun _ => rfl⟩, rfl⟩
 ·
  have hv := vldB_nf cc1
  have hn2 := hv.n2
  refine CV.cond_f rfl (CV.skip (KV.then_n (KV.e3 0 1 2 (CV.seq (CV.region ?_)))))
  refine RV.m rfl rfl (RV.m rfl rfl (RV.m rfl rfl (RV.s (Step.build rfl (Bd206_0_1_2 _ _ _ _ _ _ _)) rfl ?_)))
  refine RV.op (OV.box (t := 206) #[_, _, _, _, _] rfl rfl gno rfl (fun b3_4 => ?_))
  refine RV.a rfl rfl ?_
  refine RV.nil (KV.then_n (KV.e3 0 2 8 (CV.seq (CV.seq ?_))))
  refine KV.heap (fun w h => h.nilOS (e := 2) (K := intK .i64)) ?_
  refine CV.region ?_
  refine RV.a rfl rfl ?_
  refine RV.nil (KV.then_n (KV.e4 0 2 8 9 (CV.block ?_)))
  refine KV.sel [0, 0] [_, _] rfl ?_
  refine CV.loop2 (fun (i : Nat) (z : HRg) => i ≤ D.length ∧ z.l.length = i) (fun (i : Nat) (z : HRg) => D.length - i) (fun (i : Nat) (z : HRg) => [(0, .slice A D.length c), (2, .int .i64 base), (8, .pointer (some ⟨b3_4, 0, none⟩)), (9, .int .i64 i)]) (fun (i : Nat) (z : HRg) => Hp I w [Blk b3_4 (.cells #[.slice A D.length c, .slice B M.length d, .int .i64 base, .slice z.A z.l.length z.c, .int .i64 0] 206 (0, 0)), OS 2 (intK .i64) z.A z.c z.l]) (0) (⟨[], none, 0⟩) ⟨Nat.zero_le _, rfl⟩ ⟨rfl, rfl, rfl, rfl, trivial⟩ (fun _ h => h) ?_
  intro i z hinv
  refine CV.seq (CV.seq (CV.region ?_))
  refine RV.m rfl rfl (RV.m rfl rfl (RV.s (Step.lenSl Tryz.underlying104 rfl) rfl ?_))
  refine RV.op (OV.split gno (Step.lss rfl rfl) rfl (fun cc2 => ?_) (fun cc2 => ?_))
  ·
   refine RV.nil (KV.then_n (KV.e5 0 2 8 9 23 (CV.cond_t rfl (CV.skip (KV.then_n ?_)))))
   refine KV.e4 0 2 8 9 (CV.seq (CV.block ?_))
   refine CV.any (Hp I w []) (by kernel_rfl) (fun _ h => h.drew) 17 rfl ?_
   refine AV.u 0 (bl 17 1) rfl gno (Step.move rfl) rfl (fun _ h => h.sel [] rfl) ?_
   refine AV.u 1 (bl 17 3) rfl gno (Step.move rfl) rfl (fun _ h => h.sel [] rfl) ?_
   refine AV.u 2 (bl 17 7) rfl gno (Step.nilCheck rfl) rfl (fun _ h => h.sel [] rfl) ?_
   refine AV.u 3 (bl 17 15) rfl gno (Step.fieldAddr rfl (F206_3 _ _)) rfl (fun _ h => h.sel [] rfl) ?_
   refine AV.u 5 (bl 17 47) rfl gno (Step.move rfl) rfl (fun _ h => h.sel [] rfl) ?_
   refine AV.u 6 (bl 17 111) rfl gno (Step.move rfl) rfl (fun _ h => h.sel [] rfl) ?_
   refine AV.u 7 (bl 17 239) rfl gno (Step.idx Tryz.underlying104 I41 (fun w h => h.rs hr (fun _ => hI _)) rfl rfl (rfl) _ rfl (by omega)) rfl (fun _ h => h.sel [] rfl) ?_
   refine AV.u 8 (bl 17 495) rfl gno (Step.fieldAddr rfl (F41_0 _ _)) rfl (fun _ h => h.sel [] rfl) ?_
   refine AV.u 9 (bl 17 1007) rfl gno (Step.load Tryz.underlying2 rfl rfl (fun w h => (h.rs hr (fun _ => hI _)).cell0 (by omega) rfl)) rfl (fun _ h => h.sel [] rfl) ?_
   refine AV.u 10 (bl 17 2031) rfl gno (Step.move rfl) rfl (fun _ h => h.sel [] rfl) ?_
   (first | refine AV.take 11 (bl 17 4079) rfl (by kernel_rfl) (by kernel_rfl) (by kernel_rfl) (fun _ _ _ h => h) gno (Step.mul rfl rfl (wI64 (by omega) (by omega))) rfl (fun _ h => h.sel [] rfl) (by kernel_rfl) ?_ | refine AV.take 11 (bl 17 4079) rfl (by kernel_rfl) (by kernel_rfl) (by kernel_rfl) (fun _ _ _ h => h) gno (Step.mul rfl rfl rfl) rfl (fun _ h => h.sel [] rfl) (by kernel_rfl) ?_)
   refine AV.all [4, 12] (by kernel_rfl) (by decide) ?_
   refine ⟨⟨_, rfl, ?_⟩, ⟨⟨_, rfl, ?_⟩, trivial⟩⟩
   ·
    refine OV.step gno (Step.load Tryz.underlying56 rfl rfl (fun w h => h.cell 0 rfl rfl)) rfl ?_
    refine AV.next (bl 17 4095) (by kernel_rfl) (fun _ h => h.sel [] rfl) ?_
    refine AV.all [12] (by kernel_rfl) (by decide) ?_
    refine ⟨⟨_, rfl, ?_⟩, trivial⟩
    ·
     refine OV.buildSlice (K := (intK .i64)) ([_]) rfl (Bs56_1_0 _) rfl rfl (by omega) gno rfl (fun b7_12 => ?_)
     refine AV.next (bl 17 8191) (by kernel_rfl) (fun _ h => h.sel [] rfl) ?_
     refine AV.all [13] (by kernel_rfl) (by decide) ?_
     refine ⟨⟨_, rfl, ?_⟩, trivial⟩
     ·
      refine OV.append 1 Tryz.underlying56 I2 rfl rfl rfl rfl rfl rfl (fun w h => h.os 2 rfl) (by have := hinv.2; simp only [List.length_cons, List.length_nil]; omega) (by have := hinv.2; simp only [List.length_cons, List.length_nil]; omega) gno rfl (fun E2 c2 => ?_)
      refine AV.next (bl 17 16383) (by kernel_rfl) (fun _ h => h.sel [] rfl) ?_
      refine AV.u 14 (bl 17 32767) rfl gno (Step.nilCheck rfl) rfl (fun _ h => h.sel [] rfl) ?_
      refine AV.u 15 (bl 17 65535) rfl gno (Step.fieldAddr rfl (F206_3 _ _)) rfl (fun _ h => h.sel [] rfl) ?_
      refine AV.all [16] (by kernel_rfl) (by decide) ?_
      refine ⟨⟨_, rfl, ?_⟩, trivial⟩
      ·
       refine OV.store 0 [_] #[_, _, _, _, _] I56 rfl rfl rfl rfl rfl (Nat.le_of_ble_eq_true rfl) (by simp [Value.oneCell']) rfl gno ?_
       refine AV.next (bl 17 131071) (by kernel_rfl) (fun _ h => h.sel [] rfl) ?_
       refine AV.done (by kernel_rfl) ?_
       refine KV.block_n (KV.then_n (KV.e4 0 2 8 9 (CV.region ?_)))
       refine RV.m rfl rfl ?_
       (first | refine RV.op (OV.step gno (Step.add rfl rfl (wI64 (by omega) (by omega))) rfl ?_) | refine RV.op (OV.step gno (Step.add rfl rfl rfl) rfl ?_))
       refine RV.a rfl rfl ?_
       refine RV.nil (KV.then_n (KV.e4 0 2 8 9 ?_))
       refine KV.sel [0, 0] [_, _] rfl ?_
       exact KV.loop2 (x := i) (y := z) (i + 1) (⟨z.l ++ [_], E2, c2⟩) ⟨by omega, by rw [List.length_append, hinv.2]; rfl⟩ (by omega) ⟨rfl, rfl, rfl, rfl, trivial⟩ (fun _ h => h)
   ·
    refine OV.buildSlice (K := (intK .i64)) ([_]) rfl (Bs56_1_0 _) rfl rfl (by omega) gno rfl (fun b7_12 => ?_)
    refine AV.next (bl 17 8175) (by kernel_rfl) (fun _ h => h.sel [] rfl) ?_
    refine AV.all [4] (by kernel_rfl) (by decide) ?_
    refine ⟨⟨_, rfl, ?_⟩, trivial⟩
    ·
     refine OV.step gno (Step.load Tryz.underlying56 rfl rfl (fun w h => h.cell 0 rfl rfl)) rfl ?_
     refine AV.next (bl 17 8191) (by kernel_rfl) (fun _ h => h.sel [] rfl) ?_
     refine AV.all [13] (by kernel_rfl) (by decide) ?_
     refine ⟨⟨_, rfl, ?_⟩, trivial⟩
     ·
      refine OV.append 1 Tryz.underlying56 I2 rfl rfl rfl rfl rfl rfl (fun w h => h.os 2 rfl) (by have := hinv.2; simp only [List.length_cons, List.length_nil]; omega) (by have := hinv.2; simp only [List.length_cons, List.length_nil]; omega) gno rfl (fun E2 c2 => ?_)
      refine AV.next (bl 17 16383) (by kernel_rfl) (fun _ h => h.sel [] rfl) ?_
      refine AV.u 14 (bl 17 32767) rfl gno (Step.nilCheck rfl) rfl (fun _ h => h.sel [] rfl) ?_
      refine AV.u 15 (bl 17 65535) rfl gno (Step.fieldAddr rfl (F206_3 _ _)) rfl (fun _ h => h.sel [] rfl) ?_
      refine AV.all [16] (by kernel_rfl) (by decide) ?_
      refine ⟨⟨_, rfl, ?_⟩, trivial⟩
      ·
       refine OV.store 0 [_] #[_, _, _, _, _] I56 rfl rfl rfl rfl rfl (Nat.le_of_ble_eq_true rfl) (by simp [Value.oneCell']) rfl gno ?_
       refine AV.next (bl 17 131071) (by kernel_rfl) (fun _ h => h.sel [] rfl) ?_
       refine AV.done (by kernel_rfl) ?_
       refine KV.block_n (KV.then_n (KV.e4 0 2 8 9 (CV.region ?_)))
       refine RV.m rfl rfl ?_
       (first | refine RV.op (OV.step gno (Step.add rfl rfl (wI64 (by omega) (by omega))) rfl ?_) | refine RV.op (OV.step gno (Step.add rfl rfl rfl) rfl ?_))
       refine RV.a rfl rfl ?_
       refine RV.nil (KV.then_n (KV.e4 0 2 8 9 ?_))
       refine KV.sel [0, 0] [_, _] rfl ?_
       exact KV.loop2 (x := i) (y := z) (i + 1) (⟨z.l ++ [_], E2, c2⟩) ⟨by omega, by rw [List.length_append, hinv.2]; rfl⟩ (by omega) ⟨rfl, rfl, rfl, rfl, trivial⟩ (fun _ h => h)
  ·
   refine RV.nil (KV.then_n (KV.e5 0 2 8 9 23 (CV.cond_f rfl (CV.exit (KV.then_exit ?_)))))
   refine KV.then_exit (KV.block_hit (KV.then_n (KV.e1 8 (CV.seq (CV.region ?_)))))
   refine RV.m rfl rfl (RV.a rfl rfl (RV.a rfl rfl ?_))
   refine RV.nil (KV.then_n (KV.e2 6 7 (CV.ret ?_)))
   refine KV.sel [] [] rfl ?_
   exact KV.ret2 rfl rfl rfl _ (fun _ h => h) ⟨⟨fun _ => ⟨_, rfl⟩, fun k => absurd hv k⟩, rfl⟩

set_option maxRecDepth 100000 in
set_option maxHeartbeats 1000000 in
theorem sustR_fn (x : HD) (base lim : Int) {w : World} : Fx Tryz.prog 42 [.agg #[.int .i64 x.cap, .int .i64 x.amb], .int .i64 base, .int .i64 lim] w [] no (fun v L => ((susE x base lim → ∃ q, v = .tuple #[.int .i64 q, .int .i64 0]) ∧ (¬ susE x base lim → v = .tuple #[.int .i64 0, .int .i64 1])) ∧ L = []) := by
 refine Sv.Fx.body Tryz.func42 rfl T42 rfl ?_
 intro I hro hI
 refine KV.e3 0 1 2 (CV.seq (CV.region ?_))
 refine RV.op (OV.box (t := 41) #[_, _] rfl rfl gno rfl (fun b0_0 => ?_))
 refine RV.a rfl rfl (RV.a rfl rfl ?_)
 refine RV.nil (KV.then_n (KV.e3 1 2 3 (CV.seq (CV.seq (CV.region ?_)))))
 refine RV.s (Step.loadN _ Tryz.underlying41 rfl I41 rfl rfl (fun w h => h.cells 0 rfl)) rfl ?_
 refine RV.op (OV.buildSlice (K := hdK) ([x]) rfl (Bs104_1_0 _ _) rfl rfl (by omega) gno rfl (fun b1_1 => ?_))
 refine RV.m rfl rfl ?_
 refine RV.op (OV.call [] (F := [_, _]) Tryz.func43 B43 N43 rfl rfl (fun w h => heatNewR_fn (h.os 1 rfl) rfl (by show 1 ≤ 1000000; decide) (B := none) (d := 0) (M := []) RS.nil rfl (by decide) base) (fun _ hb => hb.elim) gno rfl (fun v L' hp => ?_))
 obtain ⟨hp, rfl⟩ := hp
 simp only [List.append_nil]
 by_cases hv : Vld [x] [] base
 ·
  skip
  obtain ⟨b, rfl⟩ := hp.1 hv
  refine RV.m rfl rfl (RV.s (Step.extract0 rfl rfl) rfl (RV.s (Step.extract0 rfl rfl) rfl (RV.a rfl rfl (RV.a rfl rfl ?_))))
  refine RV.nil (KV.then_n (KV.e4 1 2 3 9 (CV.seq (CV.region ?_))))
  refine RV.m rfl rfl (RV.s (Step.neq rfl rfl) rfl ?_)
  refine RV.nil (KV.then_n (KV.e5 1 2 3 9 18 (CV.cond_f rfl (CV.skip (KV.then_n ?_)))))
  refine KV.e3 1 2 3 (CV.seq (CV.seq (CV.region ?_)))
  refine RV.m rfl rfl (RV.m rfl rfl ?_)
  refine RV.op (OV.split gno (Step.lss rfl rfl) rfl (fun cc1 => ?_) (fun cc1 => ?_))
  ·
   refine RV.m rfl rfl (RV.k rfl rfl (RV.k rfl rfl (RV.s (Step.pick_t rfl rfl) rfl ?_)))
   refine RV.nil (KV.then_n (KV.e4 1 2 3 26 (CV.cond_t rfl (CV.seq (CV.region ?_)))))
   refine RV.a rfl rfl (RV.a rfl rfl ?_)
   refine RV.nil (KV.then_n (KV.e2 6 7 (CV.ret (KV.then_ret ?_))))
   refine KV.sel [] [] rfl ?_
   exact KV.ret2 rfl rfl rfl _ (fun _ h => h) ⟨⟨fun k => by have k1 := k.2.1; have k2 := k.2.2; omega, fun _ => rfl⟩, rfl⟩
  ·
   refine RV.m rfl rfl (RV.gw rfl (Step.move rfl) rfl ?_)
   refine RV.op (OV.split (gyes rfl) (Step.gtr rfl rfl) rfl (fun cc2 => ?_) (fun cc2 => ?_))
   ·
    refine RV.s (Step.pick_f rfl rfl) rfl ?_
    refine RV.nil (KV.then_n (KV.e4 1 2 3 26 (CV.cond_t rfl (CV.seq (CV.region ?_)))))
    refine RV.a rfl rfl (RV.a rfl rfl ?_)
    refine RV.nil (KV.then_n (KV.e2 6 7 (CV.ret (KV.then_ret ?_))))
    refine KV.sel [] [] rfl ?_
    exact KV.ret2 rfl rfl rfl _ (fun _ h => h) ⟨⟨fun k => by have k1 := k.2.1; have k2 := k.2.2; omega, fun _ => rfl⟩, rfl⟩
   ·
    refine RV.s (Step.pick_f rfl rfl) rfl ?_
    refine RV.nil (KV.then_n (KV.e4 1 2 3 26 (CV.cond_f rfl (CV.skip (KV.then_n ?_)))))
    refine KV.e3 1 2 3 (CV.seq (CV.region ?_))
    refine RV.s (Step.fieldAddr rfl (F41_1 _ _)) rfl (RV.s (Step.load Tryz.underlying2 rfl rfl (fun w h => h.cell 0 rfl rfl)) rfl (RV.m rfl rfl (RV.m rfl rfl ?_)))
    (first | refine RV.op (OV.step gno (Step.sub rfl rfl (wI64 (by omega) (by omega))) rfl ?_) | refine RV.op (OV.step gno (Step.sub rfl rfl rfl) rfl ?_))
    (first | refine RV.op (OV.step gno (Step.mul rfl rfl (wI64 (by omega) (by omega))) rfl ?_) | refine RV.op (OV.step gno (Step.mul rfl rfl rfl) rfl ?_))
    refine RV.a rfl rfl (RV.a rfl rfl ?_)
    refine RV.nil (KV.then_n (KV.e2 6 7 (CV.ret ?_)))
    refine KV.sel [] [] rfl ?_
    exact KV.ret2 rfl rfl rfl _ (fun _ h => h) ⟨⟨fun _ => ⟨_, rfl⟩, fun k => absurd (show susE x base lim from ⟨hv, by omega, by omega⟩) k⟩, rfl⟩
 ·
  skip
  obtain rfl := hp.2 hv
  refine RV.m rfl rfl (RV.s (Step.extract0 rfl rfl) rfl (RV.s (Step.extract0 rfl rfl) rfl (RV.a rfl rfl (RV.a rfl rfl ?_))))
  refine RV.nil (KV.then_n (KV.e4 1 2 3 9 (CV.seq (CV.region ?_))))
  refine RV.m rfl rfl (RV.s (Step.neq rfl rfl) rfl ?_)
  refine RV.nil (KV.then_n (KV.e5 1 2 3 9 18 (CV.cond_t rfl (CV.seq (CV.region ?_)))))
  refine RV.m rfl rfl (RV.a rfl rfl (RV.a rfl rfl ?_))
  refine RV.nil (KV.then_n (KV.e2 6 7 (CV.ret (KV.then_ret ?_))))
  refine KV.sel [] [] rfl ?_
  exact KV.ret2 rfl rfl rfl _ (fun _ h => h) ⟨⟨fun k => absurd k.1 hv, fun _ => rfl⟩, rfl⟩
end Go.Proofs.YtdfkpdcpegcieaaGreatDoor
