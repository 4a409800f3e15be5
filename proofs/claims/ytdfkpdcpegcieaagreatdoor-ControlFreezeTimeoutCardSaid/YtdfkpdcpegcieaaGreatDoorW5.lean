/-
 Walks, part 5.
-/
import Derived.Test.YtdfkpdcpegcieaaGreatDoorTabA
import Derived.Test.YtdfkpdcpegcieaaGreatDoorW4
import Derived.Test.YtdfkpdcpegcieaaGreatDoorObA
set_option linter.unusedSimpArgs false
set_option linter.unusedVariables false
namespace Go.Proofs.YtdfkpdcpegcieaaGreatDoor
open Go.Sv Go.Perf Go.Ctl
set_option maxRecDepth 100000 in
set_option maxHeartbeats 1000000 in
theorem request_fn (dA : Option Addr) (dc : Nat) (ds : List PD) {i : Nat} (hi : i < ds.length) (hok : (ds.getD i domK.d).x.ok) (ld : Int) {w : World} : Fx Tryz.prog 83 [.pointer (some ⟨bk dA, of dA + i * domK.sz, none⟩), .int .i64 ld] w (OS 108 domK dA dc ds :: pobj (ds.getD i domK.d)) no (fun v L => v = .int .u64 (reqV (ds.getD i domK.d).x ld) ∧ L = OS 108 domK dA dc (ds.set i (reqP (ds.getD i domK.d) ld)) :: pobj (reqP (ds.getD i domK.d) ld)) := by
 refine Sv.Fx.body Tryz.func83 rfl T83 rfl ?_
 intro I hro hI
 refine KV.e2 0 1 ?_
 have hz0 := hok.z.a0
 have hz1 := hok.z.a1
 have hz2 := hok.zl
 have hl1 := hok.t.1
 refine CV.seq (CV.region ?_)
 refine RV.a rfl rfl ?_
 refine RV.nil (KV.then_n (KV.e2 0 1 (CV.seq ?_)))
 refine CV.any (Hp I w [OS 108 domK dA dc ds]) (by kernel_rfl) (fun _ h => h.drew) 14 rfl ?_
 refine AV.u 0 (bl 14 1) rfl gno (Step.move rfl) rfl (fun _ h => h.sel [0] rfl) ?_
 refine AV.u 1 (bl 14 3) rfl gno (Step.nilCheck rfl) rfl (fun _ h => h.sel [0] rfl) ?_
 refine AV.u 2 (bl 14 7) rfl gno (Step.fieldAddr rfl (F108_0 _ _)) rfl (fun _ h => h.sel [0] rfl) ?_
 refine AV.u 3 (bl 14 15) rfl gno (Step.load Tryz.underlying42 rfl rfl (fun w h => (h.os 0 rfl).cell0 hi rfl)) rfl (fun _ h => h.sel [0] rfl) ?_
 refine AV.u 4 (bl 14 31) rfl gno (Step.lenSl Tryz.underlying42 rfl) rfl (fun _ h => h.sel [0] rfl) ?_
 (first | refine AV.take 5 (bl 14 63) rfl (by kernel_rfl) (by kernel_rfl) (by kernel_rfl) (fun _ _ _ h => h) gno (Step.sub rfl rfl (wI64 (by omega) (by omega))) rfl (fun _ h => h.sel [0] rfl) (by kernel_rfl) ?_ | refine AV.take 5 (bl 14 63) rfl (by kernel_rfl) (by kernel_rfl) (by kernel_rfl) (fun _ _ _ h => h) gno (Step.sub rfl rfl rfl) rfl (fun _ h => h.sel [0] rfl) (by kernel_rfl) ?_)
 refine AV.u 6 (bl 14 127) rfl gno (Step.move rfl) rfl (fun _ h => h.sel [0] rfl) ?_
 refine AV.u 7 (bl 14 255) rfl gno (Step.nilCheck rfl) rfl (fun _ h => h.sel [0] rfl) ?_
 refine AV.u 8 (bl 14 511) rfl gno (Step.fieldAddr rfl (F108_6 _ _)) rfl (fun _ h => h.sel [0] rfl) ?_
 refine AV.u 9 (bl 14 1023) rfl gno (Step.load Tryz.underlying106 rfl rfl (fun w h => (h.os 0 rfl).cell hi rfl)) rfl (fun _ h => h.sel [0] rfl) ?_
 refine AV.all [10] (by kernel_rfl) (by decide) ?_
 refine ⟨⟨_, rfl, ?_⟩, trivial⟩
 ·
  refine OV.call [] (F := [_, _, _, _, _, _, _, _]) Tryz.func113 B113 N113 rfl rfl (fun w h => level_fn (ds.getD i domK.d).zb (h.blk 5 rfl)) (fun _ hb => hb.elim) gno rfl (fun v L' hp => ?_)
  obtain ⟨rfl, rfl⟩ := hp
  simp only [List.append_nil]
  refine AV.next (bl 14 2047) (by kernel_rfl) (fun _ h => h.sel [0] rfl) ?_
  (first | refine AV.take 11 (bl 14 4095) rfl (by kernel_rfl) (by kernel_rfl) (by kernel_rfl) (fun _ _ _ h => h) gno (Step.sub rfl rfl (wI64 (by omega) (by omega))) rfl (fun _ h => h.sel [0] rfl) (by kernel_rfl) ?_ | refine AV.take 11 (bl 14 4095) rfl (by kernel_rfl) (by kernel_rfl) (by kernel_rfl) (fun _ _ _ h => h) gno (Step.sub rfl rfl rfl) rfl (fun _ h => h.sel [0] rfl) (by kernel_rfl) ?_)
  refine AV.u 12 (bl 14 8191) rfl gno (Step.max2 rfl rfl) rfl (fun _ h => h.sel [0] rfl) ?_
  rw [top_eq]
  refine AV.u 13 (bl 14 16383) rfl gno (Step.assign rfl) rfl (fun _ h => h.sel [0] rfl) ?_
  refine AV.done (by kernel_rfl) ?_
  refine KV.then_n (KV.e3 0 1 5 ?_)
  refine CV.join (α := Unit) (fun _ => [(0, .pointer (some ⟨bk dA, of dA + i * domK.sz, none⟩)), (1, .int .i64 ld)]) (fun _ => Hp I w (OS 108 domK dA dc (ds.set i (hiP (ds.getD i domK.d))) :: pobj (hiP (ds.getD i domK.d)))) ?_ ?_
  ·
   skip
   refine CV.seq (CV.region ?_)
   refine RV.m rfl rfl (RV.m rfl rfl (RV.s (Step.nilCheck rfl) rfl (RV.s (Step.fieldAddr rfl (F108_7 _ _)) rfl (RV.s (Step.load Tryz.underlying3 rfl rfl (fun w h => (h.os 0 rfl).cell hi rfl)) rfl ?_))))
   refine RV.op (OV.split gno (Step.neq rfl rfl) rfl (fun hq => ?_) (fun hq => ?_))
   ·
    refine RV.nil (KV.then_n (KV.e4 0 1 5 24 (CV.cond_t rfl (CV.seq (CV.region ?_)))))
    refine RV.m rfl rfl (RV.s (Step.nilCheck rfl) rfl (RV.s (Step.fieldAddr rfl (F108_5 _ _)) rfl (RV.s (Step.load Tryz.underlying105 rfl rfl (fun w h => (h.os 0 rfl).cell hi rfl)) rfl (RV.m rfl rfl ?_))))
    refine RV.op (OV.call [3, 3] (F := [_, _, _, _, _, _]) Tryz.func114 B114 N114 rfl rfl (fun w h => limit_fn (ds.getD i domK.d).gb (ds.getD i domK.d).gA (ds.getD i domK.d).gc (ds.getD i domK.d).x.g 0 (topM (ds.getD i domK.d).x)) (fun _ hb => hb.elim) gno rfl (fun v L' hp => ?_))
    obtain ⟨rfl, rfl⟩ := hp
    refine RV.nil (KV.then_n (KV.e3 0 1 5 (CV.region ?_)))
    refine RV.m rfl rfl (RV.m rfl rfl (RV.s (Step.nilCheck rfl) rfl (RV.s (Step.fieldAddr rfl (F108_7 _ _)) rfl ?_)))
    refine RV.op (OV.storeE 0 (i) ({ (ds.getD i domK.d) with x := { (ds.getD i domK.d).x with hi := topM (ds.getD i domK.d).x } }) (j := 9) [_] I3 rfl rfl rfl rfl rfl rfl (by exact hi) rfl (Nat.le_of_ble_eq_true rfl) gno ?_)
    refine RV.nil (KV.then_n (KV.e2 0 1 ?_))
    refine KV.sel [0, 0, 0, 3, 3, 0, 0, 0] [_, _, _, _, _, _, _, _] rfl ?_
    first | exact KV.join () ⟨rfl, rfl, trivial⟩ (fun _ h => req_t hq h) | exact KV.join () ⟨rfl, rfl, trivial⟩ (fun _ h => req_f rfl hq h)
   ·
    refine RV.nil (KV.then_n (KV.e4 0 1 5 24 (CV.cond_f rfl (CV.skip (KV.then_n ?_)))))
    refine KV.e2 0 1 ?_
    refine KV.sel [0, 0, 0, 0, 0, 0, 0, 0] [_, _, _, _, _, _, _, _] rfl ?_
    first | exact KV.join () ⟨rfl, rfl, trivial⟩ (fun _ h => req_t hq h) | exact KV.join () ⟨rfl, rfl, trivial⟩ (fun _ h => req_f rfl hq h)
  ·
   intro _
   refine CV.seq (CV.region ?_)
   refine RV.m rfl rfl (RV.s (Step.nilCheck rfl) rfl (RV.s (Step.fieldAddr rfl (F108_5 _ _)) rfl (RV.s (Step.load Tryz.underlying105 rfl rfl (fun w h => (h.os 0 rfl).cellS hi rfl)) rfl (RV.m rfl rfl ?_))))
   refine RV.op (OV.call [3, 3] (F := [_, _, _, _, _, _]) Tryz.func115 B115 N115 rfl rfl (fun w h => sample_fn (ds.getD i domK.d).gb (ds.getD i domK.d).gA (ds.getD i domK.d).gc (g1D (ds.getD i domK.d).x) ld (g1D_ok hok)) (fun _ hb => hb.elim) gno rfl (fun v L' hp => ?_))
   obtain ⟨rfl, rfl⟩ := hp
   refine RV.nil (KV.then_n (KV.e2 0 1 (CV.seq (CV.seq (CV.region ?_)))))
   refine RV.m rfl rfl ?_
   refine RV.op (OV.split gno (Step.eql rfl rfl) rfl (fun hld => ?_) (fun hld => ?_))
   ·
    refine RV.nil (KV.then_n (KV.e2 0 42 (CV.cond_t rfl (CV.seq (CV.region ?_)))))
    refine RV.a rfl rfl ?_
    refine RV.nil (KV.then_n (KV.e1 4 (CV.ret (KV.then_ret ?_))))
    refine KV.sel [0, 0, 0, 3, 3, 0, 0, 0] [_, _, _, _, _, _, _, _] rfl ?_
    exact KV.ret1 rfl rfl (OS 108 domK dA dc (ds.set i (reqP (ds.getD i domK.d) ld)) :: pobj (reqP (ds.getD i domK.d) ld)) (fun _ h => req_e h) ⟨by rw [reqV, if_pos hld], rfl⟩
   ·
    refine RV.nil (KV.then_n (KV.e2 0 42 (CV.cond_f rfl (CV.skip (KV.then_n ?_)))))
    refine KV.e1 0 (CV.seq ?_)
    have hcu := cu_lt hok ld
    refine CV.any (Hp I w [OS 108 domK dA dc (ds.set i (hiP (ds.getD i domK.d))), OS 61 ptK (ds.getD i domK.d).A (ds.getD i domK.d).c (ds.getD i domK.d).x.ys]) (by kernel_rfl) (fun _ h => h.drew) 13 rfl ?_
    refine AV.u 0 (bl 13 1) rfl gno (Step.move rfl) rfl (fun _ h => h.sel [0, 0] rfl) ?_
    refine AV.u 1 (bl 13 3) rfl gno (Step.nilCheck rfl) rfl (fun _ h => h.sel [0, 0] rfl) ?_
    refine AV.u 2 (bl 13 7) rfl gno (Step.fieldAddr rfl (F108_0 _ _)) rfl (fun _ h => h.sel [0, 0] rfl) ?_
    refine AV.u 3 (bl 13 15) rfl gno (Step.load Tryz.underlying42 rfl rfl (fun w h => (h.os 0 rfl).cellS0 hi rfl)) rfl (fun _ h => h.sel [0, 0] rfl) ?_
    refine AV.u 4 (bl 13 31) rfl gno (Step.move rfl) rfl (fun _ h => h.sel [0, 0] rfl) ?_
    refine AV.u 5 (bl 13 63) rfl gno (Step.nilCheck rfl) rfl (fun _ h => h.sel [0, 0] rfl) ?_
    refine AV.u 6 (bl 13 127) rfl gno (Step.fieldAddr rfl (F108_5 _ _)) rfl (fun _ h => h.sel [0, 0] rfl) ?_
    refine AV.u 7 (bl 13 255) rfl gno (Step.load Tryz.underlying105 rfl rfl (fun w h => (h.os 0 rfl).cellS hi rfl)) rfl (fun _ h => h.sel [0, 0] rfl) ?_
    refine AV.all [8] (by kernel_rfl) (by decide) ?_
    refine ⟨⟨_, rfl, ?_⟩, trivial⟩
    ·
     refine OV.call [6, 6] (F := [_, _, _, _, _, _]) Tryz.func54 B54 N54 rfl rfl (fun w h => current_fn (ds.getD i domK.d).gb (ds.getD i domK.d).gA (ds.getD i domK.d).gc (sampG (g1D (ds.getD i domK.d).x) ld)) (fun _ hb => hb.elim) gno rfl (fun v L' hp => ?_)
     obtain ⟨rfl, rfl⟩ := hp
     refine AV.next (bl 13 511) (by kernel_rfl) (fun _ h => h.sel [0, 0] rfl) ?_
     refine AV.u 9 (bl 13 1023) rfl gno (Step.idx Tryz.underlying42 I61 (fun w h => h.os 1 rfl) rfl rfl (rfl) _ rfl (by first | exact hcu | omega)) rfl (fun _ h => h.sel [0, 0] rfl) ?_
     refine AV.u 10 (bl 13 2047) rfl gno (Step.fieldAddr rfl (F61_2 _ _)) rfl (fun _ h => h.sel [0, 0] rfl) ?_
     refine AV.u 11 (bl 13 4095) rfl gno (Step.load Tryz.underlying24 rfl rfl (fun w h => (h.os 1 rfl).cell hcu rfl)) rfl (fun _ h => h.sel [0, 0] rfl) ?_
     refine AV.u 12 (bl 13 8191) rfl gno (Step.assign rfl) rfl (fun _ h => h.sel [0, 0] rfl) ?_
     refine AV.done (by kernel_rfl) ?_
     refine KV.then_n (KV.e1 4 (CV.ret ?_))
     refine KV.sel [0, 0, 0, 3, 3, 0, 0, 0] [_, _, _, _, _, _, _, _] rfl ?_
     exact KV.ret1 rfl rfl (OS 108 domK dA dc (ds.set i (reqP (ds.getD i domK.d) ld)) :: pobj (reqP (ds.getD i domK.d) ld)) (fun _ h => req_e h) ⟨by rw [reqV, if_neg hld]; rfl, rfl⟩

set_option maxRecDepth 100000 in
set_option maxHeartbeats 1000000 in
theorem power_fn {dA : Option Addr} {ds : List PD} {i : Nat} {w : World} (hr : RS w domK dA ds) (hi : i < ds.length) (hr2 : RS w ptK (ds.getD i domK.d).A (ds.getD i domK.d).x.ys) (ht : okT (ds.getD i domK.d).x.ys) (hf : fitT (ds.getD i domK.d).x.ys) (ld g : Int) (h0 : 0 ≤ ld) (h1 : ld ≤ 100) : Fx Tryz.prog 85 [.pointer (some ⟨bk dA, of dA + i * domK.sz, none⟩), .int .i64 ld, .int .u64 g] w [] no (fun v L => v = .int .i64 (powM (ds.getD i domK.d).x.ys ld g) ∧ L = []) := by
 refine Sv.Fx.body Tryz.func85 rfl T85 rfl ?_
 intro I hro hI
 refine KV.e3 0 1 2 ?_
 have hl1 := ht.1
 refine CV.seq (CV.region ?_)
 refine RV.a rfl rfl ?_
 refine RV.nil (KV.then_n (KV.e3 0 1 2 (CV.seq (CV.region ?_))))
 refine RV.m rfl rfl (RV.s (Step.nilCheck rfl) rfl (RV.s (Step.fieldAddr rfl (F108_0 _ _)) rfl (RV.s (Step.load Tryz.underlying42 rfl rfl (fun w h => (h.rs hr (fun _ => hI _)).cell0 hi rfl)) rfl (RV.m rfl rfl ?_))))
 refine RV.op (OV.call [] (F := []) Tryz.func120 B120 N120 rfl rfl (fun w h => throttle_fn (h.rs hr2 (fun _ => hI _)) rfl (by omega) g) (fun _ hb => hb.elim) gno rfl (fun v L' hp => ?_))
 obtain ⟨rfl, rfl⟩ := hp
 simp only [List.append_nil]
 refine RV.m rfl rfl (RV.s (Step.extract0 rfl rfl) rfl (RV.s (Step.extract0 rfl rfl) rfl (RV.a rfl rfl (RV.a rfl rfl ?_))))
 refine RV.nil (KV.then_n (KV.e4 0 1 7 8 (CV.seq (CV.seq (CV.region ?_)))))
 refine RV.m rfl rfl ?_
 refine RV.op (OV.split gno (Step.eql rfl rfl) rfl (fun e1 => ?_) (fun e1 => ?_))
 ·
  refine RV.m rfl rfl (RV.k rfl rfl (RV.k rfl rfl (RV.s (Step.pick_t rfl rfl) rfl ?_)))
  refine RV.nil (KV.then_n (KV.e4 0 1 7 23 (CV.cond_t rfl (CV.seq (CV.region ?_)))))
  refine RV.a rfl rfl ?_
  refine RV.nil (KV.then_n (KV.e1 6 (CV.ret (KV.then_ret ?_))))
  refine KV.sel [] [] rfl ?_
  exact KV.ret1 rfl rfl _ (fun _ h => h) ⟨by first | rw [powM_no (.inl e1)] | rw [powM_no (.inr e2)], rfl⟩
 ·
  refine RV.m rfl rfl (RV.gw rfl (Step.move rfl) rfl ?_)
  refine RV.op (OV.split (gyes rfl) (Step.neq rfl rfl) rfl (fun e2 => ?_) (fun e2 => ?_))
  ·
   refine RV.s (Step.pick_f rfl rfl) rfl ?_
   refine RV.nil (KV.then_n (KV.e4 0 1 7 23 (CV.cond_t rfl (CV.seq (CV.region ?_)))))
   refine RV.a rfl rfl ?_
   refine RV.nil (KV.then_n (KV.e1 6 (CV.ret (KV.then_ret ?_))))
   refine KV.sel [] [] rfl ?_
   exact KV.ret1 rfl rfl _ (fun _ h => h) ⟨by first | rw [powM_no (.inl e1)] | rw [powM_no (.inr e2)], rfl⟩
  ·
   refine RV.s (Step.pick_f rfl rfl) rfl ?_
   refine RV.nil (KV.then_n (KV.e4 0 1 7 23 (CV.cond_f rfl (CV.skip (KV.then_n ?_)))))
   refine KV.e3 0 1 7 (CV.seq ?_)
   obtain ⟨hc, k, hk, hkl⟩ := thrV_idx e2
   have hpb := pow_bd ht hf hkl h0 h1
   refine CV.region ?_
   refine RV.m rfl rfl (RV.s (Step.nilCheck rfl) rfl (RV.s (Step.fieldAddr rfl (F108_0 _ _)) rfl (RV.s (Step.load Tryz.underlying42 rfl rfl (fun w h => (h.rs hr (fun _ => hI _)).cell0 hi rfl)) rfl (RV.m rfl rfl ?_))))
   refine RV.s (Step.idx Tryz.underlying42 I61 (fun w h => h.rs hr2 (fun _ => hI _)) rfl rfl (rfl) _ hk (by exact hkl)) rfl ?_
   refine RV.s (Step.fieldAddr rfl (F61_2 _ _)) rfl (RV.s (Step.load Tryz.underlying24 rfl rfl (fun w h => (h.rs hr2 (fun _ => hI _)).cell hkl rfl)) rfl (RV.m rfl rfl ?_))
   (first | refine RV.op (OV.step gno (Step.convI Tryz.underlying3 Tryz.underlying24 rfl (wU64 (by omega) (by omega))) rfl ?_) | refine RV.op (OV.step gno (Step.convI Tryz.underlying3 Tryz.underlying24 rfl rfl) rfl ?_))
   refine RV.s (Step.mul rfl rfl (wU64 (by omega) (by omega))) rfl ?_
   refine RV.s (Step.quo rfl rfl (by omega) ((show IntKind.u64.wrap (((ds.getD i domK.d).x.ys.getD k ptK.d).p * ld |>.tdiv 100) = ((ds.getD i domK.d).x.ys.getD k ptK.d).p * ld / 100 by rw [Int.tdiv_eq_ediv_of_nonneg (by omega)]; exact wU64 (by omega) (by omega)))) rfl ?_
   (first | refine RV.op (OV.step gno (Step.convI Tryz.underlying24 Tryz.underlying2 rfl (wI64 (by omega) (by omega))) rfl ?_) | refine RV.op (OV.step gno (Step.convI Tryz.underlying24 Tryz.underlying2 rfl rfl) rfl ?_))
   refine RV.a rfl rfl ?_
   refine RV.nil (KV.then_n (KV.e1 6 (CV.ret ?_)))
   refine KV.sel [] [] rfl ?_
   exact KV.ret1 rfl rfl _ (fun _ h => h) ⟨by rw [powM_yes e1 e2 hk, Int.tdiv_eq_ediv_of_nonneg (by omega)], rfl⟩

set_option maxRecDepth 100000 in
set_option maxHeartbeats 1000000 in
theorem setLoad_fn (t : PT) (dm ld : Int) {w : World} : Fx Tryz.prog 16 [.pointer (some ⟨t.a.b, 0, none⟩), .int .i64 dm, .int .i64 ld] w (tobj t) no (fun v L => (slOk t dm ld → v = .int .i64 0 ∧ L = tobj (slT t dm.toNat ld)) ∧ (¬ slOk t dm ld → (∃ e, v = .int .i64 e) ∧ L = tobj t)) := by
 refine Sv.Fx.body Tryz.func16 rfl T16 rfl ?_
 intro I hro hI
 refine KV.e3 0 1 2 (CV.seq (CV.region ?_))
 refine RV.a rfl rfl ?_
 refine RV.nil (KV.then_n (KV.e3 0 1 2 (CV.seq (CV.seq (CV.region ?_)))))
 refine RV.m rfl rfl ?_
 refine RV.op (OV.split gno (Step.lss rfl rfl) rfl (fun cc1 => ?_) (fun cc1 => ?_))
 ·
  refine RV.m rfl rfl (RV.k rfl rfl (RV.k rfl rfl (RV.k rfl rfl (RV.k rfl rfl (RV.k rfl rfl (RV.k rfl rfl (RV.k rfl rfl ?_)))))))
  refine RV.s (Step.pick_t rfl rfl) rfl ?_
  refine RV.nil (KV.then_n (KV.e4 0 1 2 17 (CV.cond_t rfl (CV.seq (CV.region ?_)))))
  refine RV.a rfl rfl ?_
  refine RV.nil (KV.then_n (KV.e1 6 (CV.ret (KV.then_ret ?_))))
  refine KV.sel [0, 0, 0, 0, 0, 0, 0, 0] [_, _, _, _, _, _, _, _] rfl ?_
  exact KV.ret1 rfl rfl _ (fun _ h => h) ⟨fun c => by unfold slOk at c; omega, fun _ => ⟨⟨_, rfl⟩, rfl⟩⟩
 ·
  refine RV.m rfl rfl (RV.gw rfl (Step.move rfl) rfl (RV.gw rfl (Step.move rfl) rfl (RV.gw rfl (Step.nilCheck rfl) rfl (RV.gw rfl (Step.fieldAddr rfl (F103_0 _ _)) rfl (RV.gw rfl (Step.load Tryz.underlying100 rfl rfl (fun w h => h.cell 0 rfl rfl)) rfl (RV.gw rfl (Step.lenSl Tryz.underlying100 rfl) rfl ?_))))))
  refine RV.op (OV.split (gyes rfl) (Step.geq rfl rfl) rfl (fun cc2 => ?_) (fun cc2 => ?_))
  ·
   refine RV.s (Step.pick_f rfl rfl) rfl ?_
   refine RV.nil (KV.then_n (KV.e4 0 1 2 17 (CV.cond_t rfl (CV.seq (CV.region ?_)))))
   refine RV.a rfl rfl ?_
   refine RV.nil (KV.then_n (KV.e1 6 (CV.ret (KV.then_ret ?_))))
   refine KV.sel [0, 0, 0, 0, 0, 0, 0, 0] [_, _, _, _, _, _, _, _] rfl ?_
   exact KV.ret1 rfl rfl _ (fun _ h => h) ⟨fun c => by unfold slOk at c; omega, fun _ => ⟨⟨_, rfl⟩, rfl⟩⟩
  ·
   refine RV.s (Step.pick_f rfl rfl) rfl ?_
   refine RV.nil (KV.then_n (KV.e4 0 1 2 17 (CV.cond_f rfl (CV.skip (KV.then_n ?_)))))
   refine KV.e3 0 1 2 (CV.seq (CV.seq (CV.region ?_)))
   refine RV.m rfl rfl ?_
   refine RV.op (OV.split gno (Step.lss rfl rfl) rfl (fun cc3 => ?_) (fun cc3 => ?_))
   ·
    refine RV.m rfl rfl (RV.k rfl rfl (RV.k rfl rfl (RV.s (Step.pick_t rfl rfl) rfl ?_)))
    refine RV.nil (KV.then_n (KV.e4 0 1 2 23 (CV.cond_t rfl (CV.seq (CV.region ?_)))))
    refine RV.a rfl rfl ?_
    refine RV.nil (KV.then_n (KV.e1 6 (CV.ret (KV.then_ret ?_))))
    refine KV.sel [0, 0, 0, 0, 0, 0, 0, 0] [_, _, _, _, _, _, _, _] rfl ?_
    exact KV.ret1 rfl rfl _ (fun _ h => h) ⟨fun c => by unfold slOk at c; omega, fun _ => ⟨⟨_, rfl⟩, rfl⟩⟩
   ·
    refine RV.m rfl rfl (RV.gw rfl (Step.move rfl) rfl ?_)
    refine RV.op (OV.split (gyes rfl) (Step.gtr rfl rfl) rfl (fun cc4 => ?_) (fun cc4 => ?_))
    ·
     refine RV.s (Step.pick_f rfl rfl) rfl ?_
     refine RV.nil (KV.then_n (KV.e4 0 1 2 23 (CV.cond_t rfl (CV.seq (CV.region ?_)))))
     refine RV.a rfl rfl ?_
     refine RV.nil (KV.then_n (KV.e1 6 (CV.ret (KV.then_ret ?_))))
     refine KV.sel [0, 0, 0, 0, 0, 0, 0, 0] [_, _, _, _, _, _, _, _] rfl ?_
     exact KV.ret1 rfl rfl _ (fun _ h => h) ⟨fun c => by unfold slOk at c; omega, fun _ => ⟨⟨_, rfl⟩, rfl⟩⟩
    ·
     refine RV.s (Step.pick_f rfl rfl) rfl ?_
     refine RV.nil (KV.then_n (KV.e4 0 1 2 23 (CV.cond_f rfl (CV.skip (KV.then_n ?_)))))
     refine KV.e3 0 1 2 (CV.seq ?_)
     obtain ⟨k, rfl⟩ := Int.eq_ofNat_of_zero_le (show 0 ≤ dm by omega)
     refine CV.region ?_
     refine RV.m rfl rfl (RV.s (Step.nilCheck rfl) rfl (RV.s (Step.fieldAddr rfl (F103_0 _ _)) rfl (RV.s (Step.load Tryz.underlying100 rfl rfl (fun w h => h.cell 0 rfl rfl)) rfl (RV.m rfl rfl (RV.m rfl rfl ?_)))))
     refine RV.s (Step.idx Tryz.underlying100 I108 (fun w h => h.os 1 rfl) rfl rfl (rfl) _ rfl (by omega)) rfl ?_
     refine RV.s (Step.fieldAddr rfl (F108_4 _ _)) rfl ?_
     refine RV.op (OV.storeE 1 (k) ((ldP (pdA t.ds k) ld)) (j := 6) [_] I3 rfl rfl rfl rfl rfl rfl (by omega) rfl (Nat.le_of_ble_eq_true rfl) gno ?_)
     refine RV.nil (KV.then_n (KV.env [] trivial (CV.seq (CV.region ?_))))
     refine RV.a rfl rfl ?_
     refine RV.nil (KV.then_n (KV.e1 6 (CV.ret ?_)))
     refine KV.sel [0, 0, 0, 0, 0, 0, 0, 0] [_, _, _, _, _, _, _, _] rfl ?_
     exact KV.ret1 rfl rfl (tobj (slT t k ld)) (fun _ h => slT_heap h) ⟨fun _ => ⟨rfl, rfl⟩, fun c => absurd (show slOk t k ld from ⟨⟨by omega, by omega⟩, by omega, by omega⟩) c⟩

set_option maxRecDepth 100000 in
set_option maxHeartbeats 1000000 in
theorem temps_fn (t : PT) {lim : Int} (hT : t.T.ok lim) {w : World} : Fx Tryz.prog 21 [.pointer (some ⟨t.a.b, 0, none⟩)] w (tobj t) no (fun v L => ∃ A2 c2, v = .slice A2 t.ds.length c2 ∧ L = tobj t ++ [OS 2 (intK .i64) A2 c2 (tmps t.D t.E)]) := by
 refine Sv.Fx.body Tryz.func21 rfl T21 rfl ?_
 intro I hro hI
 refine KV.e1 0 ?_
 have hdl := hT.dl'
 have hn8 := hT.n8'
 have hen : ∀ k, k < t.D.length → -4611686018427387904 ≤ t.E.getD k (intK .i64).d ∧ t.E.getD k (intK .i64).d ≤ 4611686018427387904 := fun k hk => by have := en_bd hT.v hT.l1 hT.tm hk; show -4611686018427387904 ≤ t.E.getD k 0 ∧ t.E.getD k 0 ≤ 4611686018427387904; change -1125899906842624 ≤ t.E.getD k 0 ∧ t.E.getD k 0 ≤ 1125899906842624 at this; omega
 refine CV.seq (CV.region ?_)
 refine RV.a rfl rfl ?_
 refine RV.nil (KV.then_n (KV.e1 0 (CV.seq (CV.region ?_))))
 refine RV.m rfl rfl (RV.s (Step.nilCheck rfl) rfl (RV.s (Step.fieldAddr rfl (F103_0 _ _)) rfl (RV.s (Step.load Tryz.underlying100 rfl rfl (fun w h => h.cell 0 rfl rfl)) rfl (RV.s (Step.lenSl Tryz.underlying100 rfl) rfl ?_))))
 refine RV.op (OV.make (K := (intK .i64)) (t.ds.length) (t.ds.length) (0) Tryz.underlying56 I2 rfl rfl rfl rfl rfl (by omega) (by omega) (by omega) gno rfl (fun b1_5 => ?_))
 refine RV.a rfl rfl ?_
 refine RV.nil (KV.then_n (KV.e2 0 3 (CV.seq (CV.seq (CV.region ?_)))))
 refine RV.m rfl rfl (RV.s (Step.lenSl Tryz.underlying56 rfl) rfl (RV.m rfl rfl ?_))
 refine RV.nil (KV.then_n (KV.e4 0 3 12 13 (CV.block ?_)))
 refine KV.sel [0, 0, 0, 0, 0, 0, 0, 0, 0] [_, _, _, _, _, _, _, _, _] rfl ?_
 refine CV.loopI (fun (i : Nat) => i ≤ t.ds.length) (fun (i : Nat) => t.ds.length - i) (fun (i : Nat) => [(0, .pointer (some ⟨t.a.b, 0, none⟩)), (3, .slice b1_5 t.ds.length t.ds.length), (12, .int .i64 t.ds.length), (13, .int .i64 i)]) (fun (i : Nat) => Hp I w (tobj t ++ [OS 2 (intK .i64) b1_5 t.ds.length (tK t.D t.E i)])) (0) (Nat.zero_le _) ⟨rfl, rfl, rfl, rfl, trivial⟩ (fun _ h => by rw [tK_zero, hdl]; exact h) ?_
 intro i hinv
 refine CV.seq (CV.region ?_)
 refine RV.op (OV.split gno (Step.lss rfl rfl) rfl (fun cc1 => ?_) (fun cc1 => ?_))
 ·
  refine RV.nil (KV.then_n (KV.e5 0 3 12 13 14 (CV.seq (CV.cond_t rfl (CV.skip ?_)))))
  refine KV.then_n (KV.e4 0 3 12 13 (CV.seq (CV.block (CV.seq (CV.region ?_)))))
  refine RV.m rfl rfl (RV.a rfl rfl ?_)
  refine RV.nil (KV.then_n (KV.e5 0 3 4 12 13 (CV.region ?_)))
  refine RV.m rfl rfl (RV.m rfl rfl (RV.m rfl rfl (RV.s (Step.nilCheck rfl) rfl (RV.s (Step.fieldAddr rfl (F103_1 _ _)) rfl (RV.s (Step.load Tryz.underlying101 rfl rfl (fun w h => h.cell 0 rfl rfl)) rfl (RV.m rfl rfl ?_))))))
  refine RV.op (OV.call [] (F := [_, _, _, _, _, _, _, _, _]) Tryz.func52 B52 N52 rfl rfl (fun w h => temperature_fn t.a.m.b (h.blk 3 rfl) (h.os 4 rfl) (h.os 6 rfl) hT.e (i := i) (by omega) (vld_capP hT.v (i := i) (show i < t.D.length by omega)).1 (hen i (by omega))) (fun _ hb => hb.elim) gno rfl (fun v L' hp => ?_))
  obtain ⟨rfl, rfl⟩ := hp
  simp only [List.append_nil]
  refine RV.op (OV.step gno (Step.idx Tryz.underlying56 I2 (fun w h => h.os 8 rfl) rfl rfl (by first | rfl | (rw [tK_len]; omega)) _ rfl (by first | omega | (rw [tK_len]; omega))) rfl ?_)
  refine RV.op (OV.storeE 8 (i) ((tmp t.D t.E i)) (j := 0) [_] I2 rfl rfl rfl rfl rfl rfl (by rw [tK_len]; omega) rfl (Nat.le_of_ble_eq_true rfl) gno ?_)
  refine RV.nil (KV.block_n (KV.then_n (KV.e4 0 3 12 13 (CV.region ?_))))
  (first | refine RV.op (OV.step gno (Step.add rfl rfl (wI64 (by omega) (by omega))) rfl ?_) | refine RV.op (OV.step gno (Step.add rfl rfl rfl) rfl ?_))
  refine RV.m rfl rfl ?_
  refine RV.nil (KV.then_n (KV.e4 0 3 12 13 ?_))
  refine KV.sel [0, 0, 0, 0, 0, 0, 0, 0, 0] [_, _, _, _, _, _, _, _, _] rfl ?_
  exact KV.loopI (z := i) (i + 1) (by omega) (by omega) ⟨rfl, rfl, rfl, rfl, trivial⟩ (fun _ h => by rw [← tK_succ (by omega)]; exact h)
 ·
  refine RV.nil (KV.then_n (KV.e5 0 3 12 13 14 (CV.seq (CV.cond_f rfl (CV.exit ?_)))))
  refine KV.then_exit (KV.then_exit (KV.block_hit (KV.then_n (KV.e1 3 (CV.seq ?_)))))
  obtain rfl : i = t.ds.length := by omega
  refine CV.region ?_
  refine RV.m rfl rfl (RV.a rfl rfl ?_)
  refine RV.nil (KV.then_n (KV.e1 2 (CV.ret ?_)))
  refine KV.sel [0, 0, 0, 0, 0, 0, 0, 0, 0] [_, _, _, _, _, _, _, _, _] rfl ?_
  exact KV.ret1 rfl rfl (tobj t ++ [OS 2 (intK .i64) b1_5 t.ds.length (tmps t.D t.E)]) (fun _ h => by rw [← tK_end, hdl]; exact h) ⟨_, _, rfl, rfl⟩

set_option maxRecDepth 100000 in
set_option maxHeartbeats 1000000 in
theorem powers_fn (t : PT) (hpl : t.p.length = t.ds.length) (hn8 : t.ds.length ≤ 8) {w : World} : Fx Tryz.prog 19 [.pointer (some ⟨t.a.b, 0, none⟩)] w (tobj t) no (fun v L => ∃ A2 c2, v = .slice A2 t.p.length c2 ∧ L = tobj t ++ [OS 2 (intK .i64) A2 c2 t.p]) := by
 refine Sv.Fx.body Tryz.func19 rfl T19 rfl ?_
 intro I hro hI
 refine KV.e1 0 (CV.seq (CV.region ?_))
 refine RV.a rfl rfl ?_
 refine RV.nil (KV.then_n (KV.e1 0 (CV.seq (CV.region ?_))))
 refine RV.m rfl rfl (RV.s (Step.nilCheck rfl) rfl (RV.s (Step.fieldAddr rfl (F103_3 _ _)) rfl (RV.s (Step.load Tryz.underlying56 rfl rfl (fun w h => h.cell 0 rfl rfl)) rfl ?_)))
 refine RV.op (OV.call [] (F := [_, _, _, _, _, _, _, _]) Tryz.func51 B51 N51 rfl rfl (fun w h => cloneI_fn (h.os 7 rfl) hpl.symm (by omega)) (fun _ hb => hb.elim) gno rfl (fun v L' hp => ?_))
 obtain ⟨A2, c2, rfl, rfl⟩ := hp
 refine RV.a rfl rfl ?_
 refine RV.nil (KV.then_n (KV.e1 2 (CV.ret ?_)))
 refine KV.sel [0, 0, 0, 0, 0, 0, 0, 0, 0] [_, _, _, _, _, _, _, _, _] rfl ?_
 exact KV.ret1 rfl rfl _ (fun _ h => h) ⟨_, _, rfl, rfl⟩

set_option maxRecDepth 100000 in
set_option maxHeartbeats 1000000 in
theorem newThermal_fn {A : Option Addr} {n c : Nat} {l : List RB} {w : World} (hr : RS w rbK A l) (hn : n = l.length) (hl : l.length ≤ 1000000) (hp0 : ∀ i, i < l.length → (l.getD i rbK.d).rs w) (hsz : ∀ i, i < l.length → (l.getD i rbK.d).ys.length ≤ 1000000 ∧ (l.getD i rbK.d).tr.length ≤ 1000000) {B : Option Addr} {m d : Nat} {M : List HL} (hr2 : RS w hlK B M) (hm : m = M.length) (hl2 : M.length ≤ 1000000) (base lim bud : Int) : Fx Tryz.prog 11 [.slice A n c, .slice B m d, .int .i64 base, .int .i64 lim, .int .u64 bud] w [] no (fun v L => (NewOk (l.map RB.bd) M base lim bud → (0 < l.length → ∃ t : PT, v = .tuple #[.pointer (some ⟨t.a.b, 0, none⟩), .int .i64 0] ∧ t.T = newTS (l.map RB.bd) M base lim bud ∧ L = tobj t) ∧ (l.length = 0 → (∃ b, v = .tuple #[.pointer (some ⟨b, 0, none⟩), .int .i64 0]) ∧ L = [])) ∧ (¬ NewOk (l.map RB.bd) M base lim bud → v = .tuple #[.pointer none, .int .i64 1] ∧ L = [])) := by
 subst hn
 subst hm
 refine Sv.Fx.body Tryz.func11 rfl T11 rfl ?_
 intro I hro hI
 refine KV.e5 0 1 2 3 4 (CV.seq (CV.region ?_))
 refine RV.a rfl rfl (RV.a rfl rfl ?_)
 refine RV.nil (KV.then_n (KV.e5 0 1 2 3 4 (CV.seq (CV.seq (CV.region ?_)))))
 refine RV.m rfl rfl (RV.s (Step.lenSl Tryz.underlying22 rfl) rfl ?_)
 refine RV.op (OV.split gno (Step.gtr rfl rfl) rfl (fun cc1 => ?_) (fun cc1 => ?_))
 ·
  refine RV.m rfl rfl (RV.k rfl rfl (RV.k rfl rfl (RV.s (Step.pick_t rfl rfl) rfl ?_)))
  refine RV.nil (KV.then_n (KV.e6 0 1 2 3 4 26 (CV.cond_t rfl (CV.seq (CV.region ?_)))))
  refine RV.a rfl rfl (RV.a rfl rfl ?_)
  refine RV.nil (KV.then_n (KV.e2 10 11 (CV.ret (KV.then_ret ?_))))
  refine KV.sel [] [] rfl ?_
  exact KV.ret2 rfl rfl rfl _ (fun _ h => h) ⟨fun k => absurd k (fun k => by have h1 := k.n; have h2 := k.b; rw [List.length_map] at h1; omega), fun _ => ⟨rfl, rfl⟩⟩
 ·
  refine RV.m rfl rfl (RV.gw rfl (Step.move rfl) rfl ?_)
  refine RV.op (OV.split (gyes rfl) (Step.gtr rfl rfl) rfl (fun cc2 => ?_) (fun cc2 => ?_))
  ·
   refine RV.s (Step.pick_f rfl rfl) rfl ?_
   refine RV.nil (KV.then_n (KV.e6 0 1 2 3 4 26 (CV.cond_t rfl (CV.seq (CV.region ?_)))))
   refine RV.a rfl rfl (RV.a rfl rfl ?_)
   refine RV.nil (KV.then_n (KV.e2 10 11 (CV.ret (KV.then_ret ?_))))
   refine KV.sel [] [] rfl ?_
   exact KV.ret2 rfl rfl rfl _ (fun _ h => h) ⟨fun k => absurd k (fun k => by have h1 := k.n; have h2 := k.b; rw [List.length_map] at h1; omega), fun _ => ⟨rfl, rfl⟩⟩
  ·
   refine RV.s (Step.pick_f rfl rfl) rfl ?_
   refine RV.nil (KV.then_n (KV.e6 0 1 2 3 4 26 (CV.cond_f rfl (CV.skip (KV.then_n ?_)))))
   refine KV.e5 0 1 2 3 4 (CV.seq (CV.seq (CV.region ?_)))
   refine RV.m rfl rfl (RV.s (Step.lenSl Tryz.underlying22 rfl) rfl ?_)
   refine RV.op (OV.split gno (Step.eql rfl rfl) rfl (fun cc3 => ?_) (fun cc3 => ?_))
   ·
    refine RV.nil (KV.then_n (KV.e6 0 1 2 3 4 29 (CV.cond_t rfl (CV.seq (CV.seq ?_)))))
    refine CV.region ?_
    refine RV.m rfl rfl (RV.s (Step.lenSl Tryz.underlying23 rfl) rfl ?_)
    refine RV.op (OV.split gno (Step.gtr rfl rfl) rfl (fun cc4 => ?_) (fun cc4 => ?_))
    ·
     refine RV.nil (KV.then_n (KV.e2 4 32 (CV.cond_t rfl (CV.seq (CV.region ?_)))))
     refine RV.a rfl rfl (RV.a rfl rfl ?_)
     refine RV.nil (KV.then_n (KV.e2 10 11 (CV.ret (KV.then_ret (KV.then_ret ?_)))))
     refine KV.sel [] [] rfl ?_
     exact KV.ret2 rfl rfl rfl _ (fun _ h => h) ⟨fun k => absurd k (fun k => by have h1 := k.z (by rw [List.length_map]; omega); omega), fun _ => ⟨rfl, rfl⟩⟩
    ·
     refine RV.nil (KV.then_n (KV.e2 4 32 (CV.cond_f rfl (CV.skip (KV.then_n ?_)))))
     refine KV.e1 4 (CV.seq (CV.region ?_))
     refine RV.m rfl rfl (RV.s (Step.build rfl (Bd103_2 _)) rfl ?_)
     refine RV.op (OV.box (t := 103) #[_, _, _, _] rfl rfl gno rfl (fun b6_2 => ?_))
     refine RV.a rfl rfl (RV.a rfl rfl ?_)
     refine RV.nil (KV.then_n (KV.e2 10 11 (CV.ret (KV.then_ret ?_))))
     refine KV.sel [] [] rfl ?_
     exact KV.ret2 rfl rfl rfl _ (fun _ h => h) ⟨fun _ => ⟨fun k => by omega, fun _ => ⟨⟨_, rfl⟩, rfl⟩⟩, fun k => absurd (show NewOk (l.map RB.bd) M base lim bud from ⟨by rw [List.length_map]; omega, by omega, fun _ => by omega, fun i hi => by rw [List.length_map] at hi; omega, fun hi => by rw [List.length_map] at hi; omega⟩) k⟩
   ·
    refine RV.nil (KV.then_n (KV.e6 0 1 2 3 4 29 (CV.cond_f rfl (CV.skip (KV.then_n ?_)))))
    refine KV.e5 0 1 2 3 4 (CV.seq (CV.region ?_))
    refine RV.m rfl rfl (RV.m rfl rfl (RV.s (Step.lenSl Tryz.underlying22 rfl) rfl ?_))
    refine RV.op (OV.make (K := (intK .i64)) (l.length) (l.length) (0) Tryz.underlying56 I2 rfl rfl rfl rfl rfl (by omega) (by omega) (by omega) gno rfl (fun b7_3 => ?_))
    refine RV.s (Step.build rfl (Bd103_2_3 _ _ _ _)) rfl ?_
    refine RV.op (OV.box (t := 103) #[_, _, _, _] rfl rfl gno rfl (fun b7_5 => ?_))
    refine RV.a rfl rfl ?_
    refine RV.nil (KV.then_n (KV.e5 0 1 2 3 12 (CV.seq (CV.region ?_))))
    refine RV.a rfl rfl ?_
    refine RV.nil (KV.then_n (KV.e6 0 1 2 3 12 13 (CV.seq (CV.seq ?_))))
    refine KV.heap (fun w h => ((Hp.nilBig (F := pF) (h.nilOS (e := 108) (K := domK))).nilOS (e := 41) (K := hdK))) ?_
    refine CV.region ?_
    refine RV.m rfl rfl (RV.s (Step.lenSl Tryz.underlying22 rfl) rfl (RV.m rfl rfl ?_))
    refine RV.nil (KV.then_n (KV.e8 1 2 3 12 13 42 43 44 (CV.block ?_)))
    refine KV.sel [1, 0, 0, 0, 0] [_, _, _, _, _] rfl ?_
    refine CV.loop2 (fun (i : Nat) (z : NLg) => (i ≤ l.length ∧ z.ds.length = i) ∧ (∀ k, k < i → okB base lim (l.getD k rbK.d).bd) ∧ z.ds.map (·.x) = ((l.take i).map RB.bd).map (mkD base lim)) (fun (i : Nat) (z : NLg) => l.length - i) (fun (i : Nat) (z : NLg) => [(1, .slice B M.length d), (2, .int .i64 base), (3, .int .i64 lim), (12, .pointer (some ⟨b7_5, 0, none⟩)), (13, .slice z.hA (hdL l i).length z.hc), (42, .slice A l.length c), (43, .int .i64 l.length), (44, .int .i64 i)]) (fun (i : Nat) (z : NLg) => Hp I w [Blk b7_5 (.cells #[.slice z.dA z.ds.length z.dc, .pointer none, .int .u64 bud, .slice b7_3 l.length l.length] 103 (0, 0)), OS 2 (intK .i64) b7_3 l.length (List.replicate l.length 0), OS 108 domK z.dA z.dc z.ds, Big pF z.ds, OS 41 hdK z.hA z.hc (hdL l i)]) (0) (⟨[], none, 0, none, 0⟩) ⟨⟨Nat.zero_le _, rfl⟩, fun k hk => by omega, rfl⟩ ⟨rfl, rfl, rfl, rfl, rfl, rfl, rfl, rfl, trivial⟩ (fun _ h => h) ?_
    intro i z hinv
    refine CV.seq (CV.region ?_)
    refine RV.op (OV.split gno (Step.lss rfl rfl) rfl (fun cc5 => ?_) (fun cc5 => ?_))
    ·
     refine RV.nil (KV.then_n (KV.e9 1 2 3 12 13 42 43 44 45 (CV.seq (CV.cond_t rfl (CV.skip ?_)))))
     refine KV.then_n (KV.e8 1 2 3 12 13 42 43 44 (CV.seq (CV.block (CV.seq (CV.region ?_)))))
     refine RV.s (Step.idx Tryz.underlying22 I45 (fun w h => h.rs hr (fun _ => hI _)) rfl rfl (rfl) _ rfl (by omega)) rfl ?_
     (first | refine RV.op (OV.step gno (Step.loadN _ Tryz.underlying45 rfl I45 rfl rfl (fun w h => h.cells 0 rfl)) rfl ?_) | refine RV.op (OV.step gno (Step.loadN _ Tryz.underlying45 rfl I45 rfl rfl (fun w h => (h.rs hr (fun _ => hI _)).cells (by omega))) rfl ?_))
     refine RV.op (OV.alloc #[.int .i64 0, .int .i64 0, .slice none 0 0, .int .i64 0, .int .i64 0, .int .i64 0, .slice none 0 0] I45 rfl gno rfl (fun b11_2 => ?_))
     refine RV.op (OV.store 5 [_, _, _, _, _, _, _] #[_, _, _, _, _, _, _] I45 rfl rfl rfl rfl rfl (Nat.le_of_ble_eq_true rfl) (by simp [Value.oneCell']) rfl gno ?_)
     refine RV.nil (KV.then_n (KV.e9 1 2 3 12 13 15 42 43 44 (CV.seq (CV.region ?_))))
     refine RV.s (Step.loadN _ Tryz.underlying45 rfl I45 rfl rfl (fun w h => h.cells 5 rfl)) rfl (RV.m rfl rfl (RV.m rfl rfl ?_))
     refine RV.op (OV.call [] (F := [_, _, _, _, _, _]) Tryz.func38 B38 N38 rfl rfl (fun w h => newDomain_fn (l.getD i rbK.d) ⟨h.rs (hp0 i (by omega)).1 (fun _ => hI _), h.rs (hp0 i (by omega)).2 (fun _ => hI _)⟩ (hsz i (by omega)).1 (hsz i (by omega)).2 base lim) (fun _ hb => hb.elim) gno rfl (fun v L' hp => ?_))
     by_cases hB : okB base lim (l.getD i rbK.d).bd
     ·
      skip
      obtain ⟨pd, rfl, hdx, rfl⟩ := hp.1 hB
      refine KV.sel [6, 6, 6, 6, 6, 6, 6, 3, 0, 0, 0, 0, 0] [_, _, _, _, _, _, _, _, _, _, _, _, _] rfl ?_
      refine KV.heap (fun w h => snocD h) ?_
      refine RV.m rfl rfl (RV.s (Step.extract0 rfl rfl) rfl (RV.s (Step.extract0 rfl rfl) rfl ?_))
      refine RV.op (OV.alloc #[.slice none 0 0, .int .i64 0, .int .i64 0, .int .i64 0, .slice none 0 0, .int .u64 0, .int .i64 0, .pointer none, .pointer none, .int .i64 0] I108 rfl gno rfl (fun b12_7 => ?_))
      refine RV.op (OV.store 6 [_, _, _, _, _, _, _, _, _, _] #[_, _, _, _, _, _, _, _, _, _] I108 rfl rfl rfl rfl rfl (Nat.le_of_ble_eq_true rfl) (by simp [Value.oneCell']) rfl gno ?_)
      refine RV.a rfl rfl ?_
      refine RV.nil (KV.then_n (KV.e11 1 2 3 12 13 15 16 17 42 43 44 (CV.seq (CV.seq (CV.region ?_)))))
      refine RV.m rfl rfl (RV.s (Step.not rfl) rfl ?_)
      refine RV.nil (KV.then_n (KV.e11 1 2 3 12 13 15 16 42 43 44 56 (CV.cond_f rfl (CV.skip (KV.then_n ?_)))))
      refine KV.e10 1 2 3 12 13 15 16 42 43 44 (CV.seq ?_)
      refine CV.any (Hp I w [Blk b12_7 (.cells #[.slice pd.A pd.x.ys.length pd.c, .int .i64 pd.x.up, .int .i64 pd.x.dn, .int .i64 pd.x.sm, .slice pd.B pd.x.tr.length pd.e, .int .u64 pd.x.gr, .int .i64 pd.x.ld, .pointer (some ⟨pd.gb, 0, none⟩), .pointer (some ⟨pd.zb, 0, none⟩), .int .i64 pd.x.hi] 108 (0, 0))]) (by kernel_rfl) (fun _ h => h.drew) 11 rfl ?_
      refine AV.u 0 (bl 11 1) rfl gno (Step.move rfl) rfl (fun _ h => h.sel [6] rfl) ?_
      refine AV.u 1 (bl 11 3) rfl gno (Step.move rfl) rfl (fun _ h => h.sel [6] rfl) ?_
      refine AV.u 2 (bl 11 7) rfl gno (Step.nilCheck rfl) rfl (fun _ h => h.sel [6] rfl) ?_
      refine AV.u 3 (bl 11 15) rfl gno (Step.fieldAddr rfl (F103_0 _ _)) rfl (fun _ h => h.sel [6] rfl) ?_
      refine AV.u 5 (bl 11 47) rfl gno (Step.loadN _ Tryz.underlying108 rfl I108 rfl rfl (fun w h => h.cells 0 rfl)) rfl (fun _ h => h.sel [6] rfl) ?_
      refine AV.all [4, 6] (by kernel_rfl) (by decide) ?_
      refine ⟨⟨_, rfl, ?_⟩, ⟨⟨_, rfl, ?_⟩, trivial⟩⟩
      ·
       refine OV.step gno (Step.load Tryz.underlying100 rfl rfl (fun w h => h.cell 1 rfl rfl)) rfl ?_
       refine AV.next (bl 11 63) (by kernel_rfl) (fun _ h => h.sel [6] rfl) ?_
       refine AV.all [6] (by kernel_rfl) (by decide) ?_
       refine ⟨⟨_, rfl, ?_⟩, trivial⟩
       ·
        refine OV.buildSlice (K := domK) ([pd]) rfl (Bs100_1_0 _ _ _ _ _ _ _ _ _ _) rfl rfl (by omega) gno rfl (fun b15_6 => ?_)
        refine AV.next (bl 11 127) (by kernel_rfl) (fun _ h => h.sel [6] rfl) ?_
        refine AV.all [7] (by kernel_rfl) (by decide) ?_
        refine ⟨⟨_, rfl, ?_⟩, trivial⟩
        ·
         refine OV.append 3 Tryz.underlying100 I108 rfl rfl rfl rfl rfl rfl (fun w h => h.os 7 rfl) (by simp only [List.length_cons, List.length_nil]; omega) (by simp only [List.length_cons, List.length_nil]; omega) gno rfl (fun dA2 dc2 => ?_)
         refine AV.next (bl 11 255) (by kernel_rfl) (fun _ h => h.sel [6] rfl) ?_
         refine AV.u 8 (bl 11 511) rfl gno (Step.nilCheck rfl) rfl (fun _ h => h.sel [6] rfl) ?_
         refine AV.u 9 (bl 11 1023) rfl gno (Step.fieldAddr rfl (F103_0 _ _)) rfl (fun _ h => h.sel [6] rfl) ?_
         refine AV.all [10] (by kernel_rfl) (by decide) ?_
         refine ⟨⟨_, rfl, ?_⟩, trivial⟩
         ·
          refine OV.store 1 [_] #[_, _, _, _] I100 rfl rfl rfl rfl rfl (Nat.le_of_ble_eq_true rfl) (by simp [Value.oneCell']) rfl gno ?_
          refine AV.next (bl 11 2047) (by kernel_rfl) (fun _ h => h.sel [6] rfl) ?_
          refine AV.done (by kernel_rfl) ?_
          refine KV.then_n (KV.e9 1 2 3 12 13 15 42 43 44 (CV.region ?_))
          refine RV.m rfl rfl (RV.s (Step.fieldAddr rfl (F45_0 _ _)) rfl (RV.s (Step.loadN _ Tryz.underlying41 rfl I41 rfl rfl (fun w h => h.cellsO 5 0 [.int .i64 (l.getD i rbK.d).h.cap, .int .i64 (l.getD i rbK.d).h.amb] rfl rfl)) rfl ?_))
          refine RV.op (OV.buildSlice (K := hdK) ([(l.getD i rbK.d).h]) rfl (Bs104_1_0 _ _) rfl rfl (by omega) gno rfl (fun b16_3 => ?_))
          refine RV.op (OV.append 4 Tryz.underlying104 I41 rfl rfl rfl rfl rfl rfl (fun w h => h.os 8 rfl) (by have := hdL_len l (i := i) (by omega); simp only [List.length_cons, List.length_nil]; omega) (by have := hdL_len l (i := i) (by omega); simp only [List.length_cons, List.length_nil]; omega) gno rfl (fun hA2 hc2 => ?_))
          refine RV.a rfl rfl ?_
          refine RV.nil (KV.block_n (KV.then_n (KV.e8 1 2 3 12 13 42 43 44 (CV.region ?_))))
          (first | refine RV.op (OV.step gno (Step.add rfl rfl (wI64 (by omega) (by omega))) rfl ?_) | refine RV.op (OV.step gno (Step.add rfl rfl rfl) rfl ?_))
          refine RV.m rfl rfl ?_
          refine RV.nil (KV.then_n (KV.e8 1 2 3 12 13 42 43 44 ?_))
          refine KV.sel [1, 1, 1, 0, 0] [_, _, _, _, _] rfl ?_
          exact KV.loop2 (x := i) (y := z) (i + 1) (⟨z.ds ++ [pd], dA2, dc2, hA2, hc2⟩) ⟨⟨by omega, by rw [List.length_append]; have := hinv.1.2; simp; omega⟩, fun k hk => by by_cases e : k = i; (subst e; exact hB); exact hinv.2.1 k (by omega), by rw [mk_succ l (by omega), List.map_append, hinv.2.2, ← hdx]; rfl⟩ (by omega) ⟨rfl, rfl, rfl, rfl, (show some (Value.slice _ _ _) = some (Value.slice _ _ _) by rw [hdL_succ l (by omega)]), rfl, rfl, rfl, trivial⟩ (fun _ h => by rw [hdL_succ l (by omega)]; exact h)
      ·
       refine OV.buildSlice (K := domK) ([pd]) rfl (Bs100_1_0 _ _ _ _ _ _ _ _ _ _) rfl rfl (by omega) gno rfl (fun b15_6 => ?_)
       refine AV.next (bl 11 111) (by kernel_rfl) (fun _ h => h.sel [6] rfl) ?_
       refine AV.all [4] (by kernel_rfl) (by decide) ?_
       refine ⟨⟨_, rfl, ?_⟩, trivial⟩
       ·
        refine OV.step gno (Step.load Tryz.underlying100 rfl rfl (fun w h => h.cell 1 rfl rfl)) rfl ?_
        refine AV.next (bl 11 127) (by kernel_rfl) (fun _ h => h.sel [6] rfl) ?_
        refine AV.all [7] (by kernel_rfl) (by decide) ?_
        refine ⟨⟨_, rfl, ?_⟩, trivial⟩
        ·
         refine OV.append 3 Tryz.underlying100 I108 rfl rfl rfl rfl rfl rfl (fun w h => h.os 7 rfl) (by simp only [List.length_cons, List.length_nil]; omega) (by simp only [List.length_cons, List.length_nil]; omega) gno rfl (fun dA2 dc2 => ?_)
         refine AV.next (bl 11 255) (by kernel_rfl) (fun _ h => h.sel [6] rfl) ?_
         refine AV.u 8 (bl 11 511) rfl gno (Step.nilCheck rfl) rfl (fun _ h => h.sel [6] rfl) ?_
         refine AV.u 9 (bl 11 1023) rfl gno (Step.fieldAddr rfl (F103_0 _ _)) rfl (fun _ h => h.sel [6] rfl) ?_
         refine AV.all [10] (by kernel_rfl) (by decide) ?_
         refine ⟨⟨_, rfl, ?_⟩, trivial⟩
         ·
          refine OV.store 1 [_] #[_, _, _, _] I100 rfl rfl rfl rfl rfl (Nat.le_of_ble_eq_true rfl) (by simp [Value.oneCell']) rfl gno ?_
          refine AV.next (bl 11 2047) (by kernel_rfl) (fun _ h => h.sel [6] rfl) ?_
          refine AV.done (by kernel_rfl) ?_
          refine KV.then_n (KV.e9 1 2 3 12 13 15 42 43 44 (CV.region ?_))
          refine RV.m rfl rfl (RV.s (Step.fieldAddr rfl (F45_0 _ _)) rfl (RV.s (Step.loadN _ Tryz.underlying41 rfl I41 rfl rfl (fun w h => h.cellsO 5 0 [.int .i64 (l.getD i rbK.d).h.cap, .int .i64 (l.getD i rbK.d).h.amb] rfl rfl)) rfl ?_))
          refine RV.op (OV.buildSlice (K := hdK) ([(l.getD i rbK.d).h]) rfl (Bs104_1_0 _ _) rfl rfl (by omega) gno rfl (fun b16_3 => ?_))
          refine RV.op (OV.append 4 Tryz.underlying104 I41 rfl rfl rfl rfl rfl rfl (fun w h => h.os 8 rfl) (by have := hdL_len l (i := i) (by omega); simp only [List.length_cons, List.length_nil]; omega) (by have := hdL_len l (i := i) (by omega); simp only [List.length_cons, List.length_nil]; omega) gno rfl (fun hA2 hc2 => ?_))
          refine RV.a rfl rfl ?_
          refine RV.nil (KV.block_n (KV.then_n (KV.e8 1 2 3 12 13 42 43 44 (CV.region ?_))))
          (first | refine RV.op (OV.step gno (Step.add rfl rfl (wI64 (by omega) (by omega))) rfl ?_) | refine RV.op (OV.step gno (Step.add rfl rfl rfl) rfl ?_))
          refine RV.m rfl rfl ?_
          refine RV.nil (KV.then_n (KV.e8 1 2 3 12 13 42 43 44 ?_))
          refine KV.sel [1, 1, 1, 0, 0] [_, _, _, _, _] rfl ?_
          exact KV.loop2 (x := i) (y := z) (i + 1) (⟨z.ds ++ [pd], dA2, dc2, hA2, hc2⟩) ⟨⟨by omega, by rw [List.length_append]; have := hinv.1.2; simp; omega⟩, fun k hk => by by_cases e : k = i; (subst e; exact hB); exact hinv.2.1 k (by omega), by rw [mk_succ l (by omega), List.map_append, hinv.2.2, ← hdx]; rfl⟩ (by omega) ⟨rfl, rfl, rfl, rfl, (show some (Value.slice _ _ _) = some (Value.slice _ _ _) by rw [hdL_succ l (by omega)]), rfl, rfl, rfl, trivial⟩ (fun _ h => by rw [hdL_succ l (by omega)]; exact h)
     ·
      skip
      obtain ⟨⟨A9, n9, c9, up, dn, sm, B9, m9, e9, gr, ld, gp, zp, hi9, rfl⟩, rfl⟩ := hp.2 hB
      simp only [List.append_nil]
      refine RV.m rfl rfl (RV.s (Step.extract0 rfl rfl) rfl (RV.s (Step.extract0 rfl rfl) rfl ?_))
      refine RV.op (OV.alloc #[.slice none 0 0, .int .i64 0, .int .i64 0, .int .i64 0, .slice none 0 0, .int .u64 0, .int .i64 0, .pointer none, .pointer none, .int .i64 0] I108 rfl gno rfl (fun b12_7 => ?_))
      refine RV.op (OV.store 6 [_, _, _, _, _, _, _, _, _, _] #[_, _, _, _, _, _, _, _, _, _] I108 rfl rfl rfl rfl rfl (Nat.le_of_ble_eq_true rfl) (by simp [Value.oneCell']) rfl gno ?_)
      refine RV.a rfl rfl ?_
      refine RV.nil (KV.then_n (KV.e11 1 2 3 12 13 15 16 17 42 43 44 (CV.seq (CV.seq (CV.region ?_)))))
      refine RV.m rfl rfl (RV.s (Step.not rfl) rfl ?_)
      refine RV.nil (KV.then_n (KV.e11 1 2 3 12 13 15 16 42 43 44 56 (CV.cond_t rfl (CV.seq (CV.region ?_)))))
      refine RV.a rfl rfl (RV.a rfl rfl ?_)
      refine RV.nil (KV.then_n (KV.e2 10 11 (CV.ret (KV.then_ret (KV.block_ret ?_)))))
      refine KV.then_ret (KV.then_ret (KV.block_ret (KV.then_ret ?_)))
      refine KV.sel [] [] rfl ?_
      exact KV.ret2 rfl rfl rfl _ (fun _ h => h) ⟨fun k => absurd k (fun k => hB (by have h1 := k.d i (by rw [List.length_map]; omega); rwa [bd_at l (by omega)] at h1)), fun _ => ⟨rfl, rfl⟩⟩
    ·
     refine RV.nil (KV.then_n (KV.e9 1 2 3 12 13 42 43 44 45 (CV.seq (CV.cond_f rfl (CV.exit ?_)))))
     refine KV.then_exit (KV.then_exit (KV.block_hit (KV.then_n (KV.e4 1 2 12 13 (CV.seq ?_)))))
     obtain rfl : i = l.length := by omega
     rw [hdL_end]
     refine CV.region ?_
     refine RV.m rfl rfl (RV.m rfl rfl (RV.m rfl rfl ?_))
     refine RV.op (OV.call [] (F := [_, _, _, _, _]) Tryz.func39 B39 N39 rfl rfl (fun w h => heatNew_fn (h.os 4 rfl) rfl (by simp; omega) (h.rs hr2 (fun _ => hI _)) rfl hl2 base) (fun _ hb => hb.elim) gno rfl (fun v L' hp => ?_))
     by_cases hv : Vld ((l.map RB.bd).map (·.h)) M base
     ·
      skip
      obtain ⟨ma, rfl, rfl⟩ := hp.1 hv
      refine RV.m rfl rfl (RV.s (Step.extract0 rfl rfl) rfl (RV.s (Step.extract0 rfl rfl) rfl (RV.a rfl rfl (RV.a rfl rfl ?_))))
      refine RV.nil (KV.then_n (KV.e3 12 18 19 (CV.seq (CV.seq (CV.region ?_)))))
      refine RV.m rfl rfl (RV.s (Step.neq rfl rfl) rfl ?_)
      refine RV.nil (KV.then_n (KV.e3 12 18 81 (CV.cond_f rfl (CV.skip (KV.then_n ?_)))))
      refine KV.e2 12 18 (CV.seq (CV.region ?_))
      refine RV.m rfl rfl (RV.m rfl rfl (RV.s (Step.nilCheck rfl) rfl (RV.s (Step.fieldAddr rfl (F103_1 _ _)) rfl ?_)))
      refine RV.op (OV.store 0 [_] #[_, _, _, _] I101 rfl rfl rfl rfl rfl (Nat.le_of_ble_eq_true rfl) (by simp [Value.oneCell']) rfl gno ?_)
      refine RV.nil (KV.then_n (KV.e1 12 (CV.seq (CV.region ?_))))
      refine RV.m rfl rfl (RV.a rfl rfl (RV.a rfl rfl ?_))
      refine RV.nil (KV.then_n (KV.e2 10 11 (CV.ret ?_)))
      refine KV.sel [0, 1, 1, 2, 2, 2, 2, 0] [_, _, _, _, _, _, _, _] rfl ?_
      have hok : NewOk (l.map RB.bd) M base lim bud := ⟨by rw [List.length_map]; omega, by omega, fun hz => by rw [List.length_map] at hz; omega, fun i hi => by rw [List.length_map] at hi; rw [bd_at l hi]; exact hinv.2.1 i hi, fun _ => hv⟩
      obtain ⟨t, ht⟩ : ∃ t : PT, t = ⟨⟨b7_5, z.dA, z.dc, ma, b7_3, l.length⟩, z.ds, (l.map RB.bd).map (·.h), M, base, ((l.map RB.bd).map (·.h)).map fun x => x.cap * base, 0, bud, List.replicate l.length 0⟩ := ⟨_, rfl⟩
      exact KV.ret2 rfl rfl rfl (tobj t) (fun _ h => by subst ht; exact tobj_of _ rfl hinv.1.2.symm h) ⟨fun _ => ⟨fun _ => ⟨t, by rw [ht], by rw [ht]; exact newT_eq hinv.2.2 rfl rfl rfl rfl rfl rfl rfl, rfl⟩, fun k => by omega⟩, fun k => absurd hok k⟩
     ·
      skip
      obtain ⟨rfl, rfl⟩ := hp.2 hv
      simp only [List.append_nil]
      refine RV.m rfl rfl (RV.s (Step.extract0 rfl rfl) rfl (RV.s (Step.extract0 rfl rfl) rfl (RV.a rfl rfl (RV.a rfl rfl ?_))))
      refine RV.nil (KV.then_n (KV.e3 12 18 19 (CV.seq (CV.seq (CV.region ?_)))))
      refine RV.m rfl rfl (RV.s (Step.neq rfl rfl) rfl ?_)
      refine RV.nil (KV.then_n (KV.e3 12 18 81 (CV.cond_t rfl (CV.seq (CV.region ?_)))))
      refine RV.a rfl rfl (RV.a rfl rfl ?_)
      refine RV.nil (KV.then_n (KV.e2 10 11 (CV.ret (KV.then_ret ?_))))
      refine KV.sel [] [] rfl ?_
      exact KV.ret2 rfl rfl rfl _ (fun _ h => h) ⟨fun k => absurd k (fun k => hv (k.v (by rw [List.length_map]; omega))), fun _ => ⟨rfl, rfl⟩⟩
end Go.Proofs.YtdfkpdcpegcieaaGreatDoor
