/-
 Walks, part 4.
-/
import Derived.Test.YtdfkpdcpegcieaaGreatDoorTabA
import Derived.Test.YtdfkpdcpegcieaaGreatDoorW3
import Derived.Test.YtdfkpdcpegcieaaGreatDoorObA
set_option linter.unusedSimpArgs false
set_option linter.unusedVariables false
namespace Go.Proofs.YtdfkpdcpegcieaaGreatDoor
open Go.Sv Go.Perf Go.Ctl
theorem new1_fn {A : Option Addr} {n c : Nat} {ys : List Pt} {w : World} (hr : RS w ptK A ys) (hn : n = ys.length) (hl : ys.length ≤ 1000000) (u d s : Int) : Fx Tryz.prog 88 [.slice A n c, .agg #[.int .i64 u, .int .i64 d, .int .i64 s]] w [] no (fun v L => (newE ys u d s = 0 → ∃ b A2 c2, v = .tuple #[.pointer (some ⟨b, 0, none⟩), .int .i64 0] ∧ L = gobj 223 b A2 c2 (gov0 ys u d s)) ∧ (newE ys u d s ≠ 0 → v = .tuple #[.pointer none, .int .i64 1] ∧ L = [])) :=
 (new_fn hr hn hl u d s).mono fun v L hp => ⟨hp.1, fun h => by have h2 := hp.2 h; rw [(newE_cases ys u d s).resolve_left h] at h2; exact h2⟩

set_option maxRecDepth 100000 in
set_option maxHeartbeats 1000000 in
theorem restart_fn (b : Nat) (A : Option Addr) (c : Nat) (ys : List Pt) (up dn sm : Int) (B : Option Addr) (e : Nat) (tr : List Trp) (gr ld : Int) (gp zp : Option Addr) (hi : Int) (hl : ys.length ≤ 1000000) (hl2 : tr.length ≤ 1000000) {w : World} : Fx Tryz.prog 53 [.pointer (some ⟨b, 0, none⟩)] w [Blk b (.cells #[.slice A ys.length c, .int .i64 up, .int .i64 dn, .int .i64 sm, .slice B tr.length e, .int .u64 gr, .int .i64 ld, .pointer gp, .pointer zp, .int .i64 hi] 108 (0, 0)), OS 61 ptK A c ys, OS 190 trK B e tr] no (fun v L => (newE ys up dn sm = 0 ∧ chkT tr = 0 → v = .bool true ∧ ∃ bg Ag cg bz Az cz oA oc, L = [Blk b (.cells #[.slice A ys.length c, .int .i64 up, .int .i64 dn, .int .i64 sm, .slice B tr.length e, .int .u64 gr, .int .i64 ld, .pointer (some ⟨bg, 0, none⟩), .pointer (some ⟨bz, 0, none⟩), .int .i64 ((ys.length - 1 : Nat) : Int)] 108 (0, 0)), OS 61 ptK A c ys, OS 190 trK B e tr] ++ gobj 223 bg Ag cg (gov0 ys up dn sm) ++ zobj bz Az cz oA oc (zn0 tr 16)) ∧ (¬ (newE ys up dn sm = 0 ∧ chkT tr = 0) → v = .bool false ∧ L = [Blk b (.cells #[.slice A ys.length c, .int .i64 up, .int .i64 dn, .int .i64 sm, .slice B tr.length e, .int .u64 gr, .int .i64 ld, .pointer gp, .pointer zp, .int .i64 hi] 108 (0, 0)), OS 61 ptK A c ys, OS 190 trK B e tr])) := by
 refine Sv.Fx.body Tryz.func53 rfl T53 rfl ?_
 intro I hro hI
 refine KV.e1 0 (CV.seq (CV.region ?_))
 refine RV.a rfl rfl ?_
 refine RV.nil (KV.then_n (KV.e1 0 (CV.seq ?_)))
 refine CV.any (Hp I w [Blk b (.cells #[.slice A ys.length c, .int .i64 up, .int .i64 dn, .int .i64 sm, .slice B tr.length e, .int .u64 gr, .int .i64 ld, .pointer gp, .pointer zp, .int .i64 hi] 108 (0, 0))]) (by kernel_rfl) (fun _ h => h.drew) 14 rfl ?_
 refine AV.u 0 (bl 14 1) rfl gno (Step.move rfl) rfl (fun _ h => h.sel [0] rfl) ?_
 refine AV.u 1 (bl 14 3) rfl gno (Step.nilCheck rfl) rfl (fun _ h => h.sel [0] rfl) ?_
 refine AV.u 2 (bl 14 7) rfl gno (Step.fieldAddr rfl (F108_0 _ _)) rfl (fun _ h => h.sel [0] rfl) ?_
 refine AV.u 3 (bl 14 15) rfl gno (Step.load Tryz.underlying42 rfl rfl (fun w h => h.cell 0 rfl rfl)) rfl (fun _ h => h.sel [0] rfl) ?_
 refine AV.u 4 (bl 14 31) rfl gno (Step.move rfl) rfl (fun _ h => h.sel [0] rfl) ?_
 refine AV.u 5 (bl 14 63) rfl gno (Step.nilCheck rfl) rfl (fun _ h => h.sel [0] rfl) ?_
 refine AV.u 6 (bl 14 127) rfl gno (Step.fieldAddr rfl (F108_1 _ _)) rfl (fun _ h => h.sel [0] rfl) ?_
 refine AV.u 7 (bl 14 255) rfl gno (Step.loadN _ Tryz.underlying39 rfl I39 rfl rfl (fun w h => h.cellsO 0 1 [.int .i64 up, .int .i64 dn, .int .i64 sm] rfl rfl)) rfl (fun _ h => h.sel [0] rfl) ?_
 refine AV.all [8] (by kernel_rfl) (by decide) ?_
 refine ⟨⟨_, rfl, ?_⟩, trivial⟩
 ·
  refine OV.call [] (F := [_, _, _]) Tryz.func88 B88 N88 rfl rfl (fun w h => new1_fn (h.os 1 rfl) rfl hl up dn sm) (fun _ hb => hb.elim) gno rfl (fun v L' hp => ?_)
  by_cases hE : newE ys up dn sm = 0
  ·
   skip
   obtain ⟨bg, Ag, cg, rfl, rfl⟩ := hp.1 hE
   refine AV.next (bl 14 511) (by kernel_rfl) (fun _ h => h.sel [0] rfl) ?_
   refine AV.u 9 (bl 14 1023) rfl gno (Step.move rfl) rfl (fun _ h => h.sel [0] rfl) ?_
   refine AV.u 10 (bl 14 2047) rfl gno (Step.extract0 rfl rfl) rfl (fun _ h => h.sel [0] rfl) ?_
   refine AV.u 11 (bl 14 4095) rfl gno (Step.extract0 rfl rfl) rfl (fun _ h => h.sel [0] rfl) ?_
   refine AV.u 12 (bl 14 8191) rfl gno (Step.assign rfl) rfl (fun _ h => h.sel [0] rfl) ?_
   refine AV.u 13 (bl 14 16383) rfl gno (Step.assign rfl) rfl (fun _ h => h.sel [0] rfl) ?_
   refine AV.done (by kernel_rfl) ?_
   refine KV.then_n (KV.e3 0 3 4 (CV.seq (CV.seq (CV.region ?_))))
   refine RV.m rfl rfl (RV.s (Step.neq rfl rfl) rfl ?_)
   refine RV.nil (KV.then_n (KV.e3 0 3 19 (CV.cond_f rfl (CV.skip (KV.then_n ?_)))))
   refine KV.e2 0 3 (CV.seq (CV.region ?_))
   refine RV.m rfl rfl (RV.s (Step.nilCheck rfl) rfl (RV.s (Step.fieldAddr rfl (F108_2 _ _)) rfl (RV.s (Step.load Tryz.underlying43 rfl rfl (fun w h => h.cell 0 rfl rfl)) rfl ?_)))
   refine RV.op (OV.call [] (F := [_, _, _, _, _]) Tryz.func89 B89 N89 rfl rfl (fun w h => newZone_fn (h.os 2 rfl) rfl hl2 16 (by decide) (by decide)) (fun _ hb => hb.elim) gno rfl (fun v L' hp => ?_))
   by_cases hT : chkT tr = 0
   ·
    skip
    obtain ⟨bz, Az, cz, oA, oc, rfl, rfl⟩ := hp.1 hT
    refine RV.m rfl rfl (RV.s (Step.extract0 rfl rfl) rfl (RV.s (Step.extract0 rfl rfl) rfl (RV.a rfl rfl (RV.a rfl rfl ?_))))
    refine RV.nil (KV.then_n (KV.e4 0 3 4 5 (CV.seq (CV.seq (CV.region ?_)))))
    refine RV.m rfl rfl (RV.s (Step.neq rfl rfl) rfl ?_)
    refine RV.nil (KV.then_n (KV.e4 0 3 5 29 (CV.cond_f rfl (CV.skip (KV.then_n ?_)))))
    refine KV.e3 0 3 5 (CV.seq ?_)
    have hpos : 1 ≤ ys.length := (gov0_ok hE).t.1.1
    refine CV.region ?_
    refine RV.m rfl rfl (RV.m rfl rfl (RV.m rfl rfl (RV.m rfl rfl (RV.m rfl rfl (RV.m rfl rfl (RV.s (Step.nilCheck rfl) rfl (RV.s (Step.fieldAddr rfl (F108_0 _ _)) rfl ?_)))))))
    refine RV.s (Step.load Tryz.underlying42 rfl rfl (fun w h => h.cell 0 rfl rfl)) rfl (RV.s (Step.lenSl Tryz.underlying42 rfl) rfl ?_)
    refine RV.s (Step.sub rfl rfl ((show IntKind.i64.wrap ((ys.length : Int) - 1) = ((ys.length - 1 : Nat) : Int) by rw [wI64 (by omega) (by omega)]; omega))) rfl ?_
    refine RV.s (Step.nilCheck rfl) rfl (RV.s (Step.fieldAddr rfl (F108_5 _ _)) rfl ?_)
    refine RV.op (OV.store 0 [_] #[_, _, _, _, _, _, _, _, _, _] I105 rfl rfl rfl rfl rfl (Nat.le_of_ble_eq_true rfl) (by simp [Value.oneCell']) rfl gno ?_)
    refine RV.s (Step.nilCheck rfl) rfl (RV.s (Step.fieldAddr rfl (F108_6 _ _)) rfl ?_)
    refine RV.op (OV.store 0 [_] #[_, _, _, _, _, _, _, _, _, _] I106 rfl rfl rfl rfl rfl (Nat.le_of_ble_eq_true rfl) (by simp [Value.oneCell']) rfl gno ?_)
    refine RV.s (Step.nilCheck rfl) rfl (RV.s (Step.fieldAddr rfl (F108_7 _ _)) rfl ?_)
    refine RV.op (OV.store 0 [_] #[_, _, _, _, _, _, _, _, _, _] I3 rfl rfl rfl rfl rfl (Nat.le_of_ble_eq_true rfl) (by simp [Value.oneCell']) rfl gno ?_)
    refine RV.nil (KV.then_n (KV.env [] trivial (CV.seq (CV.region ?_))))
    refine RV.a rfl rfl ?_
    refine RV.nil (KV.then_n (KV.e1 2 (CV.ret ?_)))
    refine KV.sel [0, 0, 0, 0, 0, 0, 0, 0] [_, _, _, _, _, _, _, _] rfl ?_
    exact KV.ret1 rfl rfl _ (fun _ h => h) ⟨fun _ => ⟨rfl, _, _, _, _, _, _, _, _, rfl⟩, fun k => absurd ⟨hE, hT⟩ k⟩
   ·
    skip
    obtain ⟨rfl, rfl⟩ := hp.2 hT
    simp only [List.append_nil]
    refine RV.m rfl rfl (RV.s (Step.extract0 rfl rfl) rfl (RV.s (Step.extract0 rfl rfl) rfl (RV.a rfl rfl (RV.a rfl rfl ?_))))
    refine RV.nil (KV.then_n (KV.e4 0 3 4 5 (CV.seq (CV.seq (CV.region ?_)))))
    refine RV.m rfl rfl (RV.s (Step.neq rfl rfl) rfl ?_)
    refine RV.nil (KV.then_n (KV.e4 0 3 5 29 (CV.cond_t rfl (CV.seq (CV.region ?_)))))
    refine RV.a rfl rfl ?_
    refine RV.nil (KV.then_n (KV.e1 2 (CV.ret (KV.then_ret ?_))))
    refine KV.sel [0, 0, 0] [_, _, _] rfl ?_
    exact KV.ret1 rfl rfl _ (fun _ h => h) ⟨fun k => absurd k.2 hT, fun _ => ⟨rfl, rfl⟩⟩
  ·
   skip
   obtain ⟨rfl, rfl⟩ := hp.2 hE
   simp only [List.append_nil]
   refine AV.next (bl 14 511) (by kernel_rfl) (fun _ h => h.sel [0] rfl) ?_
   refine AV.u 9 (bl 14 1023) rfl gno (Step.move rfl) rfl (fun _ h => h.sel [0] rfl) ?_
   refine AV.u 10 (bl 14 2047) rfl gno (Step.extract0 rfl rfl) rfl (fun _ h => h.sel [0] rfl) ?_
   refine AV.u 11 (bl 14 4095) rfl gno (Step.extract0 rfl rfl) rfl (fun _ h => h.sel [0] rfl) ?_
   refine AV.u 12 (bl 14 8191) rfl gno (Step.assign rfl) rfl (fun _ h => h.sel [0] rfl) ?_
   refine AV.u 13 (bl 14 16383) rfl gno (Step.assign rfl) rfl (fun _ h => h.sel [0] rfl) ?_
   refine AV.done (by kernel_rfl) ?_
   refine KV.then_n (KV.e3 0 3 4 (CV.seq (CV.seq (CV.region ?_))))
   refine RV.m rfl rfl (RV.s (Step.neq rfl rfl) rfl ?_)
   refine RV.nil (KV.then_n (KV.e3 0 3 19 (CV.cond_t rfl (CV.seq (CV.region ?_)))))
   refine RV.a rfl rfl ?_
   refine RV.nil (KV.then_n (KV.e1 2 (CV.ret (KV.then_ret ?_))))
   refine KV.sel [0, 0, 0] [_, _, _] rfl ?_
   exact KV.ret1 rfl rfl _ (fun _ h => h) ⟨fun k => absurd k.1 hE, fun _ => ⟨rfl, rfl⟩⟩

set_option maxRecDepth 100000 in
set_option maxHeartbeats 1000000 in
theorem restartE_fn (dA : Option Addr) (dc : Nat) (ds : List PD) {i : Nat} (hi : i < ds.length) (hE : newE (ds.getD i domK.d).x.ys (ds.getD i domK.d).x.up (ds.getD i domK.d).x.dn (ds.getD i domK.d).x.sm = 0) (hT : chkT (ds.getD i domK.d).x.tr = 0) (hl : (ds.getD i domK.d).x.ys.length ≤ 1000000) (hl2 : (ds.getD i domK.d).x.tr.length ≤ 1000000) {w : World} : Fx Tryz.prog 53 [.pointer (some ⟨bk dA, of dA + i * domK.sz, none⟩)] w [OS 108 domK dA dc ds, OS 61 ptK (ds.getD i domK.d).A (ds.getD i domK.d).c (ds.getD i domK.d).x.ys, OS 190 trK (ds.getD i domK.d).B (ds.getD i domK.d).e (ds.getD i domK.d).x.tr] no (fun v L => v = .bool true ∧ ∃ bg Ag cg bz Az cz oA oc, L = OS 108 domK dA dc (ds.set i (resP (ds.getD i domK.d) bg Ag cg bz Az cz oA oc)) :: pobj (resP (ds.getD i domK.d) bg Ag cg bz Az cz oA oc)) := by
 refine Sv.Fx.body Tryz.func53 rfl T53 rfl ?_
 intro I hro hI
 refine KV.e1 0 (CV.seq (CV.region ?_))
 refine RV.a rfl rfl ?_
 refine RV.nil (KV.then_n (KV.e1 0 (CV.seq ?_)))
 refine CV.any (Hp I w [OS 108 domK dA dc ds]) (by kernel_rfl) (fun _ h => h.drew) 14 rfl ?_
 refine AV.u 0 (bl 14 1) rfl gno (Step.move rfl) rfl (fun _ h => h.sel [0] rfl) ?_
 refine AV.u 1 (bl 14 3) rfl gno (Step.nilCheck rfl) rfl (fun _ h => h.sel [0] rfl) ?_
 refine AV.u 2 (bl 14 7) rfl gno (Step.fieldAddr rfl (F108_0 _ _)) rfl (fun _ h => h.sel [0] rfl) ?_
 refine AV.u 3 (bl 14 15) rfl gno (Step.load Tryz.underlying42 rfl rfl (fun w h => (h.os 0 rfl).cell0 hi rfl)) rfl (fun _ h => h.sel [0] rfl) ?_
 refine AV.u 4 (bl 14 31) rfl gno (Step.move rfl) rfl (fun _ h => h.sel [0] rfl) ?_
 refine AV.u 5 (bl 14 63) rfl gno (Step.nilCheck rfl) rfl (fun _ h => h.sel [0] rfl) ?_
 refine AV.u 6 (bl 14 127) rfl gno (Step.fieldAddr rfl (F108_1 _ _)) rfl (fun _ h => h.sel [0] rfl) ?_
 refine AV.u 7 (bl 14 255) rfl gno (Step.loadN _ Tryz.underlying39 rfl I39 rfl rfl (fun w h => dom_par (h.os 0 rfl) hi)) rfl (fun _ h => h.sel [0] rfl) ?_
 refine AV.all [8] (by kernel_rfl) (by decide) ?_
 refine ⟨⟨_, rfl, ?_⟩, trivial⟩
 ·
  refine OV.call [] (F := [_, _, _]) Tryz.func88 B88 N88 rfl rfl (fun w h => new_fn (h.os 1 rfl) rfl hl _ _ _) (fun _ hb => hb.elim) gno rfl (fun v L' hp => ?_)
  obtain ⟨bg, Ag, cg, rfl, rfl⟩ := hp.1 hE
  refine AV.next (bl 14 511) (by kernel_rfl) (fun _ h => h.sel [0] rfl) ?_
  refine AV.u 9 (bl 14 1023) rfl gno (Step.move rfl) rfl (fun _ h => h.sel [0] rfl) ?_
  refine AV.u 10 (bl 14 2047) rfl gno (Step.extract0 rfl rfl) rfl (fun _ h => h.sel [0] rfl) ?_
  refine AV.u 11 (bl 14 4095) rfl gno (Step.extract0 rfl rfl) rfl (fun _ h => h.sel [0] rfl) ?_
  refine AV.u 12 (bl 14 8191) rfl gno (Step.assign rfl) rfl (fun _ h => h.sel [0] rfl) ?_
  refine AV.u 13 (bl 14 16383) rfl gno (Step.assign rfl) rfl (fun _ h => h.sel [0] rfl) ?_
  refine AV.done (by kernel_rfl) ?_
  refine KV.then_n (KV.e3 0 3 4 (CV.seq (CV.seq (CV.region ?_))))
  refine RV.m rfl rfl (RV.s (Step.neq rfl rfl) rfl ?_)
  refine RV.nil (KV.then_n (KV.e3 0 3 19 (CV.cond_f rfl (CV.skip (KV.then_n ?_)))))
  refine KV.e2 0 3 (CV.seq (CV.region ?_))
  refine RV.m rfl rfl (RV.s (Step.nilCheck rfl) rfl (RV.s (Step.fieldAddr rfl (F108_2 _ _)) rfl (RV.s (Step.load Tryz.underlying43 rfl rfl (fun w h => (h.os 0 rfl).cell hi rfl)) rfl ?_)))
  refine RV.op (OV.call [] (F := [_, _, _, _, _]) Tryz.func89 B89 N89 rfl rfl (fun w h => newZone_fn (h.os 2 rfl) rfl hl2 16 (by decide) (by decide)) (fun _ hb => hb.elim) gno rfl (fun v L' hp => ?_))
  obtain ⟨bz, Az, cz, oA, oc, rfl, rfl⟩ := hp.1 hT
  refine RV.m rfl rfl (RV.s (Step.extract0 rfl rfl) rfl (RV.s (Step.extract0 rfl rfl) rfl (RV.a rfl rfl (RV.a rfl rfl ?_))))
  refine RV.nil (KV.then_n (KV.e4 0 3 4 5 (CV.seq (CV.seq (CV.region ?_)))))
  refine RV.m rfl rfl (RV.s (Step.neq rfl rfl) rfl ?_)
  refine RV.nil (KV.then_n (KV.e4 0 3 5 29 (CV.cond_f rfl (CV.skip (KV.then_n ?_)))))
  refine KV.e3 0 3 5 (CV.seq ?_)
  have hpos : 1 ≤ (ds.getD i domK.d).x.ys.length := (gov0_ok hE).t.1.1
  refine CV.region ?_
  refine RV.m rfl rfl (RV.m rfl rfl (RV.m rfl rfl (RV.m rfl rfl (RV.m rfl rfl (RV.m rfl rfl (RV.s (Step.nilCheck rfl) rfl (RV.s (Step.fieldAddr rfl (F108_0 _ _)) rfl ?_)))))))
  refine RV.s (Step.load Tryz.underlying42 rfl rfl (fun w h => (h.os 0 rfl).cell0 hi rfl)) rfl (RV.s (Step.lenSl Tryz.underlying42 rfl) rfl ?_)
  refine RV.s (Step.sub rfl rfl ((show IntKind.i64.wrap (((ds.getD i domK.d).x.ys.length : Int) - 1) = (((ds.getD i domK.d).x.ys.length - 1 : Nat) : Int) by rw [wI64 (by omega) (by omega)]; omega))) rfl ?_
  refine RV.s (Step.nilCheck rfl) rfl (RV.s (Step.fieldAddr rfl (F108_5 _ _)) rfl ?_)
  refine RV.op (OV.storeE 0 (i) ({ (ds.getD i domK.d) with gb := bg }) (j := 7) [_] I105 rfl rfl rfl rfl rfl rfl (by exact hi) rfl (Nat.le_of_ble_eq_true rfl) gno ?_)
  refine RV.s (Step.nilCheck rfl) rfl (RV.s (Step.fieldAddr rfl (F108_6 _ _)) rfl ?_)
  refine RV.op (OV.storeE 0 (i) ({ (ds.getD i domK.d) with gb := bg, zb := bz }) (j := 8) [_] I106 rfl rfl rfl rfl rfl rfl (by rw [List.length_set]; exact hi) (by rw [getD_set_pd _ hi]; rfl) (Nat.le_of_ble_eq_true rfl) gno ?_)
  refine RV.s (Step.nilCheck rfl) rfl (RV.s (Step.fieldAddr rfl (F108_7 _ _)) rfl ?_)
  refine RV.op (OV.storeE 0 (i) (resP (ds.getD i domK.d) bg Ag cg bz Az cz oA oc) (j := 9) [_] I3 rfl rfl rfl rfl rfl rfl (by simp only [List.length_set]; exact hi) (by rw [getD_set_pd _ (by rw [List.length_set]; exact hi)]; rfl) (Nat.le_of_ble_eq_true rfl) gno ?_)
  refine RV.nil (KV.then_n (KV.env [] trivial (CV.seq (CV.region ?_))))
  refine RV.a rfl rfl ?_
  refine RV.nil (KV.then_n (KV.e1 2 (CV.ret ?_)))
  refine KV.sel [0, 0, 0, 0, 0, 0, 0, 0] [_, _, _, _, _, _, _, _] rfl ?_
  exact KV.ret1 rfl rfl (OS 108 domK dA dc (ds.set i (resP (ds.getD i domK.d) bg Ag cg bz Az cz oA oc)) :: pobj (resP (ds.getD i domK.d) bg Ag cg bz Az cz oA oc)) (fun _ h => by simp only [List.set, List.set_set] at h; exact h) ⟨rfl, _, _, _, _, _, _, _, _, rfl⟩

set_option maxRecDepth 100000 in
set_option maxHeartbeats 1000000 in
theorem newDomain_fn (r : RB) {w : World} (hr : r.rs w) (hl : r.ys.length ≤ 1000000) (hl2 : r.tr.length ≤ 1000000) (base lim : Int) : Fx Tryz.prog 38 [.agg #[.int .i64 r.h.cap, .int .i64 r.h.amb, .slice r.A r.ys.length r.c, .int .i64 r.up, .int .i64 r.dn, .int .i64 r.sm, .slice r.B r.tr.length r.e], .int .i64 base, .int .i64 lim] w [] no (fun v L => (okB base lim r.bd → ∃ d : PD, v = .tuple #[.agg #[.slice d.A d.x.ys.length d.c, .int .i64 d.x.up, .int .i64 d.x.dn, .int .i64 d.x.sm, .slice d.B d.x.tr.length d.e, .int .u64 d.x.gr, .int .i64 d.x.ld, .pointer (some ⟨d.gb, 0, none⟩), .pointer (some ⟨d.zb, 0, none⟩), .int .i64 d.x.hi], .bool true] ∧ d.x = mkD base lim r.bd ∧ L = pobj d) ∧ (¬ okB base lim r.bd → (∃ A n c up dn sm B m e gr ld gp zp hi, v = .tuple #[.agg #[.slice A n c, .int .i64 up, .int .i64 dn, .int .i64 sm, .slice B m e, .int .u64 gr, .int .i64 ld, .pointer gp, .pointer zp, .int .i64 hi], .bool false]) ∧ L = [])) := by
 refine Sv.Fx.body Tryz.func38 rfl T38 rfl ?_
 intro I hro hI
 refine KV.e3 0 1 2 (CV.seq (CV.region ?_))
 refine RV.op (OV.box (t := 45) #[_, _, _, _, _, _, _] rfl rfl gno rfl (fun b0_0 => ?_))
 refine RV.op (OV.alloc #[.slice none 0 0, .int .i64 0, .int .i64 0, .int .i64 0, .slice none 0 0, .int .u64 0, .int .i64 0, .pointer none, .pointer none, .int .i64 0] I108 rfl gno rfl (fun b0_1 => ?_))
 refine RV.a rfl rfl ?_
 refine RV.nil (KV.then_n (KV.e4 1 2 3 6 (CV.seq (CV.region ?_))))
 refine RV.s (Step.fieldAddr rfl (F45_0 _ _)) rfl (RV.s (Step.loadN _ Tryz.underlying41 rfl I41 rfl rfl (fun w h => h.cellsO 0 0 [.int .i64 r.h.cap, .int .i64 r.h.amb] rfl rfl)) rfl (RV.m rfl rfl (RV.m rfl rfl ?_)))
 refine RV.op (OV.call [] (F := [_, _]) Tryz.func20 B20 N20 rfl rfl (fun w h => sustainable_fn r.h base lim) (fun _ hb => hb.elim) gno rfl (fun v L' hp => ?_))
 by_cases hs : susE r.h base lim
 ·
  skip
  obtain ⟨⟨h1, _⟩, rfl⟩ := hp
  obtain rfl := h1 hs
  simp only [List.append_nil]
  have hsm := sus_mul hs
  refine RV.m rfl rfl (RV.s (Step.extract0 rfl rfl) rfl (RV.s (Step.extract0 rfl rfl) rfl (RV.a rfl rfl (RV.a rfl rfl ?_))))
  refine RV.nil (KV.then_n (KV.e4 3 6 8 9 (CV.seq (CV.seq (CV.region ?_)))))
  refine RV.m rfl rfl (RV.s (Step.neq rfl rfl) rfl ?_)
  refine RV.nil (KV.then_n (KV.e4 3 6 8 21 (CV.cond_f rfl (CV.skip (KV.then_n ?_)))))
  refine KV.e3 3 6 8 ?_
  refine CV.join2 (fun (d : PD) (nb : Nat) => [(6, .pointer (some ⟨b0_1, 0, none⟩)), (10, .pointer (some ⟨nb, 0, none⟩))]) (fun (d : PD) (nb : Nat) => Hp I w [Blk nb (.cells #[.slice d.A r.ys.length d.c, .int .i64 r.up, .int .i64 r.dn, .int .i64 r.sm, .slice d.B r.tr.length d.e, .int .u64 (min (r.h.amb * (lim - base)) 16777216), .int .i64 0, .pointer none, .pointer none, .int .i64 0] 108 (0, 0)), OS 61 ptK d.A d.c r.ys, OS 190 trK d.B d.e r.tr, Blk b0_1 (.cells #[.slice none 0 0, .int .i64 0, .int .i64 0, .int .i64 0, .slice none 0 0, .int .u64 0, .int .i64 0, .pointer none, .pointer none, .int .i64 0] 108 (0, 0))]) ?_ ?_
  ·
   skip
   refine CV.any (Hp I w [Blk b0_0 (.cells #[.int .i64 r.h.cap, .int .i64 r.h.amb, .slice r.A r.ys.length r.c, .int .i64 r.up, .int .i64 r.dn, .int .i64 r.sm, .slice r.B r.tr.length r.e] 45 (0, 0))]) (by kernel_rfl) (fun _ h => h.drew) 14 rfl ?_
   refine AV.u 0 (bl 14 1) rfl gno (Step.fieldAddr rfl (F45_1 _ _)) rfl (fun _ h => h.sel [0] rfl) ?_
   refine AV.u 1 (bl 14 3) rfl gno (Step.load Tryz.underlying42 rfl rfl (fun w h => h.cell 0 rfl rfl)) rfl (fun _ h => h.sel [0] rfl) ?_
   refine AV.u 3 (bl 14 11) rfl gno (Step.fieldAddr rfl (F45_2 _ _)) rfl (fun _ h => h.sel [0] rfl) ?_
   refine AV.u 4 (bl 14 27) rfl gno (Step.loadN _ Tryz.underlying39 rfl I39 rfl rfl (fun w h => h.cellsO 0 3 [.int .i64 r.up, .int .i64 r.dn, .int .i64 r.sm] rfl rfl)) rfl (fun _ h => h.sel [0] rfl) ?_
   refine AV.u 5 (bl 14 59) rfl gno (Step.fieldAddr rfl (F45_3 _ _)) rfl (fun _ h => h.sel [0] rfl) ?_
   refine AV.u 6 (bl 14 123) rfl gno (Step.load Tryz.underlying43 rfl rfl (fun w h => h.cell 0 rfl rfl)) rfl (fun _ h => h.sel [0] rfl) ?_
   refine AV.u 8 (bl 14 379) rfl gno (Step.move rfl) rfl (fun _ h => h.sel [0] rfl) ?_
   refine AV.u 9 (bl 14 891) rfl gno (Step.min2 rfl rfl) rfl (fun _ h => h.sel [0] rfl) ?_
   (first | refine AV.take 10 (bl 14 1915) rfl (by kernel_rfl) (by kernel_rfl) (by kernel_rfl) (fun _ _ _ h => h) gno (Step.convI Tryz.underlying2 Tryz.underlying24 rfl (wU64 (by omega) (by omega))) rfl (fun _ h => h.sel [0] rfl) (by kernel_rfl) ?_ | refine AV.take 10 (bl 14 1915) rfl (by kernel_rfl) (by kernel_rfl) (by kernel_rfl) (fun _ _ _ h => h) gno (Step.convI Tryz.underlying2 Tryz.underlying24 rfl rfl) rfl (fun _ h => h.sel [0] rfl) (by kernel_rfl) ?_)
   refine AV.all [2, 12] (by kernel_rfl) (by decide) ?_
   refine ⟨⟨_, rfl, ?_⟩, ⟨⟨_, rfl, ?_⟩, trivial⟩⟩
   ·
    refine OV.call [] (F := [_, _]) Tryz.func75 B75 N75 rfl rfl (fun w h => clonePt_fn (h.rs hr.1 (fun _ => hI _)) rfl hl) (fun _ hb => hb.elim) gno rfl (fun v L' hp => ?_)
    obtain ⟨A2, c2, rfl, rfl⟩ := hp
    refine AV.next (bl 14 1919) (by kernel_rfl) (fun _ h => h.sel [0] rfl) ?_
    refine AV.all [7, 12] (by kernel_rfl) (by decide) ?_
    refine ⟨⟨_, rfl, ?_⟩, ⟨⟨_, rfl, ?_⟩, trivial⟩⟩
    ·
     refine OV.call [] (F := [_, _, _]) Tryz.func76 B76 N76 rfl rfl (fun w h => cloneTr_fn (h.rs hr.2 (fun _ => hI _)) rfl hl2) (fun _ hb => hb.elim) gno rfl (fun v L' hp => ?_)
     obtain ⟨B2, e2, rfl, rfl⟩ := hp
     refine AV.next (bl 14 2047) (by kernel_rfl) (fun _ h => h.sel [0] rfl) ?_
     refine AV.u 11 (bl 14 4095) rfl gno (Step.build rfl (Bd108_0_1_2_3 _ _ _ _ _ _ _ _ _ _)) rfl (fun _ h => h.sel [0] rfl) ?_
     refine AV.all [12] (by kernel_rfl) (by decide) ?_
     refine ⟨⟨_, rfl, ?_⟩, trivial⟩
     ·
      refine OV.alloc #[.slice none 0 0, .int .i64 0, .int .i64 0, .int .i64 0, .slice none 0 0, .int .u64 0, .int .i64 0, .pointer none, .pointer none, .int .i64 0] I108 rfl gno rfl (fun b4_12 => ?_)
      refine AV.next (bl 14 8191) (by kernel_rfl) (fun _ h => h.sel [0] rfl) ?_
      refine AV.all [13] (by kernel_rfl) (by decide) ?_
      refine ⟨⟨_, rfl, ?_⟩, trivial⟩
      ·
       refine OV.store 4 [_, _, _, _, _, _, _, _, _, _] #[_, _, _, _, _, _, _, _, _, _] I108 rfl rfl rfl rfl rfl (Nat.le_of_ble_eq_true rfl) (by simp [Value.oneCell']) rfl gno ?_
       refine AV.next (bl 14 16383) (by kernel_rfl) (fun _ h => h.sel [0] rfl) ?_
       refine AV.done (by kernel_rfl) ?_
       refine KV.then_n (KV.e2 6 10 ?_)
       refine KV.sel [4, 2, 2, 1] [_, _, _, _] rfl ?_
       exact KV.join2 ({ pd0 with A := A2, c := c2, B := B2, e := e2 }) (b4_12) ⟨rfl, rfl, trivial⟩ (fun _ h => h)
    ·
     refine OV.alloc #[.slice none 0 0, .int .i64 0, .int .i64 0, .int .i64 0, .slice none 0 0, .int .u64 0, .int .i64 0, .pointer none, .pointer none, .int .i64 0] I108 rfl gno rfl (fun b4_12 => ?_)
     refine AV.next (bl 14 6015) (by kernel_rfl) (fun _ h => h.sel [0] rfl) ?_
     refine AV.all [7] (by kernel_rfl) (by decide) ?_
     refine ⟨⟨_, rfl, ?_⟩, trivial⟩
     ·
      refine OV.call [] (F := [_, _, _, _]) Tryz.func76 B76 N76 rfl rfl (fun w h => cloneTr_fn (h.rs hr.2 (fun _ => hI _)) rfl hl2) (fun _ hb => hb.elim) gno rfl (fun v L' hp => ?_)
      obtain ⟨B2, e2, rfl, rfl⟩ := hp
      refine AV.next (bl 14 6143) (by kernel_rfl) (fun _ h => h.sel [0] rfl) ?_
      refine AV.u 11 (bl 14 8191) rfl gno (Step.build rfl (Bd108_0_1_2_3 _ _ _ _ _ _ _ _ _ _)) rfl (fun _ h => h.sel [0] rfl) ?_
      refine AV.all [13] (by kernel_rfl) (by decide) ?_
      refine ⟨⟨_, rfl, ?_⟩, trivial⟩
      ·
       refine OV.store 3 [_, _, _, _, _, _, _, _, _, _] #[_, _, _, _, _, _, _, _, _, _] I108 rfl rfl rfl rfl rfl (Nat.le_of_ble_eq_true rfl) (by simp [Value.oneCell']) rfl gno ?_
       refine AV.next (bl 14 16383) (by kernel_rfl) (fun _ h => h.sel [0] rfl) ?_
       refine AV.done (by kernel_rfl) ?_
       refine KV.then_n (KV.e2 6 10 ?_)
       refine KV.sel [3, 2, 2, 1] [_, _, _, _] rfl ?_
       exact KV.join2 ({ pd0 with A := A2, c := c2, B := B2, e := e2 }) (b4_12) ⟨rfl, rfl, trivial⟩ (fun _ h => h)
   ·
    refine OV.alloc #[.slice none 0 0, .int .i64 0, .int .i64 0, .int .i64 0, .slice none 0 0, .int .u64 0, .int .i64 0, .pointer none, .pointer none, .int .i64 0] I108 rfl gno rfl (fun b4_12 => ?_)
    refine AV.next (bl 14 6011) (by kernel_rfl) (fun _ h => h.sel [0] rfl) ?_
    refine AV.all [2] (by kernel_rfl) (by decide) ?_
    refine ⟨⟨_, rfl, ?_⟩, trivial⟩
    ·
     refine OV.call [] (F := [_, _, _]) Tryz.func75 B75 N75 rfl rfl (fun w h => clonePt_fn (h.rs hr.1 (fun _ => hI _)) rfl hl) (fun _ hb => hb.elim) gno rfl (fun v L' hp => ?_)
     obtain ⟨A2, c2, rfl, rfl⟩ := hp
     refine AV.next (bl 14 6015) (by kernel_rfl) (fun _ h => h.sel [0] rfl) ?_
     refine AV.all [7] (by kernel_rfl) (by decide) ?_
     refine ⟨⟨_, rfl, ?_⟩, trivial⟩
     ·
      refine OV.call [] (F := [_, _, _, _]) Tryz.func76 B76 N76 rfl rfl (fun w h => cloneTr_fn (h.rs hr.2 (fun _ => hI _)) rfl hl2) (fun _ hb => hb.elim) gno rfl (fun v L' hp => ?_)
      obtain ⟨B2, e2, rfl, rfl⟩ := hp
      refine AV.next (bl 14 6143) (by kernel_rfl) (fun _ h => h.sel [0] rfl) ?_
      refine AV.u 11 (bl 14 8191) rfl gno (Step.build rfl (Bd108_0_1_2_3 _ _ _ _ _ _ _ _ _ _)) rfl (fun _ h => h.sel [0] rfl) ?_
      refine AV.all [13] (by kernel_rfl) (by decide) ?_
      refine ⟨⟨_, rfl, ?_⟩, trivial⟩
      ·
       refine OV.store 2 [_, _, _, _, _, _, _, _, _, _] #[_, _, _, _, _, _, _, _, _, _] I108 rfl rfl rfl rfl rfl (Nat.le_of_ble_eq_true rfl) (by simp [Value.oneCell']) rfl gno ?_
       refine AV.next (bl 14 16383) (by kernel_rfl) (fun _ h => h.sel [0] rfl) ?_
       refine AV.done (by kernel_rfl) ?_
       refine KV.then_n (KV.e2 6 10 ?_)
       refine KV.sel [2, 2, 2, 1] [_, _, _, _] rfl ?_
       exact KV.join2 ({ pd0 with A := A2, c := c2, B := B2, e := e2 }) (b4_12) ⟨rfl, rfl, trivial⟩ (fun _ h => h)
  ·
   intro d nb
   refine CV.seq (CV.region ?_)
   refine RV.op (OV.call [0, 0, 0] (F := [_]) Tryz.func53 B53 N53 rfl rfl (fun w h => restart_fn nb d.A d.c r.ys r.up r.dn r.sm d.B d.e r.tr _ 0 none none 0 hl hl2) (fun _ hb => hb.elim) gno rfl (fun v L' hp => ?_))
   by_cases hR : newE r.ys r.up r.dn r.sm = 0 ∧ chkT r.tr = 0
   ·
    skip
    obtain ⟨rfl, bg, Ag, cg, bz, Az, cz, oA, oc, rfl⟩ := hp.1 hR
    refine RV.a rfl rfl ?_
    refine RV.nil (KV.then_n (KV.e3 6 10 11 (CV.seq (CV.region ?_))))
    refine RV.s (Step.loadN _ Tryz.underlying108 rfl I108 rfl rfl (fun w h => h.cells 1 rfl)) rfl (RV.m rfl rfl ?_)
    refine RV.op (OV.store 0 [_, _, _, _, _, _, _, _, _, _] #[_, _, _, _, _, _, _, _, _, _] I108 rfl rfl rfl rfl rfl (Nat.le_of_ble_eq_true rfl) (by simp [Value.oneCell']) rfl gno ?_)
    refine RV.a rfl rfl ?_
    refine RV.nil (KV.then_n (KV.e2 6 7 (CV.ret ?_)))
    refine KV.sel [2, 2, 2, 2, 2, 2, 2, 0] [_, _, _, _, _, _, _, _] rfl ?_
    first | exact KV.retC2 [_, _, _, _, _, _, _, _, _, _] rfl rfl rfl Tryz.underlying108 rfl I108 rfl (fun w h => h.cells 7 rfl) (pobj ⟨d.A, d.c, d.B, d.e, bg, Ag, cg, bz, Az, cz, oA, oc, mkD base lim r.bd⟩) (fun _ h => h.sel [0, 0, 0, 0, 0, 0, 0] rfl) ⟨fun _ => ⟨⟨d.A, d.c, d.B, d.e, bg, Ag, cg, bz, Az, cz, oA, oc, mkD base lim r.bd⟩, rfl, rfl, rfl⟩, fun k => absurd ⟨hs, hR⟩ k⟩ | exact KV.retC2 [_, _, _, _, _, _, _, _, _, _] rfl rfl rfl Tryz.underlying108 rfl I108 rfl (fun w h => h.cells 7 rfl) [] (fun _ h => h.sel [] rfl) ⟨fun k => absurd (k.2) hR, fun _ => ⟨⟨_, _, _, _, _, _, _, _, _, _, _, _, _, _, rfl⟩, rfl⟩⟩
   ·
    skip
    obtain ⟨rfl, rfl⟩ := hp.2 hR
    refine RV.a rfl rfl ?_
    refine RV.nil (KV.then_n (KV.e3 6 10 11 (CV.seq (CV.region ?_))))
    refine RV.s (Step.loadN _ Tryz.underlying108 rfl I108 rfl rfl (fun w h => h.cells 1 rfl)) rfl (RV.m rfl rfl ?_)
    refine RV.op (OV.store 0 [_, _, _, _, _, _, _, _, _, _] #[_, _, _, _, _, _, _, _, _, _] I108 rfl rfl rfl rfl rfl (Nat.le_of_ble_eq_true rfl) (by simp [Value.oneCell']) rfl gno ?_)
    refine RV.a rfl rfl ?_
    refine RV.nil (KV.then_n (KV.e2 6 7 (CV.ret ?_)))
    refine KV.sel [0] [_] rfl ?_
    first | exact KV.retC2 [_, _, _, _, _, _, _, _, _, _] rfl rfl rfl Tryz.underlying108 rfl I108 rfl (fun w h => h.cells 0 rfl) (pobj ⟨d.A, d.c, d.B, d.e, bg, Ag, cg, bz, Az, cz, oA, oc, mkD base lim r.bd⟩) (fun _ h => h.sel [0, 0, 0, 0, 0, 0, 0] rfl) ⟨fun _ => ⟨⟨d.A, d.c, d.B, d.e, bg, Ag, cg, bz, Az, cz, oA, oc, mkD base lim r.bd⟩, rfl, rfl, rfl⟩, fun k => absurd ⟨hs, hR⟩ k⟩ | exact KV.retC2 [_, _, _, _, _, _, _, _, _, _] rfl rfl rfl Tryz.underlying108 rfl I108 rfl (fun w h => h.cells 0 rfl) [] (fun _ h => h.sel [] rfl) ⟨fun k => absurd (k.2) hR, fun _ => ⟨⟨_, _, _, _, _, _, _, _, _, _, _, _, _, _, rfl⟩, rfl⟩⟩
 ·
  skip
  obtain ⟨⟨_, h1⟩, rfl⟩ := hp
  obtain rfl := h1 hs
  simp only [List.append_nil]
  refine RV.m rfl rfl (RV.s (Step.extract0 rfl rfl) rfl (RV.s (Step.extract0 rfl rfl) rfl (RV.a rfl rfl (RV.a rfl rfl ?_))))
  refine RV.nil (KV.then_n (KV.e4 3 6 8 9 (CV.seq (CV.seq (CV.region ?_)))))
  refine RV.m rfl rfl (RV.s (Step.neq rfl rfl) rfl ?_)
  refine RV.nil (KV.then_n (KV.e4 3 6 8 21 (CV.cond_t rfl (CV.seq (CV.region ?_)))))
  refine RV.s (Step.build rfl (Bd108_)) rfl ?_
  refine RV.op (OV.store 1 [_, _, _, _, _, _, _, _, _, _] #[_, _, _, _, _, _, _, _, _, _] I108 rfl rfl rfl rfl rfl (Nat.le_of_ble_eq_true rfl) (by simp [Value.oneCell']) rfl gno ?_)
  refine RV.a rfl rfl ?_
  refine RV.nil (KV.then_n (KV.e2 6 7 (CV.ret (KV.then_ret ?_))))
  refine KV.sel [1] [_] rfl ?_
  exact KV.retC2 [_, _, _, _, _, _, _, _, _, _] rfl rfl rfl Tryz.underlying108 rfl I108 rfl (fun w h => h.cells 0 rfl) [] (fun _ h => h.sel [] rfl) ⟨fun k => absurd (k.1) hs, fun _ => ⟨⟨_, _, _, _, _, _, _, _, _, _, _, _, _, _, rfl⟩, rfl⟩⟩
end Go.Proofs.YtdfkpdcpegcieaaGreatDoor
