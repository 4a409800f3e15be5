/-
 Walks, part 6.
-/
import Derived.Test.YtdfkpdcpegcieaaGreatDoorTabA
import Derived.Test.YtdfkpdcpegcieaaGreatDoorW5
import Derived.Test.YtdfkpdcpegcieaaGreatDoorObA
set_option linter.unusedSimpArgs false
set_option linter.unusedVariables false
namespace Go.Proofs.YtdfkpdcpegcieaaGreatDoor
open Go.Sv Go.Perf Go.Ctl
set_option maxRecDepth 100000 in
set_option maxHeartbeats 4000000 in
theorem grant_fn (t : PT) {lim : Int} (hT : t.T.ok lim) (md : Int) {w : World} : Fx Tryz.prog 48 [.pointer (some ⟨t.a.b, 0, none⟩), .int .i64 md] w (tobj t) no (fun v L => ∃ p, PwR t.T.ds md t.bud p ∧ L = tobj { t with ds := rqK t.ds md t.ds.length, p := p }) := by
 refine Sv.Fx.body Tryz.func48 rfl T48 rfl ?_
 intro I hro hI
 refine KV.e2 0 1 ?_
 have hn8 := hT.n8'
 have hpl := hT.pl'
 refine CV.seq (CV.region ?_)
 refine RV.m rfl rfl (RV.s (Step.nilCheck rfl) rfl (RV.s (Step.fieldAddr rfl (F103_0 _ _)) rfl (RV.s (Step.load Tryz.underlying100 rfl rfl (fun w h => h.cell 0 rfl rfl)) rfl (RV.s (Step.lenSl Tryz.underlying100 rfl) rfl ?_))))
 refine RV.op (OV.make (K := (intK .i64)) (t.ds.length) (t.ds.length) (0) Tryz.underlying48 I3 rfl rfl rfl rfl rfl (by omega) (by omega) (by omega) gno rfl (fun b0_5 => ?_))
 refine RV.a rfl rfl ?_
 refine RV.nil (KV.then_n (KV.e3 0 1 4 (CV.seq (CV.region ?_))))
 refine RV.m rfl rfl (RV.s (Step.nilCheck rfl) rfl (RV.s (Step.fieldAddr rfl (F103_0 _ _)) rfl (RV.s (Step.load Tryz.underlying100 rfl rfl (fun w h => h.cell 0 rfl rfl)) rfl (RV.s (Step.lenSl Tryz.underlying100 rfl) rfl ?_))))
 refine RV.op (OV.make (K := acK) (t.ds.length) (t.ds.length) (act0) Tryz.underlying207 I211 rfl rfl rfl rfl rfl (by omega) (by omega) (by omega) gno rfl (fun b1_5 => ?_))
 refine RV.a rfl rfl ?_
 refine RV.nil (KV.then_n (KV.e4 0 1 4 5 (CV.seq (CV.seq (CV.region ?_)))))
 refine RV.m rfl rfl (RV.s (Step.nilCheck rfl) rfl (RV.s (Step.fieldAddr rfl (F103_0 _ _)) rfl (RV.s (Step.load Tryz.underlying100 rfl rfl (fun w h => h.cell 0 rfl rfl)) rfl (RV.s (Step.lenSl Tryz.underlying100 rfl) rfl (RV.m rfl rfl ?_)))))
 refine RV.nil (KV.then_n (KV.e6 0 1 4 5 27 28 (CV.block ?_)))
 refine KV.sel [0, 0, 0, 0, 0, 0, 0, 0, 0, 0] [_, _, _, _, _, _, _, _, _, _] rfl ?_
 refine CV.loopI (fun (i : Nat) => i ≤ t.ds.length) (fun (i : Nat) => t.ds.length - i) (fun (i : Nat) => [(0, .pointer (some ⟨t.a.b, 0, none⟩)), (1, .int .i64 md), (4, .slice b0_5 t.ds.length t.ds.length), (5, .slice b1_5 t.ds.length t.ds.length), (27, .int .i64 t.ds.length), (28, .int .i64 i)]) (fun (i : Nat) => Hp I w [Blk t.a.b (.cells #[.slice t.a.dA t.ds.length t.a.dc, .pointer (some ⟨t.a.m.b, 0, none⟩), .int .u64 t.bud, .slice t.a.pA t.ds.length t.a.pc] 103 (0, 0)), OS 108 domK t.a.dA t.a.dc (rqK t.ds md i), Big pF (rqK t.ds md i), Blk t.a.m.b (.cells #[.slice t.a.m.hA t.D.length t.a.m.hc, .slice t.a.m.lA t.L.length t.a.m.lc, .int .i64 t.base, .slice t.a.m.eA t.D.length t.a.m.ec, .int .i64 t.rel] 197 (0, 0)), OS 41 hdK t.a.m.hA t.a.m.hc t.D, OS 195 hlK t.a.m.lA t.a.m.lc t.L, OS 2 (intK .i64) t.a.m.eA t.a.m.ec t.E, OS 2 (intK .i64) t.a.pA t.a.pc t.p, OS 3 (intK .i64) b0_5 t.ds.length (ldK t.ds md i), OS 211 acK b1_5 t.ds.length (acL t.ds md i)]) (0) (Nat.zero_le _) ⟨rfl, rfl, rfl, rfl, rfl, rfl, trivial⟩ (fun _ h => by rw [rqK_zero, ldK_zero, acL_zero]; exact h) ?_
 intro i hinv
 refine CV.seq (CV.region ?_)
 refine RV.op (OV.split gno (Step.lss rfl rfl) rfl (fun cc1 => ?_) (fun cc1 => ?_))
 ·
  refine RV.nil (KV.then_n (KV.e7 0 1 4 5 27 28 29 (CV.seq (CV.cond_t rfl (CV.skip ?_)))))
  refine KV.then_n (KV.e6 0 1 4 5 27 28 (CV.seq (CV.block (CV.seq (CV.region ?_)))))
  refine RV.m rfl rfl (RV.a rfl rfl ?_)
  refine RV.nil (KV.then_n (KV.e7 0 1 4 5 6 27 28 (CV.seq (CV.region ?_))))
  refine RV.m rfl rfl (RV.s (Step.nilCheck rfl) rfl (RV.s (Step.fieldAddr rfl (F103_0 _ _)) rfl (RV.s (Step.load Tryz.underlying100 rfl rfl (fun w h => h.cell 0 rfl rfl)) rfl (RV.m rfl rfl ?_))))
  refine RV.op (OV.step gno (Step.idx Tryz.underlying100 I108 (fun w h => h.os 1 rfl) rfl rfl (by first | rfl | (rw [rqK_len]) | (rw [ldK_len]) | (rw [acL_len]) | (rw [pwK_len, hpl]) | (simp only [List.length_set, ldK_len, pwK_len, hpl]) | exact hgl.symm) _ rfl (by first | omega | (rw [rqK_len]; omega) | (rw [ldK_len]; omega) | (rw [acL_len]; omega) | (rw [pwK_len]; omega) | (simp only [List.length_set, ldK_len, pwK_len]; omega))) rfl ?_)
  refine RV.a rfl rfl ?_
  refine RV.nil (KV.then_n (KV.e8 0 1 4 5 6 7 27 28 ?_))
  refine CV.join (α := Unit) (fun _ => [(0, .pointer (some ⟨t.a.b, 0, none⟩)), (1, .int .i64 md), (4, .slice b0_5 t.ds.length t.ds.length), (5, .slice b1_5 t.ds.length t.ds.length), (6, .int .i64 i), (7, .pointer (some ⟨bk t.a.dA, of t.a.dA + i * domK.sz, none⟩)), (27, .int .i64 t.ds.length), (28, .int .i64 i)]) (fun _ => Hp I w [Blk t.a.b (.cells #[.slice t.a.dA t.ds.length t.a.dc, .pointer (some ⟨t.a.m.b, 0, none⟩), .int .u64 t.bud, .slice t.a.pA t.ds.length t.a.pc] 103 (0, 0)), OS 108 domK t.a.dA t.a.dc (rqK t.ds md i), Big pF (rqK t.ds md i), Blk t.a.m.b (.cells #[.slice t.a.m.hA t.D.length t.a.m.hc, .slice t.a.m.lA t.L.length t.a.m.lc, .int .i64 t.base, .slice t.a.m.eA t.D.length t.a.m.ec, .int .i64 t.rel] 197 (0, 0)), OS 41 hdK t.a.m.hA t.a.m.hc t.D, OS 195 hlK t.a.m.lA t.a.m.lc t.L, OS 2 (intK .i64) t.a.m.eA t.a.m.ec t.E, OS 2 (intK .i64) t.a.pA t.a.pc t.p, OS 3 (intK .i64) b0_5 t.ds.length ((ldK t.ds md i).set i (ldM md (pdA t.ds i).x)), OS 211 acK b1_5 t.ds.length (acL t.ds md i)]) ?_ ?_
  ·
   skip
   refine CV.seq (CV.region ?_)
   refine RV.m rfl rfl ?_
   refine RV.op (OV.split gno (Step.eql rfl rfl) rfl (fun hmd => ?_) (fun hmd => ?_))
   ·
    refine RV.nil (KV.then_n (KV.e9 0 1 4 5 6 7 27 28 38 (CV.cond_t rfl (CV.region ?_))))
    refine RV.m rfl rfl (RV.m rfl rfl (RV.m rfl rfl (RV.s (Step.nilCheck rfl) rfl (RV.s (Step.fieldAddr rfl (F108_4 _ _)) rfl ?_))))
    refine RV.s (Step.load Tryz.underlying3 rfl rfl (fun w h => (h.os 1 rfl).cellE (by rw [rqK_len]; omega) (rqK_at t.ds md (by omega)) rfl)) rfl ?_
    refine RV.op (OV.step gno (Step.idx Tryz.underlying48 I3 (fun w h => h.os 8 rfl) rfl rfl (by first | rfl | (rw [rqK_len]) | (rw [ldK_len]) | (rw [acL_len]) | (rw [pwK_len, hpl]) | (simp only [List.length_set, ldK_len, pwK_len, hpl]) | exact hgl.symm) _ rfl (by first | omega | (rw [rqK_len]; omega) | (rw [ldK_len]; omega) | (rw [acL_len]; omega) | (rw [pwK_len]; omega) | (simp only [List.length_set, ldK_len, pwK_len]; omega))) rfl ?_)
    refine RV.op (OV.storeE 8 (i) ((pdA t.ds i).x.ld) (j := 0) [_] I3 rfl rfl rfl rfl rfl rfl (by rw [ldK_len]; omega) rfl (Nat.le_of_ble_eq_true rfl) gno ?_)
    refine RV.nil (KV.then_n (KV.e8 0 1 4 5 6 7 27 28 ?_))
    refine KV.sel [0, 0, 0, 0, 0, 0, 0, 0, 0, 0] [_, _, _, _, _, _, _, _, _, _] rfl ?_
    exact KV.join () ⟨rfl, rfl, rfl, rfl, rfl, rfl, rfl, rfl, trivial⟩ (fun _ h => by first | (rw [← ldK_run i hmd]; exact h) | (rw [ldK_not hmd]; exact h))
   ·
    refine RV.nil (KV.then_n (KV.e9 0 1 4 5 6 7 27 28 38 (CV.cond_f rfl (CV.skip (KV.then_n ?_)))))
    refine KV.e8 0 1 4 5 6 7 27 28 ?_
    refine KV.sel [0, 0, 0, 0, 0, 0, 0, 0, 0, 0] [_, _, _, _, _, _, _, _, _, _] rfl ?_
    exact KV.join () ⟨rfl, rfl, rfl, rfl, rfl, rfl, rfl, rfl, trivial⟩ (fun _ h => by first | (rw [← ldK_run i hmd]; exact h) | (rw [ldK_not hmd]; exact h))
  ·
   intro _
   refine KV.sel [1, 1, 0, 0, 0, 0, 0, 0, 0, 0] [_, _, _, _, _, _, _, _, _, _] rfl ?_
   refine KV.heap (fun w h => openD h (m := i) (by first | omega | (rw [rqK_len]; omega))) ?_
   refine CV.any (fun w2 => RS w2 (intK .i64) b0_5 ((ldK t.ds md i).set i (ldM md (pdA t.ds i).x)) ∧ w2.cell? ⟨bk t.a.dA, of t.a.dA + i * domK.sz + 5, none⟩ = some (.int .u64 (pdA t.ds i).x.gr)) (by kernel_rfl) (fun _ h => h.drew) 15 rfl ?_
   refine AV.u 0 (bl 15 1) rfl gno (Step.move rfl) rfl (fun _ h => by first | exact ⟨h.os 15 rfl, (h.os 0 rfl).cellE (by rw [rqK_len]; omega) (rqK_at t.ds md (by omega)) rfl⟩ | exact ⟨h.os 15 rfl, (h.os 0 rfl).cellS (by rw [rqK_len]; omega) rfl⟩) ?_
   refine AV.u 1 (bl 15 3) rfl gno (Step.move rfl) rfl (fun _ h => by first | exact ⟨h.os 15 rfl, (h.os 0 rfl).cellE (by rw [rqK_len]; omega) (rqK_at t.ds md (by omega)) rfl⟩ | exact ⟨h.os 15 rfl, (h.os 0 rfl).cellS (by rw [rqK_len]; omega) rfl⟩) ?_
   refine AV.u 2 (bl 15 7) rfl gno (Step.move rfl) rfl (fun _ h => by first | exact ⟨h.os 15 rfl, (h.os 0 rfl).cellE (by rw [rqK_len]; omega) (rqK_at t.ds md (by omega)) rfl⟩ | exact ⟨h.os 15 rfl, (h.os 0 rfl).cellS (by rw [rqK_len]; omega) rfl⟩) ?_
   refine AV.u 3 (bl 15 15) rfl gno (Step.move rfl) rfl (fun _ h => by first | exact ⟨h.os 15 rfl, (h.os 0 rfl).cellE (by rw [rqK_len]; omega) (rqK_at t.ds md (by omega)) rfl⟩ | exact ⟨h.os 15 rfl, (h.os 0 rfl).cellS (by rw [rqK_len]; omega) rfl⟩) ?_
   refine AV.u 4 (bl 15 31) rfl gno (Step.move rfl) rfl (fun _ h => by first | exact ⟨h.os 15 rfl, (h.os 0 rfl).cellE (by rw [rqK_len]; omega) (rqK_at t.ds md (by omega)) rfl⟩ | exact ⟨h.os 15 rfl, (h.os 0 rfl).cellS (by rw [rqK_len]; omega) rfl⟩) ?_
   refine AV.u 5 (bl 15 63) rfl gno (Step.idx Tryz.underlying48 I3 (fun w h => h.1) rfl rfl (by first | rfl | (rw [rqK_len]) | (rw [ldK_len]) | (rw [acL_len]) | (rw [pwK_len, hpl]) | (simp only [List.length_set, ldK_len, pwK_len, hpl]) | exact hgl.symm) _ rfl (by first | omega | (rw [rqK_len]; omega) | (rw [ldK_len]; omega) | (rw [acL_len]; omega) | (rw [pwK_len]; omega) | (simp only [List.length_set, ldK_len, pwK_len]; omega))) rfl (fun _ h => by first | exact ⟨h.os 15 rfl, (h.os 0 rfl).cellE (by rw [rqK_len]; omega) (rqK_at t.ds md (by omega)) rfl⟩ | exact ⟨h.os 15 rfl, (h.os 0 rfl).cellS (by rw [rqK_len]; omega) rfl⟩) ?_
   refine AV.u 6 (bl 15 127) rfl gno (Step.load Tryz.underlying3 rfl rfl (fun w h => h.1.cellS0 (by rw [ldK_len]; omega) rfl)) rfl (fun _ h => by first | exact ⟨h.os 15 rfl, (h.os 0 rfl).cellE (by rw [rqK_len]; omega) (rqK_at t.ds md (by omega)) rfl⟩ | exact ⟨h.os 15 rfl, (h.os 0 rfl).cellS (by rw [rqK_len]; omega) rfl⟩) ?_
   refine AV.u 8 (bl 15 383) rfl gno (Step.move rfl) rfl (fun _ h => by first | exact ⟨h.os 15 rfl, (h.os 0 rfl).cellE (by rw [rqK_len]; omega) (rqK_at t.ds md (by omega)) rfl⟩ | exact ⟨h.os 15 rfl, (h.os 0 rfl).cellS (by rw [rqK_len]; omega) rfl⟩) ?_
   refine AV.u 9 (bl 15 895) rfl gno (Step.nilCheck rfl) rfl (fun _ h => by first | exact ⟨h.os 15 rfl, (h.os 0 rfl).cellE (by rw [rqK_len]; omega) (rqK_at t.ds md (by omega)) rfl⟩ | exact ⟨h.os 15 rfl, (h.os 0 rfl).cellS (by rw [rqK_len]; omega) rfl⟩) ?_
   refine AV.u 10 (bl 15 1919) rfl gno (Step.fieldAddr rfl (F108_3 _ _)) rfl (fun _ h => by first | exact ⟨h.os 15 rfl, (h.os 0 rfl).cellE (by rw [rqK_len]; omega) (rqK_at t.ds md (by omega)) rfl⟩ | exact ⟨h.os 15 rfl, (h.os 0 rfl).cellS (by rw [rqK_len]; omega) rfl⟩) ?_
   refine AV.u 11 (bl 15 3967) rfl gno (Step.load Tryz.underlying24 rfl rfl (fun w h => h.2)) rfl (fun _ h => by first | exact ⟨h.os 15 rfl, (h.os 0 rfl).cellE (by rw [rqK_len]; omega) (rqK_at t.ds md (by omega)) rfl⟩ | exact ⟨h.os 15 rfl, (h.os 0 rfl).cellS (by rw [rqK_len]; omega) rfl⟩) ?_
   refine AV.all [7] (by kernel_rfl) (by decide) ?_
   refine ⟨⟨_, rfl, ?_⟩, trivial⟩
   ·
    refine OV.call [0, 0, 0, 0, 0, 0, 0, 0] (F := [_, _, _, _, _, _, _, _, _]) Tryz.func83 B83 N83 rfl rfl (fun w h => request_fn t.a.dA t.a.dc (rqK t.ds md i) (i := i) (by rw [rqK_len]; omega) (by rw [rqK_at t.ds md (by omega)]; exact hT.dom (by omega)) (ldM md (pdA t.ds i).x)) (fun _ hb => hb.elim) gno rfl (fun v L' hp => ?_)
    obtain ⟨rfl, rfl⟩ := hp
    rw [rqK_at t.ds md (show i < t.ds.length by omega)]
    refine AV.next (bl 15 4095) (by kernel_rfl) (fun _ h => by first | exact ⟨h.os 7 rfl, (h.os 9 rfl).cellE (by rw [rqK_len]; omega) (rqK_at t.ds md (by omega)) rfl⟩ | exact ⟨h.os 7 rfl, (h.os 9 rfl).cellS (by rw [rqK_len]; omega) rfl⟩) ?_
    refine AV.u 12 (bl 15 8191) rfl gno (Step.build rfl (Bd211_0_2 _ _)) rfl (fun _ h => by first | exact ⟨h.os 7 rfl, (h.os 9 rfl).cellE (by rw [rqK_len]; omega) (rqK_at t.ds md (by omega)) rfl⟩ | exact ⟨h.os 7 rfl, (h.os 9 rfl).cellS (by rw [rqK_len]; omega) rfl⟩) ?_
    refine AV.all [13] (by kernel_rfl) (by decide) ?_
    refine ⟨⟨_, rfl, ?_⟩, trivial⟩
    ·
     refine OV.step gno (Step.idx Tryz.underlying207 I211 (fun w h => h.os 8 rfl) rfl rfl (by first | rfl | (rw [rqK_len]) | (rw [ldK_len]) | (rw [acL_len]) | (rw [pwK_len, hpl]) | (simp only [List.length_set, ldK_len, pwK_len, hpl]) | exact hgl.symm) _ rfl (by first | omega | (rw [rqK_len]; omega) | (rw [ldK_len]; omega) | (rw [acL_len]; omega) | (rw [pwK_len]; omega) | (simp only [List.length_set, ldK_len, pwK_len]; omega))) rfl ?_
     refine AV.next (bl 15 16383) (by kernel_rfl) (fun _ h => by first | exact ⟨h.os 7 rfl, (h.os 9 rfl).cellE (by rw [rqK_len]; omega) (rqK_at t.ds md (by omega)) rfl⟩ | exact ⟨h.os 7 rfl, (h.os 9 rfl).cellS (by rw [rqK_len]; omega) rfl⟩) ?_
     refine AV.all [14] (by kernel_rfl) (by decide) ?_
     refine ⟨⟨_, rfl, ?_⟩, trivial⟩
     ·
      refine OV.storeE 8 (i) ((actM md (pdA t.ds i).x)) (j := 0) [_, _, _] I211 rfl rfl rfl rfl rfl rfl (by rw [acL_len]; omega) rfl (Nat.le_of_ble_eq_true rfl) gno ?_
      refine AV.next (bl 15 32767) (by kernel_rfl) (fun _ h => by first | exact ⟨h.os 7 rfl, (h.os 9 rfl).cellE (by rw [rqK_len]; omega) (rqK_at t.ds md (by omega)) rfl⟩ | exact ⟨h.os 7 rfl, (h.os 9 rfl).cellS (by rw [rqK_len]; omega) rfl⟩) ?_
      refine AV.done (by kernel_rfl) ?_
      refine KV.block_n (KV.then_n (KV.e6 0 1 4 5 27 28 ?_))
      refine KV.sel [9, 9, 9, 9, 9, 9, 9, 9, 0, 0, 0, 0, 0, 0, 0, 0, 0] [_, _, _, _, _, _, _, _, _, _, _, _, _, _, _, _, _] rfl ?_
      refine KV.heap (fun w h => closeD (d := reqP (pdA t.ds i) (ldM md (pdA t.ds i).x)) h (m := i) (by first | omega | (rw [rqK_len]; omega))) ?_
      refine CV.region ?_
      (first | refine RV.op (OV.step gno (Step.add rfl rfl (wI64 (by omega) (by omega))) rfl ?_) | refine RV.op (OV.step gno (Step.add rfl rfl rfl) rfl ?_))
      refine RV.m rfl rfl ?_
      refine RV.nil (KV.then_n (KV.e6 0 1 4 5 27 28 ?_))
      refine KV.sel [2, 0, 0, 0, 0, 0, 0, 0, 0, 0] [_, _, _, _, _, _, _, _, _, _] rfl ?_
      exact KV.loopI (z := i) (i + 1) (by omega) (by omega) ⟨rfl, rfl, rfl, rfl, rfl, rfl, trivial⟩ (fun _ h => by rw [← rqK_set t.ds md (by omega), ← ldK_set t.ds md (by omega), ← acL_set t.ds md (by omega)]; exact h)
 ·
  refine RV.nil (KV.then_n (KV.e7 0 1 4 5 27 28 29 (CV.seq (CV.cond_f rfl (CV.exit ?_)))))
  refine KV.then_exit (KV.then_exit (KV.block_hit (KV.then_n (KV.e3 0 4 5 (CV.seq ?_)))))
  obtain rfl : i = t.ds.length := by omega
  rw [acL_end]
  refine CV.region ?_
  refine RV.m rfl rfl (RV.s (Step.nilCheck rfl) rfl (RV.s (Step.fieldAddr rfl (F103_2 _ _)) rfl (RV.s (Step.load Tryz.underlying24 rfl rfl (fun w h => h.cell 0 rfl rfl)) rfl (RV.m rfl rfl ?_))))
  refine RV.op (OV.call [] (F := [_, _, _, _, _, _, _, _, _, _]) Tryz.func84 B84 N84 rfl rfl (fun w h => allocate_fn (h.os 9 rfl) (by simp) (by simp; omega) (as_ok hT md) t.bud (by rw [as_tot0 hT md]; exact hT.b0) hT.b1) (fun _ hb => hb.elim) gno rfl (fun v L' hp => ?_))
  obtain ⟨Ag, cg, gr, rfl, hgr, rfl⟩ := hp
  rw [show ((t.ds.map (·.x)).map (actM md)).length = t.ds.length by simp]
  have hgl : gr.length = t.ds.length := by rw [hgr.len]; simp
  refine RV.m rfl rfl (RV.s (Step.extract0 rfl rfl) rfl (RV.s (Step.extract0 rfl rfl) rfl (RV.a rfl rfl (RV.a rfl rfl ?_))))
  refine RV.nil (KV.then_n (KV.e4 0 4 8 9 (CV.seq (CV.region ?_))))
  refine RV.m rfl rfl (RV.s (Step.nilCheck rfl) rfl (RV.s (Step.fieldAddr rfl (F103_0 _ _)) rfl (RV.s (Step.load Tryz.underlying100 rfl rfl (fun w h => h.cell 0 rfl rfl)) rfl (RV.s (Step.lenSl Tryz.underlying100 rfl) rfl (RV.m rfl rfl ?_)))))
  refine RV.nil (KV.then_n (KV.e6 0 4 8 9 74 75 (CV.block ?_)))
  refine KV.sel [0, 0, 0, 0, 0, 0, 0, 0, 0, 1] [_, _, _, _, _, _, _, _, _, _] rfl ?_
  refine CV.loopI (fun (q : Nat) => q ≤ t.ds.length) (fun (q : Nat) => t.ds.length - q) (fun (q : Nat) => [(0, .pointer (some ⟨t.a.b, 0, none⟩)), (4, .slice b0_5 t.ds.length t.ds.length), (8, .slice Ag t.ds.length cg), (9, .int .i64 0), (74, .int .i64 t.ds.length), (75, .int .i64 q)]) (fun (q : Nat) => Hp I w [Blk t.a.b (.cells #[.slice t.a.dA t.ds.length t.a.dc, .pointer (some ⟨t.a.m.b, 0, none⟩), .int .u64 t.bud, .slice t.a.pA t.ds.length t.a.pc] 103 (0, 0)), OS 108 domK t.a.dA t.a.dc (rqK t.ds md t.ds.length), Big pF (rqK t.ds md t.ds.length), Blk t.a.m.b (.cells #[.slice t.a.m.hA t.D.length t.a.m.hc, .slice t.a.m.lA t.L.length t.a.m.lc, .int .i64 t.base, .slice t.a.m.eA t.D.length t.a.m.ec, .int .i64 t.rel] 197 (0, 0)), OS 41 hdK t.a.m.hA t.a.m.hc t.D, OS 195 hlK t.a.m.lA t.a.m.lc t.L, OS 2 (intK .i64) t.a.m.eA t.a.m.ec t.E, OS 2 (intK .i64) t.a.pA t.a.pc (pwK t.ds md gr t.p q), OS 3 (intK .i64) b0_5 t.ds.length (ldK t.ds md t.ds.length), OS 24 (intK .u64) Ag cg gr]) (0) (Nat.zero_le _) ⟨rfl, rfl, rfl, rfl, rfl, rfl, trivial⟩ (fun _ h => by rw [pwK_zero]; exact h) ?_
  intro q hinv2
  refine CV.seq (CV.region ?_)
  refine RV.op (OV.split gno (Step.lss rfl rfl) rfl (fun cc2 => ?_) (fun cc2 => ?_))
  ·
   refine RV.nil (KV.then_n (KV.e7 0 4 8 9 74 75 76 (CV.seq (CV.cond_t rfl (CV.skip ?_)))))
   refine KV.then_n (KV.e6 0 4 8 9 74 75 (CV.seq (CV.block (CV.seq (CV.region ?_)))))
   refine RV.m rfl rfl (RV.a rfl rfl ?_)
   refine RV.nil (KV.then_n (KV.e7 0 4 8 9 10 74 75 (CV.seq (CV.region ?_))))
   refine RV.m rfl rfl (RV.s (Step.nilCheck rfl) rfl (RV.s (Step.fieldAddr rfl (F103_3 _ _)) rfl (RV.s (Step.load Tryz.underlying56 rfl rfl (fun w h => h.cell 0 rfl rfl)) rfl (RV.m rfl rfl ?_))))
   refine RV.op (OV.step gno (Step.idx Tryz.underlying56 I2 (fun w h => h.os 7 rfl) rfl rfl (by first | rfl | (rw [rqK_len]) | (rw [ldK_len]) | (rw [acL_len]) | (rw [pwK_len, hpl]) | (simp only [List.length_set, ldK_len, pwK_len, hpl]) | exact hgl.symm) _ rfl (by first | omega | (rw [rqK_len]; omega) | (rw [ldK_len]; omega) | (rw [acL_len]; omega) | (rw [pwK_len]; omega) | (simp only [List.length_set, ldK_len, pwK_len]; omega))) rfl ?_)
   refine RV.op (OV.storeE 7 (q) (0) (j := 0) [_] I2 rfl rfl rfl rfl rfl rfl (by rw [pwK_len]; omega) rfl (Nat.le_of_ble_eq_true rfl) gno ?_)
   refine RV.nil (KV.then_n (KV.e7 0 4 8 9 10 74 75 (CV.seq (CV.region ?_))))
   refine RV.m rfl rfl (RV.s (Step.eql rfl rfl) rfl ?_)
   refine RV.nil (KV.then_n (KV.e8 0 4 8 9 10 74 75 85 (CV.cond_t rfl ?_)))
   refine CV.any (Hp I w [Blk t.a.b (.cells #[.slice t.a.dA t.ds.length t.a.dc, .pointer (some ⟨t.a.m.b, 0, none⟩), .int .u64 t.bud, .slice t.a.pA t.ds.length t.a.pc] 103 (0, 0)), OS 108 domK t.a.dA t.a.dc (rqK t.ds md t.ds.length), OS 3 (intK .i64) b0_5 t.ds.length (ldK t.ds md t.ds.length), OS 24 (intK .u64) Ag cg gr]) (by kernel_rfl) (fun _ h => h.drew) 22 rfl ?_
   refine AV.u 0 (bl 22 1) rfl gno (Step.move rfl) rfl (fun _ h => h.sel [0, 0, 6, 6] rfl) ?_
   refine AV.u 1 (bl 22 3) rfl gno (Step.nilCheck rfl) rfl (fun _ h => h.sel [0, 0, 6, 6] rfl) ?_
   refine AV.u 2 (bl 22 7) rfl gno (Step.fieldAddr rfl (F103_3 _ _)) rfl (fun _ h => h.sel [0, 0, 6, 6] rfl) ?_
   refine AV.u 3 (bl 22 15) rfl gno (Step.load Tryz.underlying56 rfl rfl (fun w h => h.cell 0 rfl rfl)) rfl (fun _ h => h.sel [0, 0, 6, 6] rfl) ?_
   refine AV.u 4 (bl 22 31) rfl gno (Step.move rfl) rfl (fun _ h => h.sel [0, 0, 6, 6] rfl) ?_
   refine AV.u 5 (bl 22 63) rfl gno (Step.move rfl) rfl (fun _ h => h.sel [0, 0, 6, 6] rfl) ?_
   refine AV.u 6 (bl 22 127) rfl gno (Step.nilCheck rfl) rfl (fun _ h => h.sel [0, 0, 6, 6] rfl) ?_
   refine AV.u 7 (bl 22 255) rfl gno (Step.fieldAddr rfl (F103_0 _ _)) rfl (fun _ h => h.sel [0, 0, 6, 6] rfl) ?_
   refine AV.u 8 (bl 22 511) rfl gno (Step.load Tryz.underlying100 rfl rfl (fun w h => h.cell 0 rfl rfl)) rfl (fun _ h => h.sel [0, 0, 6, 6] rfl) ?_
   refine AV.u 9 (bl 22 1023) rfl gno (Step.move rfl) rfl (fun _ h => h.sel [0, 0, 6, 6] rfl) ?_
   refine AV.u 10 (bl 22 2047) rfl gno (Step.idx Tryz.underlying100 I108 (fun w h => h.os 1 rfl) rfl rfl (by first | rfl | (rw [rqK_len]) | (rw [ldK_len]) | (rw [acL_len]) | (rw [pwK_len, hpl]) | (simp only [List.length_set, ldK_len, pwK_len, hpl]) | exact hgl.symm) _ rfl (by first | omega | (rw [rqK_len]; omega) | (rw [ldK_len]; omega) | (rw [acL_len]; omega) | (rw [pwK_len]; omega) | (simp only [List.length_set, ldK_len, pwK_len]; omega))) rfl (fun _ h => h.sel [0, 0, 6, 6] rfl) ?_
   refine AV.u 11 (bl 22 4095) rfl gno (Step.move rfl) rfl (fun _ h => h.sel [0, 0, 6, 6] rfl) ?_
   refine AV.u 12 (bl 22 8191) rfl gno (Step.move rfl) rfl (fun _ h => h.sel [0, 0, 6, 6] rfl) ?_
   refine AV.u 13 (bl 22 16383) rfl gno (Step.idx Tryz.underlying48 I3 (fun w h => h.os 2 rfl) rfl rfl (by first | rfl | (rw [rqK_len]) | (rw [ldK_len]) | (rw [acL_len]) | (rw [pwK_len, hpl]) | (simp only [List.length_set, ldK_len, pwK_len, hpl]) | exact hgl.symm) _ rfl (by first | omega | (rw [rqK_len]; omega) | (rw [ldK_len]; omega) | (rw [acL_len]; omega) | (rw [pwK_len]; omega) | (simp only [List.length_set, ldK_len, pwK_len]; omega))) rfl (fun _ h => h.sel [0, 0, 6, 6] rfl) ?_
   refine AV.u 14 (bl 22 32767) rfl gno (Step.load Tryz.underlying3 rfl rfl (fun w h => (h.os 2 rfl).cell0 (by rw [ldK_len]; omega) rfl)) rfl (fun _ h => h.sel [0, 0, 6, 6] rfl) ?_
   rw [ldK_end t.ds md (show q < t.ds.length by omega)]
   refine AV.u 15 (bl 22 65535) rfl gno (Step.move rfl) rfl (fun _ h => h.sel [0, 0, 6, 6] rfl) ?_
   refine AV.u 16 (bl 22 131071) rfl gno (Step.move rfl) rfl (fun _ h => h.sel [0, 0, 6, 6] rfl) ?_
   refine AV.u 17 (bl 22 262143) rfl gno (Step.idx Tryz.underlying85 I24 (fun w h => h.os 3 rfl) rfl rfl (by first | rfl | (rw [rqK_len]) | (rw [ldK_len]) | (rw [acL_len]) | (rw [pwK_len, hpl]) | (simp only [List.length_set, ldK_len, pwK_len, hpl]) | exact hgl.symm) _ rfl (by first | omega | (rw [rqK_len]; omega) | (rw [ldK_len]; omega) | (rw [acL_len]; omega) | (rw [pwK_len]; omega) | (simp only [List.length_set, ldK_len, pwK_len]; omega))) rfl (fun _ h => h.sel [0, 0, 6, 6] rfl) ?_
   refine AV.u 18 (bl 22 524287) rfl gno (Step.load Tryz.underlying24 rfl rfl (fun w h => (h.os 3 rfl).cell0 (by omega) rfl)) rfl (fun _ h => h.sel [0, 0, 6, 6] rfl) ?_
   refine AV.all [19] (by kernel_rfl) (by decide) ?_
   refine ⟨⟨_, rfl, ?_⟩, trivial⟩
   ·
    refine OV.call [] (F := [_, _, _, _, _, _, _, _, _, _]) Tryz.func85 B85 N85 rfl rfl (fun w h => power_fn (h.os 1 rfl) (i := q) (by rw [rqK_len]; omega) (h.bigOS (G := fun b w => RS w ptK b.A b.x.ys) domK.d (k := 2) rfl (by rw [rqK_len]; omega) fun _ _ hs => pF_pts hs) (by rw [rqK_ys t.ds md _ (show q < t.ds.length by omega)]; exact (hT.dom (by omega)).t) (by rw [rqK_ys t.ds md _ (show q < t.ds.length by omega)]; exact (hT.dom (by omega)).f) (ldM md (pdA t.ds q).x) (gr.getD q (intK .u64).d) (ldM_bd (hT.dom (by omega))).1 (ldM_bd (hT.dom (by omega))).2) (fun _ hb => hb.elim) gno rfl (fun v L' hp => ?_)
    obtain ⟨rfl, rfl⟩ := hp
    simp only [List.append_nil]
    rw [rqK_ys t.ds md _ (show q < t.ds.length by omega)]
    refine AV.next (bl 22 1048575) (by kernel_rfl) (fun _ h => h.sel [0, 0, 6, 6] rfl) ?_
    refine AV.all [20] (by kernel_rfl) (by decide) ?_
    refine ⟨⟨_, rfl, ?_⟩, trivial⟩
    ·
     refine OV.step gno (Step.idx Tryz.underlying56 I2 (fun w h => h.os 7 rfl) rfl rfl (by first | rfl | (rw [rqK_len]) | (rw [ldK_len]) | (rw [acL_len]) | (rw [pwK_len, hpl]) | (simp only [List.length_set, ldK_len, pwK_len, hpl]) | exact hgl.symm) _ rfl (by first | omega | (rw [rqK_len]; omega) | (rw [ldK_len]; omega) | (rw [acL_len]; omega) | (rw [pwK_len]; omega) | (simp only [List.length_set, ldK_len, pwK_len]; omega))) rfl ?_
     refine AV.next (bl 22 2097151) (by kernel_rfl) (fun _ h => h.sel [0, 0, 6, 6] rfl) ?_
     refine AV.all [21] (by kernel_rfl) (by decide) ?_
     refine ⟨⟨_, rfl, ?_⟩, trivial⟩
     ·
      refine OV.storeE 7 (q) ((powM (pdA t.ds q).x.ys (ldM md (pdA t.ds q).x) (gr.getD q (intK .u64).d))) (j := 0) [_] I2 rfl rfl rfl rfl rfl rfl (by simp only [List.length_set, pwK_len]; omega) rfl (Nat.le_of_ble_eq_true rfl) gno ?_
      refine AV.next (bl 22 4194303) (by kernel_rfl) (fun _ h => h.sel [0, 0, 6, 6] rfl) ?_
      refine AV.done (by kernel_rfl) ?_
      refine KV.block_n (KV.then_n (KV.e6 0 4 8 9 74 75 (CV.region ?_)))
      (first | refine RV.op (OV.step gno (Step.add rfl rfl (wI64 (by omega) (by omega))) rfl ?_) | refine RV.op (OV.step gno (Step.add rfl rfl rfl) rfl ?_))
      refine RV.m rfl rfl ?_
      refine RV.nil (KV.then_n (KV.e6 0 4 8 9 74 75 ?_))
      refine KV.sel [0, 0, 0, 0, 0, 0, 0, 0, 0, 0] [_, _, _, _, _, _, _, _, _, _] rfl ?_
      exact KV.loopI (z := q) (q + 1) (by omega) (by omega) ⟨rfl, rfl, rfl, rfl, rfl, rfl, trivial⟩ (fun _ h => by rw [← pwK_set t.ds md gr t.p (by omega) 0]; exact h)
  ·
   refine RV.nil (KV.then_n (KV.e7 0 4 8 9 74 75 76 (CV.seq (CV.cond_f rfl (CV.exit ?_)))))
   refine KV.then_exit (KV.then_exit (KV.block_hit ?_))
   refine KV.sel [0, 0, 0, 0, 0, 0, 0, 0] [_, _, _, _, _, _, _, _] rfl ?_
   obtain rfl : q = t.ds.length := by omega
   exact KV.ret0 rfl (tobj { t with ds := rqK t.ds md t.ds.length, p := pwK t.ds md gr t.p t.ds.length }) (fun _ h => tobj_of _ (rqK_len ..).symm (rqK_len ..).symm h) ⟨_, pwK_end hT hgr, rfl⟩
end Go.Proofs.YtdfkpdcpegcieaaGreatDoor
