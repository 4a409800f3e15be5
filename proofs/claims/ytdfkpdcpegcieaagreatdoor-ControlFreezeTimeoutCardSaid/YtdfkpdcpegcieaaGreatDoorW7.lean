/-
 Walks, part 7.
-/
import Derived.Test.YtdfkpdcpegcieaaGreatDoorTabA
import Derived.Test.YtdfkpdcpegcieaaGreatDoorW6
set_option linter.unusedSimpArgs false
set_option linter.unusedVariables false
namespace Go.Proofs.YtdfkpdcpegcieaaGreatDoor
open Go.Sv Go.Perf Go.Ctl
set_option maxRecDepth 100000 in
set_option maxHeartbeats 4000000 in
theorem run_fn (t : PT) {lim : Int} (hT : t.T.ok lim) (hn0 : 0 < t.ds.length) (md : Int) {w : World} : Fx Tryz.prog 17 [.pointer (some ⟨t.a.b, 0, none⟩), .int .i64 md] w (tobj t) no (fun v L => ∃ t2 : PT, RunR md t.T t2.T ∧ t2.a = t.a ∧ L = tobj t2) := by
 refine Sv.Fx.body Tryz.func17 rfl T17 rfl ?_
 intro I hro hI
 refine KV.e2 0 1 ?_
 have hn8 := hT.n8'
 have hpl := hT.pl'
 have hdl := hT.dl'
 refine CV.seq (CV.seq (CV.region ?_))
 refine RV.m rfl rfl (RV.s (Step.nilCheck rfl) rfl (RV.s (Step.fieldAddr rfl (F103_0 _ _)) rfl (RV.s (Step.load Tryz.underlying100 rfl rfl (fun w h => h.cell 0 rfl rfl)) rfl (RV.s (Step.lenSl Tryz.underlying100 rfl) rfl ?_))))
 refine RV.op (OV.split gno (Step.eql rfl rfl) rfl (fun e0 => ?_) (fun e0 => ?_))
 ·
  exfalso; omega
 ·
  refine RV.nil (KV.then_n (KV.e3 0 1 13 (CV.cond_f rfl (CV.skip (KV.then_n ?_)))))
  refine KV.e2 0 1 ?_
  refine CV.join2 (fun (zl : List PD) (pw : List Int) => [(0, .pointer (some ⟨t.a.b, 0, none⟩)), (1, .int .i64 md)]) (fun (zl : List PD) (pw : List Int) => (fun w9 => ((zl.length = t.ds.length ∧ pw.length = t.ds.length) ∧ (∀ k, k < t.ds.length → DRl (pdA t.ds k).x (zl.getD k domK.d).x) ∧ (if md = 0 then pw = List.replicate t.T.ds.length 0 else PwR t.T.ds md t.bud pw)) ∧ Hp I w [Blk t.a.b (.cells #[.slice t.a.dA t.ds.length t.a.dc, .pointer (some ⟨t.a.m.b, 0, none⟩), .int .u64 t.bud, .slice t.a.pA t.ds.length t.a.pc] 103 (0, 0)), OS 108 domK t.a.dA t.a.dc zl, Big pF zl, Blk t.a.m.b (.cells #[.slice t.a.m.hA t.D.length t.a.m.hc, .slice t.a.m.lA t.L.length t.a.m.lc, .int .i64 t.base, .slice t.a.m.eA t.D.length t.a.m.ec, .int .i64 t.rel] 197 (0, 0)), OS 41 hdK t.a.m.hA t.a.m.hc t.D, OS 195 hlK t.a.m.lA t.a.m.lc t.L, OS 2 (intK .i64) t.a.m.eA t.a.m.ec t.E, OS 2 (intK .i64) t.a.pA t.a.pc pw] w9)) ?_ ?_
  ·
   skip
   refine CV.seq (CV.region ?_)
   refine RV.m rfl rfl ?_
   refine RV.op (OV.split gno (Step.eql rfl rfl) rfl (fun hm0 => ?_) (fun hm0 => ?_))
   ·
    refine RV.nil (KV.then_n (KV.e3 0 1 15 (CV.cond_t rfl (CV.region ?_))))
    refine RV.m rfl rfl (RV.s (Step.nilCheck rfl) rfl (RV.s (Step.fieldAddr rfl (F103_3 _ _)) rfl (RV.s (Step.load Tryz.underlying56 rfl rfl (fun w h => h.cell 0 rfl rfl)) rfl ?_)))
    refine RV.op (OV.clearAll (K := intK .i64) 7 (0 : Int) Tryz.underlying56 I2 rfl rfl rfl hpl.symm gno ?_)
    refine RV.nil (KV.then_n (KV.e2 0 1 ?_))
    refine KV.sel [0, 0, 0, 0, 0, 0, 0, 0] [_, _, _, _, _, _, _, _] rfl ?_
    (first | exact KV.join2 (t.ds) ((List.replicate t.p.length 0)) ⟨rfl, rfl, trivial⟩ (fun _ h => by first | exact ⟨⟨⟨rfl, by rw [List.length_replicate]; exact hpl⟩, fun k hk => DRl.refl (hT.dom hk), by rw [if_pos hm0, hpl]; exact rep_len⟩, h⟩ | exact ⟨⟨⟨rqK_len .., (pwR_len hpw).trans (by simp [PT.T])⟩, fun k hk => rqK_rl hT md _ hk, by rw [if_neg hm0]; exact hpw⟩, by simp only [rqK_len] at h; exact h⟩) | exact KV.join2 ((rqK t.ds md t.ds.length)) (pw) ⟨rfl, rfl, trivial⟩ (fun _ h => by first | exact ⟨⟨⟨rfl, by rw [List.length_replicate]; exact hpl⟩, fun k hk => DRl.refl (hT.dom hk), by rw [if_pos hm0, hpl]; exact rep_len⟩, h⟩ | exact ⟨⟨⟨rqK_len .., (pwR_len hpw).trans (by simp [PT.T])⟩, fun k hk => rqK_rl hT md _ hk, by rw [if_neg hm0]; exact hpw⟩, by simp only [rqK_len] at h; exact h⟩))
   ·
    refine RV.nil (KV.then_n (KV.e3 0 1 15 (CV.cond_f rfl (CV.region ?_))))
    refine RV.m rfl rfl (RV.m rfl rfl ?_)
    refine RV.op (OV.call [0, 0, 0, 0, 0, 0, 0, 0] (F := []) Tryz.func48 B48 N48 rfl rfl (fun w h => grant_fn t hT md) (fun _ hb => hb.elim) gno rfl (fun v L' hp => ?_))
    obtain ⟨pw, hpw, rfl⟩ := hp
    refine RV.nil (KV.then_n (KV.e2 0 1 ?_))
    refine KV.sel [0, 0, 0, 0, 0, 0, 0, 0] [_, _, _, _, _, _, _, _] rfl ?_
    (first | exact KV.join2 (t.ds) ((List.replicate t.p.length 0)) ⟨rfl, rfl, trivial⟩ (fun _ h => by first | exact ⟨⟨⟨rfl, by rw [List.length_replicate]; exact hpl⟩, fun k hk => DRl.refl (hT.dom hk), by rw [if_pos hm0, hpl]; exact rep_len⟩, h⟩ | exact ⟨⟨⟨rqK_len .., (pwR_len hpw).trans (by simp [PT.T])⟩, fun k hk => rqK_rl hT md _ hk, by rw [if_neg hm0]; exact hpw⟩, by simp only [rqK_len] at h; exact h⟩) | exact KV.join2 ((rqK t.ds md t.ds.length)) (pw) ⟨rfl, rfl, trivial⟩ (fun _ h => by first | exact ⟨⟨⟨rfl, by rw [List.length_replicate]; exact hpl⟩, fun k hk => DRl.refl (hT.dom hk), by rw [if_pos hm0, hpl]; exact rep_len⟩, h⟩ | exact ⟨⟨⟨rqK_len .., (pwR_len hpw).trans (by simp [PT.T])⟩, fun k hk => rqK_rl hT md _ hk, by rw [if_neg hm0]; exact hpw⟩, by simp only [rqK_len] at h; exact h⟩))
  ·
   intro zl pw
   refine KV.have (fun _ h => h.1) fun hz9 => ?_
   refine KV.heap (fun _ h => h.2) ?_
   obtain ⟨⟨hzl, hpl2⟩, hzr, hzp⟩ := hz9
   have hw := pw_any hT hzp
   have hst := stepOk_of hT hw
   refine CV.seq ?_
   refine CV.any (Hp I w [Blk t.a.b (.cells #[.slice t.a.dA t.ds.length t.a.dc, .pointer (some ⟨t.a.m.b, 0, none⟩), .int .u64 t.bud, .slice t.a.pA t.ds.length t.a.pc] 103 (0, 0))]) (by kernel_rfl) (fun _ h => h.drew) 14 rfl ?_
   refine AV.u 0 (bl 14 1) rfl gno (Step.move rfl) rfl (fun _ h => h.sel [0] rfl) ?_
   refine AV.u 1 (bl 14 3) rfl gno (Step.nilCheck rfl) rfl (fun _ h => h.sel [0] rfl) ?_
   refine AV.u 2 (bl 14 7) rfl gno (Step.fieldAddr rfl (F103_1 _ _)) rfl (fun _ h => h.sel [0] rfl) ?_
   refine AV.u 3 (bl 14 15) rfl gno (Step.load Tryz.underlying101 rfl rfl (fun w h => h.cell 0 rfl rfl)) rfl (fun _ h => h.sel [0] rfl) ?_
   refine AV.u 4 (bl 14 31) rfl gno (Step.move rfl) rfl (fun _ h => h.sel [0] rfl) ?_
   refine AV.u 5 (bl 14 63) rfl gno (Step.nilCheck rfl) rfl (fun _ h => h.sel [0] rfl) ?_
   refine AV.u 6 (bl 14 127) rfl gno (Step.fieldAddr rfl (F103_3 _ _)) rfl (fun _ h => h.sel [0] rfl) ?_
   refine AV.u 7 (bl 14 255) rfl gno (Step.load Tryz.underlying56 rfl rfl (fun w h => h.cell 0 rfl rfl)) rfl (fun _ h => h.sel [0] rfl) ?_
   refine AV.all [8] (by kernel_rfl) (by decide) ?_
   refine ⟨⟨_, rfl, ?_⟩, trivial⟩
   ·
    refine OV.call [3, 3, 3, 3, 3] (F := [_, _, _]) Tryz.func49 B49 N49 rfl rfl (fun w h => step_fn t.a.m t.D t.L t.base t.E t.rel hst hpl2.symm (by omega) hT.ll) (fun _ hb => hb.elim) gno rfl (fun v L' hp => ?_)
    obtain ⟨At, ct, rel2, rfl, rfl⟩ := hp
    refine AV.next (bl 14 511) (by kernel_rfl) (fun _ h => h.sel [0] rfl) ?_
    refine AV.u 9 (bl 14 1023) rfl gno (Step.move rfl) rfl (fun _ h => h.sel [0] rfl) ?_
    refine AV.u 10 (bl 14 2047) rfl gno (Step.extract0 rfl rfl) rfl (fun _ h => h.sel [0] rfl) ?_
    refine AV.u 11 (bl 14 4095) rfl gno (Step.extract0 rfl rfl) rfl (fun _ h => h.sel [0] rfl) ?_
    refine AV.u 12 (bl 14 8191) rfl gno (Step.assign rfl) rfl (fun _ h => h.sel [0] rfl) ?_
    refine AV.u 13 (bl 14 16383) rfl gno (Step.assign rfl) rfl (fun _ h => h.sel [0] rfl) ?_
    refine AV.done (by kernel_rfl) ?_
    refine KV.then_n (KV.e4 0 1 4 5 (CV.seq (CV.seq (CV.region ?_))))
    refine RV.m rfl rfl (RV.s (Step.neq rfl rfl) rfl (RV.m rfl rfl (RV.gw rfl (Step.move rfl) rfl ?_)))
    refine RV.op (OV.split (gyes rfl) (Step.eql rfl rfl) rfl (fun hm1 => ?_) (fun hm1 => ?_))
    ·
     refine RV.s (Step.pick_f rfl rfl) rfl ?_
     refine RV.nil (KV.then_n (KV.e3 0 4 40 (CV.cond_t rfl (CV.ret (KV.then_ret ?_)))))
     refine KV.sel [0, 0, 0, 0, 0, 0, 0, 0] [_, _, _, _, _, _, _, _] rfl ?_
     exact KV.ret0 rfl (tobj { t with ds := zl, E := stepE t.D t.L t.base t.E pw, rel := rel2, p := pw }) (fun _ h => tobj_of { t with ds := zl, E := stepE t.D t.L t.base t.E pw, rel := rel2, p := pw } hzl.symm hzl.symm h) ⟨{ t with ds := zl, E := stepE t.D t.L t.base t.E pw, rel := rel2, p := pw }, run_of hzl hzr hzp, rfl, rfl⟩
    ·
     refine RV.s (Step.pick_f rfl rfl) rfl ?_
     refine RV.nil (KV.then_n (KV.e3 0 4 40 (CV.cond_f rfl (CV.skip (KV.then_n ?_)))))
     refine KV.e2 0 4 (CV.seq (CV.region ?_))
     refine RV.m rfl rfl (RV.s (Step.lenSl Tryz.underlying56 rfl) rfl (RV.m rfl rfl ?_))
     refine RV.nil (KV.then_n (KV.e4 0 41 42 43 (CV.block ?_)))
     refine KV.sel [0, 0, 0, 0, 0, 0, 0, 0, 0] [_, _, _, _, _, _, _, _, _] rfl ?_
     refine CV.loop2 (fun (i : Nat) (y : List PD) => (i ≤ t.ds.length ∧ y.length = t.ds.length) ∧ ∀ k, k < t.ds.length → DRl (pdA t.ds k).x (y.getD k domK.d).x) (fun (i : Nat) (y : List PD) => t.ds.length - i) (fun (i : Nat) (y : List PD) => [(0, .pointer (some ⟨t.a.b, 0, none⟩)), (41, .slice At t.D.length ct), (42, .int .i64 t.D.length), (43, .int .i64 i)]) (fun (i : Nat) (y : List PD) => Hp I w [Blk t.a.b (.cells #[.slice t.a.dA t.ds.length t.a.dc, .pointer (some ⟨t.a.m.b, 0, none⟩), .int .u64 t.bud, .slice t.a.pA t.ds.length t.a.pc] 103 (0, 0)), OS 108 domK t.a.dA t.a.dc y, Big pF y, Blk t.a.m.b (.cells #[.slice t.a.m.hA t.D.length t.a.m.hc, .slice t.a.m.lA t.L.length t.a.m.lc, .int .i64 t.base, .slice t.a.m.eA t.D.length t.a.m.ec, .int .i64 rel2] 197 (0, 0)), OS 41 hdK t.a.m.hA t.a.m.hc t.D, OS 195 hlK t.a.m.lA t.a.m.lc t.L, OS 2 (intK .i64) t.a.m.eA t.a.m.ec (stepE t.D t.L t.base t.E pw), OS 2 (intK .i64) t.a.pA t.a.pc pw, OS 2 (intK .i64) At ct (tmps t.D (stepE t.D t.L t.base t.E pw))]) (0) (zl) ⟨⟨Nat.zero_le _, hzl⟩, hzr⟩ ⟨rfl, rfl, rfl, rfl, trivial⟩ (fun _ h => h) ?_
     intro i y hinv
     refine CV.seq (CV.region ?_)
     refine RV.op (OV.split gno (Step.lss rfl rfl) rfl (fun cc1 => ?_) (fun cc1 => ?_))
     ·
      refine RV.nil (KV.then_n (KV.e5 0 41 42 43 44 (CV.seq (CV.cond_t rfl (CV.skip ?_)))))
      refine KV.then_n (KV.e4 0 41 42 43 (CV.seq (CV.block (CV.seq (CV.region ?_)))))
      refine RV.m rfl rfl ?_
      refine RV.op (OV.step gno (Step.idx Tryz.underlying56 I2 (fun w h => h.os 8 rfl) rfl rfl (by first | rfl | omega | (rw [tmps_len])) _ rfl (by first | omega | (rw [tmps_len]; omega))) rfl ?_)
      refine RV.s (Step.load Tryz.underlying2 rfl rfl (fun w h => (h.os 8 rfl).cell0 (by rw [tmps_len]; omega) rfl)) rfl ?_
      refine RV.a rfl rfl (RV.a rfl rfl ?_)
      refine RV.nil (KV.then_n (KV.e6 0 6 7 41 42 43 ?_))
      refine KV.sel [1, 1, 0, 0, 0, 0, 0, 0, 0] [_, _, _, _, _, _, _, _, _] rfl ?_
      refine KV.heap (fun w h => openD h (m := i) (by omega)) ?_
      refine CV.region ?_
      refine RV.m rfl rfl (RV.s (Step.nilCheck rfl) rfl (RV.s (Step.fieldAddr rfl (F103_0 _ _)) rfl (RV.s (Step.load Tryz.underlying100 rfl rfl (fun w h => h.cell 9 rfl rfl)) rfl (RV.m rfl rfl ?_))))
      refine RV.op (OV.step gno (Step.idx Tryz.underlying100 I108 (fun w h => h.os 0 rfl) rfl rfl (by first | rfl | omega | (rw [tmps_len])) _ rfl (by first | omega | (rw [tmps_len]; omega))) rfl ?_)
      refine RV.s (Step.fieldAddr rfl (F108_6 _ _)) rfl ?_
      refine RV.s (Step.load Tryz.underlying106 rfl rfl (fun w h => (h.os 0 rfl).cell (by omega) rfl)) rfl ?_
      refine RV.m rfl rfl ?_
      refine RV.op (OV.call [5, 5, 5] (F := [_, _, _, _, _, _, _, _, _, _, _, _, _]) Tryz.func50 B50 N50 rfl rfl (fun w h => update_fn (y.getD i domK.d).zb (y.getD i domK.d).zA (y.getD i domK.d).zc (y.getD i domK.d).oA (y.getD i domK.d).oc (y.getD i domK.d).x.z (hinv.2 i (by omega)).ok.z _) (fun _ hb => hb.elim) gno rfl (fun v L' hp => ?_))
      obtain ⟨z2, hnx, rfl⟩ := hp
      refine RV.nil (KV.block_n (KV.then_n (KV.e4 0 41 42 43 ?_)))
      refine KV.sel [0, 0, 0, 0, 0, 8, 8, 8, 0, 0, 0, 0, 0, 0, 0, 0] [_, _, _, _, _, _, _, _, _, _, _, _, _, _, _, _] rfl ?_
      refine KV.heap (fun w h => closeD (d := zP (y.getD i domK.d) z2) h (m := i) (by omega)) ?_
      refine CV.region ?_
      (first | refine RV.op (OV.step gno (Step.add rfl rfl (wI64 (by omega) (by omega))) rfl ?_) | refine RV.op (OV.step gno (Step.add rfl rfl rfl) rfl ?_))
      refine RV.m rfl rfl ?_
      refine RV.nil (KV.then_n (KV.e4 0 41 42 43 ?_))
      refine KV.sel [2, 0, 0, 0, 0, 0, 0, 0, 0] [_, _, _, _, _, _, _, _, _] rfl ?_
      exact KV.loop2 (x := i) (y := y) (i + 1) ((y.set i (zP (y.getD i domK.d) z2))) ⟨⟨by omega, by rw [List.length_set]; exact hinv.1.2⟩, rl_set hinv.1.2 hinv.2 (zP_rl (hinv.2 i (by omega)) hnx)⟩ (by omega) ⟨rfl, rfl, rfl, rfl, trivial⟩ (fun _ h => by rw [zP_os]; exact h)
     ·
      refine RV.nil (KV.then_n (KV.e5 0 41 42 43 44 (CV.seq (CV.cond_f rfl (CV.exit ?_)))))
      refine KV.then_exit (KV.then_exit (KV.block_hit ?_))
      refine KV.sel [0, 0, 0, 0, 0, 0, 0, 0] [_, _, _, _, _, _, _, _] rfl ?_
      exact KV.ret0 rfl (tobj { t with ds := y, E := stepE t.D t.L t.base t.E pw, rel := rel2, p := pw }) (fun _ h => tobj_of { t with ds := y, E := stepE t.D t.L t.base t.E pw, rel := rel2, p := pw } hinv.1.2.symm hinv.1.2.symm h) ⟨{ t with ds := y, E := stepE t.D t.L t.base t.E pw, rel := rel2, p := pw }, run_of hinv.1.2 hinv.2 hzp, rfl, rfl⟩

set_option maxRecDepth 100000 in
set_option maxHeartbeats 4000000 in
theorem restartT_fn (t : PT) {lim : Int} (hT : t.T.ok lim) {w : World} : Fx Tryz.prog 22 [.pointer (some ⟨t.a.b, 0, none⟩)] w (tobj t) no (fun v L => ∃ y : List PD, y.length = t.ds.length ∧ (∀ k, k < t.ds.length → (y.getD k domK.d).x = resD (pdA t.ds k).x) ∧ L = tobj { t with ds := y }) := by
 refine Sv.Fx.body Tryz.func22 rfl T22 rfl ?_
 intro I hro hI
 refine KV.e1 0 ?_
 have hn8 := hT.n8'
 refine CV.seq (CV.region ?_)
 refine RV.m rfl rfl (RV.s (Step.nilCheck rfl) rfl (RV.s (Step.fieldAddr rfl (F103_0 _ _)) rfl (RV.s (Step.load Tryz.underlying100 rfl rfl (fun w h => h.cell 0 rfl rfl)) rfl (RV.s (Step.lenSl Tryz.underlying100 rfl) rfl (RV.m rfl rfl ?_)))))
 refine RV.nil (KV.then_n (KV.e3 0 7 8 (CV.block ?_)))
 refine KV.sel [0, 0, 0, 0, 0, 0, 0, 0] [_, _, _, _, _, _, _, _] rfl ?_
 refine CV.loop2 (fun (i : Nat) (y : List PD) => (i ≤ t.ds.length ∧ y.length = t.ds.length) ∧ (∀ k, k < i → (y.getD k domK.d).x = resD (pdA t.ds k).x) ∧ (∀ k, i ≤ k → k < t.ds.length → y.getD k domK.d = pdA t.ds k)) (fun (i : Nat) (y : List PD) => t.ds.length - i) (fun (i : Nat) (y : List PD) => [(0, .pointer (some ⟨t.a.b, 0, none⟩)), (7, .int .i64 t.ds.length), (8, .int .i64 i)]) (fun (i : Nat) (y : List PD) => Hp I w [Blk t.a.b (.cells #[.slice t.a.dA t.ds.length t.a.dc, .pointer (some ⟨t.a.m.b, 0, none⟩), .int .u64 t.bud, .slice t.a.pA t.ds.length t.a.pc] 103 (0, 0)), OS 108 domK t.a.dA t.a.dc y, Big pF y, Blk t.a.m.b (.cells #[.slice t.a.m.hA t.D.length t.a.m.hc, .slice t.a.m.lA t.L.length t.a.m.lc, .int .i64 t.base, .slice t.a.m.eA t.D.length t.a.m.ec, .int .i64 t.rel] 197 (0, 0)), OS 41 hdK t.a.m.hA t.a.m.hc t.D, OS 195 hlK t.a.m.lA t.a.m.lc t.L, OS 2 (intK .i64) t.a.m.eA t.a.m.ec t.E, OS 2 (intK .i64) t.a.pA t.a.pc t.p]) (0) (t.ds) ⟨⟨Nat.zero_le _, rfl⟩, fun k hk => by omega, fun k _ _ => rfl⟩ ⟨rfl, rfl, rfl, trivial⟩ (fun _ h => h) ?_
 intro i y hinv
 refine CV.seq (CV.region ?_)
 refine RV.op (OV.split gno (Step.lss rfl rfl) rfl (fun cc1 => ?_) (fun cc1 => ?_))
 ·
  refine RV.nil (KV.then_n (KV.e4 0 7 8 9 (CV.seq (CV.cond_t rfl (CV.skip ?_)))))
  refine KV.then_n (KV.e3 0 7 8 (CV.seq (CV.block (CV.seq (CV.region ?_)))))
  refine RV.m rfl rfl (RV.a rfl rfl ?_)
  refine RV.nil (KV.then_n (KV.e4 0 2 7 8 ?_))
  have hyi : y.getD i domK.d = pdA t.ds i := hinv.2.2 i (Nat.le_refl _) (by omega)
  refine KV.sel [1, 1, 0, 0, 0, 0, 0, 0] [_, _, _, _, _, _, _, _] rfl ?_
  refine KV.heap (fun w h => openD h (m := i) (by omega)) ?_
  refine CV.region ?_
  refine RV.m rfl rfl (RV.s (Step.nilCheck rfl) rfl (RV.s (Step.fieldAddr rfl (F103_0 _ _)) rfl (RV.s (Step.load Tryz.underlying100 rfl rfl (fun w h => h.cell 9 rfl rfl)) rfl (RV.m rfl rfl ?_))))
  refine RV.op (OV.step gno (Step.idx Tryz.underlying100 I108 (fun w h => h.os 0 rfl) rfl rfl (by first | rfl | omega) _ rfl (by omega)) rfl ?_)
  refine RV.op (OV.call [0, 0, 0] (F := [_, _, _, _, _, _, _, _, _, _, _, _]) Tryz.func53 B53 N53 rfl rfl (fun w h => restartE_fn t.a.dA t.a.dc y (i := i) (by omega) (by rw [hyi]; exact (hT.dom (by omega)).e) (by rw [hyi]; exact (hT.dom (by omega)).tr) (by rw [hyi]; have := (hT.dom (show i < t.ds.length by omega)).t.1; omega) (by rw [hyi]; have := chk12 (hT.dom (show i < t.ds.length by omega)).tr; omega)) (fun _ hb => hb.elim) gno rfl (fun v L' hp => ?_))
  obtain ⟨rfl, bg, Ag, cg, bz, Az, cz, oA, oc, rfl⟩ := hp
  refine RV.nil (KV.block_n (KV.then_n (KV.e3 0 7 8 ?_)))
  refine KV.sel [12, 12, 12, 12, 12, 12, 12, 12, 5, 5, 5, 5, 5, 5, 5] [_, _, _, _, _, _, _, _, _, _, _, _, _, _, _] rfl ?_
  refine KV.heap (fun w h => closeD (d := resP (y.getD i domK.d) bg Ag cg bz Az cz oA oc) h (m := i) (by omega)) ?_
  refine CV.region ?_
  (first | refine RV.op (OV.step gno (Step.add rfl rfl (wI64 (by omega) (by omega))) rfl ?_) | refine RV.op (OV.step gno (Step.add rfl rfl rfl) rfl ?_))
  refine RV.m rfl rfl ?_
  refine RV.nil (KV.then_n (KV.e3 0 7 8 ?_))
  refine KV.sel [2, 0, 0, 0, 0, 0, 0, 0] [_, _, _, _, _, _, _, _] rfl ?_
  exact KV.loop2 (x := i) (y := y) (i + 1) ((y.set i (resP (y.getD i domK.d) bg Ag cg bz Az cz oA oc))) ⟨⟨by omega, by rw [List.length_set]; exact hinv.1.2⟩, res_set hinv.1.2 (by omega) hinv.2.1 (by show resD (y.getD i domK.d).x = _; rw [hyi]), res_rest hinv.1.2 (by omega) hinv.2.2⟩ (by omega) ⟨rfl, rfl, rfl, trivial⟩ (fun _ h => h)
 ·
  refine RV.nil (KV.then_n (KV.e4 0 7 8 9 (CV.seq (CV.cond_f rfl (CV.exit ?_)))))
  refine KV.then_exit (KV.then_exit (KV.block_hit ?_))
  refine KV.sel [0, 0, 0, 0, 0, 0, 0, 0] [_, _, _, _, _, _, _, _] rfl ?_
  obtain rfl : i = t.ds.length := by omega
  exact KV.ret0 rfl (tobj { t with ds := y }) (fun _ h => tobj_of { t with ds := y } hinv.1.2.symm hinv.1.2.symm h) ⟨y, hinv.1.2, hinv.2.1, rfl⟩

set_option maxRecDepth 100000 in
set_option maxHeartbeats 1000000 in
theorem currentH_fn (b : Nat) {A : Option Addr} {n c : Nat} {up dn sm lo hi cu k : Int} {fz : Nat × Nat} {w : World} (hb : w.heap[b]? = some (.cells #[.slice A n c, .int .i64 up, .int .i64 dn, .int .i64 sm, .int .i64 lo, .int .i64 hi, .int .i64 cu, .int .i64 k] 223 fz)) : Fx Tryz.prog 54 [.pointer (some ⟨b, 0, none⟩)] w [] no (fun v L => v = .int .i64 cu ∧ L = []) := by
 refine Sv.Fx.body Tryz.func54 rfl T54 rfl ?_
 intro I hro hI
 refine KV.e1 0 (CV.seq (CV.region ?_))
 refine RV.a rfl rfl ?_
 refine RV.nil (KV.then_n (KV.e1 0 (CV.seq (CV.region ?_))))
 refine RV.m rfl rfl (RV.s (Step.nilCheck rfl) rfl (RV.s (Step.fieldAddr rfl (F223_4 _ _)) rfl (RV.s (Step.load Tryz.underlying3 rfl rfl (fun w h => (cell_of (h.ro hb (hI b)) 6).trans rfl)) rfl (RV.a rfl rfl ?_))))
 refine RV.nil (KV.then_n (KV.e1 2 (CV.ret ?_)))
 refine KV.sel [] [] rfl ?_
 exact KV.ret1 rfl rfl _ (fun _ h => h) ⟨rfl, rfl⟩

set_option maxRecDepth 100000 in
set_option maxHeartbeats 1000000 in
theorem points_fn (t : PT) {lim : Int} (hT : t.T.ok lim) {w : World} : Fx Tryz.prog 25 [.pointer (some ⟨t.a.b, 0, none⟩)] w (tobj t) no (fun v L => ∃ A2 c2, v = .slice A2 t.ds.length c2 ∧ L = tobj t ++ [OS 3 (intK .i64) A2 c2 (cuK t.ds t.ds.length)]) := by
 refine Sv.Fx.body Tryz.func25 rfl T25 rfl ?_
 intro I hro hI
 refine KV.e1 0 ?_
 have hn8 := hT.n8'
 refine CV.seq (CV.region ?_)
 refine RV.a rfl rfl ?_
 refine RV.nil (KV.then_n (KV.e1 0 (CV.seq (CV.region ?_))))
 refine RV.m rfl rfl (RV.s (Step.nilCheck rfl) rfl (RV.s (Step.fieldAddr rfl (F103_0 _ _)) rfl (RV.s (Step.load Tryz.underlying100 rfl rfl (fun w h => h.cell 0 rfl rfl)) rfl (RV.s (Step.lenSl Tryz.underlying100 rfl) rfl ?_))))
 refine RV.op (OV.make (K := (intK .i64)) (t.ds.length) (t.ds.length) (0) Tryz.underlying48 I3 rfl rfl rfl rfl rfl (by omega) (by omega) (by omega) gno rfl (fun b1_5 => ?_))
 refine RV.a rfl rfl ?_
 refine RV.nil (KV.then_n (KV.e2 0 3 (CV.seq (CV.seq (CV.region ?_)))))
 refine RV.m rfl rfl (RV.s (Step.lenSl Tryz.underlying48 rfl) rfl (RV.m rfl rfl ?_))
 refine RV.nil (KV.then_n (KV.e4 0 3 12 13 (CV.block ?_)))
 refine KV.sel [0, 0, 0, 0, 0, 0, 0, 0, 0] [_, _, _, _, _, _, _, _, _] rfl ?_
 refine CV.loopI (fun (i : Nat) => i ≤ t.ds.length) (fun (i : Nat) => t.ds.length - i) (fun (i : Nat) => [(0, .pointer (some ⟨t.a.b, 0, none⟩)), (3, .slice b1_5 t.ds.length t.ds.length), (12, .int .i64 t.ds.length), (13, .int .i64 i)]) (fun (i : Nat) => Hp I w (tobj t ++ [OS 3 (intK .i64) b1_5 t.ds.length (cuK t.ds i)])) (0) (Nat.zero_le _) ⟨rfl, rfl, rfl, rfl, trivial⟩ (fun _ h => by rw [cuK_zero]; exact h) ?_
 intro i hinv
 refine CV.seq (CV.region ?_)
 refine RV.op (OV.split gno (Step.lss rfl rfl) rfl (fun cc1 => ?_) (fun cc1 => ?_))
 ·
  refine RV.nil (KV.then_n (KV.e5 0 3 12 13 14 (CV.seq (CV.cond_t rfl (CV.skip ?_)))))
  refine KV.then_n (KV.e4 0 3 12 13 (CV.seq (CV.block (CV.seq (CV.region ?_)))))
  refine RV.m rfl rfl (RV.a rfl rfl ?_)
  refine RV.nil (KV.then_n (KV.e5 0 3 4 12 13 (CV.region ?_)))
  refine RV.m rfl rfl (RV.m rfl rfl (RV.m rfl rfl (RV.s (Step.nilCheck rfl) rfl (RV.s (Step.fieldAddr rfl (F103_0 _ _)) rfl (RV.s (Step.load Tryz.underlying100 rfl rfl (fun w h => h.cell 0 rfl rfl)) rfl (RV.m rfl rfl ?_))))))
  refine RV.op (OV.step gno (Step.idx Tryz.underlying100 I108 (fun w h => h.os 1 rfl) rfl rfl (by first | rfl | (rw [cuK_len])) _ rfl (by first | omega | (rw [cuK_len]; omega))) rfl ?_)
  refine RV.s (Step.fieldAddr rfl (F108_5 _ _)) rfl ?_
  refine RV.s (Step.load Tryz.underlying105 rfl rfl (fun w h => (h.os 1 rfl).cell (by omega) rfl)) rfl ?_
  refine RV.op (OV.call [] (F := [_, _, _, _, _, _, _, _, _]) Tryz.func54 B54 N54 rfl rfl (fun w h => currentH_fn (t.ds.getD i domK.d).gb (h.bigOS (G := fun b w => w.heap[b.gb]? = some (.cells #[.slice b.gA b.x.g.ys.length b.gc, .int .i64 b.x.g.up, .int .i64 b.x.g.dn, .int .i64 b.x.g.sm, .int .i64 b.x.g.lo, .int .i64 b.x.g.hi, .int .i64 b.x.g.cu, .int .i64 b.x.g.n] 223 (0, 0))) domK.d (k := 2) rfl (m := i) (by omega) fun _ _ hs => pF_gov hs)) (fun _ hb => hb.elim) gno rfl (fun v L' hp => ?_))
  obtain ⟨rfl, rfl⟩ := hp
  simp only [List.append_nil]
  refine RV.op (OV.step gno (Step.idx Tryz.underlying48 I3 (fun w h => h.os 8 rfl) rfl rfl (by first | rfl | (rw [cuK_len])) _ rfl (by first | omega | (rw [cuK_len]; omega))) rfl ?_)
  refine RV.op (OV.storeE 8 (i) ((((t.ds.getD i domK.d).x.g.cu : Nat) : Int)) (j := 0) [_] I3 rfl rfl rfl rfl rfl rfl (by rw [cuK_len]; omega) rfl (Nat.le_of_ble_eq_true rfl) gno ?_)
  refine RV.nil (KV.block_n (KV.then_n (KV.e4 0 3 12 13 (CV.region ?_))))
  (first | refine RV.op (OV.step gno (Step.add rfl rfl (wI64 (by omega) (by omega))) rfl ?_) | refine RV.op (OV.step gno (Step.add rfl rfl rfl) rfl ?_))
  refine RV.m rfl rfl ?_
  refine RV.nil (KV.then_n (KV.e4 0 3 12 13 ?_))
  refine KV.sel [0, 0, 0, 0, 0, 0, 0, 0, 0] [_, _, _, _, _, _, _, _, _] rfl ?_
  exact KV.loopI (z := i) (i + 1) (by omega) (by omega) ⟨rfl, rfl, rfl, rfl, trivial⟩ (fun _ h => by rw [← cuK_set t.ds (by omega)]; exact h)
 ·
  refine RV.nil (KV.then_n (KV.e5 0 3 12 13 14 (CV.seq (CV.cond_f rfl (CV.exit ?_)))))
  refine KV.then_exit (KV.then_exit (KV.block_hit (KV.then_n (KV.e1 3 (CV.seq ?_)))))
  obtain rfl : i = t.ds.length := by omega
  refine CV.region ?_
  refine RV.m rfl rfl (RV.a rfl rfl ?_)
  refine RV.nil (KV.then_n (KV.e1 2 (CV.ret ?_)))
  refine KV.sel [0, 0, 0, 0, 0, 0, 0, 0, 0] [_, _, _, _, _, _, _, _, _] rfl ?_
  exact KV.ret1 rfl rfl _ (fun _ h => h) ⟨_, _, rfl, rfl⟩
end Go.Proofs.YtdfkpdcpegcieaaGreatDoor
