/-
 Walks, part 3.
-/
import Derived.Test.YtplmfekhdaefaaaGreatDoorTabA
import Derived.Test.YtplmfekhdaefaaaGreatDoorW2
set_option linter.unusedSimpArgs false
set_option linter.unusedVariables false
namespace Go.Proofs.YtplmfekhdaefaaaGreatDoor
open Go.Sv Go.Drv
set_option maxRecDepth 100000 in
set_option maxHeartbeats 4000000 in
theorem rcheck_fn (d : DH) {w : World} (hd : DR w d) : Fx Tryz.prog 23 [.agg #[.string (bs d.name), .slice d.sA d.ss.length d.sc, .slice d.tA d.hs.length d.tc]] w [] no (fun v L => v = .int .i64 (chkM d.d) ∧ L = []) := by
 refine Sv.Fx.body Tryz.func23 rfl T23 rfl ?_
 intro I hro hI
 refine KV.env [(0, _)] ⟨rfl, trivial⟩ (CV.seq (CV.region ?_))
 refine RV.op (OV.box (t := 25) #[_, _, _] rfl rfl gno rfl (fun p => ?_))
 refine RV.a rfl rfl ?_
 refine RV.nil (KV.then_n (KV.env [(1, _)] ⟨rfl, trivial⟩ (CV.seq (CV.seq (CV.region ?_)))))
 refine RV.s (Step.fieldAddr rfl (F25_0 _ _)) rfl (RV.s (Step.load Tryz.underlying9 rfl rfl (fun w h => h.cell 0 rfl rfl)) rfl ?_)
 refine RV.op (OV.callP Tryz.func45 B45 N45 rfl (risName_fn d.name) gno rfl ?_)
 refine RV.s (Step.not rfl) rfl (RV.m rfl rfl ?_)
 refine KV.cases 9 rfl (fun cc1 => ?_) (fun cc1 => ?_)
 ·
  have hnm := neg_t cc1
  refine RV.k rfl rfl (RV.k rfl rfl (RV.k rfl rfl (RV.k rfl rfl (RV.s (Step.pick_t rfl rfl) rfl (RV.m rfl rfl (RV.k rfl rfl (RV.k rfl rfl ?_)))))))
  refine RV.k rfl rfl (RV.k rfl rfl (RV.s (Step.pick_t rfl rfl) rfl (RV.m rfl rfl (RV.k rfl rfl (RV.k rfl rfl (RV.k rfl rfl (RV.k rfl rfl ?_)))))))
  refine RV.s (Step.pick_t rfl rfl) rfl ?_
  refine RV.nil (KV.then_n (KV.env [(1, _), (26, _)] ⟨rfl, rfl, trivial⟩ (CV.cond_t rfl (CV.seq (CV.region ?_)))))
  refine RV.a rfl rfl ?_
  refine RV.nil (KV.then_n (KV.env [(2, _)] ⟨rfl, trivial⟩ (CV.ret (KV.then_ret ?_))))
  refine KV.sel [] [] rfl ?_
  first | exact KV.ret1 rfl rfl _ (fun _ h => h) ⟨by rw [show chkM d.d = 1 from chk_bad (fun k => by have k2 := (chkD_iff d).1 k; first | (exfalso; omega) | exact ff k2.1 hnm | exact ff (k2.2.2.1 j (by omega)) hsj | exact ff (k2.2.2.2.1 j (by omega)) hto | (have k3 := k2.2.2.2.2 j (by omega); have e1 : (th d.hs j).t.frm = (d.hs.getD j thK.d).t.frm := rfl; have e2 : (th d.hs (j - 1)).t.frm = (d.hs.getD (j - 1) thK.d).t.frm := rfl; omega))], rfl⟩
 ·
  have hnm := neg_f cc1
  refine RV.gw rfl (Step.fieldAddr rfl (F25_1 _ _)) rfl (RV.gw rfl (Step.load Tryz.underlying22 rfl rfl (fun w h => h.cell 0 rfl rfl)) rfl (RV.gw rfl (Step.lenSl Tryz.underlying22 rfl) rfl ?_))
  refine RV.op (OV.split (gyes rfl) (Step.eql rfl rfl) rfl (fun a1 => ?_) (fun a1 => ?_))
  ·
   refine RV.s (Step.pick_f rfl rfl) rfl (RV.m rfl rfl (RV.k rfl rfl (RV.k rfl rfl (RV.k rfl rfl (RV.k rfl rfl (RV.s (Step.pick_t rfl rfl) rfl (RV.m rfl rfl ?_)))))))
   refine RV.k rfl rfl (RV.k rfl rfl (RV.k rfl rfl (RV.k rfl rfl (RV.s (Step.pick_t rfl rfl) rfl ?_))))
   refine RV.nil (KV.then_n (KV.env [(1, _), (26, _)] ⟨rfl, rfl, trivial⟩ (CV.cond_t rfl (CV.seq (CV.region ?_)))))
   refine RV.a rfl rfl ?_
   refine RV.nil (KV.then_n (KV.env [(2, _)] ⟨rfl, trivial⟩ (CV.ret (KV.then_ret ?_))))
   refine KV.sel [] [] rfl ?_
   first | exact KV.ret1 rfl rfl _ (fun _ h => h) ⟨by rw [show chkM d.d = 1 from chk_bad (fun k => by have k2 := (chkD_iff d).1 k; first | (exfalso; omega) | exact ff k2.1 hnm | exact ff (k2.2.2.1 j (by omega)) hsj | exact ff (k2.2.2.2.1 j (by omega)) hto | (have k3 := k2.2.2.2.2 j (by omega); have e1 : (th d.hs j).t.frm = (d.hs.getD j thK.d).t.frm := rfl; have e2 : (th d.hs (j - 1)).t.frm = (d.hs.getD (j - 1) thK.d).t.frm := rfl; omega))], rfl⟩
  ·
   refine RV.s (Step.pick_f rfl rfl) rfl (RV.m rfl rfl (RV.gw rfl (Step.fieldAddr rfl (F25_1 _ _)) rfl (RV.gw rfl (Step.load Tryz.underlying22 rfl rfl (fun w h => h.cell 0 rfl rfl)) rfl (RV.gw rfl (Step.lenSl Tryz.underlying22 rfl) rfl ?_))))
   refine RV.op (OV.split (gyes rfl) (Step.gtr rfl rfl) rfl (fun a2 => ?_) (fun a2 => ?_))
   ·
    refine RV.s (Step.pick_f rfl rfl) rfl (RV.m rfl rfl (RV.k rfl rfl (RV.k rfl rfl (RV.k rfl rfl (RV.k rfl rfl (RV.s (Step.pick_t rfl rfl) rfl ?_))))))
    refine RV.nil (KV.then_n (KV.env [(1, _), (26, _)] ⟨rfl, rfl, trivial⟩ (CV.cond_t rfl (CV.seq (CV.region ?_)))))
    refine RV.a rfl rfl ?_
    refine RV.nil (KV.then_n (KV.env [(2, _)] ⟨rfl, trivial⟩ (CV.ret (KV.then_ret ?_))))
    refine KV.sel [] [] rfl ?_
    first | exact KV.ret1 rfl rfl _ (fun _ h => h) ⟨by rw [show chkM d.d = 1 from chk_bad (fun k => by have k2 := (chkD_iff d).1 k; first | (exfalso; omega) | exact ff k2.1 hnm | exact ff (k2.2.2.1 j (by omega)) hsj | exact ff (k2.2.2.2.1 j (by omega)) hto | (have k3 := k2.2.2.2.2 j (by omega); have e1 : (th d.hs j).t.frm = (d.hs.getD j thK.d).t.frm := rfl; have e2 : (th d.hs (j - 1)).t.frm = (d.hs.getD (j - 1) thK.d).t.frm := rfl; omega))], rfl⟩
   ·
    refine RV.s (Step.pick_f rfl rfl) rfl (RV.m rfl rfl (RV.gw rfl (Step.fieldAddr rfl (F25_2 _ _)) rfl (RV.gw rfl (Step.load Tryz.underlying23 rfl rfl (fun w h => h.cell 0 rfl rfl)) rfl (RV.gw rfl (Step.lenSl Tryz.underlying23 rfl) rfl ?_))))
    refine RV.op (OV.split (gyes rfl) (Step.gtr rfl rfl) rfl (fun a3 => ?_) (fun a3 => ?_))
    ·
     refine RV.s (Step.pick_f rfl rfl) rfl ?_
     refine RV.nil (KV.then_n (KV.env [(1, _), (26, _)] ⟨rfl, rfl, trivial⟩ (CV.cond_t rfl (CV.seq (CV.region ?_)))))
     refine RV.a rfl rfl ?_
     refine RV.nil (KV.then_n (KV.env [(2, _)] ⟨rfl, trivial⟩ (CV.ret (KV.then_ret ?_))))
     refine KV.sel [] [] rfl ?_
     first | exact KV.ret1 rfl rfl _ (fun _ h => h) ⟨by rw [show chkM d.d = 1 from chk_bad (fun k => by have k2 := (chkD_iff d).1 k; first | (exfalso; omega) | exact ff k2.1 hnm | exact ff (k2.2.2.1 j (by omega)) hsj | exact ff (k2.2.2.2.1 j (by omega)) hto | (have k3 := k2.2.2.2.2 j (by omega); have e1 : (th d.hs j).t.frm = (d.hs.getD j thK.d).t.frm := rfl; have e2 : (th d.hs (j - 1)).t.frm = (d.hs.getD (j - 1) thK.d).t.frm := rfl; omega))], rfl⟩
    ·
     refine RV.s (Step.pick_f rfl rfl) rfl ?_
     refine RV.nil (KV.then_n (KV.env [(1, _), (26, _)] ⟨rfl, rfl, trivial⟩ (CV.cond_f rfl (CV.skip (KV.then_n ?_)))))
     refine KV.env [(1, _)] ⟨rfl, trivial⟩ (CV.seq (CV.seq (CV.region ?_)))
     refine RV.a rfl rfl ?_
     refine RV.nil (KV.then_n (KV.env [(1, _), (3, _)] ⟨rfl, rfl, trivial⟩ (CV.block ?_)))
     refine KV.sel [0] [_] rfl ?_
     refine CV.loopI (fun (j : Nat) => j ≤ d.ss.length ∧ ∀ k, k < j → isNm (d.ss.getD k []) = true) (fun (j : Nat) => d.ss.length - j) (fun (j : Nat) => [(1, .pointer (some ⟨p, 0, none⟩)), (3, .int .i64 j)]) (fun (j : Nat) => Hp I w [Blk p (.cells #[.string (bs d.name), .slice d.sA d.ss.length d.sc, .slice d.tA d.hs.length d.tc] 25 (0, 0))]) (0) ⟨Nat.zero_le _, fun k hk => by omega⟩ ⟨rfl, rfl, trivial⟩ (fun _ h => h) ?_
     intro j hinv
     refine CV.seq (CV.seq (CV.region ?_))
     refine RV.m rfl rfl (RV.s (Step.fieldAddr rfl (F25_1 _ _)) rfl (RV.s (Step.load Tryz.underlying22 rfl rfl (fun w h => h.cell 0 rfl rfl)) rfl (RV.s (Step.lenSl Tryz.underlying22 rfl) rfl ?_)))
     refine RV.op (OV.split gno (Step.lss rfl rfl) rfl (fun hj => ?_) (fun hj => ?_))
     ·
      refine RV.nil (KV.then_n (KV.env [(1, _), (3, _), (31, _)] ⟨rfl, rfl, rfl, trivial⟩ (CV.cond_t rfl (CV.skip (KV.then_n ?_)))))
      refine KV.env [(1, _), (3, _)] ⟨rfl, rfl, trivial⟩ (CV.seq (CV.block (CV.seq (CV.region ?_))))
      refine RV.s (Step.fieldAddr rfl (F25_1 _ _)) rfl (RV.s (Step.load Tryz.underlying22 rfl rfl (fun w h => h.cell 0 rfl rfl)) rfl (RV.m rfl rfl ?_))
      refine RV.s (Step.idx Tryz.underlying22 I9 (fun w h => (DR.keep h hd hI).s) rfl rfl (rfl) _ rfl (by omega)) rfl ?_
      refine RV.s (Step.load Tryz.underlying9 rfl rfl (fun w h => ((DR.keep h hd hI).s).cell0 (by omega) rfl)) rfl ?_
      refine RV.op (OV.callP Tryz.func45 B45 N45 rfl (risName_fn (d.ss.getD j strK.d)) gno rfl ?_)
      refine RV.s (Step.not rfl) rfl ?_
      refine RV.nil (KV.then_n (KV.env [(1, _), (3, _), (40, _)] ⟨rfl, rfl, rfl, trivial⟩ ?_))
      refine KV.cases 40 rfl (fun cc2 => ?_) (fun cc2 => ?_)
      ·
       have hsj := neg_t cc2
       refine CV.cond_t rfl (CV.seq (CV.region ?_))
       refine RV.a rfl rfl ?_
       refine RV.nil (KV.then_n (KV.env [(2, _)] ⟨rfl, trivial⟩ (CV.ret (KV.block_ret (KV.then_ret ?_)))))
       refine KV.then_ret (KV.block_ret (KV.then_ret ?_))
       refine KV.sel [] [] rfl ?_
       first | exact KV.ret1 rfl rfl _ (fun _ h => h) ⟨by rw [show chkM d.d = 1 from chk_bad (fun k => by have k2 := (chkD_iff d).1 k; first | (exfalso; omega) | exact ff k2.1 hnm | exact ff (k2.2.2.1 j (by omega)) hsj | exact ff (k2.2.2.2.1 j (by omega)) hto | (have k3 := k2.2.2.2.2 j (by omega); have e1 : (th d.hs j).t.frm = (d.hs.getD j thK.d).t.frm := rfl; have e2 : (th d.hs (j - 1)).t.frm = (d.hs.getD (j - 1) thK.d).t.frm := rfl; omega))], rfl⟩
      ·
       have hsj := neg_f cc2
       refine CV.cond_f rfl (CV.skip (KV.block_n (KV.then_n (KV.env [(1, _), (3, _)] ⟨rfl, rfl, trivial⟩ (CV.region ?_)))))
       refine RV.m rfl rfl ?_
       (first | refine RV.op (OV.step gno (Step.add rfl rfl (wI64 (by omega) (by omega))) rfl ?_) | refine RV.op (OV.step gno (Step.add rfl rfl rfl) rfl ?_))
       refine RV.a rfl rfl ?_
       refine RV.nil (KV.then_n (KV.env [(1, _), (3, _)] ⟨rfl, rfl, trivial⟩ ?_))
       refine KV.sel [0] [_] rfl ?_
       exact KV.loopI (z := j) (j + 1) ⟨by omega, fun k hk => by by_cases e : k = j; (subst e; exact hsj); exact hinv.2 k (by omega)⟩ (by omega) ⟨rfl, rfl, trivial⟩ (fun _ h => h)
     ·
      refine RV.nil (KV.then_n (KV.env [(1, _), (3, _), (31, _)] ⟨rfl, rfl, rfl, trivial⟩ (CV.cond_f rfl (CV.exit (KV.then_exit ?_)))))
      refine KV.then_exit (KV.block_hit (KV.then_n (KV.env [(1, _)] ⟨rfl, trivial⟩ (CV.seq (CV.seq ?_)))))
      have hS := hinv
      refine CV.region ?_
      refine RV.a rfl rfl ?_
      refine RV.nil (KV.then_n (KV.env [(1, _), (4, _)] ⟨rfl, rfl, trivial⟩ (CV.block ?_)))
      refine KV.sel [0] [_] rfl ?_
      refine CV.loopI (fun (j : Nat) => j ≤ d.hs.length ∧ ∀ k, k < j → okT d.ss.length (th d.hs k).t = true ∧ (k = 0 ∨ (th d.hs (k - 1)).t.frm ≤ (th d.hs k).t.frm)) (fun (j : Nat) => d.hs.length - j) (fun (j : Nat) => [(1, .pointer (some ⟨p, 0, none⟩)), (4, .int .i64 j)]) (fun (j : Nat) => Hp I w [Blk p (.cells #[.string (bs d.name), .slice d.sA d.ss.length d.sc, .slice d.tA d.hs.length d.tc] 25 (0, 0))]) (0) ⟨Nat.zero_le _, fun k hk => by omega⟩ ⟨rfl, rfl, trivial⟩ (fun _ h => h) ?_
      intro j hinv
      refine CV.seq (CV.seq (CV.region ?_))
      refine RV.m rfl rfl (RV.s (Step.fieldAddr rfl (F25_2 _ _)) rfl (RV.s (Step.load Tryz.underlying23 rfl rfl (fun w h => h.cell 0 rfl rfl)) rfl (RV.s (Step.lenSl Tryz.underlying23 rfl) rfl ?_)))
      refine RV.op (OV.split gno (Step.lss rfl rfl) rfl (fun hj => ?_) (fun hj => ?_))
      ·
       refine RV.nil (KV.then_n (KV.env [(1, _), (4, _), (45, _)] ⟨rfl, rfl, rfl, trivial⟩ (CV.cond_t rfl (CV.skip (KV.then_n ?_)))))
       refine KV.env [(1, _), (4, _)] ⟨rfl, rfl, trivial⟩ (CV.seq (CV.block (CV.seq ?_)))
       refine CV.any (Hp I w [Blk p (.cells #[.string (bs d.name), .slice d.sA d.ss.length d.sc, .slice d.tA d.hs.length d.tc] 25 (0, 0))]) (by kernel_rfl) (fun _ h => h.drew) 30 rfl ?_
       refine AV.u 0 (bl 30 1) rfl gno (Step.fieldAddr rfl (F25_2 _ _)) rfl (fun _ h => h.sel [0] rfl) ?_
       refine AV.u 1 (bl 30 3) rfl gno (Step.load Tryz.underlying23 rfl rfl (fun w h => h.cell 0 rfl rfl)) rfl (fun _ h => h.sel [0] rfl) ?_
       refine AV.u 2 (bl 30 7) rfl gno (Step.move rfl) rfl (fun _ h => h.sel [0] rfl) ?_
       refine AV.u 3 (bl 30 15) rfl gno (Step.idx Tryz.underlying23 I48 (fun w h => (DR.keep h hd hI).t) rfl rfl (rfl) _ rfl (by omega)) rfl (fun _ h => h.sel [0] rfl) ?_
       refine AV.u 4 (bl 30 31) rfl gno (Step.loadN _ Tryz.underlying48 rfl I48 rfl rfl (fun w h => ((DR.keep h hd hI).t).cells (by omega))) rfl (fun _ h => h.sel [0] rfl) ?_
       refine AV.u 5 (bl 30 63) rfl gno (Step.fieldAddr rfl (F25_1 _ _)) rfl (fun _ h => h.sel [0] rfl) ?_
       refine AV.u 6 (bl 30 127) rfl gno (Step.load Tryz.underlying22 rfl rfl (fun w h => h.cell 0 rfl rfl)) rfl (fun _ h => h.sel [0] rfl) ?_
       refine AV.u 7 (bl 30 255) rfl gno (Step.lenSl Tryz.underlying22 rfl) rfl (fun _ h => h.sel [0] rfl) ?_
       refine AV.all [8] (by kernel_rfl) (by decide) ?_
       refine ⟨⟨_, rfl, ?_⟩, trivial⟩
       ·
        refine OV.call [] (F := [_]) Tryz.func46 B46 N46 rfl rfl (fun w h => rgood_fn (d.hs.getD j thK.d) d.ss.length ((DR.keep h hd hI).o j (by omega))) (fun _ hb => hb.elim) gno rfl (fun v L' hp => ?_)
        obtain ⟨rfl, rfl⟩ := hp
        simp only [List.append_nil]
        refine AV.next (bl 30 511) (by kernel_rfl) (fun _ h => h.sel [0] rfl) ?_
        refine AV.u 9 (bl 30 1023) rfl gno (Step.not rfl) rfl (fun _ h => h.sel [0] rfl) ?_
        refine AV.u 10 (bl 30 2047) rfl gno (Step.move rfl) rfl (fun _ h => h.sel [0] rfl) ?_
        refine KV.cases 58 rfl (fun cc3 => ?_) (fun cc3 => ?_)
        ·
         have hto := neg_t cc3
         refine AV.takeSkip 11 (bl 30 4095) rfl (by kernel_rfl) (by kernel_rfl) (by kernel_rfl) (fun _ _ _ h => h) rfl rfl (fun _ h => h.sel [0] rfl) (by kernel_rfl) ?_
         refine AV.takeSkip 12 (bl 30 8191) rfl (by kernel_rfl) (by kernel_rfl) (by kernel_rfl) (fun _ _ _ h => h) rfl rfl (fun _ h => h.sel [0] rfl) (by kernel_rfl) ?_
         refine AV.takeSkip 13 (bl 30 16383) rfl (by kernel_rfl) (by kernel_rfl) (by kernel_rfl) (fun _ _ _ h => h) rfl rfl (fun _ h => h.sel [0] rfl) (by kernel_rfl) ?_
         refine AV.takeSkipU 14 (bl 30 32767) rfl (by kernel_rfl) (by kernel_rfl) (by kernel_rfl) (fun _ _ _ h => h) rfl rfl (fun _ h => h.sel [0] rfl) (by kernel_rfl) ?_
         refine AV.takeSkipU 15 (bl 30 65535) rfl (by kernel_rfl) (by kernel_rfl) (by kernel_rfl) (fun _ _ _ h => h) rfl rfl (fun _ h => h.sel [0] rfl) (by kernel_rfl) ?_
         refine AV.takeSkipU 16 (bl 30 131071) rfl (by kernel_rfl) (by kernel_rfl) (by kernel_rfl) (fun _ _ _ h => h) rfl rfl (fun _ h => h.sel [0] rfl) (by kernel_rfl) ?_
         refine AV.takeSkipU 17 (bl 30 262143) rfl (by kernel_rfl) (by kernel_rfl) (by kernel_rfl) (fun _ _ _ h => h) rfl rfl (fun _ h => h.sel [0] rfl) (by kernel_rfl) ?_
         refine AV.takeSkipU 18 (bl 30 524287) rfl (by kernel_rfl) (by kernel_rfl) (by kernel_rfl) (fun _ _ _ h => h) rfl rfl (fun _ h => h.sel [0] rfl) (by kernel_rfl) ?_
         refine AV.takeSkipU 19 (bl 30 1048575) rfl (by kernel_rfl) (by kernel_rfl) (by kernel_rfl) (fun _ _ _ h => h) rfl rfl (fun _ h => h.sel [0] rfl) (by kernel_rfl) ?_
         refine AV.takeSkipU 20 (bl 30 2097151) rfl (by kernel_rfl) (by kernel_rfl) (by kernel_rfl) (fun _ _ _ h => h) rfl rfl (fun _ h => h.sel [0] rfl) (by kernel_rfl) ?_
         refine AV.takeSkipU 21 (bl 30 4194303) rfl (by kernel_rfl) (by kernel_rfl) (by kernel_rfl) (fun _ _ _ h => h) rfl rfl (fun _ h => h.sel [0] rfl) (by kernel_rfl) ?_
         refine AV.takeSkipU 22 (bl 30 8388607) rfl (by kernel_rfl) (by kernel_rfl) (by kernel_rfl) (fun _ _ _ h => h) rfl rfl (fun _ h => h.sel [0] rfl) (by kernel_rfl) ?_
         refine AV.takeSkipU 23 (bl 30 16777215) rfl (by kernel_rfl) (by kernel_rfl) (by kernel_rfl) (fun _ _ _ h => h) rfl rfl (fun _ h => h.sel [0] rfl) (by kernel_rfl) ?_
         refine AV.takeSkipU 24 (bl 30 33554431) rfl (by kernel_rfl) (by kernel_rfl) (by kernel_rfl) (fun _ _ _ h => h) rfl rfl (fun _ h => h.sel [0] rfl) (by kernel_rfl) ?_
         refine AV.takeSkipU 25 (bl 30 67108863) rfl (by kernel_rfl) (by kernel_rfl) (by kernel_rfl) (fun _ _ _ h => h) rfl rfl (fun _ h => h.sel [0] rfl) (by kernel_rfl) ?_
         refine AV.takeSkipU 26 (bl 30 134217727) rfl (by kernel_rfl) (by kernel_rfl) (by kernel_rfl) (fun _ _ _ h => h) rfl rfl (fun _ h => h.sel [0] rfl) (by kernel_rfl) ?_
         refine AV.takeSkipU 27 (bl 30 268435455) rfl (by kernel_rfl) (by kernel_rfl) (by kernel_rfl) (fun _ _ _ h => h) rfl rfl (fun _ h => h.sel [0] rfl) (by kernel_rfl) ?_
         refine AV.takeSkip 28 (bl 30 536870911) rfl (by kernel_rfl) (by kernel_rfl) (by kernel_rfl) (fun _ _ _ h => h) rfl rfl (fun _ h => h.sel [0] rfl) (by kernel_rfl) ?_
         refine AV.u 29 (bl 30 1073741823) rfl gno (Step.pick_t rfl rfl) rfl (fun _ h => h.sel [0] rfl) ?_
         refine AV.done (by kernel_rfl) ?_
         refine KV.then_n (KV.env [(1, _), (4, _), (77, _)] ⟨rfl, rfl, rfl, trivial⟩ (CV.cond_t rfl (CV.seq (CV.region ?_))))
         refine RV.a rfl rfl ?_
         refine RV.nil (KV.then_n (KV.env [(2, _)] ⟨rfl, trivial⟩ (CV.ret (KV.block_ret (KV.then_ret ?_)))))
         refine KV.then_ret (KV.block_ret (KV.then_ret ?_))
         refine KV.sel [] [] rfl ?_
         first | exact KV.ret1 rfl rfl _ (fun _ h => h) ⟨by rw [show chkM d.d = 1 from chk_bad (fun k => by have k2 := (chkD_iff d).1 k; first | (exfalso; omega) | exact ff k2.1 hnm | exact ff (k2.2.2.1 j (by omega)) hsj | exact ff (k2.2.2.2.1 j (by omega)) hto | (have k3 := k2.2.2.2.2 j (by omega); have e1 : (th d.hs j).t.frm = (d.hs.getD j thK.d).t.frm := rfl; have e2 : (th d.hs (j - 1)).t.frm = (d.hs.getD (j - 1) thK.d).t.frm := rfl; omega))], rfl⟩
        ·
         have hto := neg_f cc3
         refine AV.u 11 (bl 30 4095) rfl (gyes rfl) (Step.move rfl) rfl (fun _ h => h.sel [0] rfl) ?_
         refine AV.u 12 (bl 30 8191) rfl (gyes rfl) (Step.gtr rfl rfl) rfl (fun _ h => h.sel [0] rfl) ?_
         refine AV.u 13 (bl 30 16383) rfl (gyes rfl) (Step.move rfl) rfl (fun _ h => h.sel [0] rfl) ?_
         refine KV.cases 61 rfl (fun cc4 => ?_) (fun cc4 => ?_)
         ·
          have h61 := of_decide_eq_true cc4
          refine AV.u 14 (bl 30 32767) rfl (gyes rfl) (Step.fieldAddr rfl (F25_2 _ _)) rfl (fun _ h => h.sel [0] rfl) ?_
          refine AV.u 15 (bl 30 65535) rfl (gyes rfl) (Step.load Tryz.underlying23 rfl rfl (fun w h => h.cell 0 rfl rfl)) rfl (fun _ h => h.sel [0] rfl) ?_
          refine AV.u 16 (bl 30 131071) rfl (gyes rfl) (Step.move rfl) rfl (fun _ h => h.sel [0] rfl) ?_
          refine AV.u 17 (bl 30 262143) rfl (gyes rfl) (Step.idx Tryz.underlying23 I48 (fun w h => (DR.keep h hd hI).t) rfl rfl (rfl) _ rfl (by omega)) rfl (fun _ h => h.sel [0] rfl) ?_
          refine AV.u 18 (bl 30 524287) rfl (gyes rfl) (Step.fieldAddr rfl (F48_0 _ _)) rfl (fun _ h => h.sel [0] rfl) ?_
          refine AV.u 19 (bl 30 1048575) rfl (gyes rfl) (Step.load Tryz.underlying3 rfl rfl (fun w h => ((DR.keep h hd hI).t).cell0 (by omega) rfl)) rfl (fun _ h => h.sel [0] rfl) ?_
          refine AV.u 20 (bl 30 2097151) rfl (gyes rfl) (Step.fieldAddr rfl (F25_2 _ _)) rfl (fun _ h => h.sel [0] rfl) ?_
          refine AV.u 21 (bl 30 4194303) rfl (gyes rfl) (Step.load Tryz.underlying23 rfl rfl (fun w h => h.cell 0 rfl rfl)) rfl (fun _ h => h.sel [0] rfl) ?_
          refine AV.u 22 (bl 30 8388607) rfl (gyes rfl) (Step.move rfl) rfl (fun _ h => h.sel [0] rfl) ?_
          (first | refine AV.take 23 (bl 30 16777215) rfl (by kernel_rfl) (by kernel_rfl) (by kernel_rfl) (fun _ _ _ h => h) (gyes rfl) (Step.sub rfl rfl (wI64 (by omega) (by omega))) rfl (fun _ h => h.sel [0] rfl) (by kernel_rfl) ?_ | refine AV.take 23 (bl 30 16777215) rfl (by kernel_rfl) (by kernel_rfl) (by kernel_rfl) (fun _ _ _ h => h) (gyes rfl) (Step.sub rfl rfl rfl) rfl (fun _ h => h.sel [0] rfl) (by kernel_rfl) ?_)
          refine AV.u 24 (bl 30 33554431) rfl (gyes rfl) (Step.idx Tryz.underlying23 I48 (fun w h => (DR.keep h hd hI).t) rfl rfl (rfl) _ (show (j : Int) - 1 = ((j - 1 : Nat) : Int) by omega) (by omega)) rfl (fun _ h => h.sel [0] rfl) ?_
          refine AV.u 25 (bl 30 67108863) rfl (gyes rfl) (Step.fieldAddr rfl (F48_0 _ _)) rfl (fun _ h => h.sel [0] rfl) ?_
          refine AV.u 26 (bl 30 134217727) rfl (gyes rfl) (Step.load Tryz.underlying3 rfl rfl (fun w h => ((DR.keep h hd hI).t).cell0 (by omega) rfl)) rfl (fun _ h => h.sel [0] rfl) ?_
          refine AV.u 27 (bl 30 268435455) rfl (gyes rfl) (Step.lss rfl rfl) rfl (fun _ h => h.sel [0] rfl) ?_
          refine AV.u 28 (bl 30 536870911) rfl (gyes rfl) (Step.pick_t rfl rfl) rfl (fun _ h => h.sel [0] rfl) ?_
          refine AV.u 29 (bl 30 1073741823) rfl gno (Step.pick_f rfl rfl) rfl (fun _ h => h.sel [0] rfl) ?_
          refine AV.done (by kernel_rfl) ?_
          refine KV.then_n (KV.env [(1, _), (4, _), (77, _)] ⟨rfl, rfl, rfl, trivial⟩ ?_)
          refine KV.cases 77 rfl (fun cc5 => ?_) (fun cc5 => ?_)
          ·
           have h77 := of_decide_eq_true cc5
           refine CV.cond_t rfl (CV.seq (CV.region ?_))
           refine RV.a rfl rfl ?_
           refine RV.nil (KV.then_n (KV.env [(2, _)] ⟨rfl, trivial⟩ (CV.ret (KV.block_ret (KV.then_ret ?_)))))
           refine KV.then_ret (KV.block_ret (KV.then_ret ?_))
           refine KV.sel [] [] rfl ?_
           first | exact KV.ret1 rfl rfl _ (fun _ h => h) ⟨by rw [show chkM d.d = 1 from chk_bad (fun k => by have k2 := (chkD_iff d).1 k; first | (exfalso; omega) | exact ff k2.1 hnm | exact ff (k2.2.2.1 j (by omega)) hsj | exact ff (k2.2.2.2.1 j (by omega)) hto | (have k3 := k2.2.2.2.2 j (by omega); have e1 : (th d.hs j).t.frm = (d.hs.getD j thK.d).t.frm := rfl; have e2 : (th d.hs (j - 1)).t.frm = (d.hs.getD (j - 1) thK.d).t.frm := rfl; omega))], rfl⟩
          ·
           have h77 := of_decide_eq_false cc5
           refine CV.cond_f rfl (CV.skip (KV.block_n (KV.then_n (KV.env [(1, _), (4, _)] ⟨rfl, rfl, trivial⟩ (CV.region ?_)))))
           refine RV.m rfl rfl ?_
           (first | refine RV.op (OV.step gno (Step.add rfl rfl (wI64 (by omega) (by omega))) rfl ?_) | refine RV.op (OV.step gno (Step.add rfl rfl rfl) rfl ?_))
           refine RV.a rfl rfl ?_
           refine RV.nil (KV.then_n (KV.env [(1, _), (4, _)] ⟨rfl, rfl, trivial⟩ ?_))
           refine KV.sel [0] [_] rfl ?_
           exact KV.loopI (z := j) (j + 1) ⟨by omega, fun k hk => by by_cases e : k = j; (subst e; exact ⟨hto, by first | (left; omega) | (right; have e1 : (th d.hs k).t.frm = (d.hs.getD k thK.d).t.frm := rfl; have e2 : (th d.hs (k - 1)).t.frm = (d.hs.getD (k - 1) thK.d).t.frm := rfl; omega)⟩); exact hinv.2 k (by omega)⟩ (by omega) ⟨rfl, rfl, trivial⟩ (fun _ h => h)
         ·
          have h61 := of_decide_eq_false cc4
          refine AV.takeSkip 14 (bl 30 32767) rfl (by kernel_rfl) (by kernel_rfl) (by kernel_rfl) (fun _ _ _ h => h) rfl rfl (fun _ h => h.sel [0] rfl) (by kernel_rfl) ?_
          refine AV.takeSkip 15 (bl 30 65535) rfl (by kernel_rfl) (by kernel_rfl) (by kernel_rfl) (fun _ _ _ h => h) rfl rfl (fun _ h => h.sel [0] rfl) (by kernel_rfl) ?_
          refine AV.takeSkip 16 (bl 30 131071) rfl (by kernel_rfl) (by kernel_rfl) (by kernel_rfl) (fun _ _ _ h => h) rfl rfl (fun _ h => h.sel [0] rfl) (by kernel_rfl) ?_
          refine AV.takeSkip 17 (bl 30 262143) rfl (by kernel_rfl) (by kernel_rfl) (by kernel_rfl) (fun _ _ _ h => h) rfl rfl (fun _ h => h.sel [0] rfl) (by kernel_rfl) ?_
          refine AV.takeSkip 18 (bl 30 524287) rfl (by kernel_rfl) (by kernel_rfl) (by kernel_rfl) (fun _ _ _ h => h) rfl rfl (fun _ h => h.sel [0] rfl) (by kernel_rfl) ?_
          refine AV.takeSkip 19 (bl 30 1048575) rfl (by kernel_rfl) (by kernel_rfl) (by kernel_rfl) (fun _ _ _ h => h) rfl rfl (fun _ h => h.sel [0] rfl) (by kernel_rfl) ?_
          refine AV.takeSkip 20 (bl 30 2097151) rfl (by kernel_rfl) (by kernel_rfl) (by kernel_rfl) (fun _ _ _ h => h) rfl rfl (fun _ h => h.sel [0] rfl) (by kernel_rfl) ?_
          refine AV.takeSkip 21 (bl 30 4194303) rfl (by kernel_rfl) (by kernel_rfl) (by kernel_rfl) (fun _ _ _ h => h) rfl rfl (fun _ h => h.sel [0] rfl) (by kernel_rfl) ?_
          refine AV.takeSkip 22 (bl 30 8388607) rfl (by kernel_rfl) (by kernel_rfl) (by kernel_rfl) (fun _ _ _ h => h) rfl rfl (fun _ h => h.sel [0] rfl) (by kernel_rfl) ?_
          refine AV.takeSkip 23 (bl 30 16777215) rfl (by kernel_rfl) (by kernel_rfl) (by kernel_rfl) (fun _ _ _ h => h) rfl rfl (fun _ h => h.sel [0] rfl) (by kernel_rfl) ?_
          refine AV.takeSkip 24 (bl 30 33554431) rfl (by kernel_rfl) (by kernel_rfl) (by kernel_rfl) (fun _ _ _ h => h) rfl rfl (fun _ h => h.sel [0] rfl) (by kernel_rfl) ?_
          refine AV.takeSkip 25 (bl 30 67108863) rfl (by kernel_rfl) (by kernel_rfl) (by kernel_rfl) (fun _ _ _ h => h) rfl rfl (fun _ h => h.sel [0] rfl) (by kernel_rfl) ?_
          refine AV.takeSkip 26 (bl 30 134217727) rfl (by kernel_rfl) (by kernel_rfl) (by kernel_rfl) (fun _ _ _ h => h) rfl rfl (fun _ h => h.sel [0] rfl) (by kernel_rfl) ?_
          refine AV.takeSkip 27 (bl 30 268435455) rfl (by kernel_rfl) (by kernel_rfl) (by kernel_rfl) (fun _ _ _ h => h) rfl rfl (fun _ h => h.sel [0] rfl) (by kernel_rfl) ?_
          refine AV.u 28 (bl 30 536870911) rfl (gyes rfl) (Step.pick_f rfl rfl) rfl (fun _ h => h.sel [0] rfl) ?_
          refine AV.u 29 (bl 30 1073741823) rfl gno (Step.pick_f rfl rfl) rfl (fun _ h => h.sel [0] rfl) ?_
          refine AV.done (by kernel_rfl) ?_
          refine KV.then_n (KV.env [(1, _), (4, _), (77, _)] ⟨rfl, rfl, rfl, trivial⟩ (CV.cond_f rfl (CV.skip (KV.block_n (KV.then_n ?_)))))
          refine KV.env [(1, _), (4, _)] ⟨rfl, rfl, trivial⟩ (CV.region ?_)
          refine RV.m rfl rfl ?_
          (first | refine RV.op (OV.step gno (Step.add rfl rfl (wI64 (by omega) (by omega))) rfl ?_) | refine RV.op (OV.step gno (Step.add rfl rfl rfl) rfl ?_))
          refine RV.a rfl rfl ?_
          refine RV.nil (KV.then_n (KV.env [(1, _), (4, _)] ⟨rfl, rfl, trivial⟩ ?_))
          refine KV.sel [0] [_] rfl ?_
          exact KV.loopI (z := j) (j + 1) ⟨by omega, fun k hk => by by_cases e : k = j; (subst e; exact ⟨hto, by first | (left; omega) | (right; have e1 : (th d.hs k).t.frm = (d.hs.getD k thK.d).t.frm := rfl; have e2 : (th d.hs (k - 1)).t.frm = (d.hs.getD (k - 1) thK.d).t.frm := rfl; omega)⟩); exact hinv.2 k (by omega)⟩ (by omega) ⟨rfl, rfl, trivial⟩ (fun _ h => h)
      ·
       refine RV.nil (KV.then_n (KV.env [(1, _), (4, _), (45, _)] ⟨rfl, rfl, rfl, trivial⟩ (CV.cond_f rfl (CV.exit (KV.then_exit ?_)))))
       refine KV.then_exit (KV.block_hit (KV.then_n (KV.env [(1, _)] ⟨rfl, trivial⟩ (CV.seq (CV.seq ?_)))))
       refine CV.region ?_
       refine RV.s (Step.fieldAddr rfl (F25_1 _ _)) rfl (RV.s (Step.load Tryz.underlying22 rfl rfl (fun w h => h.cell 0 rfl rfl)) rfl ?_)
       refine RV.op (OV.call [] (F := [_]) Tryz.func33 B33 N33 rfl rfl (fun w h => twice_fn (DR.keep h hd hI).s rfl (by omega)) (fun _ hb => hb.elim) gno rfl (fun v L' hp => ?_))
       obtain ⟨rfl, rfl⟩ := hp
       simp only [List.append_nil]
       by_cases hdup : ¬ d.ss.Nodup
       ·
        rw [decide_eq_true hdup]
        refine RV.nil (KV.then_n (KV.env [(80, _)] ⟨rfl, trivial⟩ (CV.cond_t rfl (CV.seq (CV.region ?_)))))
        refine RV.a rfl rfl ?_
        refine RV.nil (KV.then_n (KV.env [(2, _)] ⟨rfl, trivial⟩ (CV.ret (KV.then_ret ?_))))
        refine KV.sel [] [] rfl ?_
        exact KV.ret1 rfl rfl _ (fun _ h => h) ⟨by rw [chk_dup (show chkA d.d = true from (chkD_iff d).2 ⟨hnm, by omega, fun k hk => hS.2 k (by omega), fun k hk => (hinv.2 k (by omega)).1, fun k hk => (hinv.2 k (by omega)).2⟩) hdup], rfl⟩
       ·
        rw [decide_eq_false hdup]
        refine RV.nil (KV.then_n (KV.env [(80, _)] ⟨rfl, trivial⟩ (CV.cond_f rfl (CV.skip (KV.then_n ?_)))))
        refine KV.env [] trivial (CV.seq (CV.region ?_))
        refine RV.a rfl rfl ?_
        refine RV.nil (KV.then_n (KV.env [(2, _)] ⟨rfl, trivial⟩ (CV.ret ?_)))
        refine KV.sel [] [] rfl ?_
        exact KV.ret1 rfl rfl _ (fun _ h => h) ⟨by rw [chk_ok (show chkA d.d = true from (chkD_iff d).2 ⟨hnm, by omega, fun k hk => hS.2 k (by omega), fun k hk => (hinv.2 k (by omega)).1, fun k hk => (hinv.2 k (by omega)).2⟩) (Decidable.not_not.1 hdup)], rfl⟩

set_option maxRecDepth 100000 in
set_option maxHeartbeats 1000000 in
theorem badOp_fn (o : Ro) {w : World} : Fx Tryz.prog 79 [.agg #[.bool o.wr, .int .u64 o.reg, .int .u64 o.val]] w [] no (fun v L => v = .bool (!roOk o) ∧ L = []) := by
 refine Sv.Fx.body Tryz.func79 rfl T79 rfl ?_
 intro I hro hI
 refine KV.env [(0, _)] ⟨rfl, trivial⟩ (CV.seq (CV.region ?_))
 refine RV.op (OV.box (t := 59) #[_, _, _] rfl rfl gno rfl (fun b0_0 => ?_))
 refine RV.a rfl rfl ?_
 refine RV.nil (KV.then_n (KV.env [(1, _)] ⟨rfl, trivial⟩ (CV.seq (CV.region ?_))))
 refine RV.s (Step.fieldAddr rfl (F59_0 _ _)) rfl (RV.s (Step.load Tryz.underlying4 rfl rfl (fun w h => h.cell 0 rfl rfl)) rfl (RV.s (Step.not rfl) rfl (RV.m rfl rfl ?_)))
 refine KV.cases 6 rfl (fun cc1 => ?_) (fun cc1 => ?_)
 ·
  have hwr := neg_t cc1
  refine RV.gw rfl (Step.fieldAddr rfl (F59_2 _ _)) rfl (RV.gw rfl (Step.load Tryz.underlying43 rfl rfl (fun w h => h.cell 0 rfl rfl)) rfl ?_)
  refine RV.op (OV.split (gyes rfl) (Step.neq rfl rfl) rfl (fun hv => ?_) (fun hv => ?_))
  ·
   refine RV.s (Step.pick_t rfl rfl) rfl (RV.a rfl rfl ?_)
   refine RV.nil (KV.then_n (KV.env [(2, _)] ⟨rfl, trivial⟩ (CV.ret ?_)))
   refine KV.sel [] [] rfl ?_
   first | exact KV.ret1 rfl rfl _ (fun _ h => h) ⟨by rw [show roOk o = true by unfold roOk; rw [hwr]; rfl]; rfl, rfl⟩ | exact KV.ret1 rfl rfl _ (fun _ h => h) ⟨by rw [show roOk o = false by unfold roOk; rw [hwr, Bool.false_or]; exact decide_eq_false hv]; rfl, rfl⟩ | exact KV.ret1 rfl rfl _ (fun _ h => h) ⟨by rw [show roOk o = true by unfold roOk; rw [hwr, Bool.false_or]; exact decide_eq_true (Decidable.not_not.1 hv)]; rfl, rfl⟩
  ·
   refine RV.s (Step.pick_t rfl rfl) rfl (RV.a rfl rfl ?_)
   refine RV.nil (KV.then_n (KV.env [(2, _)] ⟨rfl, trivial⟩ (CV.ret ?_)))
   refine KV.sel [] [] rfl ?_
   first | exact KV.ret1 rfl rfl _ (fun _ h => h) ⟨by rw [show roOk o = true by unfold roOk; rw [hwr]; rfl]; rfl, rfl⟩ | exact KV.ret1 rfl rfl _ (fun _ h => h) ⟨by rw [show roOk o = false by unfold roOk; rw [hwr, Bool.false_or]; exact decide_eq_false hv]; rfl, rfl⟩ | exact KV.ret1 rfl rfl _ (fun _ h => h) ⟨by rw [show roOk o = true by unfold roOk; rw [hwr, Bool.false_or]; exact decide_eq_true (Decidable.not_not.1 hv)]; rfl, rfl⟩
 ·
  have hwr := neg_f cc1
  refine RV.k rfl rfl (RV.k rfl rfl (RV.k rfl rfl (RV.s (Step.pick_f rfl rfl) rfl (RV.a rfl rfl ?_))))
  refine RV.nil (KV.then_n (KV.env [(2, _)] ⟨rfl, trivial⟩ (CV.ret ?_)))
  refine KV.sel [] [] rfl ?_
  first | exact KV.ret1 rfl rfl _ (fun _ h => h) ⟨by rw [show roOk o = true by unfold roOk; rw [hwr]; rfl]; rfl, rfl⟩ | exact KV.ret1 rfl rfl _ (fun _ h => h) ⟨by rw [show roOk o = false by unfold roOk; rw [hwr, Bool.false_or]; exact decide_eq_false hv]; rfl, rfl⟩ | exact KV.ret1 rfl rfl _ (fun _ h => h) ⟨by rw [show roOk o = true by unfold roOk; rw [hwr, Bool.false_or]; exact decide_eq_true (Decidable.not_not.1 hv)]; rfl, rfl⟩

set_option maxRecDepth 100000 in
set_option maxHeartbeats 1000000 in
theorem idxBad_fn {A : Option Addr} {n c : Nat} {l : List Ro} {w : World} (hs : RS w roK A l) (hn : n = l.length) (hl : l.length ≤ 1000000) : Fx Tryz.prog 89 [.slice A n c, .func (.func 79) #[] #[]] w [] no (fun v L => (∃ x, v = .int .i64 x ∧ decide (0 ≤ x) = !(l.all roOk)) ∧ L = []) := by
 subst hn
 refine Sv.Fx.body Tryz.func89 rfl T89 rfl ?_
 intro I hro hI
 refine KV.env [(0, _), (1, _)] ⟨rfl, rfl, trivial⟩ (CV.seq (CV.region ?_))
 refine RV.a rfl rfl ?_
 refine RV.nil (KV.then_n (KV.env [(0, _), (1, _)] ⟨rfl, rfl, trivial⟩ (CV.seq (CV.seq (CV.region ?_)))))
 refine RV.m rfl rfl (RV.s (Step.lenSl Tryz.underlying46 rfl) rfl (RV.m rfl rfl ?_))
 refine RV.nil (KV.then_n (KV.env [(0, _), (1, _), (7, _), (8, _)] ⟨rfl, rfl, rfl, rfl, trivial⟩ (CV.block ?_)))
 refine KV.sel [] [] rfl ?_
 refine CV.loopI (fun (j : Nat) => j ≤ l.length ∧ ∀ k, k < j → roOk (l.getD k ro0) = true) (fun (j : Nat) => l.length - j) (fun (j : Nat) => [(0, .slice A l.length c), (1, .func (.func 79) #[] #[]), (7, .int .i64 l.length), (8, .int .i64 j)]) (fun (j : Nat) => Hp I w []) (0) ⟨Nat.zero_le _, fun k hk => by omega⟩ ⟨rfl, rfl, rfl, rfl, trivial⟩ (fun _ h => h) ?_
 intro j hinv
 refine CV.seq (CV.region ?_)
 refine RV.op (OV.split gno (Step.lss rfl rfl) rfl (fun hj => ?_) (fun hj => ?_))
 ·
  refine RV.nil (KV.then_n (KV.env [(0, _), (1, _), (7, _), (8, _), (9, _)] ⟨rfl, rfl, rfl, rfl, rfl, trivial⟩ (CV.seq (CV.cond_t rfl (CV.skip ?_)))))
  refine KV.then_n (KV.env [(0, _), (1, _), (7, _), (8, _)] ⟨rfl, rfl, rfl, rfl, trivial⟩ (CV.seq (CV.block (CV.seq (CV.region ?_)))))
  refine RV.m rfl rfl (RV.a rfl rfl ?_)
  refine RV.nil (KV.then_n (KV.env [(0, _), (1, _), (5, _), (7, _), (8, _)] ⟨rfl, rfl, rfl, rfl, rfl, trivial⟩ (CV.seq (CV.region ?_))))
  refine RV.m rfl rfl (RV.m rfl rfl (RV.m rfl rfl ?_))
  refine RV.s (Step.idx Tryz.underlying46 I59 (fun w h => h.rs hs (fun _ => hI _)) rfl rfl (rfl) _ rfl (by omega)) rfl ?_
  refine RV.s (Step.loadN _ Tryz.underlying59 rfl I59 rfl rfl (fun w h => (h.rs hs (fun _ => hI _)).cells (by omega))) rfl ?_
  refine RV.op (OV.callv [] (F := []) (caps := []) rfl Tryz.func79 B79 N79 rfl rfl (fun w h => badOp_fn (l.getD j roK.d)) (fun _ hb => hb.elim) gno rfl (fun v L' hp => ?_))
  obtain ⟨rfl, rfl⟩ := hp
  simp only [List.append_nil]
  refine RV.nil (KV.then_n (KV.env [(0, _), (1, _), (5, _), (7, _), (8, _), (16, _)] ⟨rfl, rfl, rfl, rfl, rfl, rfl, trivial⟩ ?_))
  refine KV.cases 16 rfl (fun cc1 => ?_) (fun cc1 => ?_)
  ·
   have hb := neg_t cc1
   refine CV.cond_t rfl (CV.seq (CV.region ?_))
   refine RV.m rfl rfl (RV.a rfl rfl ?_)
   refine RV.nil (KV.then_n (KV.env [(4, _)] ⟨rfl, trivial⟩ (CV.ret (KV.block_ret (KV.then_ret ?_)))))
   refine KV.then_ret (KV.block_ret (KV.then_ret ?_))
   refine KV.sel [] [] rfl ?_
   exact KV.ret1 rfl rfl _ (fun _ h => h) ⟨⟨_, rfl, by rw [decide_eq_true (by omega), show l.all roOk = false from bool_f (fun k => ff ((all_iff ro0).1 k j (by omega)) hb)]; rfl⟩, rfl⟩
  ·
   have hb := neg_f cc1
   refine CV.cond_f rfl (CV.skip (KV.block_n (KV.then_n (KV.env [(0, _), (1, _), (7, _), (8, _)] ⟨rfl, rfl, rfl, rfl, trivial⟩ (CV.region ?_)))))
   (first | refine RV.op (OV.step gno (Step.add rfl rfl (wI64 (by omega) (by omega))) rfl ?_) | refine RV.op (OV.step gno (Step.add rfl rfl rfl) rfl ?_))
   refine RV.m rfl rfl ?_
   refine RV.nil (KV.then_n (KV.env [(0, _), (1, _), (7, _), (8, _)] ⟨rfl, rfl, rfl, rfl, trivial⟩ ?_))
   refine KV.sel [] [] rfl ?_
   exact KV.loopI (z := j) (j + 1) ⟨by omega, fun k hk => by by_cases e : k = j; (subst e; exact hb); exact hinv.2 k (by omega)⟩ (by omega) ⟨rfl, rfl, rfl, rfl, trivial⟩ (fun _ h => h)
 ·
  refine RV.nil (KV.then_n (KV.env [(0, _), (1, _), (7, _), (8, _), (9, _)] ⟨rfl, rfl, rfl, rfl, rfl, trivial⟩ (CV.seq (CV.cond_f rfl (CV.exit ?_)))))
  refine KV.then_exit (KV.then_exit (KV.block_hit (KV.then_n (KV.env [] trivial (CV.seq ?_)))))
  refine CV.region ?_
  refine RV.a rfl rfl ?_
  refine RV.nil (KV.then_n (KV.env [(4, _)] ⟨rfl, trivial⟩ (CV.ret ?_)))
  refine KV.sel [] [] rfl ?_
  exact KV.ret1 rfl rfl _ (fun _ h => h) ⟨⟨_, rfl, by rw [show l.all roOk = true from (all_iff ro0).2 fun k hk => hinv.2 k (by omega)]; rfl⟩, rfl⟩

set_option maxRecDepth 100000 in
set_option maxHeartbeats 1000000 in
theorem contBad_fn {A : Option Addr} {n c : Nat} {l : List Ro} {w : World} (hs : RS w roK A l) (hn : n = l.length) (hl : l.length ≤ 1000000) : Fx Tryz.prog 78 [.slice A n c, .func (.func 79) #[] #[]] w [] no (fun v L => v = .bool (!(l.all roOk)) ∧ L = []) := by
 refine Sv.Fx.body Tryz.func78 rfl T78 rfl ?_
 intro I hro hI
 refine KV.env [(0, _), (1, _)] ⟨rfl, rfl, trivial⟩ (CV.seq (CV.region ?_))
 refine RV.a rfl rfl ?_
 refine RV.nil (KV.then_n (KV.env [(0, _), (1, _)] ⟨rfl, rfl, trivial⟩ (CV.seq (CV.region ?_))))
 refine RV.m rfl rfl (RV.m rfl rfl ?_)
 refine RV.op (OV.call [] (F := []) Tryz.func89 B89 N89 rfl rfl (fun w h => idxBad_fn (h.rs hs (fun _ => hI _)) hn hl) (fun _ hb => hb.elim) gno rfl (fun v L' hp => ?_))
 obtain ⟨⟨x, rfl, hx⟩, rfl⟩ := hp
 simp only [List.append_nil]
 refine RV.s (Step.geq rfl rfl) rfl (RV.a rfl rfl ?_)
 refine RV.nil (KV.then_n (KV.env [(4, _)] ⟨rfl, trivial⟩ (CV.ret ?_)))
 refine KV.sel [] [] rfl ?_
 exact KV.ret1 rfl rfl _ (fun _ h => h) ⟨by rw [hx], rfl⟩

set_option maxRecDepth 100000 in
set_option maxHeartbeats 4000000 in
theorem valid_fn (h0 : TH) (n : Nat) {w : World} (ho : RS w roK h0.A h0.t.ops) : Fx Tryz.prog 57 [.agg #[.int .i64 h0.t.frm, .string (bs h0.t.ev), .bool h0.t.gd.used, .int .u64 h0.t.gd.reg, .int .u64 h0.t.gd.mask, .int .u64 h0.t.gd.val, .slice h0.A h0.t.ops.length h0.c, .int .i64 h0.t.to], .int .i64 n] w [] no (fun v L => v = .bool (okT n h0.t) ∧ L = []) := by
 refine Sv.Fx.body Tryz.func57 rfl T57 rfl ?_
 intro I hro hI
 refine KV.env [(0, _), (1, _)] ⟨rfl, rfl, trivial⟩ (CV.seq (CV.region ?_))
 refine RV.op (OV.box (t := 48) #[_, _, _, _, _, _, _, _] rfl rfl gno rfl (fun p => ?_))
 refine RV.a rfl rfl ?_
 refine RV.nil (KV.then_n (KV.env [(1, _), (2, _)] ⟨rfl, rfl, trivial⟩ (CV.seq (CV.seq (CV.region ?_)))))
 refine RV.s (Step.fieldAddr rfl (F48_0 _ _)) rfl (RV.s (Step.load Tryz.underlying3 rfl rfl (fun w h => h.cell 0 rfl rfl)) rfl ?_)
 refine RV.op (OV.split gno (Step.lss rfl rfl) rfl (fun a1 => ?_) (fun a1 => ?_))
 ·
  refine RV.m rfl rfl (RV.k rfl rfl (RV.k rfl rfl (RV.k rfl rfl (RV.k rfl rfl (RV.s (Step.pick_t rfl rfl) rfl (RV.m rfl rfl (RV.k rfl rfl ?_)))))))
  refine RV.k rfl rfl (RV.k rfl rfl (RV.s (Step.pick_t rfl rfl) rfl (RV.m rfl rfl (RV.k rfl rfl (RV.k rfl rfl (RV.k rfl rfl (RV.k rfl rfl ?_)))))))
  refine RV.s (Step.pick_t rfl rfl) rfl (RV.m rfl rfl (RV.k rfl rfl (RV.k rfl rfl (RV.k rfl rfl (RV.k rfl rfl (RV.s (Step.pick_t rfl rfl) rfl ?_))))))
  refine RV.nil (KV.then_n (KV.env [(2, _), (30, _)] ⟨rfl, rfl, trivial⟩ (CV.cond_t rfl (CV.seq (CV.region ?_)))))
  refine RV.a rfl rfl ?_
  refine RV.nil (KV.then_n (KV.env [(4, _)] ⟨rfl, trivial⟩ (CV.ret (KV.then_ret ?_))))
  refine KV.sel [] [] rfl ?_
  exact KV.ret1 rfl rfl _ (fun _ h => h) ⟨by rw [show okT n h0.t = false from bool_f (fun k => by have k2 := (okT_iff _ _).1 k; first | (exfalso; omega) | exact ff k2.2.2.1 hnm | exact ff k2.2.2.2.1 hgd | exact ff (k2.2.2.2.2.2 j (by omega)) hro)], rfl⟩
 ·
  refine RV.m rfl rfl (RV.gw rfl (Step.fieldAddr rfl (F48_0 _ _)) rfl (RV.gw rfl (Step.load Tryz.underlying3 rfl rfl (fun w h => h.cell 0 rfl rfl)) rfl (RV.gw rfl (Step.move rfl) rfl ?_)))
  refine RV.op (OV.split (gyes rfl) (Step.geq rfl rfl) rfl (fun a2 => ?_) (fun a2 => ?_))
  ·
   refine RV.s (Step.pick_f rfl rfl) rfl (RV.m rfl rfl (RV.k rfl rfl (RV.k rfl rfl (RV.k rfl rfl (RV.s (Step.pick_t rfl rfl) rfl (RV.m rfl rfl (RV.k rfl rfl ?_)))))))
   refine RV.k rfl rfl (RV.k rfl rfl (RV.k rfl rfl (RV.s (Step.pick_t rfl rfl) rfl (RV.m rfl rfl (RV.k rfl rfl (RV.k rfl rfl (RV.k rfl rfl ?_)))))))
   refine RV.k rfl rfl (RV.s (Step.pick_t rfl rfl) rfl ?_)
   refine RV.nil (KV.then_n (KV.env [(2, _), (30, _)] ⟨rfl, rfl, trivial⟩ (CV.cond_t rfl (CV.seq (CV.region ?_)))))
   refine RV.a rfl rfl ?_
   refine RV.nil (KV.then_n (KV.env [(4, _)] ⟨rfl, trivial⟩ (CV.ret (KV.then_ret ?_))))
   refine KV.sel [] [] rfl ?_
   exact KV.ret1 rfl rfl _ (fun _ h => h) ⟨by rw [show okT n h0.t = false from bool_f (fun k => by have k2 := (okT_iff _ _).1 k; first | (exfalso; omega) | exact ff k2.2.2.1 hnm | exact ff k2.2.2.2.1 hgd | exact ff (k2.2.2.2.2.2 j (by omega)) hro)], rfl⟩
  ·
   refine RV.s (Step.pick_f rfl rfl) rfl (RV.m rfl rfl (RV.gw rfl (Step.fieldAddr rfl (F48_4 _ _)) rfl (RV.gw rfl (Step.load Tryz.underlying3 rfl rfl (fun w h => h.cell 0 rfl rfl)) rfl ?_)))
   refine RV.op (OV.split (gyes rfl) (Step.lss rfl rfl) rfl (fun a3 => ?_) (fun a3 => ?_))
   ·
    refine RV.s (Step.pick_f rfl rfl) rfl (RV.m rfl rfl (RV.k rfl rfl (RV.k rfl rfl (RV.k rfl rfl (RV.k rfl rfl (RV.s (Step.pick_t rfl rfl) rfl (RV.m rfl rfl ?_)))))))
    refine RV.k rfl rfl (RV.k rfl rfl (RV.k rfl rfl (RV.k rfl rfl (RV.s (Step.pick_t rfl rfl) rfl ?_))))
    refine RV.nil (KV.then_n (KV.env [(2, _), (30, _)] ⟨rfl, rfl, trivial⟩ (CV.cond_t rfl (CV.seq (CV.region ?_)))))
    refine RV.a rfl rfl ?_
    refine RV.nil (KV.then_n (KV.env [(4, _)] ⟨rfl, trivial⟩ (CV.ret (KV.then_ret ?_))))
    refine KV.sel [] [] rfl ?_
    exact KV.ret1 rfl rfl _ (fun _ h => h) ⟨by rw [show okT n h0.t = false from bool_f (fun k => by have k2 := (okT_iff _ _).1 k; first | (exfalso; omega) | exact ff k2.2.2.1 hnm | exact ff k2.2.2.2.1 hgd | exact ff (k2.2.2.2.2.2 j (by omega)) hro)], rfl⟩
   ·
    refine RV.s (Step.pick_f rfl rfl) rfl (RV.m rfl rfl (RV.gw rfl (Step.fieldAddr rfl (F48_4 _ _)) rfl (RV.gw rfl (Step.load Tryz.underlying3 rfl rfl (fun w h => h.cell 0 rfl rfl)) rfl (RV.gw rfl (Step.move rfl) rfl ?_))))
    refine RV.op (OV.split (gyes rfl) (Step.geq rfl rfl) rfl (fun a4 => ?_) (fun a4 => ?_))
    ·
     refine RV.s (Step.pick_f rfl rfl) rfl (RV.m rfl rfl (RV.k rfl rfl (RV.k rfl rfl (RV.k rfl rfl (RV.k rfl rfl (RV.s (Step.pick_t rfl rfl) rfl ?_))))))
     refine RV.nil (KV.then_n (KV.env [(2, _), (30, _)] ⟨rfl, rfl, trivial⟩ (CV.cond_t rfl (CV.seq (CV.region ?_)))))
     refine RV.a rfl rfl ?_
     refine RV.nil (KV.then_n (KV.env [(4, _)] ⟨rfl, trivial⟩ (CV.ret (KV.then_ret ?_))))
     refine KV.sel [] [] rfl ?_
     exact KV.ret1 rfl rfl _ (fun _ h => h) ⟨by rw [show okT n h0.t = false from bool_f (fun k => by have k2 := (okT_iff _ _).1 k; first | (exfalso; omega) | exact ff k2.2.2.1 hnm | exact ff k2.2.2.2.1 hgd | exact ff (k2.2.2.2.2.2 j (by omega)) hro)], rfl⟩
    ·
     refine RV.s (Step.pick_f rfl rfl) rfl (RV.m rfl rfl (RV.gw rfl (Step.fieldAddr rfl (F48_1 _ _)) rfl (RV.gw rfl (Step.load Tryz.underlying9 rfl rfl (fun w h => h.cell 0 rfl rfl)) rfl ?_)))
     refine RV.op (OV.callP Tryz.func56 B56 N56 rfl (isName_fn h0.t.ev) (gyes rfl) rfl ?_)
     refine RV.gw rfl (Step.not rfl) rfl (RV.s (Step.pick_f rfl rfl) rfl ?_)
     refine RV.nil (KV.then_n (KV.env [(2, _), (30, _)] ⟨rfl, rfl, trivial⟩ ?_))
     refine KV.cases 30 rfl (fun cc1 => ?_) (fun cc1 => ?_)
     ·
      have hnm := neg_t cc1
      refine CV.cond_t rfl (CV.seq (CV.region ?_))
      refine RV.a rfl rfl ?_
      refine RV.nil (KV.then_n (KV.env [(4, _)] ⟨rfl, trivial⟩ (CV.ret (KV.then_ret ?_))))
      refine KV.sel [] [] rfl ?_
      exact KV.ret1 rfl rfl _ (fun _ h => h) ⟨by rw [show okT n h0.t = false from bool_f (fun k => by have k2 := (okT_iff _ _).1 k; first | (exfalso; omega) | exact ff k2.2.2.1 hnm | exact ff k2.2.2.2.1 hgd | exact ff (k2.2.2.2.2.2 j (by omega)) hro)], rfl⟩
     ·
      have hnm := neg_f cc1
      refine CV.cond_f rfl (CV.skip (KV.then_n (KV.env [(2, _)] ⟨rfl, trivial⟩ (CV.seq (CV.seq ?_)))))
      refine CV.region ?_
      refine RV.s (Step.fieldAddr rfl (F48_2 _ _)) rfl (RV.s (Step.fieldAddr rfl (F45_0 _ _)) rfl (RV.s (Step.load Tryz.underlying4 rfl rfl (fun w h => h.cell 0 rfl rfl)) rfl (RV.s (Step.not rfl) rfl (RV.m rfl rfl ?_))))
      refine KV.cases 35 rfl (fun cc2 => ?_) (fun cc2 => ?_)
      ·
       have hus := neg_t cc2
       refine RV.gw rfl (Step.fieldAddr rfl (F48_2 _ _)) rfl (RV.gw rfl (Step.loadN _ Tryz.underlying45 rfl I45 rfl rfl (fun w h => cells_off 2 (us := [.bool h0.t.gd.used, .int .u64 h0.t.gd.reg, .int .u64 h0.t.gd.mask, .int .u64 h0.t.gd.val]) (h.cells 0 rfl) rfl)) rfl (RV.gw rfl (Step.build rfl (Bd45_)) rfl ?_))
       refine RV.op (OV.split (gyes rfl) (Step.binR rfl rfl (EG45neq _ _ _ _) (EQ45neq _ _ _ _ _ _ _ _)) rfl (fun g1 => ?_) (fun g1 => ?_))
       ·
        refine RV.s (Step.pick_t rfl rfl) rfl (RV.m rfl rfl (RV.k rfl rfl (RV.k rfl rfl (RV.k rfl rfl (RV.k rfl rfl (RV.s (Step.pick_t rfl rfl) rfl ?_))))))
        refine RV.nil (KV.then_n (KV.env [(2, _), (46, _)] ⟨rfl, rfl, trivial⟩ (CV.cond_t rfl (CV.seq (CV.region ?_)))))
        refine RV.a rfl rfl ?_
        refine RV.nil (KV.then_n (KV.env [(4, _)] ⟨rfl, trivial⟩ (CV.ret (KV.then_ret ?_))))
        refine KV.sel [] [] rfl ?_
        have hgd : gdOk h0.t.gd = false ∨ 16 < h0.t.ops.length := by first | (right; omega) | (left; unfold gdOk; rw [hus, Bool.false_or]; exact decide_eq_false (fun k => g1 ⟨hus, k⟩))
        exact KV.ret1 rfl rfl _ (fun _ h => h) ⟨by rw [show okT n h0.t = false from bool_f (fun k => by have k2 := (okT_iff _ _).1 k; rcases hgd with hgd | hgd; exact ff k2.2.2.2.1 hgd; omega)], rfl⟩
       ·
        refine RV.s (Step.pick_t rfl rfl) rfl (RV.m rfl rfl (RV.gw rfl (Step.fieldAddr rfl (F48_3 _ _)) rfl (RV.gw rfl (Step.load Tryz.underlying46 rfl rfl (fun w h => h.cell 0 rfl rfl)) rfl (RV.gw rfl (Step.lenSl Tryz.underlying46 rfl) rfl ?_))))
        refine RV.op (OV.split (gyes rfl) (Step.gtr rfl rfl) rfl (fun a5 => ?_) (fun a5 => ?_))
        ·
         refine RV.s (Step.pick_f rfl rfl) rfl ?_
         refine RV.nil (KV.then_n (KV.env [(2, _), (46, _)] ⟨rfl, rfl, trivial⟩ (CV.cond_t rfl (CV.seq (CV.region ?_)))))
         refine RV.a rfl rfl ?_
         refine RV.nil (KV.then_n (KV.env [(4, _)] ⟨rfl, trivial⟩ (CV.ret (KV.then_ret ?_))))
         refine KV.sel [] [] rfl ?_
         have hgd : gdOk h0.t.gd = false ∨ 16 < h0.t.ops.length := by first | (right; omega) | (left; unfold gdOk; rw [hus, Bool.false_or]; exact decide_eq_false (fun k => g1 ⟨hus, k⟩))
         exact KV.ret1 rfl rfl _ (fun _ h => h) ⟨by rw [show okT n h0.t = false from bool_f (fun k => by have k2 := (okT_iff _ _).1 k; rcases hgd with hgd | hgd; exact ff k2.2.2.2.1 hgd; omega)], rfl⟩
        ·
         refine RV.s (Step.pick_f rfl rfl) rfl ?_
         refine RV.nil (KV.then_n (KV.env [(2, _), (46, _)] ⟨rfl, rfl, trivial⟩ (CV.cond_f rfl (CV.skip (KV.then_n ?_)))))
         refine KV.env [(2, _)] ⟨rfl, trivial⟩ (CV.seq (CV.region ?_))
         refine RV.s (Step.fieldAddr rfl (F48_3 _ _)) rfl (RV.s (Step.load Tryz.underlying46 rfl rfl (fun w h => h.cell 0 rfl rfl)) rfl ?_)
         refine RV.op (OV.call [] (F := [_]) Tryz.func78 B78 N78 rfl rfl (fun w h => contBad_fn (h.rs ho (fun _ => hI _)) rfl (by omega)) (fun _ hb => hb.elim) gno rfl (fun v L' hp => ?_))
         obtain ⟨rfl, rfl⟩ := hp
         simp only [List.append_nil]
         refine RV.s (Step.not rfl) rfl (RV.a rfl rfl ?_)
         refine RV.nil (KV.then_n (KV.env [(4, _)] ⟨rfl, trivial⟩ (CV.ret ?_)))
         refine KV.sel [] [] rfl ?_
         have hgd : gdOk h0.t.gd = true := by unfold gdOk; first | (rw [hus, Bool.true_or]) | (rw [hus, Bool.false_or]; exact decide_eq_true (Decidable.not_not.1 g1).2)
         exact KV.ret1 rfl rfl _ (fun _ h => h) ⟨by unfold okT; rw [decide_eq_true (show (0 ≤ h0.t.frm ∧ h0.t.frm < n) ∧ (0 ≤ h0.t.to ∧ h0.t.to < n) by omega), hnm, hgd, decide_eq_true (show h0.t.ops.length ≤ 16 by omega)]; simp, rfl⟩
      ·
       have hus := neg_f cc2
       refine RV.k rfl rfl (RV.k rfl rfl (RV.k rfl rfl (RV.k rfl rfl (RV.s (Step.pick_f rfl rfl) rfl (RV.m rfl rfl (RV.gw rfl (Step.fieldAddr rfl (F48_3 _ _)) rfl (RV.gw rfl (Step.load Tryz.underlying46 rfl rfl (fun w h => h.cell 0 rfl rfl)) rfl ?_)))))))
       refine RV.gw rfl (Step.lenSl Tryz.underlying46 rfl) rfl ?_
       refine RV.op (OV.split (gyes rfl) (Step.gtr rfl rfl) rfl (fun a5 => ?_) (fun a5 => ?_))
       ·
        refine RV.s (Step.pick_f rfl rfl) rfl ?_
        refine RV.nil (KV.then_n (KV.env [(2, _), (46, _)] ⟨rfl, rfl, trivial⟩ (CV.cond_t rfl (CV.seq (CV.region ?_)))))
        refine RV.a rfl rfl ?_
        refine RV.nil (KV.then_n (KV.env [(4, _)] ⟨rfl, trivial⟩ (CV.ret (KV.then_ret ?_))))
        refine KV.sel [] [] rfl ?_
        have hgd : gdOk h0.t.gd = false ∨ 16 < h0.t.ops.length := by first | (right; omega) | (left; unfold gdOk; rw [hus, Bool.false_or]; exact decide_eq_false (fun k => g1 ⟨hus, k⟩))
        exact KV.ret1 rfl rfl _ (fun _ h => h) ⟨by rw [show okT n h0.t = false from bool_f (fun k => by have k2 := (okT_iff _ _).1 k; rcases hgd with hgd | hgd; exact ff k2.2.2.2.1 hgd; omega)], rfl⟩
       ·
        refine RV.s (Step.pick_f rfl rfl) rfl ?_
        refine RV.nil (KV.then_n (KV.env [(2, _), (46, _)] ⟨rfl, rfl, trivial⟩ (CV.cond_f rfl (CV.skip (KV.then_n ?_)))))
        refine KV.env [(2, _)] ⟨rfl, trivial⟩ (CV.seq (CV.region ?_))
        refine RV.s (Step.fieldAddr rfl (F48_3 _ _)) rfl (RV.s (Step.load Tryz.underlying46 rfl rfl (fun w h => h.cell 0 rfl rfl)) rfl ?_)
        refine RV.op (OV.call [] (F := [_]) Tryz.func78 B78 N78 rfl rfl (fun w h => contBad_fn (h.rs ho (fun _ => hI _)) rfl (by omega)) (fun _ hb => hb.elim) gno rfl (fun v L' hp => ?_))
        obtain ⟨rfl, rfl⟩ := hp
        simp only [List.append_nil]
        refine RV.s (Step.not rfl) rfl (RV.a rfl rfl ?_)
        refine RV.nil (KV.then_n (KV.env [(4, _)] ⟨rfl, trivial⟩ (CV.ret ?_)))
        refine KV.sel [] [] rfl ?_
        have hgd : gdOk h0.t.gd = true := by unfold gdOk; first | (rw [hus, Bool.true_or]) | (rw [hus, Bool.false_or]; exact decide_eq_true (Decidable.not_not.1 g1).2)
        exact KV.ret1 rfl rfl _ (fun _ h => h) ⟨by unfold okT; rw [decide_eq_true (show (0 ≤ h0.t.frm ∧ h0.t.frm < n) ∧ (0 ≤ h0.t.to ∧ h0.t.to < n) by omega), hnm, hgd, decide_eq_true (show h0.t.ops.length ≤ 16 by omega)]; simp, rfl⟩

set_option maxRecDepth 100000 in
set_option maxHeartbeats 1000000 in
theorem repeats_fn {A : Option Addr} {n c : Nat} {l : List Bs} {w : World} (hs : RS w strK A l) (hn : n = l.length) (hl : l.length ≤ 1000000) : Fx Tryz.prog 28 [.slice A n c] w [] no (fun v L => v = .bool (decide (¬ l.Nodup)) ∧ L = []) := by
 subst hn
 refine Sv.Fx.body Tryz.func28 rfl T28 rfl ?_
 intro I hro hI
 refine KV.env [(0, _)] ⟨rfl, trivial⟩ (CV.seq (CV.region ?_))
 refine RV.a rfl rfl ?_
 refine RV.nil (KV.then_n (KV.env [(0, _)] ⟨rfl, trivial⟩ (CV.seq (CV.region ?_))))
 refine RV.m rfl rfl (RV.s (Step.lenSl Tryz.underlying22 rfl) rfl ?_)
 refine RV.op (OV.makeMap (κ := Bs) (ν := Bool) strV Value.bool Tryz.underlying126 rfl gno rfl (fun mb => ?_))
 refine RV.a rfl rfl ?_
 refine RV.nil (KV.then_n (KV.env [(0, _), (3, _)] ⟨rfl, rfl, trivial⟩ (CV.seq (CV.seq (CV.region ?_)))))
 refine RV.m rfl rfl (RV.s (Step.lenSl Tryz.underlying22 rfl) rfl (RV.m rfl rfl ?_))
 refine RV.nil (KV.then_n (KV.env [(3, _), (9, _), (10, _), (11, _)] ⟨rfl, rfl, rfl, rfl, trivial⟩ (CV.block ?_)))
 refine KV.sel [0] [_] rfl ?_
 refine CV.loopI (fun (j : Nat) => j ≤ l.length ∧ (l.take j).Nodup) (fun (j : Nat) => l.length - j) (fun (j : Nat) => [(3, .map (some mb)), (9, .slice A l.length c), (10, .int .i64 l.length), (11, .int .i64 j)]) (fun (j : Nat) => Hp I w [OM mb strV Value.bool ((l.take j).map fun x => (x, true))]) (0) ⟨Nat.zero_le _, by simp⟩ ⟨rfl, rfl, rfl, rfl, trivial⟩ (fun _ h => h) ?_
 intro j hinv
 refine CV.seq (CV.region ?_)
 refine RV.op (OV.split gno (Step.lss rfl rfl) rfl (fun hj => ?_) (fun hj => ?_))
 ·
  refine RV.nil (KV.then_n (KV.env [(3, _), (9, _), (10, _), (11, _), (12, _)] ⟨rfl, rfl, rfl, rfl, rfl, trivial⟩ (CV.seq (CV.cond_t rfl (CV.skip ?_)))))
  refine KV.then_n (KV.env [(3, _), (9, _), (10, _), (11, _)] ⟨rfl, rfl, rfl, rfl, trivial⟩ (CV.seq (CV.block (CV.seq (CV.region ?_)))))
  refine RV.s (Step.idx Tryz.underlying22 I9 (fun w h => h.rs hs (fun _ => hI _)) rfl rfl (rfl) _ rfl (by omega)) rfl ?_
  refine RV.s (Step.load Tryz.underlying9 rfl rfl (fun w h => (h.rs hs (fun _ => hI _)).cell0 (by omega) rfl)) rfl ?_
  refine RV.a rfl rfl ?_
  refine RV.nil (KV.then_n (KV.env [(3, _), (5, _), (9, _), (10, _), (11, _)] ⟨rfl, rfl, rfl, rfl, rfl, trivial⟩ (CV.seq (CV.seq (CV.region ?_)))))
  refine RV.m rfl rfl (RV.m rfl rfl (RV.s (Step.lookup 0 (vf := Value.bool) (zv := false) (l.getD j strK.d) Tryz.underlying126 (KeyT.string Tryz.underlying9) I4 rfl rfl rfl) rfl ?_))
  rw [mget_dec]
  by_cases hnin : l.getD j strK.d ∈ l.take j
  ·
   rw [decide_eq_true hnin]
   refine RV.nil (KV.then_n (KV.env [(3, _), (5, _), (9, _), (10, _), (11, _), (17, _)] ⟨rfl, rfl, rfl, rfl, rfl, rfl, trivial⟩ (CV.cond_t rfl (CV.seq (CV.region ?_)))))
   refine RV.a rfl rfl ?_
   refine RV.nil (KV.then_n (KV.env [(2, _)] ⟨rfl, trivial⟩ (CV.ret (KV.then_ret (KV.block_ret ?_)))))
   refine KV.then_ret (KV.then_ret (KV.block_ret (KV.then_ret ?_)))
   refine KV.sel [] [] rfl ?_
   exact KV.ret1 rfl rfl _ (fun _ h => h) ⟨by rw [decide_eq_true (show ¬ l.Nodup from fun h => by obtain ⟨i, h1, h2, h3⟩ := mem_take.1 hnin; exact nodup_iff.1 h i j h1 (by omega) h3)], rfl⟩
  ·
   rw [decide_eq_false hnin]
   refine RV.nil (KV.then_n (KV.env [(3, _), (5, _), (9, _), (10, _), (11, _), (17, _)] ⟨rfl, rfl, rfl, rfl, rfl, rfl, trivial⟩ (CV.cond_f rfl (CV.skip (KV.then_n ?_)))))
   refine KV.env [(3, _), (5, _), (9, _), (10, _), (11, _)] ⟨rfl, rfl, rfl, rfl, rfl, trivial⟩ (CV.region ?_)
   refine RV.m rfl rfl (RV.m rfl rfl ?_)
   refine RV.op (OV.mapInsert 0 (l.getD j strK.d) true Tryz.underlying126 (KeyT.string Tryz.underlying9) rfl rfl rfl rfl (by rw [mget_true, if_neg hnin]) gno ?_)
   refine RV.nil (KV.block_n (KV.then_n (KV.env [(3, _), (9, _), (10, _), (11, _)] ⟨rfl, rfl, rfl, rfl, trivial⟩ (CV.region ?_))))
   (first | refine RV.op (OV.step gno (Step.add rfl rfl (wI64 (by omega) (by omega))) rfl ?_) | refine RV.op (OV.step gno (Step.add rfl rfl rfl) rfl ?_))
   refine RV.m rfl rfl ?_
   refine RV.nil (KV.then_n (KV.env [(3, _), (9, _), (10, _), (11, _)] ⟨rfl, rfl, rfl, rfl, trivial⟩ ?_))
   refine KV.sel [0] [_] rfl ?_
   exact KV.loopI (z := j) (j + 1) ⟨by omega, by rw [take_next strK.d (by omega), List.nodup_append]; exact ⟨hinv.2, by simp, fun a ha b hb => by rw [List.mem_singleton] at hb; rw [hb]; exact fun e => hnin (e ▸ ha)⟩⟩ (by omega) ⟨rfl, rfl, rfl, rfl, trivial⟩ (fun _ h => by rw [take_next strK.d (by omega), List.map_append]; exact h)
 ·
  refine RV.nil (KV.then_n (KV.env [(3, _), (9, _), (10, _), (11, _), (12, _)] ⟨rfl, rfl, rfl, rfl, rfl, trivial⟩ (CV.seq (CV.cond_f rfl (CV.exit ?_)))))
  refine KV.then_exit (KV.then_exit (KV.block_hit (KV.then_n (KV.env [] trivial (CV.seq ?_)))))
  refine CV.region ?_
  refine RV.a rfl rfl ?_
  refine RV.nil (KV.then_n (KV.env [(2, _)] ⟨rfl, trivial⟩ (CV.ret ?_)))
  refine KV.sel [] [] rfl ?_
  exact KV.ret1 rfl rfl _ (fun _ h => h) ⟨by rw [decide_eq_false (show ¬ ¬ l.Nodup from fun h => h (by have := hinv.2; rwa [List.take_of_length_le (by omega)] at this))], rfl⟩

set_option maxRecDepth 100000 in
set_option maxHeartbeats 4000000 in
theorem check_fn (d : DH) {w : World} (hd : DR w d) : Fx Tryz.prog 29 [.agg #[.string (bs d.name), .slice d.sA d.ss.length d.sc, .slice d.tA d.hs.length d.tc]] w [] no (fun v L => v = .int .i64 (chkM d.d) ∧ L = []) := by
 refine Sv.Fx.body Tryz.func29 rfl T29 rfl ?_
 intro I hro hI
 refine KV.env [(0, _)] ⟨rfl, trivial⟩ (CV.seq (CV.region ?_))
 refine RV.op (OV.box (t := 25) #[_, _, _] rfl rfl gno rfl (fun p => ?_))
 refine RV.a rfl rfl ?_
 refine RV.nil (KV.then_n (KV.env [(1, _)] ⟨rfl, trivial⟩ (CV.seq (CV.seq (CV.region ?_)))))
 refine RV.s (Step.fieldAddr rfl (F25_0 _ _)) rfl (RV.s (Step.load Tryz.underlying9 rfl rfl (fun w h => h.cell 0 rfl rfl)) rfl ?_)
 refine RV.op (OV.callP Tryz.func56 B56 N56 rfl (isName_fn d.name) gno rfl ?_)
 refine RV.s (Step.not rfl) rfl (RV.m rfl rfl ?_)
 refine KV.cases 12 rfl (fun cc1 => ?_) (fun cc1 => ?_)
 ·
  have hnm := neg_t cc1
  refine RV.k rfl rfl (RV.k rfl rfl (RV.k rfl rfl (RV.k rfl rfl (RV.s (Step.pick_t rfl rfl) rfl (RV.m rfl rfl (RV.k rfl rfl (RV.k rfl rfl ?_)))))))
  refine RV.k rfl rfl (RV.k rfl rfl (RV.s (Step.pick_t rfl rfl) rfl (RV.m rfl rfl (RV.k rfl rfl (RV.k rfl rfl (RV.k rfl rfl (RV.k rfl rfl ?_)))))))
  refine RV.s (Step.pick_t rfl rfl) rfl ?_
  refine RV.nil (KV.then_n (KV.env [(1, _), (29, _)] ⟨rfl, rfl, trivial⟩ (CV.cond_t rfl (CV.seq (CV.region ?_)))))
  refine RV.a rfl rfl ?_
  refine RV.nil (KV.then_n (KV.env [(2, _)] ⟨rfl, trivial⟩ (CV.ret (KV.then_ret ?_))))
  refine KV.sel [] [] rfl ?_
  first | exact KV.ret1 rfl rfl _ (fun _ h => h) ⟨by rw [show chkM d.d = 1 from chk_bad (fun k => by have k2 := (chkD_iff d).1 k; first | (exfalso; omega) | exact ff k2.1 hnm | exact ff (k2.2.2.1 j (by omega)) hsj | exact ff (k2.2.2.2.1 j (by omega)) hto | (have k3 := k2.2.2.2.2 j (by omega); have e1 : (th d.hs j).t.frm = (d.hs.getD j thK.d).t.frm := rfl; have e2 : (th d.hs (j - 1)).t.frm = (d.hs.getD (j - 1) thK.d).t.frm := rfl; omega))], rfl⟩
 ·
  have hnm := neg_f cc1
  refine RV.gw rfl (Step.fieldAddr rfl (F25_1 _ _)) rfl (RV.gw rfl (Step.load Tryz.underlying22 rfl rfl (fun w h => h.cell 0 rfl rfl)) rfl (RV.gw rfl (Step.lenSl Tryz.underlying22 rfl) rfl ?_))
  refine RV.op (OV.split (gyes rfl) (Step.eql rfl rfl) rfl (fun a1 => ?_) (fun a1 => ?_))
  ·
   refine RV.s (Step.pick_f rfl rfl) rfl (RV.m rfl rfl (RV.k rfl rfl (RV.k rfl rfl (RV.k rfl rfl (RV.k rfl rfl (RV.s (Step.pick_t rfl rfl) rfl (RV.m rfl rfl ?_)))))))
   refine RV.k rfl rfl (RV.k rfl rfl (RV.k rfl rfl (RV.k rfl rfl (RV.s (Step.pick_t rfl rfl) rfl ?_))))
   refine RV.nil (KV.then_n (KV.env [(1, _), (29, _)] ⟨rfl, rfl, trivial⟩ (CV.cond_t rfl (CV.seq (CV.region ?_)))))
   refine RV.a rfl rfl ?_
   refine RV.nil (KV.then_n (KV.env [(2, _)] ⟨rfl, trivial⟩ (CV.ret (KV.then_ret ?_))))
   refine KV.sel [] [] rfl ?_
   first | exact KV.ret1 rfl rfl _ (fun _ h => h) ⟨by rw [show chkM d.d = 1 from chk_bad (fun k => by have k2 := (chkD_iff d).1 k; first | (exfalso; omega) | exact ff k2.1 hnm | exact ff (k2.2.2.1 j (by omega)) hsj | exact ff (k2.2.2.2.1 j (by omega)) hto | (have k3 := k2.2.2.2.2 j (by omega); have e1 : (th d.hs j).t.frm = (d.hs.getD j thK.d).t.frm := rfl; have e2 : (th d.hs (j - 1)).t.frm = (d.hs.getD (j - 1) thK.d).t.frm := rfl; omega))], rfl⟩
  ·
   refine RV.s (Step.pick_f rfl rfl) rfl (RV.m rfl rfl (RV.gw rfl (Step.fieldAddr rfl (F25_1 _ _)) rfl (RV.gw rfl (Step.load Tryz.underlying22 rfl rfl (fun w h => h.cell 0 rfl rfl)) rfl (RV.gw rfl (Step.lenSl Tryz.underlying22 rfl) rfl ?_))))
   refine RV.op (OV.split (gyes rfl) (Step.gtr rfl rfl) rfl (fun a2 => ?_) (fun a2 => ?_))
   ·
    refine RV.s (Step.pick_f rfl rfl) rfl (RV.m rfl rfl (RV.k rfl rfl (RV.k rfl rfl (RV.k rfl rfl (RV.k rfl rfl (RV.s (Step.pick_t rfl rfl) rfl ?_))))))
    refine RV.nil (KV.then_n (KV.env [(1, _), (29, _)] ⟨rfl, rfl, trivial⟩ (CV.cond_t rfl (CV.seq (CV.region ?_)))))
    refine RV.a rfl rfl ?_
    refine RV.nil (KV.then_n (KV.env [(2, _)] ⟨rfl, trivial⟩ (CV.ret (KV.then_ret ?_))))
    refine KV.sel [] [] rfl ?_
    first | exact KV.ret1 rfl rfl _ (fun _ h => h) ⟨by rw [show chkM d.d = 1 from chk_bad (fun k => by have k2 := (chkD_iff d).1 k; first | (exfalso; omega) | exact ff k2.1 hnm | exact ff (k2.2.2.1 j (by omega)) hsj | exact ff (k2.2.2.2.1 j (by omega)) hto | (have k3 := k2.2.2.2.2 j (by omega); have e1 : (th d.hs j).t.frm = (d.hs.getD j thK.d).t.frm := rfl; have e2 : (th d.hs (j - 1)).t.frm = (d.hs.getD (j - 1) thK.d).t.frm := rfl; omega))], rfl⟩
   ·
    refine RV.s (Step.pick_f rfl rfl) rfl (RV.m rfl rfl (RV.gw rfl (Step.fieldAddr rfl (F25_2 _ _)) rfl (RV.gw rfl (Step.load Tryz.underlying23 rfl rfl (fun w h => h.cell 0 rfl rfl)) rfl (RV.gw rfl (Step.lenSl Tryz.underlying23 rfl) rfl ?_))))
    refine RV.op (OV.split (gyes rfl) (Step.gtr rfl rfl) rfl (fun a3 => ?_) (fun a3 => ?_))
    ·
     refine RV.s (Step.pick_f rfl rfl) rfl ?_
     refine RV.nil (KV.then_n (KV.env [(1, _), (29, _)] ⟨rfl, rfl, trivial⟩ (CV.cond_t rfl (CV.seq (CV.region ?_)))))
     refine RV.a rfl rfl ?_
     refine RV.nil (KV.then_n (KV.env [(2, _)] ⟨rfl, trivial⟩ (CV.ret (KV.then_ret ?_))))
     refine KV.sel [] [] rfl ?_
     first | exact KV.ret1 rfl rfl _ (fun _ h => h) ⟨by rw [show chkM d.d = 1 from chk_bad (fun k => by have k2 := (chkD_iff d).1 k; first | (exfalso; omega) | exact ff k2.1 hnm | exact ff (k2.2.2.1 j (by omega)) hsj | exact ff (k2.2.2.2.1 j (by omega)) hto | (have k3 := k2.2.2.2.2 j (by omega); have e1 : (th d.hs j).t.frm = (d.hs.getD j thK.d).t.frm := rfl; have e2 : (th d.hs (j - 1)).t.frm = (d.hs.getD (j - 1) thK.d).t.frm := rfl; omega))], rfl⟩
    ·
     refine RV.s (Step.pick_f rfl rfl) rfl ?_
     refine RV.nil (KV.then_n (KV.env [(1, _), (29, _)] ⟨rfl, rfl, trivial⟩ (CV.cond_f rfl (CV.skip (KV.then_n ?_)))))
     refine KV.env [(1, _)] ⟨rfl, trivial⟩ (CV.seq (CV.seq (CV.region ?_)))
     refine RV.s (Step.fieldAddr rfl (F25_1 _ _)) rfl (RV.s (Step.load Tryz.underlying22 rfl rfl (fun w h => h.cell 0 rfl rfl)) rfl (RV.s (Step.lenSl Tryz.underlying22 rfl) rfl (RV.m rfl rfl ?_)))
     refine RV.nil (KV.then_n (KV.env [(1, _), (31, _), (32, _), (33, _)] ⟨rfl, rfl, rfl, rfl, trivial⟩ (CV.block ?_)))
     refine KV.sel [0] [_] rfl ?_
     refine CV.loopI (fun (j : Nat) => j ≤ d.ss.length ∧ ∀ k, k < j → isNm (d.ss.getD k []) = true) (fun (j : Nat) => d.ss.length - j) (fun (j : Nat) => [(1, .pointer (some ⟨p, 0, none⟩)), (31, .slice d.sA d.ss.length d.sc), (32, .int .i64 d.ss.length), (33, .int .i64 j)]) (fun (j : Nat) => Hp I w [Blk p (.cells #[.string (bs d.name), .slice d.sA d.ss.length d.sc, .slice d.tA d.hs.length d.tc] 25 (0, 0))]) (0) ⟨Nat.zero_le _, fun k hk => by omega⟩ ⟨rfl, rfl, rfl, rfl, trivial⟩ (fun _ h => h) ?_
     intro j hinv
     refine CV.seq (CV.region ?_)
     refine RV.op (OV.split gno (Step.lss rfl rfl) rfl (fun hj => ?_) (fun hj => ?_))
     ·
      refine RV.nil (KV.then_n (KV.env [(1, _), (31, _), (32, _), (33, _), (34, _)] ⟨rfl, rfl, rfl, rfl, rfl, trivial⟩ (CV.seq (CV.cond_t rfl (CV.skip ?_)))))
      refine KV.then_n (KV.env [(1, _), (31, _), (32, _), (33, _)] ⟨rfl, rfl, rfl, rfl, trivial⟩ (CV.seq (CV.block (CV.seq (CV.region ?_)))))
      refine RV.s (Step.idx Tryz.underlying22 I9 (fun w h => (DR.keep h hd hI).s) rfl rfl (rfl) _ rfl (by omega)) rfl ?_
      refine RV.s (Step.load Tryz.underlying9 rfl rfl (fun w h => ((DR.keep h hd hI).s).cell0 (by omega) rfl)) rfl ?_
      refine RV.a rfl rfl ?_
      refine RV.nil (KV.then_n (KV.env [(1, _), (4, _), (31, _), (32, _), (33, _)] ⟨rfl, rfl, rfl, rfl, rfl, trivial⟩ (CV.seq (CV.region ?_))))
      refine RV.m rfl rfl ?_
      refine RV.op (OV.callP Tryz.func56 B56 N56 rfl (isName_fn (d.ss.getD j strK.d)) gno rfl ?_)
      refine RV.s (Step.not rfl) rfl ?_
      refine RV.nil (KV.then_n (KV.env [(1, _), (31, _), (32, _), (33, _), (39, _)] ⟨rfl, rfl, rfl, rfl, rfl, trivial⟩ ?_))
      refine KV.cases 39 rfl (fun cc2 => ?_) (fun cc2 => ?_)
      ·
       have hsj := neg_t cc2
       refine CV.cond_t rfl (CV.seq (CV.region ?_))
       refine RV.a rfl rfl ?_
       refine RV.nil (KV.then_n (KV.env [(2, _)] ⟨rfl, trivial⟩ (CV.ret (KV.block_ret (KV.then_ret ?_)))))
       refine KV.then_ret (KV.block_ret (KV.then_ret ?_))
       refine KV.sel [] [] rfl ?_
       first | exact KV.ret1 rfl rfl _ (fun _ h => h) ⟨by rw [show chkM d.d = 1 from chk_bad (fun k => by have k2 := (chkD_iff d).1 k; first | (exfalso; omega) | exact ff k2.1 hnm | exact ff (k2.2.2.1 j (by omega)) hsj | exact ff (k2.2.2.2.1 j (by omega)) hto | (have k3 := k2.2.2.2.2 j (by omega); have e1 : (th d.hs j).t.frm = (d.hs.getD j thK.d).t.frm := rfl; have e2 : (th d.hs (j - 1)).t.frm = (d.hs.getD (j - 1) thK.d).t.frm := rfl; omega))], rfl⟩
      ·
       have hsj := neg_f cc2
       refine CV.cond_f rfl (CV.skip (KV.block_n (KV.then_n (KV.env [(1, _), (31, _), (32, _), (33, _)] ⟨rfl, rfl, rfl, rfl, trivial⟩ (CV.region ?_)))))
       (first | refine RV.op (OV.step gno (Step.add rfl rfl (wI64 (by omega) (by omega))) rfl ?_) | refine RV.op (OV.step gno (Step.add rfl rfl rfl) rfl ?_))
       refine RV.m rfl rfl ?_
       refine RV.nil (KV.then_n (KV.env [(1, _), (31, _), (32, _), (33, _)] ⟨rfl, rfl, rfl, rfl, trivial⟩ ?_))
       refine KV.sel [0] [_] rfl ?_
       exact KV.loopI (z := j) (j + 1) ⟨by omega, fun k hk => by by_cases e : k = j; (subst e; exact hsj); exact hinv.2 k (by omega)⟩ (by omega) ⟨rfl, rfl, rfl, rfl, trivial⟩ (fun _ h => h)
     ·
      refine RV.nil (KV.then_n (KV.env [(1, _), (31, _), (32, _), (33, _), (34, _)] ⟨rfl, rfl, rfl, rfl, rfl, trivial⟩ (CV.seq (CV.cond_f rfl (CV.exit ?_)))))
      refine KV.then_exit (KV.then_exit (KV.block_hit (KV.then_n (KV.env [(1, _)] ⟨rfl, trivial⟩ (CV.seq ?_)))))
      have hS := hinv
      refine CV.region ?_
      refine RV.a rfl rfl ?_
      refine RV.nil (KV.then_n (KV.env [(1, _), (5, _)] ⟨rfl, rfl, trivial⟩ (CV.seq (CV.seq (CV.region ?_)))))
      refine RV.s (Step.fieldAddr rfl (F25_2 _ _)) rfl (RV.s (Step.load Tryz.underlying23 rfl rfl (fun w h => h.cell 0 rfl rfl)) rfl (RV.s (Step.lenSl Tryz.underlying23 rfl) rfl (RV.m rfl rfl ?_)))
      refine RV.nil (KV.then_n (KV.env [(1, _), (5, _), (42, _), (43, _), (44, _)] ⟨rfl, rfl, rfl, rfl, rfl, trivial⟩ (CV.block ?_)))
      refine KV.sel [0] [_] rfl ?_
      refine CV.loopI (fun (j : Nat) => j ≤ d.hs.length ∧ ∀ k, k < j → okT d.ss.length (th d.hs k).t = true ∧ (k = 0 ∨ (th d.hs (k - 1)).t.frm ≤ (th d.hs k).t.frm)) (fun (j : Nat) => d.hs.length - j) (fun (j : Nat) => [(1, .pointer (some ⟨p, 0, none⟩)), (5, .int .i64 (if j = 0 then 0 else (th d.hs (j - 1)).t.frm)), (42, .slice d.tA d.hs.length d.tc), (43, .int .i64 d.hs.length), (44, .int .i64 j)]) (fun (j : Nat) => Hp I w [Blk p (.cells #[.string (bs d.name), .slice d.sA d.ss.length d.sc, .slice d.tA d.hs.length d.tc] 25 (0, 0))]) (0) ⟨Nat.zero_le _, fun k hk => by omega⟩ ⟨rfl, rfl, rfl, rfl, rfl, trivial⟩ (fun _ h => h) ?_
      intro j hinv
      refine CV.seq (CV.region ?_)
      refine RV.op (OV.split gno (Step.lss rfl rfl) rfl (fun hj => ?_) (fun hj => ?_))
      ·
       refine RV.nil (KV.then_n (KV.env [(1, _), (5, _), (42, _), (43, _), (44, _), (45, _)] ⟨rfl, rfl, rfl, rfl, rfl, rfl, trivial⟩ (CV.seq (CV.cond_t rfl (CV.skip ?_)))))
       refine KV.then_n (KV.env [(1, _), (5, _), (42, _), (43, _), (44, _)] ⟨rfl, rfl, rfl, rfl, rfl, trivial⟩ (CV.seq (CV.block (CV.seq (CV.region ?_)))))
       refine RV.s (Step.idx Tryz.underlying23 I48 (fun w h => (DR.keep h hd hI).t) rfl rfl (rfl) _ rfl (by omega)) rfl ?_
       refine RV.s (Step.loadN _ Tryz.underlying48 rfl I48 rfl rfl (fun w h => ((DR.keep h hd hI).t).cells (by omega))) rfl ?_
       refine RV.op (OV.alloc #[.int .i64 0, .string (Sv.bs []), .bool false, .int .u64 0, .int .u64 0, .int .u64 0, .slice none 0 0, .int .i64 0] I48 rfl gno rfl (fun q => ?_))
       refine RV.op (OV.store 1 [_, _, _, _, _, _, _, _] #[_, _, _, _, _, _, _, _] I48 rfl rfl rfl rfl rfl (Nat.le_of_ble_eq_true rfl) (by simp [Value.oneCell']) rfl gno ?_)
       refine RV.nil (KV.then_n (KV.env [(1, _), (5, _), (7, _), (42, _), (43, _), (44, _)] ⟨rfl, rfl, rfl, rfl, rfl, rfl, trivial⟩ (CV.seq (CV.seq (CV.region ?_)))))
       refine RV.s (Step.fieldAddr rfl (F48_0 _ _)) rfl (RV.s (Step.load Tryz.underlying3 rfl rfl (fun w h => h.cell 1 rfl rfl)) rfl (RV.m rfl rfl ?_))
       refine RV.op (OV.split gno (Step.lss rfl rfl) rfl (fun hlt => ?_) (fun hlt => ?_))
       ·
        refine RV.m rfl rfl (RV.k rfl rfl (RV.k rfl rfl (RV.k rfl rfl (RV.k rfl rfl (RV.k rfl rfl (RV.k rfl rfl (RV.s (Step.pick_t rfl rfl) rfl ?_)))))))
        refine RV.nil (KV.then_n (KV.env [(1, _), (7, _), (42, _), (43, _), (44, _), (59, _)] ⟨rfl, rfl, rfl, rfl, rfl, rfl, trivial⟩ (CV.cond_t rfl (CV.seq (CV.region ?_)))))
        refine RV.a rfl rfl ?_
        refine RV.nil (KV.then_n (KV.env [(2, _)] ⟨rfl, trivial⟩ (CV.ret (KV.then_ret (KV.block_ret ?_)))))
        refine KV.then_ret (KV.then_ret (KV.block_ret (KV.then_ret ?_)))
        refine KV.sel [] [] rfl ?_
        have hbad : okT d.ss.length (th d.hs j).t = false ∨ (j ≠ 0 ∧ (th d.hs j).t.frm < (th d.hs (j - 1)).t.frm) := by have e1 : (th d.hs j).t.frm = (d.hs.getD j thK.d).t.frm := rfl; first | exact .inl hto | (by_cases e0 : j = 0; (left; rw [if_pos e0] at hlt; exact bool_f fun k => by have := ((okT_iff _ _).1 k).1; omega); (right; rw [if_neg e0] at hlt; exact ⟨e0, by omega⟩))
        exact KV.ret1 rfl rfl _ (fun _ h => h) ⟨by rw [show chkM d.d = 1 from chk_bad (fun k => by have k2 := (chkD_iff d).1 k; rcases hbad with hb | ⟨hb1, hb2⟩; exact ff (k2.2.2.2.1 j (by omega)) hb; (have := k2.2.2.2.2 j (by omega); omega))], rfl⟩
       ·
        refine RV.m rfl rfl (RV.gw rfl (Step.loadN _ Tryz.underlying48 rfl I48 rfl rfl (fun w h => h.cells 1 rfl)) rfl (RV.gw rfl (Step.fieldAddr rfl (F25_1 _ _)) rfl (RV.gw rfl (Step.load Tryz.underlying22 rfl rfl (fun w h => h.cell 0 rfl rfl)) rfl (RV.gw rfl (Step.lenSl Tryz.underlying22 rfl) rfl ?_))))
        refine RV.op (OV.call [] (F := [_, _]) Tryz.func57 B57 N57 rfl rfl (fun w h => valid_fn (d.hs.getD j thK.d) d.ss.length ((DR.keep h hd hI).o j (by omega))) (fun _ hb => hb.elim) (gyes rfl) rfl (fun v L' hp => ?_))
        obtain ⟨rfl, rfl⟩ := hp
        simp only [List.append_nil]
        refine RV.gw rfl (Step.not rfl) rfl (RV.s (Step.pick_f rfl rfl) rfl ?_)
        refine RV.nil (KV.then_n (KV.env [(1, _), (7, _), (42, _), (43, _), (44, _), (59, _)] ⟨rfl, rfl, rfl, rfl, rfl, rfl, trivial⟩ ?_))
        refine KV.cases 59 rfl (fun cc3 => ?_) (fun cc3 => ?_)
        ·
         have hto := neg_t cc3
         refine CV.cond_t rfl (CV.seq (CV.region ?_))
         refine RV.a rfl rfl ?_
         refine RV.nil (KV.then_n (KV.env [(2, _)] ⟨rfl, trivial⟩ (CV.ret (KV.then_ret (KV.block_ret ?_)))))
         refine KV.then_ret (KV.then_ret (KV.block_ret (KV.then_ret ?_)))
         refine KV.sel [] [] rfl ?_
         have hbad : okT d.ss.length (th d.hs j).t = false ∨ (j ≠ 0 ∧ (th d.hs j).t.frm < (th d.hs (j - 1)).t.frm) := by have e1 : (th d.hs j).t.frm = (d.hs.getD j thK.d).t.frm := rfl; first | exact .inl hto | (by_cases e0 : j = 0; (left; rw [if_pos e0] at hlt; exact bool_f fun k => by have := ((okT_iff _ _).1 k).1; omega); (right; rw [if_neg e0] at hlt; exact ⟨e0, by omega⟩))
         exact KV.ret1 rfl rfl _ (fun _ h => h) ⟨by rw [show chkM d.d = 1 from chk_bad (fun k => by have k2 := (chkD_iff d).1 k; rcases hbad with hb | ⟨hb1, hb2⟩; exact ff (k2.2.2.2.1 j (by omega)) hb; (have := k2.2.2.2.2 j (by omega); omega))], rfl⟩
        ·
         have hto := neg_f cc3
         refine CV.cond_f rfl (CV.skip (KV.then_n (KV.env [(1, _), (7, _), (42, _), (43, _), (44, _)] ⟨rfl, rfl, rfl, rfl, rfl, trivial⟩ (CV.region ?_))))
         refine RV.s (Step.fieldAddr rfl (F48_0 _ _)) rfl (RV.s (Step.load Tryz.underlying3 rfl rfl (fun w h => h.cell 1 rfl rfl)) rfl (RV.a rfl rfl ?_))
         refine RV.nil (KV.block_n (KV.then_n (KV.env [(1, _), (5, _), (42, _), (43, _), (44, _)] ⟨rfl, rfl, rfl, rfl, rfl, trivial⟩ (CV.region ?_))))
         (first | refine RV.op (OV.step gno (Step.add rfl rfl (wI64 (by omega) (by omega))) rfl ?_) | refine RV.op (OV.step gno (Step.add rfl rfl rfl) rfl ?_))
         refine RV.m rfl rfl ?_
         refine RV.nil (KV.then_n (KV.env [(1, _), (5, _), (42, _), (43, _), (44, _)] ⟨rfl, rfl, rfl, rfl, rfl, trivial⟩ ?_))
         refine KV.sel [0] [_] rfl ?_
         exact KV.loopI (z := j) (j + 1) ⟨by omega, fun k hk => by by_cases e : k = j; (subst e; exact ⟨hto, by have e1 : (th d.hs k).t.frm = (d.hs.getD k thK.d).t.frm := rfl; by_cases e0 : k = 0; exact .inl e0; (rw [if_neg e0] at hlt; right; omega)⟩); exact hinv.2 k (by omega)⟩ (by omega) ⟨rfl, (by rw [if_neg (Nat.succ_ne_zero _), Nat.add_sub_cancel]; rfl), rfl, rfl, rfl, trivial⟩ (fun _ h => h)
      ·
       refine RV.nil (KV.then_n (KV.env [(1, _), (5, _), (42, _), (43, _), (44, _), (45, _)] ⟨rfl, rfl, rfl, rfl, rfl, rfl, trivial⟩ (CV.seq (CV.cond_f rfl (CV.exit ?_)))))
       refine KV.then_exit (KV.then_exit (KV.block_hit (KV.then_n (KV.env [(1, _)] ⟨rfl, trivial⟩ (CV.seq ?_)))))
       refine CV.seq (CV.region ?_)
       refine RV.s (Step.fieldAddr rfl (F25_1 _ _)) rfl (RV.s (Step.load Tryz.underlying22 rfl rfl (fun w h => h.cell 0 rfl rfl)) rfl ?_)
       refine RV.op (OV.call [] (F := [_]) Tryz.func28 B28 N28 rfl rfl (fun w h => repeats_fn (DR.keep h hd hI).s rfl (by omega)) (fun _ hb => hb.elim) gno rfl (fun v L' hp => ?_))
       obtain ⟨rfl, rfl⟩ := hp
       simp only [List.append_nil]
       by_cases hdup : ¬ d.ss.Nodup
       ·
        rw [decide_eq_true hdup]
        refine RV.nil (KV.then_n (KV.env [(65, _)] ⟨rfl, trivial⟩ (CV.cond_t rfl (CV.seq (CV.region ?_)))))
        refine RV.a rfl rfl ?_
        refine RV.nil (KV.then_n (KV.env [(2, _)] ⟨rfl, trivial⟩ (CV.ret (KV.then_ret ?_))))
        refine KV.sel [] [] rfl ?_
        exact KV.ret1 rfl rfl _ (fun _ h => h) ⟨by rw [chk_dup (show chkA d.d = true from (chkD_iff d).2 ⟨hnm, by omega, fun k hk => hS.2 k (by omega), fun k hk => (hinv.2 k (by omega)).1, fun k hk => (hinv.2 k (by omega)).2⟩) hdup], rfl⟩
       ·
        rw [decide_eq_false hdup]
        refine RV.nil (KV.then_n (KV.env [(65, _)] ⟨rfl, trivial⟩ (CV.cond_f rfl (CV.skip (KV.then_n ?_)))))
        refine KV.env [] trivial (CV.seq (CV.region ?_))
        refine RV.a rfl rfl ?_
        refine RV.nil (KV.then_n (KV.env [(2, _)] ⟨rfl, trivial⟩ (CV.ret ?_)))
        refine KV.sel [] [] rfl ?_
        exact KV.ret1 rfl rfl _ (fun _ h => h) ⟨by rw [chk_ok (show chkA d.d = true from (chkD_iff d).2 ⟨hnm, by omega, fun k hk => hS.2 k (by omega), fun k hk => (hinv.2 k (by omega)).1, fun k hk => (hinv.2 k (by omega)).2⟩) (Decidable.not_not.1 hdup)], rfl⟩
end Go.Proofs.YtplmfekhdaefaaaGreatDoor
