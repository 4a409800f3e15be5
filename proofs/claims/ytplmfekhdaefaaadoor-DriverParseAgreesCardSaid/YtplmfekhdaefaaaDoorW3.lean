/-
  Walks, part 3.
-/
import Derived.Test.YtplmfekhdaefaaaDoorTabA
import Derived.Test.YtplmfekhdaefaaaDoorW2
set_option linter.unusedSimpArgs false
set_option linter.unusedVariables false
namespace Go.Proofs.YtplmfekhdaefaaaDoor
open Go.Sv Go.Drv
set_option maxRecDepth 100000 in
set_option maxHeartbeats 4000000 in
theorem rcheck_fn (d : DH) {w : World} (hd : DR w d) : Fx Tryd.prog 31 [.agg #[.string (bs d.name), .slice d.sA d.ss.length d.sc, .slice d.tA d.hs.length d.tc]] w [] no (fun v L => v = .int .i64 (chkM d.d) ∧ L = []) := by
  refine Sv.Fx.body Tryd.func31 rfl T31 rfl ?_
  intro I hro hI
  refine KV.env [(0, _)] ⟨rfl, trivial⟩ (CV.seq (CV.region ?_))
  refine RV.op (OV.box (t := 26) #[_, _, _] rfl rfl gno rfl (fun p => ?_))
  refine RV.op (OV.step gno (Step.assign rfl) rfl ?_)
  refine RV.nil (KV.then_n (KV.env [(1, _)] ⟨rfl, trivial⟩ (CV.seq (CV.seq (CV.region ?_)))))
  refine RV.op (OV.step gno (Step.fieldAddr rfl (F26_0 _ _)) rfl ?_)
  refine RV.op (OV.step gno (Step.load Tryd.underlying9 rfl rfl (fun w h => h.cell 0 rfl rfl)) rfl ?_)
  refine RV.op (OV.callP Tryd.func51 B51 N51 rfl (risName_fn d.name) gno rfl ?_)
  refine RV.op (OV.step gno (Step.not rfl) rfl ?_)
  refine RV.op (OV.step gno (Step.move rfl) rfl ?_)
  refine KV.cases 9 rfl (fun cc1 => ?_) (fun cc1 => ?_)
  · -- True
    have hnm := neg_t cc1
    refine RV.op (OV.skip rfl rfl ?_)
    refine RV.op (OV.skip rfl rfl ?_)
    refine RV.op (OV.skip rfl rfl ?_)
    refine RV.op (OV.skip rfl rfl ?_)
    refine RV.op (OV.step gno (Step.pick_t rfl rfl) rfl ?_)
    refine RV.op (OV.step gno (Step.move rfl) rfl ?_)
    refine RV.op (OV.skip rfl rfl ?_)
    refine RV.op (OV.skip rfl rfl ?_)
    refine RV.op (OV.skip rfl rfl ?_)
    refine RV.op (OV.skip rfl rfl ?_)
    refine RV.op (OV.step gno (Step.pick_t rfl rfl) rfl ?_)
    refine RV.op (OV.step gno (Step.move rfl) rfl ?_)
    refine RV.op (OV.skip rfl rfl ?_)
    refine RV.op (OV.skip rfl rfl ?_)
    refine RV.op (OV.skip rfl rfl ?_)
    refine RV.op (OV.skip rfl rfl ?_)
    refine RV.op (OV.step gno (Step.pick_t rfl rfl) rfl ?_)
    refine RV.nil (KV.then_n (KV.env [(1, _), (26, _)] ⟨rfl, rfl, trivial⟩ (CV.cond_t rfl (CV.seq (CV.region ?_)))))
    refine RV.op (OV.step gno (Step.assign rfl) rfl ?_)
    refine RV.nil (KV.then_n (KV.env [(2, _)] ⟨rfl, trivial⟩ (CV.ret (KV.then_ret ?_))))
    refine KV.sel [] [] rfl ?_
    first | exact KV.ret1 rfl rfl _ (fun _ h => h) ⟨by rw [show chkM d.d = 1 from chk_bad (fun k => by have k2 := (chkD_iff d).1 k; first | (exfalso; omega) | exact ff k2.1 hnm | exact ff (k2.2.2.1 j (by omega)) hsj | exact ff (k2.2.2.2.1 j (by omega)) hto | (have k3 := k2.2.2.2.2 j (by omega); have e1 : (th d.hs j).t.frm = (d.hs.getD j thK.d).t.frm := rfl; have e2 : (th d.hs (j - 1)).t.frm = (d.hs.getD (j - 1) thK.d).t.frm := rfl; omega))], rfl⟩
  · -- False
    have hnm := neg_f cc1
    refine RV.op (OV.step (gyes rfl) (Step.fieldAddr rfl (F26_1 _ _)) rfl ?_)
    refine RV.op (OV.step (gyes rfl) (Step.load Tryd.underlying23 rfl rfl (fun w h => h.cell 0 rfl rfl)) rfl ?_)
    refine RV.op (OV.step (gyes rfl) (Step.lenSl Tryd.underlying23 rfl) rfl ?_)
    refine RV.op (OV.split (gyes rfl) (Step.eql rfl rfl) rfl (fun a1 => ?_) (fun a1 => ?_))
    · -- True
      refine RV.op (OV.step gno (Step.pick_f rfl rfl) rfl ?_)
      refine RV.op (OV.step gno (Step.move rfl) rfl ?_)
      refine RV.op (OV.skip rfl rfl ?_)
      refine RV.op (OV.skip rfl rfl ?_)
      refine RV.op (OV.skip rfl rfl ?_)
      refine RV.op (OV.skip rfl rfl ?_)
      refine RV.op (OV.step gno (Step.pick_t rfl rfl) rfl ?_)
      refine RV.op (OV.step gno (Step.move rfl) rfl ?_)
      refine RV.op (OV.skip rfl rfl ?_)
      refine RV.op (OV.skip rfl rfl ?_)
      refine RV.op (OV.skip rfl rfl ?_)
      refine RV.op (OV.skip rfl rfl ?_)
      refine RV.op (OV.step gno (Step.pick_t rfl rfl) rfl ?_)
      refine RV.nil (KV.then_n (KV.env [(1, _), (26, _)] ⟨rfl, rfl, trivial⟩ (CV.cond_t rfl (CV.seq (CV.region ?_)))))
      refine RV.op (OV.step gno (Step.assign rfl) rfl ?_)
      refine RV.nil (KV.then_n (KV.env [(2, _)] ⟨rfl, trivial⟩ (CV.ret (KV.then_ret ?_))))
      refine KV.sel [] [] rfl ?_
      first | exact KV.ret1 rfl rfl _ (fun _ h => h) ⟨by rw [show chkM d.d = 1 from chk_bad (fun k => by have k2 := (chkD_iff d).1 k; first | (exfalso; omega) | exact ff k2.1 hnm | exact ff (k2.2.2.1 j (by omega)) hsj | exact ff (k2.2.2.2.1 j (by omega)) hto | (have k3 := k2.2.2.2.2 j (by omega); have e1 : (th d.hs j).t.frm = (d.hs.getD j thK.d).t.frm := rfl; have e2 : (th d.hs (j - 1)).t.frm = (d.hs.getD (j - 1) thK.d).t.frm := rfl; omega))], rfl⟩
    · -- False
      refine RV.op (OV.step gno (Step.pick_f rfl rfl) rfl ?_)
      refine RV.op (OV.step gno (Step.move rfl) rfl ?_)
      refine RV.op (OV.step (gyes rfl) (Step.fieldAddr rfl (F26_1 _ _)) rfl ?_)
      refine RV.op (OV.step (gyes rfl) (Step.load Tryd.underlying23 rfl rfl (fun w h => h.cell 0 rfl rfl)) rfl ?_)
      refine RV.op (OV.step (gyes rfl) (Step.lenSl Tryd.underlying23 rfl) rfl ?_)
      refine RV.op (OV.split (gyes rfl) (Step.gtr rfl rfl) rfl (fun a2 => ?_) (fun a2 => ?_))
      · -- True
        refine RV.op (OV.step gno (Step.pick_f rfl rfl) rfl ?_)
        refine RV.op (OV.step gno (Step.move rfl) rfl ?_)
        refine RV.op (OV.skip rfl rfl ?_)
        refine RV.op (OV.skip rfl rfl ?_)
        refine RV.op (OV.skip rfl rfl ?_)
        refine RV.op (OV.skip rfl rfl ?_)
        refine RV.op (OV.step gno (Step.pick_t rfl rfl) rfl ?_)
        refine RV.nil (KV.then_n (KV.env [(1, _), (26, _)] ⟨rfl, rfl, trivial⟩ (CV.cond_t rfl (CV.seq (CV.region ?_)))))
        refine RV.op (OV.step gno (Step.assign rfl) rfl ?_)
        refine RV.nil (KV.then_n (KV.env [(2, _)] ⟨rfl, trivial⟩ (CV.ret (KV.then_ret ?_))))
        refine KV.sel [] [] rfl ?_
        first | exact KV.ret1 rfl rfl _ (fun _ h => h) ⟨by rw [show chkM d.d = 1 from chk_bad (fun k => by have k2 := (chkD_iff d).1 k; first | (exfalso; omega) | exact ff k2.1 hnm | exact ff (k2.2.2.1 j (by omega)) hsj | exact ff (k2.2.2.2.1 j (by omega)) hto | (have k3 := k2.2.2.2.2 j (by omega); have e1 : (th d.hs j).t.frm = (d.hs.getD j thK.d).t.frm := rfl; have e2 : (th d.hs (j - 1)).t.frm = (d.hs.getD (j - 1) thK.d).t.frm := rfl; omega))], rfl⟩
      · -- False
        refine RV.op (OV.step gno (Step.pick_f rfl rfl) rfl ?_)
        refine RV.op (OV.step gno (Step.move rfl) rfl ?_)
        refine RV.op (OV.step (gyes rfl) (Step.fieldAddr rfl (F26_2 _ _)) rfl ?_)
        refine RV.op (OV.step (gyes rfl) (Step.load Tryd.underlying24 rfl rfl (fun w h => h.cell 0 rfl rfl)) rfl ?_)
        refine RV.op (OV.step (gyes rfl) (Step.lenSl Tryd.underlying24 rfl) rfl ?_)
        refine RV.op (OV.split (gyes rfl) (Step.gtr rfl rfl) rfl (fun a3 => ?_) (fun a3 => ?_))
        · -- True
          refine RV.op (OV.step gno (Step.pick_f rfl rfl) rfl ?_)
          refine RV.nil (KV.then_n (KV.env [(1, _), (26, _)] ⟨rfl, rfl, trivial⟩ (CV.cond_t rfl (CV.seq (CV.region ?_)))))
          refine RV.op (OV.step gno (Step.assign rfl) rfl ?_)
          refine RV.nil (KV.then_n (KV.env [(2, _)] ⟨rfl, trivial⟩ (CV.ret (KV.then_ret ?_))))
          refine KV.sel [] [] rfl ?_
          first | exact KV.ret1 rfl rfl _ (fun _ h => h) ⟨by rw [show chkM d.d = 1 from chk_bad (fun k => by have k2 := (chkD_iff d).1 k; first | (exfalso; omega) | exact ff k2.1 hnm | exact ff (k2.2.2.1 j (by omega)) hsj | exact ff (k2.2.2.2.1 j (by omega)) hto | (have k3 := k2.2.2.2.2 j (by omega); have e1 : (th d.hs j).t.frm = (d.hs.getD j thK.d).t.frm := rfl; have e2 : (th d.hs (j - 1)).t.frm = (d.hs.getD (j - 1) thK.d).t.frm := rfl; omega))], rfl⟩
        · -- False
          refine RV.op (OV.step gno (Step.pick_f rfl rfl) rfl ?_)
          refine RV.nil (KV.then_n (KV.env [(1, _), (26, _)] ⟨rfl, rfl, trivial⟩ (CV.cond_f rfl (CV.skip (KV.then_n ?_)))))
          refine KV.env [(1, _)] ⟨rfl, trivial⟩ (CV.seq (CV.seq (CV.region ?_)))
          refine RV.op (OV.step gno (Step.assign rfl) rfl ?_)
          refine RV.nil (KV.then_n (KV.env [(1, _), (3, _)] ⟨rfl, rfl, trivial⟩ (CV.block ?_)))
          refine KV.sel [0] [_] rfl ?_
          refine CV.loopI (fun (j : Nat) => j ≤ d.ss.length ∧ ∀ k, k < j → isNm (d.ss.getD k []) = true) (fun (j : Nat) => d.ss.length - j) (fun (j : Nat) => [(1, .pointer (some ⟨p, 0, none⟩)), (3, .int .i64 j)]) (fun (j : Nat) => Hp I w [Blk p (.cells #[.string (bs d.name), .slice d.sA d.ss.length d.sc, .slice d.tA d.hs.length d.tc] 26 (0, 0))]) (0) ⟨Nat.zero_le _, fun k hk => by omega⟩ ⟨rfl, rfl, trivial⟩ (fun _ h => h) ?_
          intro j hinv
          refine CV.seq (CV.seq (CV.region ?_))
          refine RV.op (OV.step gno (Step.move rfl) rfl ?_)
          refine RV.op (OV.step gno (Step.fieldAddr rfl (F26_1 _ _)) rfl ?_)
          refine RV.op (OV.step gno (Step.load Tryd.underlying23 rfl rfl (fun w h => h.cell 0 rfl rfl)) rfl ?_)
          refine RV.op (OV.step gno (Step.lenSl Tryd.underlying23 rfl) rfl ?_)
          refine RV.op (OV.split gno (Step.lss rfl rfl) rfl (fun hj => ?_) (fun hj => ?_))
          · -- True
            refine RV.nil (KV.then_n (KV.env [(1, _), (3, _), (31, _)] ⟨rfl, rfl, rfl, trivial⟩ (CV.cond_t rfl (CV.skip (KV.then_n ?_)))))
            refine KV.env [(1, _), (3, _)] ⟨rfl, rfl, trivial⟩ (CV.seq (CV.block (CV.seq (CV.region ?_))))
            refine RV.op (OV.step gno (Step.fieldAddr rfl (F26_1 _ _)) rfl ?_)
            refine RV.op (OV.step gno (Step.load Tryd.underlying23 rfl rfl (fun w h => h.cell 0 rfl rfl)) rfl ?_)
            refine RV.op (OV.step gno (Step.move rfl) rfl ?_)
            refine RV.op (OV.step gno (Step.idx Tryd.underlying23 I9 (fun w h => (DR.keep h hd hI).s) rfl rfl (rfl) _ rfl (by omega)) rfl ?_)
            refine RV.op (OV.step gno (Step.load Tryd.underlying9 rfl rfl (fun w h => ((DR.keep h hd hI).s).cell0 (by omega) rfl)) rfl ?_)
            refine RV.op (OV.callP Tryd.func51 B51 N51 rfl (risName_fn (d.ss.getD j strK.d)) gno rfl ?_)
            refine RV.op (OV.step gno (Step.not rfl) rfl ?_)
            refine RV.nil (KV.then_n (KV.env [(1, _), (3, _), (40, _)] ⟨rfl, rfl, rfl, trivial⟩ ?_))
            refine KV.cases 40 rfl (fun cc2 => ?_) (fun cc2 => ?_)
            · -- True
              have hsj := neg_t cc2
              refine CV.cond_t rfl (CV.seq (CV.region ?_))
              refine RV.op (OV.step gno (Step.assign rfl) rfl ?_)
              refine RV.nil (KV.then_n (KV.env [(2, _)] ⟨rfl, trivial⟩ (CV.ret (KV.block_ret (KV.then_ret ?_)))))
              refine KV.then_ret (KV.block_ret (KV.then_ret ?_))
              refine KV.sel [] [] rfl ?_
              first | exact KV.ret1 rfl rfl _ (fun _ h => h) ⟨by rw [show chkM d.d = 1 from chk_bad (fun k => by have k2 := (chkD_iff d).1 k; first | (exfalso; omega) | exact ff k2.1 hnm | exact ff (k2.2.2.1 j (by omega)) hsj | exact ff (k2.2.2.2.1 j (by omega)) hto | (have k3 := k2.2.2.2.2 j (by omega); have e1 : (th d.hs j).t.frm = (d.hs.getD j thK.d).t.frm := rfl; have e2 : (th d.hs (j - 1)).t.frm = (d.hs.getD (j - 1) thK.d).t.frm := rfl; omega))], rfl⟩
            · -- False
              have hsj := neg_f cc2
              refine CV.cond_f rfl (CV.skip (KV.block_n (KV.then_n (KV.env [(1, _), (3, _)] ⟨rfl, rfl, trivial⟩ (CV.region ?_)))))
              refine RV.op (OV.step gno (Step.move rfl) rfl ?_)
              (first | refine RV.op (OV.step gno (Step.add rfl rfl (wI64 (by omega) (by omega))) rfl ?_) | refine RV.op (OV.step gno (Step.add rfl rfl rfl) rfl ?_))
              refine RV.op (OV.step gno (Step.assign rfl) rfl ?_)
              refine RV.nil (KV.then_n (KV.env [(1, _), (3, _)] ⟨rfl, rfl, trivial⟩ ?_))
              refine KV.sel [0] [_] rfl ?_
              exact KV.loopI (z := j) (j + 1) ⟨by omega, fun k hk => by by_cases e : k = j; (subst e; exact hsj); exact hinv.2 k (by omega)⟩ (by omega) ⟨rfl, rfl, trivial⟩ (fun _ h => h)
          · -- False
            refine RV.nil (KV.then_n (KV.env [(1, _), (3, _), (31, _)] ⟨rfl, rfl, rfl, trivial⟩ (CV.cond_f rfl (CV.exit (KV.then_exit ?_)))))
            refine KV.then_exit (KV.block_hit (KV.then_n (KV.env [(1, _)] ⟨rfl, trivial⟩ (CV.seq (CV.seq ?_)))))
            have hS := hinv
            refine CV.region ?_
            refine RV.op (OV.step gno (Step.assign rfl) rfl ?_)
            refine RV.nil (KV.then_n (KV.env [(1, _), (4, _)] ⟨rfl, rfl, trivial⟩ (CV.block ?_)))
            refine KV.sel [0] [_] rfl ?_
            refine CV.loopI (fun (j : Nat) => j ≤ d.hs.length ∧ ∀ k, k < j → okT d.ss.length (th d.hs k).t = true ∧ (k = 0 ∨ (th d.hs (k - 1)).t.frm ≤ (th d.hs k).t.frm)) (fun (j : Nat) => d.hs.length - j) (fun (j : Nat) => [(1, .pointer (some ⟨p, 0, none⟩)), (4, .int .i64 j)]) (fun (j : Nat) => Hp I w [Blk p (.cells #[.string (bs d.name), .slice d.sA d.ss.length d.sc, .slice d.tA d.hs.length d.tc] 26 (0, 0))]) (0) ⟨Nat.zero_le _, fun k hk => by omega⟩ ⟨rfl, rfl, trivial⟩ (fun _ h => h) ?_
            intro j hinv
            refine CV.seq (CV.seq (CV.region ?_))
            refine RV.op (OV.step gno (Step.move rfl) rfl ?_)
            refine RV.op (OV.step gno (Step.fieldAddr rfl (F26_2 _ _)) rfl ?_)
            refine RV.op (OV.step gno (Step.load Tryd.underlying24 rfl rfl (fun w h => h.cell 0 rfl rfl)) rfl ?_)
            refine RV.op (OV.step gno (Step.lenSl Tryd.underlying24 rfl) rfl ?_)
            refine RV.op (OV.split gno (Step.lss rfl rfl) rfl (fun hj => ?_) (fun hj => ?_))
            · -- True
              refine RV.nil (KV.then_n (KV.env [(1, _), (4, _), (45, _)] ⟨rfl, rfl, rfl, trivial⟩ (CV.cond_t rfl (CV.skip (KV.then_n ?_)))))
              refine KV.env [(1, _), (4, _)] ⟨rfl, rfl, trivial⟩ (CV.seq (CV.block (CV.seq ?_)))
              refine CV.any (Hp I w [Blk p (.cells #[.string (bs d.name), .slice d.sA d.ss.length d.sc, .slice d.tA d.hs.length d.tc] 26 (0, 0))]) (by kernel_rfl) (fun _ h => h.drew) 30 rfl ?_
              refine AV.take 0 #[true, false, false, false, false, false, false, false, false, false, false, false, false, false, false, false, false, false, false, false, false, false, false, false, false, false, false, false, false, false] rfl (by kernel_rfl) (by kernel_rfl) (by kernel_rfl) (fun _ _ _ h => h) gno (Step.fieldAddr rfl (F26_2 _ _)) rfl (fun _ h => h.sel [0] rfl) (by kernel_rfl) ?_
              refine AV.take 1 #[true, true, false, false, false, false, false, false, false, false, false, false, false, false, false, false, false, false, false, false, false, false, false, false, false, false, false, false, false, false] rfl (by kernel_rfl) (by kernel_rfl) (by kernel_rfl) (fun _ _ _ h => h) gno (Step.load Tryd.underlying24 rfl rfl (fun w h => h.cell 0 rfl rfl)) rfl (fun _ h => h.sel [0] rfl) (by kernel_rfl) ?_
              refine AV.take 2 #[true, true, true, false, false, false, false, false, false, false, false, false, false, false, false, false, false, false, false, false, false, false, false, false, false, false, false, false, false, false] rfl (by kernel_rfl) (by kernel_rfl) (by kernel_rfl) (fun _ _ _ h => h) gno (Step.move rfl) rfl (fun _ h => h.sel [0] rfl) (by kernel_rfl) ?_
              refine AV.take 3 #[true, true, true, true, false, false, false, false, false, false, false, false, false, false, false, false, false, false, false, false, false, false, false, false, false, false, false, false, false, false] rfl (by kernel_rfl) (by kernel_rfl) (by kernel_rfl) (fun _ _ _ h => h) gno (Step.idx Tryd.underlying24 I61 (fun w h => (DR.keep h hd hI).t) rfl rfl (rfl) _ rfl (by omega)) rfl (fun _ h => h.sel [0] rfl) (by kernel_rfl) ?_
              refine AV.take 4 #[true, true, true, true, true, false, false, false, false, false, false, false, false, false, false, false, false, false, false, false, false, false, false, false, false, false, false, false, false, false] rfl (by kernel_rfl) (by kernel_rfl) (by kernel_rfl) (fun _ _ _ h => h) gno (Step.loadN _ Tryd.underlying61 rfl I61 rfl rfl (fun w h => ((DR.keep h hd hI).t).cells (by omega))) rfl (fun _ h => h.sel [0] rfl) (by kernel_rfl) ?_
              refine AV.take 5 #[true, true, true, true, true, true, false, false, false, false, false, false, false, false, false, false, false, false, false, false, false, false, false, false, false, false, false, false, false, false] rfl (by kernel_rfl) (by kernel_rfl) (by kernel_rfl) (fun _ _ _ h => h) gno (Step.fieldAddr rfl (F26_1 _ _)) rfl (fun _ h => h.sel [0] rfl) (by kernel_rfl) ?_
              refine AV.take 6 #[true, true, true, true, true, true, true, false, false, false, false, false, false, false, false, false, false, false, false, false, false, false, false, false, false, false, false, false, false, false] rfl (by kernel_rfl) (by kernel_rfl) (by kernel_rfl) (fun _ _ _ h => h) gno (Step.load Tryd.underlying23 rfl rfl (fun w h => h.cell 0 rfl rfl)) rfl (fun _ h => h.sel [0] rfl) (by kernel_rfl) ?_
              refine AV.take 7 #[true, true, true, true, true, true, true, true, false, false, false, false, false, false, false, false, false, false, false, false, false, false, false, false, false, false, false, false, false, false] rfl (by kernel_rfl) (by kernel_rfl) (by kernel_rfl) (fun _ _ _ h => h) gno (Step.lenSl Tryd.underlying23 rfl) rfl (fun _ h => h.sel [0] rfl) (by kernel_rfl) ?_
              refine AV.all [8] (by kernel_rfl) (by decide) ?_
              refine ⟨⟨_, rfl, ?_⟩, trivial⟩
              · -- 8 comes up
                refine OV.call [] (F := [_]) Tryd.func52 B52 N52 rfl rfl (fun w h => rgood_fn (d.hs.getD j thK.d) d.ss.length ((DR.keep h hd hI).o j (by omega))) (fun _ hb => hb.elim) gno rfl (fun v L' hp => ?_)
                obtain ⟨rfl, rfl⟩ := hp
                simp only [List.append_nil]
                refine AV.next #[true, true, true, true, true, true, true, true, true, false, false, false, false, false, false, false, false, false, false, false, false, false, false, false, false, false, false, false, false, false] (by kernel_rfl) (fun _ h => h.sel [0] rfl) ?_
                refine AV.take 9 #[true, true, true, true, true, true, true, true, true, true, false, false, false, false, false, false, false, false, false, false, false, false, false, false, false, false, false, false, false, false] rfl (by kernel_rfl) (by kernel_rfl) (by kernel_rfl) (fun _ _ _ h => h) gno (Step.not rfl) rfl (fun _ h => h.sel [0] rfl) (by kernel_rfl) ?_
                refine AV.take 10 #[true, true, true, true, true, true, true, true, true, true, true, false, false, false, false, false, false, false, false, false, false, false, false, false, false, false, false, false, false, false] rfl (by kernel_rfl) (by kernel_rfl) (by kernel_rfl) (fun _ _ _ h => h) gno (Step.move rfl) rfl (fun _ h => h.sel [0] rfl) (by kernel_rfl) ?_
                refine KV.cases 58 rfl (fun cc3 => ?_) (fun cc3 => ?_)
                · -- True
                  have hto := neg_t cc3
                  refine AV.takeSkip 11 #[true, true, true, true, true, true, true, true, true, true, true, true, false, false, false, false, false, false, false, false, false, false, false, false, false, false, false, false, false, false] rfl (by kernel_rfl) (by kernel_rfl) (by kernel_rfl) (fun _ _ _ h => h) rfl rfl (fun _ h => h.sel [0] rfl) (by kernel_rfl) ?_
                  refine AV.takeSkip 12 #[true, true, true, true, true, true, true, true, true, true, true, true, true, false, false, false, false, false, false, false, false, false, false, false, false, false, false, false, false, false] rfl (by kernel_rfl) (by kernel_rfl) (by kernel_rfl) (fun _ _ _ h => h) rfl rfl (fun _ h => h.sel [0] rfl) (by kernel_rfl) ?_
                  refine AV.takeSkip 13 #[true, true, true, true, true, true, true, true, true, true, true, true, true, true, false, false, false, false, false, false, false, false, false, false, false, false, false, false, false, false] rfl (by kernel_rfl) (by kernel_rfl) (by kernel_rfl) (fun _ _ _ h => h) rfl rfl (fun _ h => h.sel [0] rfl) (by kernel_rfl) ?_
                  refine AV.takeSkipU 14 #[true, true, true, true, true, true, true, true, true, true, true, true, true, true, true, false, false, false, false, false, false, false, false, false, false, false, false, false, false, false] rfl (by kernel_rfl) (by kernel_rfl) (by kernel_rfl) (fun _ _ _ h => h) rfl rfl (fun _ h => h.sel [0] rfl) (by kernel_rfl) ?_
                  refine AV.takeSkipU 15 #[true, true, true, true, true, true, true, true, true, true, true, true, true, true, true, true, false, false, false, false, false, false, false, false, false, false, false, false, false, false] rfl (by kernel_rfl) (by kernel_rfl) (by kernel_rfl) (fun _ _ _ h => h) rfl rfl (fun _ h => h.sel [0] rfl) (by kernel_rfl) ?_
                  refine AV.takeSkipU 16 #[true, true, true, true, true, true, true, true, true, true, true, true, true, true, true, true, true, false, false, false, false, false, false, false, false, false, false, false, false, false] rfl (by kernel_rfl) (by kernel_rfl) (by kernel_rfl) (fun _ _ _ h => h) rfl rfl (fun _ h => h.sel [0] rfl) (by kernel_rfl) ?_
                  refine AV.takeSkipU 17 #[true, true, true, true, true, true, true, true, true, true, true, true, true, true, true, true, true, true, false, false, false, false, false, false, false, false, false, false, false, false] rfl (by kernel_rfl) (by kernel_rfl) (by kernel_rfl) (fun _ _ _ h => h) rfl rfl (fun _ h => h.sel [0] rfl) (by kernel_rfl) ?_
                  refine AV.takeSkipU 18 #[true, true, true, true, true, true, true, true, true, true, true, true, true, true, true, true, true, true, true, false, false, false, false, false, false, false, false, false, false, false] rfl (by kernel_rfl) (by kernel_rfl) (by kernel_rfl) (fun _ _ _ h => h) rfl rfl (fun _ h => h.sel [0] rfl) (by kernel_rfl) ?_
                  refine AV.takeSkipU 19 #[true, true, true, true, true, true, true, true, true, true, true, true, true, true, true, true, true, true, true, true, false, false, false, false, false, false, false, false, false, false] rfl (by kernel_rfl) (by kernel_rfl) (by kernel_rfl) (fun _ _ _ h => h) rfl rfl (fun _ h => h.sel [0] rfl) (by kernel_rfl) ?_
                  refine AV.takeSkipU 20 #[true, true, true, true, true, true, true, true, true, true, true, true, true, true, true, true, true, true, true, true, true, false, false, false, false, false, false, false, false, false] rfl (by kernel_rfl) (by kernel_rfl) (by kernel_rfl) (fun _ _ _ h => h) rfl rfl (fun _ h => h.sel [0] rfl) (by kernel_rfl) ?_
                  refine AV.takeSkipU 21 #[true, true, true, true, true, true, true, true, true, true, true, true, true, true, true, true, true, true, true, true, true, true, false, false, false, false, false, false, false, false] rfl (by kernel_rfl) (by kernel_rfl) (by kernel_rfl) (fun _ _ _ h => h) rfl rfl (fun _ h => h.sel [0] rfl) (by kernel_rfl) ?_
                  refine AV.takeSkipU 22 #[true, true, true, true, true, true, true, true, true, true, true, true, true, true, true, true, true, true, true, true, true, true, true, false, false, false, false, false, false, false] rfl (by kernel_rfl) (by kernel_rfl) (by kernel_rfl) (fun _ _ _ h => h) rfl rfl (fun _ h => h.sel [0] rfl) (by kernel_rfl) ?_
                  refine AV.takeSkipU 23 #[true, true, true, true, true, true, true, true, true, true, true, true, true, true, true, true, true, true, true, true, true, true, true, true, false, false, false, false, false, false] rfl (by kernel_rfl) (by kernel_rfl) (by kernel_rfl) (fun _ _ _ h => h) rfl rfl (fun _ h => h.sel [0] rfl) (by kernel_rfl) ?_
                  refine AV.takeSkipU 24 #[true, true, true, true, true, true, true, true, true, true, true, true, true, true, true, true, true, true, true, true, true, true, true, true, true, false, false, false, false, false] rfl (by kernel_rfl) (by kernel_rfl) (by kernel_rfl) (fun _ _ _ h => h) rfl rfl (fun _ h => h.sel [0] rfl) (by kernel_rfl) ?_
                  refine AV.takeSkipU 25 #[true, true, true, true, true, true, true, true, true, true, true, true, true, true, true, true, true, true, true, true, true, true, true, true, true, true, false, false, false, false] rfl (by kernel_rfl) (by kernel_rfl) (by kernel_rfl) (fun _ _ _ h => h) rfl rfl (fun _ h => h.sel [0] rfl) (by kernel_rfl) ?_
                  refine AV.takeSkipU 26 #[true, true, true, true, true, true, true, true, true, true, true, true, true, true, true, true, true, true, true, true, true, true, true, true, true, true, true, false, false, false] rfl (by kernel_rfl) (by kernel_rfl) (by kernel_rfl) (fun _ _ _ h => h) rfl rfl (fun _ h => h.sel [0] rfl) (by kernel_rfl) ?_
                  refine AV.takeSkipU 27 #[true, true, true, true, true, true, true, true, true, true, true, true, true, true, true, true, true, true, true, true, true, true, true, true, true, true, true, true, false, false] rfl (by kernel_rfl) (by kernel_rfl) (by kernel_rfl) (fun _ _ _ h => h) rfl rfl (fun _ h => h.sel [0] rfl) (by kernel_rfl) ?_
                  refine AV.takeSkip 28 #[true, true, true, true, true, true, true, true, true, true, true, true, true, true, true, true, true, true, true, true, true, true, true, true, true, true, true, true, true, false] rfl (by kernel_rfl) (by kernel_rfl) (by kernel_rfl) (fun _ _ _ h => h) rfl rfl (fun _ h => h.sel [0] rfl) (by kernel_rfl) ?_
                  refine AV.take 29 #[true, true, true, true, true, true, true, true, true, true, true, true, true, true, true, true, true, true, true, true, true, true, true, true, true, true, true, true, true, true] rfl (by kernel_rfl) (by kernel_rfl) (by kernel_rfl) (fun _ _ _ h => h) gno (Step.pick_t rfl rfl) rfl (fun _ h => h.sel [0] rfl) (by kernel_rfl) ?_
                  refine AV.done (by kernel_rfl) ?_
                  refine KV.then_n (KV.env [(1, _), (4, _), (77, _)] ⟨rfl, rfl, rfl, trivial⟩ (CV.cond_t rfl (CV.seq (CV.region ?_))))
                  refine RV.op (OV.step gno (Step.assign rfl) rfl ?_)
                  refine RV.nil (KV.then_n (KV.env [(2, _)] ⟨rfl, trivial⟩ (CV.ret (KV.block_ret (KV.then_ret ?_)))))
                  refine KV.then_ret (KV.block_ret (KV.then_ret ?_))
                  refine KV.sel [] [] rfl ?_
                  first | exact KV.ret1 rfl rfl _ (fun _ h => h) ⟨by rw [show chkM d.d = 1 from chk_bad (fun k => by have k2 := (chkD_iff d).1 k; first | (exfalso; omega) | exact ff k2.1 hnm | exact ff (k2.2.2.1 j (by omega)) hsj | exact ff (k2.2.2.2.1 j (by omega)) hto | (have k3 := k2.2.2.2.2 j (by omega); have e1 : (th d.hs j).t.frm = (d.hs.getD j thK.d).t.frm := rfl; have e2 : (th d.hs (j - 1)).t.frm = (d.hs.getD (j - 1) thK.d).t.frm := rfl; omega))], rfl⟩
                · -- False
                  have hto := neg_f cc3
                  refine AV.take 11 #[true, true, true, true, true, true, true, true, true, true, true, true, false, false, false, false, false, false, false, false, false, false, false, false, false, false, false, false, false, false] rfl (by kernel_rfl) (by kernel_rfl) (by kernel_rfl) (fun _ _ _ h => h) (gyes rfl) (Step.move rfl) rfl (fun _ h => h.sel [0] rfl) (by kernel_rfl) ?_
                  refine AV.take 12 #[true, true, true, true, true, true, true, true, true, true, true, true, true, false, false, false, false, false, false, false, false, false, false, false, false, false, false, false, false, false] rfl (by kernel_rfl) (by kernel_rfl) (by kernel_rfl) (fun _ _ _ h => h) (gyes rfl) (Step.gtr rfl rfl) rfl (fun _ h => h.sel [0] rfl) (by kernel_rfl) ?_
                  refine AV.take 13 #[true, true, true, true, true, true, true, true, true, true, true, true, true, true, false, false, false, false, false, false, false, false, false, false, false, false, false, false, false, false] rfl (by kernel_rfl) (by kernel_rfl) (by kernel_rfl) (fun _ _ _ h => h) (gyes rfl) (Step.move rfl) rfl (fun _ h => h.sel [0] rfl) (by kernel_rfl) ?_
                  refine KV.cases 61 rfl (fun cc4 => ?_) (fun cc4 => ?_)
                  · -- True
                    have h61 := of_decide_eq_true cc4
                    refine AV.take 14 #[true, true, true, true, true, true, true, true, true, true, true, true, true, true, true, false, false, false, false, false, false, false, false, false, false, false, false, false, false, false] rfl (by kernel_rfl) (by kernel_rfl) (by kernel_rfl) (fun _ _ _ h => h) (gyes rfl) (Step.fieldAddr rfl (F26_2 _ _)) rfl (fun _ h => h.sel [0] rfl) (by kernel_rfl) ?_
                    refine AV.take 15 #[true, true, true, true, true, true, true, true, true, true, true, true, true, true, true, true, false, false, false, false, false, false, false, false, false, false, false, false, false, false] rfl (by kernel_rfl) (by kernel_rfl) (by kernel_rfl) (fun _ _ _ h => h) (gyes rfl) (Step.load Tryd.underlying24 rfl rfl (fun w h => h.cell 0 rfl rfl)) rfl (fun _ h => h.sel [0] rfl) (by kernel_rfl) ?_
                    refine AV.take 16 #[true, true, true, true, true, true, true, true, true, true, true, true, true, true, true, true, true, false, false, false, false, false, false, false, false, false, false, false, false, false] rfl (by kernel_rfl) (by kernel_rfl) (by kernel_rfl) (fun _ _ _ h => h) (gyes rfl) (Step.move rfl) rfl (fun _ h => h.sel [0] rfl) (by kernel_rfl) ?_
                    refine AV.take 17 #[true, true, true, true, true, true, true, true, true, true, true, true, true, true, true, true, true, true, false, false, false, false, false, false, false, false, false, false, false, false] rfl (by kernel_rfl) (by kernel_rfl) (by kernel_rfl) (fun _ _ _ h => h) (gyes rfl) (Step.idx Tryd.underlying24 I61 (fun w h => (DR.keep h hd hI).t) rfl rfl (rfl) _ rfl (by omega)) rfl (fun _ h => h.sel [0] rfl) (by kernel_rfl) ?_
                    refine AV.take 18 #[true, true, true, true, true, true, true, true, true, true, true, true, true, true, true, true, true, true, true, false, false, false, false, false, false, false, false, false, false, false] rfl (by kernel_rfl) (by kernel_rfl) (by kernel_rfl) (fun _ _ _ h => h) (gyes rfl) (Step.fieldAddr rfl (F61_0 _ _)) rfl (fun _ h => h.sel [0] rfl) (by kernel_rfl) ?_
                    refine AV.take 19 #[true, true, true, true, true, true, true, true, true, true, true, true, true, true, true, true, true, true, true, true, false, false, false, false, false, false, false, false, false, false] rfl (by kernel_rfl) (by kernel_rfl) (by kernel_rfl) (fun _ _ _ h => h) (gyes rfl) (Step.load Tryd.underlying3 rfl rfl (fun w h => ((DR.keep h hd hI).t).cell0 (by omega) rfl)) rfl (fun _ h => h.sel [0] rfl) (by kernel_rfl) ?_
                    refine AV.take 20 #[true, true, true, true, true, true, true, true, true, true, true, true, true, true, true, true, true, true, true, true, true, false, false, false, false, false, false, false, false, false] rfl (by kernel_rfl) (by kernel_rfl) (by kernel_rfl) (fun _ _ _ h => h) (gyes rfl) (Step.fieldAddr rfl (F26_2 _ _)) rfl (fun _ h => h.sel [0] rfl) (by kernel_rfl) ?_
                    refine AV.take 21 #[true, true, true, true, true, true, true, true, true, true, true, true, true, true, true, true, true, true, true, true, true, true, false, false, false, false, false, false, false, false] rfl (by kernel_rfl) (by kernel_rfl) (by kernel_rfl) (fun _ _ _ h => h) (gyes rfl) (Step.load Tryd.underlying24 rfl rfl (fun w h => h.cell 0 rfl rfl)) rfl (fun _ h => h.sel [0] rfl) (by kernel_rfl) ?_
                    refine AV.take 22 #[true, true, true, true, true, true, true, true, true, true, true, true, true, true, true, true, true, true, true, true, true, true, true, false, false, false, false, false, false, false] rfl (by kernel_rfl) (by kernel_rfl) (by kernel_rfl) (fun _ _ _ h => h) (gyes rfl) (Step.move rfl) rfl (fun _ h => h.sel [0] rfl) (by kernel_rfl) ?_
                    (first | refine AV.take 23 #[true, true, true, true, true, true, true, true, true, true, true, true, true, true, true, true, true, true, true, true, true, true, true, true, false, false, false, false, false, false] rfl (by kernel_rfl) (by kernel_rfl) (by kernel_rfl) (fun _ _ _ h => h) (gyes rfl) (Step.sub rfl rfl (wI64 (by omega) (by omega))) rfl (fun _ h => h.sel [0] rfl) (by kernel_rfl) ?_ | refine AV.take 23 #[true, true, true, true, true, true, true, true, true, true, true, true, true, true, true, true, true, true, true, true, true, true, true, true, false, false, false, false, false, false] rfl (by kernel_rfl) (by kernel_rfl) (by kernel_rfl) (fun _ _ _ h => h) (gyes rfl) (Step.sub rfl rfl rfl) rfl (fun _ h => h.sel [0] rfl) (by kernel_rfl) ?_)
                    refine AV.take 24 #[true, true, true, true, true, true, true, true, true, true, true, true, true, true, true, true, true, true, true, true, true, true, true, true, true, false, false, false, false, false] rfl (by kernel_rfl) (by kernel_rfl) (by kernel_rfl) (fun _ _ _ h => h) (gyes rfl) (Step.idx Tryd.underlying24 I61 (fun w h => (DR.keep h hd hI).t) rfl rfl (rfl) _ (show (j : Int) - 1 = ((j - 1 : Nat) : Int) by omega) (by omega)) rfl (fun _ h => h.sel [0] rfl) (by kernel_rfl) ?_
                    refine AV.take 25 #[true, true, true, true, true, true, true, true, true, true, true, true, true, true, true, true, true, true, true, true, true, true, true, true, true, true, false, false, false, false] rfl (by kernel_rfl) (by kernel_rfl) (by kernel_rfl) (fun _ _ _ h => h) (gyes rfl) (Step.fieldAddr rfl (F61_0 _ _)) rfl (fun _ h => h.sel [0] rfl) (by kernel_rfl) ?_
                    refine AV.take 26 #[true, true, true, true, true, true, true, true, true, true, true, true, true, true, true, true, true, true, true, true, true, true, true, true, true, true, true, false, false, false] rfl (by kernel_rfl) (by kernel_rfl) (by kernel_rfl) (fun _ _ _ h => h) (gyes rfl) (Step.load Tryd.underlying3 rfl rfl (fun w h => ((DR.keep h hd hI).t).cell0 (by omega) rfl)) rfl (fun _ h => h.sel [0] rfl) (by kernel_rfl) ?_
                    refine AV.take 27 #[true, true, true, true, true, true, true, true, true, true, true, true, true, true, true, true, true, true, true, true, true, true, true, true, true, true, true, true, false, false] rfl (by kernel_rfl) (by kernel_rfl) (by kernel_rfl) (fun _ _ _ h => h) (gyes rfl) (Step.lss rfl rfl) rfl (fun _ h => h.sel [0] rfl) (by kernel_rfl) ?_
                    refine AV.take 28 #[true, true, true, true, true, true, true, true, true, true, true, true, true, true, true, true, true, true, true, true, true, true, true, true, true, true, true, true, true, false] rfl (by kernel_rfl) (by kernel_rfl) (by kernel_rfl) (fun _ _ _ h => h) (gyes rfl) (Step.pick_t rfl rfl) rfl (fun _ h => h.sel [0] rfl) (by kernel_rfl) ?_
                    refine AV.take 29 #[true, true, true, true, true, true, true, true, true, true, true, true, true, true, true, true, true, true, true, true, true, true, true, true, true, true, true, true, true, true] rfl (by kernel_rfl) (by kernel_rfl) (by kernel_rfl) (fun _ _ _ h => h) gno (Step.pick_f rfl rfl) rfl (fun _ h => h.sel [0] rfl) (by kernel_rfl) ?_
                    refine AV.done (by kernel_rfl) ?_
                    refine KV.then_n (KV.env [(1, _), (4, _), (77, _)] ⟨rfl, rfl, rfl, trivial⟩ ?_)
                    refine KV.cases 77 rfl (fun cc5 => ?_) (fun cc5 => ?_)
                    · -- True
                      have h77 := of_decide_eq_true cc5
                      refine CV.cond_t rfl (CV.seq (CV.region ?_))
                      refine RV.op (OV.step gno (Step.assign rfl) rfl ?_)
                      refine RV.nil (KV.then_n (KV.env [(2, _)] ⟨rfl, trivial⟩ (CV.ret (KV.block_ret (KV.then_ret ?_)))))
                      refine KV.then_ret (KV.block_ret (KV.then_ret ?_))
                      refine KV.sel [] [] rfl ?_
                      first | exact KV.ret1 rfl rfl _ (fun _ h => h) ⟨by rw [show chkM d.d = 1 from chk_bad (fun k => by have k2 := (chkD_iff d).1 k; first | (exfalso; omega) | exact ff k2.1 hnm | exact ff (k2.2.2.1 j (by omega)) hsj | exact ff (k2.2.2.2.1 j (by omega)) hto | (have k3 := k2.2.2.2.2 j (by omega); have e1 : (th d.hs j).t.frm = (d.hs.getD j thK.d).t.frm := rfl; have e2 : (th d.hs (j - 1)).t.frm = (d.hs.getD (j - 1) thK.d).t.frm := rfl; omega))], rfl⟩
                    · -- False
                      have h77 := of_decide_eq_false cc5
                      refine CV.cond_f rfl (CV.skip (KV.block_n (KV.then_n (KV.env [(1, _), (4, _)] ⟨rfl, rfl, trivial⟩ (CV.region ?_)))))
                      refine RV.op (OV.step gno (Step.move rfl) rfl ?_)
                      (first | refine RV.op (OV.step gno (Step.add rfl rfl (wI64 (by omega) (by omega))) rfl ?_) | refine RV.op (OV.step gno (Step.add rfl rfl rfl) rfl ?_))
                      refine RV.op (OV.step gno (Step.assign rfl) rfl ?_)
                      refine RV.nil (KV.then_n (KV.env [(1, _), (4, _)] ⟨rfl, rfl, trivial⟩ ?_))
                      refine KV.sel [0] [_] rfl ?_
                      exact KV.loopI (z := j) (j + 1) ⟨by omega, fun k hk => by by_cases e : k = j; (subst e; exact ⟨hto, by first | (left; omega) | (right; have e1 : (th d.hs k).t.frm = (d.hs.getD k thK.d).t.frm := rfl; have e2 : (th d.hs (k - 1)).t.frm = (d.hs.getD (k - 1) thK.d).t.frm := rfl; omega)⟩); exact hinv.2 k (by omega)⟩ (by omega) ⟨rfl, rfl, trivial⟩ (fun _ h => h)
                  · -- False
                    have h61 := of_decide_eq_false cc4
                    refine AV.takeSkip 14 #[true, true, true, true, true, true, true, true, true, true, true, true, true, true, true, false, false, false, false, false, false, false, false, false, false, false, false, false, false, false] rfl (by kernel_rfl) (by kernel_rfl) (by kernel_rfl) (fun _ _ _ h => h) rfl rfl (fun _ h => h.sel [0] rfl) (by kernel_rfl) ?_
                    refine AV.takeSkip 15 #[true, true, true, true, true, true, true, true, true, true, true, true, true, true, true, true, false, false, false, false, false, false, false, false, false, false, false, false, false, false] rfl (by kernel_rfl) (by kernel_rfl) (by kernel_rfl) (fun _ _ _ h => h) rfl rfl (fun _ h => h.sel [0] rfl) (by kernel_rfl) ?_
                    refine AV.takeSkip 16 #[true, true, true, true, true, true, true, true, true, true, true, true, true, true, true, true, true, false, false, false, false, false, false, false, false, false, false, false, false, false] rfl (by kernel_rfl) (by kernel_rfl) (by kernel_rfl) (fun _ _ _ h => h) rfl rfl (fun _ h => h.sel [0] rfl) (by kernel_rfl) ?_
                    refine AV.takeSkip 17 #[true, true, true, true, true, true, true, true, true, true, true, true, true, true, true, true, true, true, false, false, false, false, false, false, false, false, false, false, false, false] rfl (by kernel_rfl) (by kernel_rfl) (by kernel_rfl) (fun _ _ _ h => h) rfl rfl (fun _ h => h.sel [0] rfl) (by kernel_rfl) ?_
                    refine AV.takeSkip 18 #[true, true, true, true, true, true, true, true, true, true, true, true, true, true, true, true, true, true, true, false, false, false, false, false, false, false, false, false, false, false] rfl (by kernel_rfl) (by kernel_rfl) (by kernel_rfl) (fun _ _ _ h => h) rfl rfl (fun _ h => h.sel [0] rfl) (by kernel_rfl) ?_
                    refine AV.takeSkip 19 #[true, true, true, true, true, true, true, true, true, true, true, true, true, true, true, true, true, true, true, true, false, false, false, false, false, false, false, false, false, false] rfl (by kernel_rfl) (by kernel_rfl) (by kernel_rfl) (fun _ _ _ h => h) rfl rfl (fun _ h => h.sel [0] rfl) (by kernel_rfl) ?_
                    refine AV.takeSkip 20 #[true, true, true, true, true, true, true, true, true, true, true, true, true, true, true, true, true, true, true, true, true, false, false, false, false, false, false, false, false, false] rfl (by kernel_rfl) (by kernel_rfl) (by kernel_rfl) (fun _ _ _ h => h) rfl rfl (fun _ h => h.sel [0] rfl) (by kernel_rfl) ?_
                    refine AV.takeSkip 21 #[true, true, true, true, true, true, true, true, true, true, true, true, true, true, true, true, true, true, true, true, true, true, false, false, false, false, false, false, false, false] rfl (by kernel_rfl) (by kernel_rfl) (by kernel_rfl) (fun _ _ _ h => h) rfl rfl (fun _ h => h.sel [0] rfl) (by kernel_rfl) ?_
                    refine AV.takeSkip 22 #[true, true, true, true, true, true, true, true, true, true, true, true, true, true, true, true, true, true, true, true, true, true, true, false, false, false, false, false, false, false] rfl (by kernel_rfl) (by kernel_rfl) (by kernel_rfl) (fun _ _ _ h => h) rfl rfl (fun _ h => h.sel [0] rfl) (by kernel_rfl) ?_
                    refine AV.takeSkip 23 #[true, true, true, true, true, true, true, true, true, true, true, true, true, true, true, true, true, true, true, true, true, true, true, true, false, false, false, false, false, false] rfl (by kernel_rfl) (by kernel_rfl) (by kernel_rfl) (fun _ _ _ h => h) rfl rfl (fun _ h => h.sel [0] rfl) (by kernel_rfl) ?_
                    refine AV.takeSkip 24 #[true, true, true, true, true, true, true, true, true, true, true, true, true, true, true, true, true, true, true, true, true, true, true, true, true, false, false, false, false, false] rfl (by kernel_rfl) (by kernel_rfl) (by kernel_rfl) (fun _ _ _ h => h) rfl rfl (fun _ h => h.sel [0] rfl) (by kernel_rfl) ?_
                    refine AV.takeSkip 25 #[true, true, true, true, true, true, true, true, true, true, true, true, true, true, true, true, true, true, true, true, true, true, true, true, true, true, false, false, false, false] rfl (by kernel_rfl) (by kernel_rfl) (by kernel_rfl) (fun _ _ _ h => h) rfl rfl (fun _ h => h.sel [0] rfl) (by kernel_rfl) ?_
                    refine AV.takeSkip 26 #[true, true, true, true, true, true, true, true, true, true, true, true, true, true, true, true, true, true, true, true, true, true, true, true, true, true, true, false, false, false] rfl (by kernel_rfl) (by kernel_rfl) (by kernel_rfl) (fun _ _ _ h => h) rfl rfl (fun _ h => h.sel [0] rfl) (by kernel_rfl) ?_
                    refine AV.takeSkip 27 #[true, true, true, true, true, true, true, true, true, true, true, true, true, true, true, true, true, true, true, true, true, true, true, true, true, true, true, true, false, false] rfl (by kernel_rfl) (by kernel_rfl) (by kernel_rfl) (fun _ _ _ h => h) rfl rfl (fun _ h => h.sel [0] rfl) (by kernel_rfl) ?_
                    refine AV.take 28 #[true, true, true, true, true, true, true, true, true, true, true, true, true, true, true, true, true, true, true, true, true, true, true, true, true, true, true, true, true, false] rfl (by kernel_rfl) (by kernel_rfl) (by kernel_rfl) (fun _ _ _ h => h) (gyes rfl) (Step.pick_f rfl rfl) rfl (fun _ h => h.sel [0] rfl) (by kernel_rfl) ?_
                    refine AV.take 29 #[true, true, true, true, true, true, true, true, true, true, true, true, true, true, true, true, true, true, true, true, true, true, true, true, true, true, true, true, true, true] rfl (by kernel_rfl) (by kernel_rfl) (by kernel_rfl) (fun _ _ _ h => h) gno (Step.pick_f rfl rfl) rfl (fun _ h => h.sel [0] rfl) (by kernel_rfl) ?_
                    refine AV.done (by kernel_rfl) ?_
                    refine KV.then_n (KV.env [(1, _), (4, _), (77, _)] ⟨rfl, rfl, rfl, trivial⟩ (CV.cond_f rfl (CV.skip (KV.block_n (KV.then_n ?_)))))
                    refine KV.env [(1, _), (4, _)] ⟨rfl, rfl, trivial⟩ (CV.region ?_)
                    refine RV.op (OV.step gno (Step.move rfl) rfl ?_)
                    (first | refine RV.op (OV.step gno (Step.add rfl rfl (wI64 (by omega) (by omega))) rfl ?_) | refine RV.op (OV.step gno (Step.add rfl rfl rfl) rfl ?_))
                    refine RV.op (OV.step gno (Step.assign rfl) rfl ?_)
                    refine RV.nil (KV.then_n (KV.env [(1, _), (4, _)] ⟨rfl, rfl, trivial⟩ ?_))
                    refine KV.sel [0] [_] rfl ?_
                    exact KV.loopI (z := j) (j + 1) ⟨by omega, fun k hk => by by_cases e : k = j; (subst e; exact ⟨hto, by first | (left; omega) | (right; have e1 : (th d.hs k).t.frm = (d.hs.getD k thK.d).t.frm := rfl; have e2 : (th d.hs (k - 1)).t.frm = (d.hs.getD (k - 1) thK.d).t.frm := rfl; omega)⟩); exact hinv.2 k (by omega)⟩ (by omega) ⟨rfl, rfl, trivial⟩ (fun _ h => h)
            · -- False
              refine RV.nil (KV.then_n (KV.env [(1, _), (4, _), (45, _)] ⟨rfl, rfl, rfl, trivial⟩ (CV.cond_f rfl (CV.exit (KV.then_exit ?_)))))
              refine KV.then_exit (KV.block_hit (KV.then_n (KV.env [(1, _)] ⟨rfl, trivial⟩ (CV.seq (CV.seq ?_)))))
              refine CV.region ?_
              refine RV.op (OV.step gno (Step.fieldAddr rfl (F26_1 _ _)) rfl ?_)
              refine RV.op (OV.step gno (Step.load Tryd.underlying23 rfl rfl (fun w h => h.cell 0 rfl rfl)) rfl ?_)
              refine RV.op (OV.call [] (F := [_]) Tryd.func41 B41 N41 rfl rfl (fun w h => twice_fn (DR.keep h hd hI).s rfl (by omega)) (fun _ hb => hb.elim) gno rfl (fun v L' hp => ?_))
              obtain ⟨rfl, rfl⟩ := hp
              simp only [List.append_nil]
              by_cases hdup : ¬ d.ss.Nodup
              · rw [decide_eq_true hdup]
                refine RV.nil (KV.then_n (KV.env [(80, _)] ⟨rfl, trivial⟩ (CV.cond_t rfl (CV.seq (CV.region ?_)))))
                refine RV.op (OV.step gno (Step.assign rfl) rfl ?_)
                refine RV.nil (KV.then_n (KV.env [(2, _)] ⟨rfl, trivial⟩ (CV.ret (KV.then_ret ?_))))
                refine KV.sel [] [] rfl ?_
                exact KV.ret1 rfl rfl _ (fun _ h => h) ⟨by rw [chk_dup (show chkA d.d = true from (chkD_iff d).2 ⟨hnm, by omega, fun k hk => hS.2 k (by omega), fun k hk => (hinv.2 k (by omega)).1, fun k hk => (hinv.2 k (by omega)).2⟩) hdup], rfl⟩
              · rw [decide_eq_false hdup]
                refine RV.nil (KV.then_n (KV.env [(80, _)] ⟨rfl, trivial⟩ (CV.cond_f rfl (CV.skip (KV.then_n ?_)))))
                refine KV.env [] trivial (CV.seq (CV.region ?_))
                refine RV.op (OV.step gno (Step.assign rfl) rfl ?_)
                refine RV.nil (KV.then_n (KV.env [(2, _)] ⟨rfl, trivial⟩ (CV.ret ?_)))
                refine KV.sel [] [] rfl ?_
                exact KV.ret1 rfl rfl _ (fun _ h => h) ⟨by rw [chk_ok (show chkA d.d = true from (chkD_iff d).2 ⟨hnm, by omega, fun k hk => hS.2 k (by omega), fun k hk => (hinv.2 k (by omega)).1, fun k hk => (hinv.2 k (by omega)).2⟩) (Decidable.not_not.1 hdup)], rfl⟩

set_option maxRecDepth 100000 in
set_option maxHeartbeats 1000000 in
theorem badOp_fn (o : Ro) {w : World} : Fx Tryd.prog 72 [.agg #[.bool o.wr, .int .u64 o.reg, .int .u64 o.val]] w [] no (fun v L => v = .bool (!roOk o) ∧ L = []) := by
  refine Sv.Fx.body Tryd.func72 rfl T72 rfl ?_
  intro I hro hI
  refine KV.env [(0, _)] ⟨rfl, trivial⟩ (CV.seq (CV.region ?_))
  refine RV.op (OV.box (t := 71) #[_, _, _] rfl rfl gno rfl (fun b0_0 => ?_))
  refine RV.op (OV.step gno (Step.assign rfl) rfl ?_)
  refine RV.nil (KV.then_n (KV.env [(1, _)] ⟨rfl, trivial⟩ (CV.seq (CV.region ?_))))
  refine RV.op (OV.step gno (Step.fieldAddr rfl (F71_0 _ _)) rfl ?_)
  refine RV.op (OV.step gno (Step.load Tryd.underlying4 rfl rfl (fun w h => h.cell 0 rfl rfl)) rfl ?_)
  refine RV.op (OV.step gno (Step.not rfl) rfl ?_)
  refine RV.op (OV.step gno (Step.move rfl) rfl ?_)
  refine KV.cases 6 rfl (fun cc1 => ?_) (fun cc1 => ?_)
  · -- True
    have hwr := neg_t cc1
    refine RV.op (OV.step (gyes rfl) (Step.fieldAddr rfl (F71_2 _ _)) rfl ?_)
    refine RV.op (OV.step (gyes rfl) (Step.load Tryd.underlying51 rfl rfl (fun w h => h.cell 0 rfl rfl)) rfl ?_)
    refine RV.op (OV.split (gyes rfl) (Step.neq rfl rfl) rfl (fun hv => ?_) (fun hv => ?_))
    · -- True
      refine RV.op (OV.step gno (Step.pick_t rfl rfl) rfl ?_)
      refine RV.op (OV.step gno (Step.assign rfl) rfl ?_)
      refine RV.nil (KV.then_n (KV.env [(2, _)] ⟨rfl, trivial⟩ (CV.ret ?_)))
      refine KV.sel [] [] rfl ?_
      first | exact KV.ret1 rfl rfl _ (fun _ h => h) ⟨by rw [show roOk o = true by unfold roOk; rw [hwr]; rfl]; rfl, rfl⟩ | exact KV.ret1 rfl rfl _ (fun _ h => h) ⟨by rw [show roOk o = false by unfold roOk; rw [hwr, Bool.false_or]; exact decide_eq_false hv]; rfl, rfl⟩ | exact KV.ret1 rfl rfl _ (fun _ h => h) ⟨by rw [show roOk o = true by unfold roOk; rw [hwr, Bool.false_or]; exact decide_eq_true (Decidable.not_not.1 hv)]; rfl, rfl⟩
    · -- False
      refine RV.op (OV.step gno (Step.pick_t rfl rfl) rfl ?_)
      refine RV.op (OV.step gno (Step.assign rfl) rfl ?_)
      refine RV.nil (KV.then_n (KV.env [(2, _)] ⟨rfl, trivial⟩ (CV.ret ?_)))
      refine KV.sel [] [] rfl ?_
      first | exact KV.ret1 rfl rfl _ (fun _ h => h) ⟨by rw [show roOk o = true by unfold roOk; rw [hwr]; rfl]; rfl, rfl⟩ | exact KV.ret1 rfl rfl _ (fun _ h => h) ⟨by rw [show roOk o = false by unfold roOk; rw [hwr, Bool.false_or]; exact decide_eq_false hv]; rfl, rfl⟩ | exact KV.ret1 rfl rfl _ (fun _ h => h) ⟨by rw [show roOk o = true by unfold roOk; rw [hwr, Bool.false_or]; exact decide_eq_true (Decidable.not_not.1 hv)]; rfl, rfl⟩
  · -- False
    have hwr := neg_f cc1
    refine RV.op (OV.skip rfl rfl ?_)
    refine RV.op (OV.skip rfl rfl ?_)
    refine RV.op (OV.skip rfl rfl ?_)
    refine RV.op (OV.step gno (Step.pick_f rfl rfl) rfl ?_)
    refine RV.op (OV.step gno (Step.assign rfl) rfl ?_)
    refine RV.nil (KV.then_n (KV.env [(2, _)] ⟨rfl, trivial⟩ (CV.ret ?_)))
    refine KV.sel [] [] rfl ?_
    first | exact KV.ret1 rfl rfl _ (fun _ h => h) ⟨by rw [show roOk o = true by unfold roOk; rw [hwr]; rfl]; rfl, rfl⟩ | exact KV.ret1 rfl rfl _ (fun _ h => h) ⟨by rw [show roOk o = false by unfold roOk; rw [hwr, Bool.false_or]; exact decide_eq_false hv]; rfl, rfl⟩ | exact KV.ret1 rfl rfl _ (fun _ h => h) ⟨by rw [show roOk o = true by unfold roOk; rw [hwr, Bool.false_or]; exact decide_eq_true (Decidable.not_not.1 hv)]; rfl, rfl⟩

set_option maxRecDepth 100000 in
set_option maxHeartbeats 1000000 in
theorem idxBad_fn {A : Option Addr} {n c : Nat} {l : List Ro} {w : World} (hs : RS w roK A l) (hn : n = l.length) (hl : l.length ≤ 1000000) : Fx Tryd.prog 84 [.slice A n c, .func (.func 72) #[] #[]] w [] no (fun v L => (∃ x, v = .int .i64 x ∧ decide (0 ≤ x) = !(l.all roOk)) ∧ L = []) := by
  subst hn
  refine Sv.Fx.body Tryd.func84 rfl T84 rfl ?_
  intro I hro hI
  refine KV.env [(0, _), (1, _)] ⟨rfl, rfl, trivial⟩ (CV.seq (CV.region ?_))
  refine RV.op (OV.step gno (Step.assign rfl) rfl ?_)
  refine RV.nil (KV.then_n (KV.env [(0, _), (1, _)] ⟨rfl, rfl, trivial⟩ (CV.seq (CV.seq (CV.region ?_)))))
  refine RV.op (OV.step gno (Step.move rfl) rfl ?_)
  refine RV.op (OV.step gno (Step.lenSl Tryd.underlying46 rfl) rfl ?_)
  refine RV.op (OV.step gno (Step.move rfl) rfl ?_)
  refine RV.nil (KV.then_n (KV.env [(0, _), (1, _), (7, _), (8, _)] ⟨rfl, rfl, rfl, rfl, trivial⟩ (CV.block ?_)))
  refine KV.sel [] [] rfl ?_
  refine CV.loopI (fun (j : Nat) => j ≤ l.length ∧ ∀ k, k < j → roOk (l.getD k ro0) = true) (fun (j : Nat) => l.length - j) (fun (j : Nat) => [(0, .slice A l.length c), (1, .func (.func 72) #[] #[]), (7, .int .i64 l.length), (8, .int .i64 j)]) (fun (j : Nat) => Hp I w []) (0) ⟨Nat.zero_le _, fun k hk => by omega⟩ ⟨rfl, rfl, rfl, rfl, trivial⟩ (fun _ h => h) ?_
  intro j hinv
  refine CV.seq (CV.region ?_)
  refine RV.op (OV.split gno (Step.lss rfl rfl) rfl (fun hj => ?_) (fun hj => ?_))
  · -- True
    refine RV.nil (KV.then_n (KV.env [(0, _), (1, _), (7, _), (8, _), (9, _)] ⟨rfl, rfl, rfl, rfl, rfl, trivial⟩ (CV.seq (CV.cond_t rfl (CV.skip ?_)))))
    refine KV.then_n (KV.env [(0, _), (1, _), (7, _), (8, _)] ⟨rfl, rfl, rfl, rfl, trivial⟩ (CV.seq (CV.block (CV.seq (CV.region ?_)))))
    refine RV.op (OV.step gno (Step.move rfl) rfl ?_)
    refine RV.op (OV.step gno (Step.assign rfl) rfl ?_)
    refine RV.nil (KV.then_n (KV.env [(0, _), (1, _), (5, _), (7, _), (8, _)] ⟨rfl, rfl, rfl, rfl, rfl, trivial⟩ (CV.seq (CV.region ?_))))
    refine RV.op (OV.step gno (Step.move rfl) rfl ?_)
    refine RV.op (OV.step gno (Step.move rfl) rfl ?_)
    refine RV.op (OV.step gno (Step.move rfl) rfl ?_)
    refine RV.op (OV.step gno (Step.idx Tryd.underlying46 I71 (fun w h => h.rs hs (fun _ => hI _)) rfl rfl (rfl) _ rfl (by omega)) rfl ?_)
    refine RV.op (OV.step gno (Step.loadN _ Tryd.underlying71 rfl I71 rfl rfl (fun w h => (h.rs hs (fun _ => hI _)).cells (by omega))) rfl ?_)
    refine RV.op (OV.callv [] (F := []) (caps := []) rfl Tryd.func72 B72 N72 rfl rfl (fun w h => badOp_fn (l.getD j roK.d)) (fun _ hb => hb.elim) gno rfl (fun v L' hp => ?_))
    obtain ⟨rfl, rfl⟩ := hp
    simp only [List.append_nil]
    refine RV.nil (KV.then_n (KV.env [(0, _), (1, _), (5, _), (7, _), (8, _), (16, _)] ⟨rfl, rfl, rfl, rfl, rfl, rfl, trivial⟩ ?_))
    refine KV.cases 16 rfl (fun cc1 => ?_) (fun cc1 => ?_)
    · -- True
      have hb := neg_t cc1
      refine CV.cond_t rfl (CV.seq (CV.region ?_))
      refine RV.op (OV.step gno (Step.move rfl) rfl ?_)
      refine RV.op (OV.step gno (Step.assign rfl) rfl ?_)
      refine RV.nil (KV.then_n (KV.env [(4, _)] ⟨rfl, trivial⟩ (CV.ret (KV.block_ret (KV.then_ret ?_)))))
      refine KV.then_ret (KV.block_ret (KV.then_ret ?_))
      refine KV.sel [] [] rfl ?_
      exact KV.ret1 rfl rfl _ (fun _ h => h) ⟨⟨_, rfl, by rw [decide_eq_true (by omega), show l.all roOk = false from bool_f (fun k => ff ((all_iff ro0).1 k j (by omega)) hb)]; rfl⟩, rfl⟩
    · -- False
      have hb := neg_f cc1
      refine CV.cond_f rfl (CV.skip (KV.block_n (KV.then_n (KV.env [(0, _), (1, _), (7, _), (8, _)] ⟨rfl, rfl, rfl, rfl, trivial⟩ (CV.region ?_)))))
      (first | refine RV.op (OV.step gno (Step.add rfl rfl (wI64 (by omega) (by omega))) rfl ?_) | refine RV.op (OV.step gno (Step.add rfl rfl rfl) rfl ?_))
      refine RV.op (OV.step gno (Step.move rfl) rfl ?_)
      refine RV.nil (KV.then_n (KV.env [(0, _), (1, _), (7, _), (8, _)] ⟨rfl, rfl, rfl, rfl, trivial⟩ ?_))
      refine KV.sel [] [] rfl ?_
      exact KV.loopI (z := j) (j + 1) ⟨by omega, fun k hk => by by_cases e : k = j; (subst e; exact hb); exact hinv.2 k (by omega)⟩ (by omega) ⟨rfl, rfl, rfl, rfl, trivial⟩ (fun _ h => h)
  · -- False
    refine RV.nil (KV.then_n (KV.env [(0, _), (1, _), (7, _), (8, _), (9, _)] ⟨rfl, rfl, rfl, rfl, rfl, trivial⟩ (CV.seq (CV.cond_f rfl (CV.exit ?_)))))
    refine KV.then_exit (KV.then_exit (KV.block_hit (KV.then_n (KV.env [] trivial (CV.seq ?_)))))
    refine CV.region ?_
    refine RV.op (OV.step gno (Step.assign rfl) rfl ?_)
    refine RV.nil (KV.then_n (KV.env [(4, _)] ⟨rfl, trivial⟩ (CV.ret ?_)))
    refine KV.sel [] [] rfl ?_
    exact KV.ret1 rfl rfl _ (fun _ h => h) ⟨⟨_, rfl, by rw [show l.all roOk = true from (all_iff ro0).2 fun k hk => hinv.2 k (by omega)]; rfl⟩, rfl⟩

set_option maxRecDepth 100000 in
set_option maxHeartbeats 1000000 in
theorem contBad_fn {A : Option Addr} {n c : Nat} {l : List Ro} {w : World} (hs : RS w roK A l) (hn : n = l.length) (hl : l.length ≤ 1000000) : Fx Tryd.prog 71 [.slice A n c, .func (.func 72) #[] #[]] w [] no (fun v L => v = .bool (!(l.all roOk)) ∧ L = []) := by
  refine Sv.Fx.body Tryd.func71 rfl T71 rfl ?_
  intro I hro hI
  refine KV.env [(0, _), (1, _)] ⟨rfl, rfl, trivial⟩ (CV.seq (CV.region ?_))
  refine RV.op (OV.step gno (Step.assign rfl) rfl ?_)
  refine RV.nil (KV.then_n (KV.env [(0, _), (1, _)] ⟨rfl, rfl, trivial⟩ (CV.seq (CV.region ?_))))
  refine RV.op (OV.step gno (Step.move rfl) rfl ?_)
  refine RV.op (OV.step gno (Step.move rfl) rfl ?_)
  refine RV.op (OV.call [] (F := []) Tryd.func84 B84 N84 rfl rfl (fun w h => idxBad_fn (h.rs hs (fun _ => hI _)) hn hl) (fun _ hb => hb.elim) gno rfl (fun v L' hp => ?_))
  obtain ⟨⟨x, rfl, hx⟩, rfl⟩ := hp
  simp only [List.append_nil]
  refine RV.op (OV.step gno (Step.geq rfl rfl) rfl ?_)
  refine RV.op (OV.step gno (Step.assign rfl) rfl ?_)
  refine RV.nil (KV.then_n (KV.env [(4, _)] ⟨rfl, trivial⟩ (CV.ret ?_)))
  refine KV.sel [] [] rfl ?_
  exact KV.ret1 rfl rfl _ (fun _ h => h) ⟨by rw [hx], rfl⟩

set_option maxRecDepth 100000 in
set_option maxHeartbeats 4000000 in
theorem valid_fn (h0 : TH) (n : Nat) {w : World} (ho : RS w roK h0.A h0.t.ops) : Fx Tryd.prog 54 [.agg #[.int .i64 h0.t.frm, .string (bs h0.t.ev), .bool h0.t.gd.used, .int .u64 h0.t.gd.reg, .int .u64 h0.t.gd.mask, .int .u64 h0.t.gd.val, .slice h0.A h0.t.ops.length h0.c, .int .i64 h0.t.to], .int .i64 n] w [] no (fun v L => v = .bool (okT n h0.t) ∧ L = []) := by
  refine Sv.Fx.body Tryd.func54 rfl T54 rfl ?_
  intro I hro hI
  refine KV.env [(0, _), (1, _)] ⟨rfl, rfl, trivial⟩ (CV.seq (CV.region ?_))
  refine RV.op (OV.box (t := 61) #[_, _, _, _, _, _, _, _] rfl rfl gno rfl (fun p => ?_))
  refine RV.op (OV.step gno (Step.assign rfl) rfl ?_)
  refine RV.nil (KV.then_n (KV.env [(1, _), (2, _)] ⟨rfl, rfl, trivial⟩ (CV.seq (CV.seq (CV.region ?_)))))
  refine RV.op (OV.step gno (Step.fieldAddr rfl (F61_0 _ _)) rfl ?_)
  refine RV.op (OV.step gno (Step.load Tryd.underlying3 rfl rfl (fun w h => h.cell 0 rfl rfl)) rfl ?_)
  refine RV.op (OV.split gno (Step.lss rfl rfl) rfl (fun a1 => ?_) (fun a1 => ?_))
  · -- True
    refine RV.op (OV.step gno (Step.move rfl) rfl ?_)
    refine RV.op (OV.skip rfl rfl ?_)
    refine RV.op (OV.skip rfl rfl ?_)
    refine RV.op (OV.skip rfl rfl ?_)
    refine RV.op (OV.skip rfl rfl ?_)
    refine RV.op (OV.step gno (Step.pick_t rfl rfl) rfl ?_)
    refine RV.op (OV.step gno (Step.move rfl) rfl ?_)
    refine RV.op (OV.skip rfl rfl ?_)
    refine RV.op (OV.skip rfl rfl ?_)
    refine RV.op (OV.skip rfl rfl ?_)
    refine RV.op (OV.step gno (Step.pick_t rfl rfl) rfl ?_)
    refine RV.op (OV.step gno (Step.move rfl) rfl ?_)
    refine RV.op (OV.skip rfl rfl ?_)
    refine RV.op (OV.skip rfl rfl ?_)
    refine RV.op (OV.skip rfl rfl ?_)
    refine RV.op (OV.skip rfl rfl ?_)
    refine RV.op (OV.step gno (Step.pick_t rfl rfl) rfl ?_)
    refine RV.op (OV.step gno (Step.move rfl) rfl ?_)
    refine RV.op (OV.skip rfl rfl ?_)
    refine RV.op (OV.skip rfl rfl ?_)
    refine RV.op (OV.skip rfl rfl ?_)
    refine RV.op (OV.skip rfl rfl ?_)
    refine RV.op (OV.step gno (Step.pick_t rfl rfl) rfl ?_)
    refine RV.nil (KV.then_n (KV.env [(2, _), (30, _)] ⟨rfl, rfl, trivial⟩ (CV.cond_t rfl (CV.seq (CV.region ?_)))))
    refine RV.op (OV.step gno (Step.assign rfl) rfl ?_)
    refine RV.nil (KV.then_n (KV.env [(4, _)] ⟨rfl, trivial⟩ (CV.ret (KV.then_ret ?_))))
    refine KV.sel [] [] rfl ?_
    exact KV.ret1 rfl rfl _ (fun _ h => h) ⟨by rw [show okT n h0.t = false from bool_f (fun k => by have k2 := (okT_iff _ _).1 k; first | (exfalso; omega) | exact ff k2.2.2.1 hnm | exact ff k2.2.2.2.1 hgd | exact ff (k2.2.2.2.2.2 j (by omega)) hro)], rfl⟩
  · -- False
    refine RV.op (OV.step gno (Step.move rfl) rfl ?_)
    refine RV.op (OV.step (gyes rfl) (Step.fieldAddr rfl (F61_0 _ _)) rfl ?_)
    refine RV.op (OV.step (gyes rfl) (Step.load Tryd.underlying3 rfl rfl (fun w h => h.cell 0 rfl rfl)) rfl ?_)
    refine RV.op (OV.step (gyes rfl) (Step.move rfl) rfl ?_)
    refine RV.op (OV.split (gyes rfl) (Step.geq rfl rfl) rfl (fun a2 => ?_) (fun a2 => ?_))
    · -- True
      refine RV.op (OV.step gno (Step.pick_f rfl rfl) rfl ?_)
      refine RV.op (OV.step gno (Step.move rfl) rfl ?_)
      refine RV.op (OV.skip rfl rfl ?_)
      refine RV.op (OV.skip rfl rfl ?_)
      refine RV.op (OV.skip rfl rfl ?_)
      refine RV.op (OV.step gno (Step.pick_t rfl rfl) rfl ?_)
      refine RV.op (OV.step gno (Step.move rfl) rfl ?_)
      refine RV.op (OV.skip rfl rfl ?_)
      refine RV.op (OV.skip rfl rfl ?_)
      refine RV.op (OV.skip rfl rfl ?_)
      refine RV.op (OV.skip rfl rfl ?_)
      refine RV.op (OV.step gno (Step.pick_t rfl rfl) rfl ?_)
      refine RV.op (OV.step gno (Step.move rfl) rfl ?_)
      refine RV.op (OV.skip rfl rfl ?_)
      refine RV.op (OV.skip rfl rfl ?_)
      refine RV.op (OV.skip rfl rfl ?_)
      refine RV.op (OV.skip rfl rfl ?_)
      refine RV.op (OV.step gno (Step.pick_t rfl rfl) rfl ?_)
      refine RV.nil (KV.then_n (KV.env [(2, _), (30, _)] ⟨rfl, rfl, trivial⟩ (CV.cond_t rfl (CV.seq (CV.region ?_)))))
      refine RV.op (OV.step gno (Step.assign rfl) rfl ?_)
      refine RV.nil (KV.then_n (KV.env [(4, _)] ⟨rfl, trivial⟩ (CV.ret (KV.then_ret ?_))))
      refine KV.sel [] [] rfl ?_
      exact KV.ret1 rfl rfl _ (fun _ h => h) ⟨by rw [show okT n h0.t = false from bool_f (fun k => by have k2 := (okT_iff _ _).1 k; first | (exfalso; omega) | exact ff k2.2.2.1 hnm | exact ff k2.2.2.2.1 hgd | exact ff (k2.2.2.2.2.2 j (by omega)) hro)], rfl⟩
    · -- False
      refine RV.op (OV.step gno (Step.pick_f rfl rfl) rfl ?_)
      refine RV.op (OV.step gno (Step.move rfl) rfl ?_)
      refine RV.op (OV.step (gyes rfl) (Step.fieldAddr rfl (F61_4 _ _)) rfl ?_)
      refine RV.op (OV.step (gyes rfl) (Step.load Tryd.underlying3 rfl rfl (fun w h => h.cell 0 rfl rfl)) rfl ?_)
      refine RV.op (OV.split (gyes rfl) (Step.lss rfl rfl) rfl (fun a3 => ?_) (fun a3 => ?_))
      · -- True
        refine RV.op (OV.step gno (Step.pick_f rfl rfl) rfl ?_)
        refine RV.op (OV.step gno (Step.move rfl) rfl ?_)
        refine RV.op (OV.skip rfl rfl ?_)
        refine RV.op (OV.skip rfl rfl ?_)
        refine RV.op (OV.skip rfl rfl ?_)
        refine RV.op (OV.skip rfl rfl ?_)
        refine RV.op (OV.step gno (Step.pick_t rfl rfl) rfl ?_)
        refine RV.op (OV.step gno (Step.move rfl) rfl ?_)
        refine RV.op (OV.skip rfl rfl ?_)
        refine RV.op (OV.skip rfl rfl ?_)
        refine RV.op (OV.skip rfl rfl ?_)
        refine RV.op (OV.skip rfl rfl ?_)
        refine RV.op (OV.step gno (Step.pick_t rfl rfl) rfl ?_)
        refine RV.nil (KV.then_n (KV.env [(2, _), (30, _)] ⟨rfl, rfl, trivial⟩ (CV.cond_t rfl (CV.seq (CV.region ?_)))))
        refine RV.op (OV.step gno (Step.assign rfl) rfl ?_)
        refine RV.nil (KV.then_n (KV.env [(4, _)] ⟨rfl, trivial⟩ (CV.ret (KV.then_ret ?_))))
        refine KV.sel [] [] rfl ?_
        exact KV.ret1 rfl rfl _ (fun _ h => h) ⟨by rw [show okT n h0.t = false from bool_f (fun k => by have k2 := (okT_iff _ _).1 k; first | (exfalso; omega) | exact ff k2.2.2.1 hnm | exact ff k2.2.2.2.1 hgd | exact ff (k2.2.2.2.2.2 j (by omega)) hro)], rfl⟩
      · -- False
        refine RV.op (OV.step gno (Step.pick_f rfl rfl) rfl ?_)
        refine RV.op (OV.step gno (Step.move rfl) rfl ?_)
        refine RV.op (OV.step (gyes rfl) (Step.fieldAddr rfl (F61_4 _ _)) rfl ?_)
        refine RV.op (OV.step (gyes rfl) (Step.load Tryd.underlying3 rfl rfl (fun w h => h.cell 0 rfl rfl)) rfl ?_)
        refine RV.op (OV.step (gyes rfl) (Step.move rfl) rfl ?_)
        refine RV.op (OV.split (gyes rfl) (Step.geq rfl rfl) rfl (fun a4 => ?_) (fun a4 => ?_))
        · -- True
          refine RV.op (OV.step gno (Step.pick_f rfl rfl) rfl ?_)
          refine RV.op (OV.step gno (Step.move rfl) rfl ?_)
          refine RV.op (OV.skip rfl rfl ?_)
          refine RV.op (OV.skip rfl rfl ?_)
          refine RV.op (OV.skip rfl rfl ?_)
          refine RV.op (OV.skip rfl rfl ?_)
          refine RV.op (OV.step gno (Step.pick_t rfl rfl) rfl ?_)
          refine RV.nil (KV.then_n (KV.env [(2, _), (30, _)] ⟨rfl, rfl, trivial⟩ (CV.cond_t rfl (CV.seq (CV.region ?_)))))
          refine RV.op (OV.step gno (Step.assign rfl) rfl ?_)
          refine RV.nil (KV.then_n (KV.env [(4, _)] ⟨rfl, trivial⟩ (CV.ret (KV.then_ret ?_))))
          refine KV.sel [] [] rfl ?_
          exact KV.ret1 rfl rfl _ (fun _ h => h) ⟨by rw [show okT n h0.t = false from bool_f (fun k => by have k2 := (okT_iff _ _).1 k; first | (exfalso; omega) | exact ff k2.2.2.1 hnm | exact ff k2.2.2.2.1 hgd | exact ff (k2.2.2.2.2.2 j (by omega)) hro)], rfl⟩
        · -- False
          refine RV.op (OV.step gno (Step.pick_f rfl rfl) rfl ?_)
          refine RV.op (OV.step gno (Step.move rfl) rfl ?_)
          refine RV.op (OV.step (gyes rfl) (Step.fieldAddr rfl (F61_1 _ _)) rfl ?_)
          refine RV.op (OV.step (gyes rfl) (Step.load Tryd.underlying9 rfl rfl (fun w h => h.cell 0 rfl rfl)) rfl ?_)
          refine RV.op (OV.callP Tryd.func53 B53 N53 rfl (isName_fn h0.t.ev) (gyes rfl) rfl ?_)
          refine RV.op (OV.step (gyes rfl) (Step.not rfl) rfl ?_)
          refine RV.op (OV.step gno (Step.pick_f rfl rfl) rfl ?_)
          refine RV.nil (KV.then_n (KV.env [(2, _), (30, _)] ⟨rfl, rfl, trivial⟩ ?_))
          refine KV.cases 30 rfl (fun cc1 => ?_) (fun cc1 => ?_)
          · -- True
            have hnm := neg_t cc1
            refine CV.cond_t rfl (CV.seq (CV.region ?_))
            refine RV.op (OV.step gno (Step.assign rfl) rfl ?_)
            refine RV.nil (KV.then_n (KV.env [(4, _)] ⟨rfl, trivial⟩ (CV.ret (KV.then_ret ?_))))
            refine KV.sel [] [] rfl ?_
            exact KV.ret1 rfl rfl _ (fun _ h => h) ⟨by rw [show okT n h0.t = false from bool_f (fun k => by have k2 := (okT_iff _ _).1 k; first | (exfalso; omega) | exact ff k2.2.2.1 hnm | exact ff k2.2.2.2.1 hgd | exact ff (k2.2.2.2.2.2 j (by omega)) hro)], rfl⟩
          · -- False
            have hnm := neg_f cc1
            refine CV.cond_f rfl (CV.skip (KV.then_n (KV.env [(2, _)] ⟨rfl, trivial⟩ (CV.seq (CV.seq ?_)))))
            refine CV.region ?_
            refine RV.op (OV.step gno (Step.fieldAddr rfl (F61_2 _ _)) rfl ?_)
            refine RV.op (OV.step gno (Step.fieldAddr rfl (F59_0 _ _)) rfl ?_)
            refine RV.op (OV.step gno (Step.load Tryd.underlying4 rfl rfl (fun w h => h.cell 0 rfl rfl)) rfl ?_)
            refine RV.op (OV.step gno (Step.not rfl) rfl ?_)
            refine RV.op (OV.step gno (Step.move rfl) rfl ?_)
            refine KV.cases 35 rfl (fun cc2 => ?_) (fun cc2 => ?_)
            · -- True
              have hus := neg_t cc2
              refine RV.op (OV.step (gyes rfl) (Step.fieldAddr rfl (F61_2 _ _)) rfl ?_)
              refine RV.op (OV.step (gyes rfl) (Step.loadN _ Tryd.underlying59 rfl I59 rfl rfl (fun w h => cells_off 2 (us := [.bool h0.t.gd.used, .int .u64 h0.t.gd.reg, .int .u64 h0.t.gd.mask, .int .u64 h0.t.gd.val]) (h.cells 0 rfl) rfl)) rfl ?_)
              refine RV.op (OV.step (gyes rfl) (Step.build rfl (Bd59_)) rfl ?_)
              refine RV.op (OV.split (gyes rfl) (Step.binR rfl rfl (EG59neq _ _ _ _) (EQ59neq _ _ _ _ _ _ _ _)) rfl (fun g1 => ?_) (fun g1 => ?_))
              · -- True
                refine RV.op (OV.step gno (Step.pick_t rfl rfl) rfl ?_)
                refine RV.op (OV.step gno (Step.move rfl) rfl ?_)
                refine RV.op (OV.skip rfl rfl ?_)
                refine RV.op (OV.skip rfl rfl ?_)
                refine RV.op (OV.skip rfl rfl ?_)
                refine RV.op (OV.skip rfl rfl ?_)
                refine RV.op (OV.step gno (Step.pick_t rfl rfl) rfl ?_)
                refine RV.nil (KV.then_n (KV.env [(2, _), (46, _)] ⟨rfl, rfl, trivial⟩ (CV.cond_t rfl (CV.seq (CV.region ?_)))))
                refine RV.op (OV.step gno (Step.assign rfl) rfl ?_)
                refine RV.nil (KV.then_n (KV.env [(4, _)] ⟨rfl, trivial⟩ (CV.ret (KV.then_ret ?_))))
                refine KV.sel [] [] rfl ?_
                have hgd : gdOk h0.t.gd = false ∨ 16 < h0.t.ops.length := by first | (right; omega) | (left; unfold gdOk; rw [hus, Bool.false_or]; exact decide_eq_false (fun k => g1 ⟨hus, k⟩))
                exact KV.ret1 rfl rfl _ (fun _ h => h) ⟨by rw [show okT n h0.t = false from bool_f (fun k => by have k2 := (okT_iff _ _).1 k; rcases hgd with hgd | hgd; exact ff k2.2.2.2.1 hgd; omega)], rfl⟩
              · -- False
                refine RV.op (OV.step gno (Step.pick_t rfl rfl) rfl ?_)
                refine RV.op (OV.step gno (Step.move rfl) rfl ?_)
                refine RV.op (OV.step (gyes rfl) (Step.fieldAddr rfl (F61_3 _ _)) rfl ?_)
                refine RV.op (OV.step (gyes rfl) (Step.load Tryd.underlying46 rfl rfl (fun w h => h.cell 0 rfl rfl)) rfl ?_)
                refine RV.op (OV.step (gyes rfl) (Step.lenSl Tryd.underlying46 rfl) rfl ?_)
                refine RV.op (OV.split (gyes rfl) (Step.gtr rfl rfl) rfl (fun a5 => ?_) (fun a5 => ?_))
                · -- True
                  refine RV.op (OV.step gno (Step.pick_f rfl rfl) rfl ?_)
                  refine RV.nil (KV.then_n (KV.env [(2, _), (46, _)] ⟨rfl, rfl, trivial⟩ (CV.cond_t rfl (CV.seq (CV.region ?_)))))
                  refine RV.op (OV.step gno (Step.assign rfl) rfl ?_)
                  refine RV.nil (KV.then_n (KV.env [(4, _)] ⟨rfl, trivial⟩ (CV.ret (KV.then_ret ?_))))
                  refine KV.sel [] [] rfl ?_
                  have hgd : gdOk h0.t.gd = false ∨ 16 < h0.t.ops.length := by first | (right; omega) | (left; unfold gdOk; rw [hus, Bool.false_or]; exact decide_eq_false (fun k => g1 ⟨hus, k⟩))
                  exact KV.ret1 rfl rfl _ (fun _ h => h) ⟨by rw [show okT n h0.t = false from bool_f (fun k => by have k2 := (okT_iff _ _).1 k; rcases hgd with hgd | hgd; exact ff k2.2.2.2.1 hgd; omega)], rfl⟩
                · -- False
                  refine RV.op (OV.step gno (Step.pick_f rfl rfl) rfl ?_)
                  refine RV.nil (KV.then_n (KV.env [(2, _), (46, _)] ⟨rfl, rfl, trivial⟩ (CV.cond_f rfl (CV.skip (KV.then_n ?_)))))
                  refine KV.env [(2, _)] ⟨rfl, trivial⟩ (CV.seq (CV.region ?_))
                  refine RV.op (OV.step gno (Step.fieldAddr rfl (F61_3 _ _)) rfl ?_)
                  refine RV.op (OV.step gno (Step.load Tryd.underlying46 rfl rfl (fun w h => h.cell 0 rfl rfl)) rfl ?_)
                  refine RV.op (OV.call [] (F := [_]) Tryd.func71 B71 N71 rfl rfl (fun w h => contBad_fn (h.rs ho (fun _ => hI _)) rfl (by omega)) (fun _ hb => hb.elim) gno rfl (fun v L' hp => ?_))
                  obtain ⟨rfl, rfl⟩ := hp
                  simp only [List.append_nil]
                  refine RV.op (OV.step gno (Step.not rfl) rfl ?_)
                  refine RV.op (OV.step gno (Step.assign rfl) rfl ?_)
                  refine RV.nil (KV.then_n (KV.env [(4, _)] ⟨rfl, trivial⟩ (CV.ret ?_)))
                  refine KV.sel [] [] rfl ?_
                  have hgd : gdOk h0.t.gd = true := by unfold gdOk; first | (rw [hus, Bool.true_or]) | (rw [hus, Bool.false_or]; exact decide_eq_true (Decidable.not_not.1 g1).2)
                  exact KV.ret1 rfl rfl _ (fun _ h => h) ⟨by unfold okT; rw [decide_eq_true (show (0 ≤ h0.t.frm ∧ h0.t.frm < n) ∧ (0 ≤ h0.t.to ∧ h0.t.to < n) by omega), hnm, hgd, decide_eq_true (show h0.t.ops.length ≤ 16 by omega)]; simp, rfl⟩
            · -- False
              have hus := neg_f cc2
              refine RV.op (OV.skip rfl rfl ?_)
              refine RV.op (OV.skip rfl rfl ?_)
              refine RV.op (OV.skip rfl rfl ?_)
              refine RV.op (OV.skip rfl rfl ?_)
              refine RV.op (OV.step gno (Step.pick_f rfl rfl) rfl ?_)
              refine RV.op (OV.step gno (Step.move rfl) rfl ?_)
              refine RV.op (OV.step (gyes rfl) (Step.fieldAddr rfl (F61_3 _ _)) rfl ?_)
              refine RV.op (OV.step (gyes rfl) (Step.load Tryd.underlying46 rfl rfl (fun w h => h.cell 0 rfl rfl)) rfl ?_)
              refine RV.op (OV.step (gyes rfl) (Step.lenSl Tryd.underlying46 rfl) rfl ?_)
              refine RV.op (OV.split (gyes rfl) (Step.gtr rfl rfl) rfl (fun a5 => ?_) (fun a5 => ?_))
              · -- True
                refine RV.op (OV.step gno (Step.pick_f rfl rfl) rfl ?_)
                refine RV.nil (KV.then_n (KV.env [(2, _), (46, _)] ⟨rfl, rfl, trivial⟩ (CV.cond_t rfl (CV.seq (CV.region ?_)))))
                refine RV.op (OV.step gno (Step.assign rfl) rfl ?_)
                refine RV.nil (KV.then_n (KV.env [(4, _)] ⟨rfl, trivial⟩ (CV.ret (KV.then_ret ?_))))
                refine KV.sel [] [] rfl ?_
                have hgd : gdOk h0.t.gd = false ∨ 16 < h0.t.ops.length := by first | (right; omega) | (left; unfold gdOk; rw [hus, Bool.false_or]; exact decide_eq_false (fun k => g1 ⟨hus, k⟩))
                exact KV.ret1 rfl rfl _ (fun _ h => h) ⟨by rw [show okT n h0.t = false from bool_f (fun k => by have k2 := (okT_iff _ _).1 k; rcases hgd with hgd | hgd; exact ff k2.2.2.2.1 hgd; omega)], rfl⟩
              · -- False
                refine RV.op (OV.step gno (Step.pick_f rfl rfl) rfl ?_)
                refine RV.nil (KV.then_n (KV.env [(2, _), (46, _)] ⟨rfl, rfl, trivial⟩ (CV.cond_f rfl (CV.skip (KV.then_n ?_)))))
                refine KV.env [(2, _)] ⟨rfl, trivial⟩ (CV.seq (CV.region ?_))
                refine RV.op (OV.step gno (Step.fieldAddr rfl (F61_3 _ _)) rfl ?_)
                refine RV.op (OV.step gno (Step.load Tryd.underlying46 rfl rfl (fun w h => h.cell 0 rfl rfl)) rfl ?_)
                refine RV.op (OV.call [] (F := [_]) Tryd.func71 B71 N71 rfl rfl (fun w h => contBad_fn (h.rs ho (fun _ => hI _)) rfl (by omega)) (fun _ hb => hb.elim) gno rfl (fun v L' hp => ?_))
                obtain ⟨rfl, rfl⟩ := hp
                simp only [List.append_nil]
                refine RV.op (OV.step gno (Step.not rfl) rfl ?_)
                refine RV.op (OV.step gno (Step.assign rfl) rfl ?_)
                refine RV.nil (KV.then_n (KV.env [(4, _)] ⟨rfl, trivial⟩ (CV.ret ?_)))
                refine KV.sel [] [] rfl ?_
                have hgd : gdOk h0.t.gd = true := by unfold gdOk; first | (rw [hus, Bool.true_or]) | (rw [hus, Bool.false_or]; exact decide_eq_true (Decidable.not_not.1 g1).2)
                exact KV.ret1 rfl rfl _ (fun _ h => h) ⟨by unfold okT; rw [decide_eq_true (show (0 ≤ h0.t.frm ∧ h0.t.frm < n) ∧ (0 ≤ h0.t.to ∧ h0.t.to < n) by omega), hnm, hgd, decide_eq_true (show h0.t.ops.length ≤ 16 by omega)]; simp, rfl⟩

set_option maxRecDepth 100000 in
set_option maxHeartbeats 1000000 in
theorem repeats_fn {A : Option Addr} {n c : Nat} {l : List Bs} {w : World} (hs : RS w strK A l) (hn : n = l.length) (hl : l.length ≤ 1000000) : Fx Tryd.prog 37 [.slice A n c] w [] no (fun v L => v = .bool (decide (¬ l.Nodup)) ∧ L = []) := by
  subst hn
  refine Sv.Fx.body Tryd.func37 rfl T37 rfl ?_
  intro I hro hI
  refine KV.env [(0, _)] ⟨rfl, trivial⟩ (CV.seq (CV.region ?_))
  refine RV.op (OV.step gno (Step.assign rfl) rfl ?_)
  refine RV.nil (KV.then_n (KV.env [(0, _)] ⟨rfl, trivial⟩ (CV.seq (CV.region ?_))))
  refine RV.op (OV.step gno (Step.move rfl) rfl ?_)
  refine RV.op (OV.step gno (Step.lenSl Tryd.underlying23 rfl) rfl ?_)
  refine RV.op (OV.makeMap (κ := Bs) (ν := Bool) strV Value.bool Tryd.underlying127 rfl gno rfl (fun mb => ?_))
  refine RV.op (OV.step gno (Step.assign rfl) rfl ?_)
  refine RV.nil (KV.then_n (KV.env [(0, _), (3, _)] ⟨rfl, rfl, trivial⟩ (CV.seq (CV.seq (CV.region ?_)))))
  refine RV.op (OV.step gno (Step.move rfl) rfl ?_)
  refine RV.op (OV.step gno (Step.lenSl Tryd.underlying23 rfl) rfl ?_)
  refine RV.op (OV.step gno (Step.move rfl) rfl ?_)
  refine RV.nil (KV.then_n (KV.env [(3, _), (9, _), (10, _), (11, _)] ⟨rfl, rfl, rfl, rfl, trivial⟩ (CV.block ?_)))
  refine KV.sel [0] [_] rfl ?_
  refine CV.loopI (fun (j : Nat) => j ≤ l.length ∧ (l.take j).Nodup) (fun (j : Nat) => l.length - j) (fun (j : Nat) => [(3, .map (some mb)), (9, .slice A l.length c), (10, .int .i64 l.length), (11, .int .i64 j)]) (fun (j : Nat) => Hp I w [OM mb strV Value.bool ((l.take j).map fun x => (x, true))]) (0) ⟨Nat.zero_le _, by simp⟩ ⟨rfl, rfl, rfl, rfl, trivial⟩ (fun _ h => h) ?_
  intro j hinv
  refine CV.seq (CV.region ?_)
  refine RV.op (OV.split gno (Step.lss rfl rfl) rfl (fun hj => ?_) (fun hj => ?_))
  · -- True
    refine RV.nil (KV.then_n (KV.env [(3, _), (9, _), (10, _), (11, _), (12, _)] ⟨rfl, rfl, rfl, rfl, rfl, trivial⟩ (CV.seq (CV.cond_t rfl (CV.skip ?_)))))
    refine KV.then_n (KV.env [(3, _), (9, _), (10, _), (11, _)] ⟨rfl, rfl, rfl, rfl, trivial⟩ (CV.seq (CV.block (CV.seq (CV.region ?_)))))
    refine RV.op (OV.step gno (Step.idx Tryd.underlying23 I9 (fun w h => h.rs hs (fun _ => hI _)) rfl rfl (rfl) _ rfl (by omega)) rfl ?_)
    refine RV.op (OV.step gno (Step.load Tryd.underlying9 rfl rfl (fun w h => (h.rs hs (fun _ => hI _)).cell0 (by omega) rfl)) rfl ?_)
    refine RV.op (OV.step gno (Step.assign rfl) rfl ?_)
    refine RV.nil (KV.then_n (KV.env [(3, _), (5, _), (9, _), (10, _), (11, _)] ⟨rfl, rfl, rfl, rfl, rfl, trivial⟩ (CV.seq (CV.seq (CV.region ?_)))))
    refine RV.op (OV.step gno (Step.move rfl) rfl ?_)
    refine RV.op (OV.step gno (Step.move rfl) rfl ?_)
    refine RV.op (OV.step gno (Step.lookup 0 (vf := Value.bool) (zv := false) (l.getD j strK.d) Tryd.underlying127 (KeyT.string Tryd.underlying9) I4 rfl rfl rfl) rfl ?_)
    rw [mget_dec]
    by_cases hnin : l.getD j strK.d ∈ l.take j
    · rw [decide_eq_true hnin]
      refine RV.nil (KV.then_n (KV.env [(3, _), (5, _), (9, _), (10, _), (11, _), (17, _)] ⟨rfl, rfl, rfl, rfl, rfl, rfl, trivial⟩ (CV.cond_t rfl (CV.seq (CV.region ?_)))))
      refine RV.op (OV.step gno (Step.assign rfl) rfl ?_)
      refine RV.nil (KV.then_n (KV.env [(2, _)] ⟨rfl, trivial⟩ (CV.ret (KV.then_ret (KV.block_ret ?_)))))
      refine KV.then_ret (KV.then_ret (KV.block_ret (KV.then_ret ?_)))
      refine KV.sel [] [] rfl ?_
      exact KV.ret1 rfl rfl _ (fun _ h => h) ⟨by rw [decide_eq_true (show ¬ l.Nodup from fun h => by obtain ⟨i, h1, h2, h3⟩ := mem_take.1 hnin; exact nodup_iff.1 h i j h1 (by omega) h3)], rfl⟩
    · rw [decide_eq_false hnin]
      refine RV.nil (KV.then_n (KV.env [(3, _), (5, _), (9, _), (10, _), (11, _), (17, _)] ⟨rfl, rfl, rfl, rfl, rfl, rfl, trivial⟩ (CV.cond_f rfl (CV.skip (KV.then_n ?_)))))
      refine KV.env [(3, _), (5, _), (9, _), (10, _), (11, _)] ⟨rfl, rfl, rfl, rfl, rfl, trivial⟩ (CV.region ?_)
      refine RV.op (OV.step gno (Step.move rfl) rfl ?_)
      refine RV.op (OV.step gno (Step.move rfl) rfl ?_)
      refine RV.op (OV.mapInsert 0 (l.getD j strK.d) true Tryd.underlying127 (KeyT.string Tryd.underlying9) rfl rfl rfl rfl (by rw [mget_true, if_neg hnin]) gno ?_)
      refine RV.nil (KV.block_n (KV.then_n (KV.env [(3, _), (9, _), (10, _), (11, _)] ⟨rfl, rfl, rfl, rfl, trivial⟩ (CV.region ?_))))
      (first | refine RV.op (OV.step gno (Step.add rfl rfl (wI64 (by omega) (by omega))) rfl ?_) | refine RV.op (OV.step gno (Step.add rfl rfl rfl) rfl ?_))
      refine RV.op (OV.step gno (Step.move rfl) rfl ?_)
      refine RV.nil (KV.then_n (KV.env [(3, _), (9, _), (10, _), (11, _)] ⟨rfl, rfl, rfl, rfl, trivial⟩ ?_))
      refine KV.sel [0] [_] rfl ?_
      exact KV.loopI (z := j) (j + 1) ⟨by omega, by rw [take_next strK.d (by omega), List.nodup_append]; exact ⟨hinv.2, by simp, fun a ha b hb => by rw [List.mem_singleton] at hb; rw [hb]; exact fun e => hnin (e ▸ ha)⟩⟩ (by omega) ⟨rfl, rfl, rfl, rfl, trivial⟩ (fun _ h => by rw [take_next strK.d (by omega), List.map_append]; exact h)
  · -- False
    refine RV.nil (KV.then_n (KV.env [(3, _), (9, _), (10, _), (11, _), (12, _)] ⟨rfl, rfl, rfl, rfl, rfl, trivial⟩ (CV.seq (CV.cond_f rfl (CV.exit ?_)))))
    refine KV.then_exit (KV.then_exit (KV.block_hit (KV.then_n (KV.env [] trivial (CV.seq ?_)))))
    refine CV.region ?_
    refine RV.op (OV.step gno (Step.assign rfl) rfl ?_)
    refine RV.nil (KV.then_n (KV.env [(2, _)] ⟨rfl, trivial⟩ (CV.ret ?_)))
    refine KV.sel [] [] rfl ?_
    exact KV.ret1 rfl rfl _ (fun _ h => h) ⟨by rw [decide_eq_false (show ¬ ¬ l.Nodup from fun h => h (by have := hinv.2; rwa [List.take_of_length_le (by omega)] at this))], rfl⟩

set_option maxRecDepth 100000 in
set_option maxHeartbeats 4000000 in
theorem check_fn (d : DH) {w : World} (hd : DR w d) : Fx Tryd.prog 32 [.agg #[.string (bs d.name), .slice d.sA d.ss.length d.sc, .slice d.tA d.hs.length d.tc]] w [] no (fun v L => v = .int .i64 (chkM d.d) ∧ L = []) := by
  refine Sv.Fx.body Tryd.func32 rfl T32 rfl ?_
  intro I hro hI
  refine KV.env [(0, _)] ⟨rfl, trivial⟩ (CV.seq (CV.region ?_))
  refine RV.op (OV.box (t := 26) #[_, _, _] rfl rfl gno rfl (fun p => ?_))
  refine RV.op (OV.step gno (Step.assign rfl) rfl ?_)
  refine RV.nil (KV.then_n (KV.env [(1, _)] ⟨rfl, trivial⟩ (CV.seq (CV.seq (CV.region ?_)))))
  refine RV.op (OV.step gno (Step.fieldAddr rfl (F26_0 _ _)) rfl ?_)
  refine RV.op (OV.step gno (Step.load Tryd.underlying9 rfl rfl (fun w h => h.cell 0 rfl rfl)) rfl ?_)
  refine RV.op (OV.callP Tryd.func53 B53 N53 rfl (isName_fn d.name) gno rfl ?_)
  refine RV.op (OV.step gno (Step.not rfl) rfl ?_)
  refine RV.op (OV.step gno (Step.move rfl) rfl ?_)
  refine KV.cases 12 rfl (fun cc1 => ?_) (fun cc1 => ?_)
  · -- True
    have hnm := neg_t cc1
    refine RV.op (OV.skip rfl rfl ?_)
    refine RV.op (OV.skip rfl rfl ?_)
    refine RV.op (OV.skip rfl rfl ?_)
    refine RV.op (OV.skip rfl rfl ?_)
    refine RV.op (OV.step gno (Step.pick_t rfl rfl) rfl ?_)
    refine RV.op (OV.step gno (Step.move rfl) rfl ?_)
    refine RV.op (OV.skip rfl rfl ?_)
    refine RV.op (OV.skip rfl rfl ?_)
    refine RV.op (OV.skip rfl rfl ?_)
    refine RV.op (OV.skip rfl rfl ?_)
    refine RV.op (OV.step gno (Step.pick_t rfl rfl) rfl ?_)
    refine RV.op (OV.step gno (Step.move rfl) rfl ?_)
    refine RV.op (OV.skip rfl rfl ?_)
    refine RV.op (OV.skip rfl rfl ?_)
    refine RV.op (OV.skip rfl rfl ?_)
    refine RV.op (OV.skip rfl rfl ?_)
    refine RV.op (OV.step gno (Step.pick_t rfl rfl) rfl ?_)
    refine RV.nil (KV.then_n (KV.env [(1, _), (29, _)] ⟨rfl, rfl, trivial⟩ (CV.cond_t rfl (CV.seq (CV.region ?_)))))
    refine RV.op (OV.step gno (Step.assign rfl) rfl ?_)
    refine RV.nil (KV.then_n (KV.env [(2, _)] ⟨rfl, trivial⟩ (CV.ret (KV.then_ret ?_))))
    refine KV.sel [] [] rfl ?_
    first | exact KV.ret1 rfl rfl _ (fun _ h => h) ⟨by rw [show chkM d.d = 1 from chk_bad (fun k => by have k2 := (chkD_iff d).1 k; first | (exfalso; omega) | exact ff k2.1 hnm | exact ff (k2.2.2.1 j (by omega)) hsj | exact ff (k2.2.2.2.1 j (by omega)) hto | (have k3 := k2.2.2.2.2 j (by omega); have e1 : (th d.hs j).t.frm = (d.hs.getD j thK.d).t.frm := rfl; have e2 : (th d.hs (j - 1)).t.frm = (d.hs.getD (j - 1) thK.d).t.frm := rfl; omega))], rfl⟩
  · -- False
    have hnm := neg_f cc1
    refine RV.op (OV.step (gyes rfl) (Step.fieldAddr rfl (F26_1 _ _)) rfl ?_)
    refine RV.op (OV.step (gyes rfl) (Step.load Tryd.underlying23 rfl rfl (fun w h => h.cell 0 rfl rfl)) rfl ?_)
    refine RV.op (OV.step (gyes rfl) (Step.lenSl Tryd.underlying23 rfl) rfl ?_)
    refine RV.op (OV.split (gyes rfl) (Step.eql rfl rfl) rfl (fun a1 => ?_) (fun a1 => ?_))
    · -- True
      refine RV.op (OV.step gno (Step.pick_f rfl rfl) rfl ?_)
      refine RV.op (OV.step gno (Step.move rfl) rfl ?_)
      refine RV.op (OV.skip rfl rfl ?_)
      refine RV.op (OV.skip rfl rfl ?_)
      refine RV.op (OV.skip rfl rfl ?_)
      refine RV.op (OV.skip rfl rfl ?_)
      refine RV.op (OV.step gno (Step.pick_t rfl rfl) rfl ?_)
      refine RV.op (OV.step gno (Step.move rfl) rfl ?_)
      refine RV.op (OV.skip rfl rfl ?_)
      refine RV.op (OV.skip rfl rfl ?_)
      refine RV.op (OV.skip rfl rfl ?_)
      refine RV.op (OV.skip rfl rfl ?_)
      refine RV.op (OV.step gno (Step.pick_t rfl rfl) rfl ?_)
      refine RV.nil (KV.then_n (KV.env [(1, _), (29, _)] ⟨rfl, rfl, trivial⟩ (CV.cond_t rfl (CV.seq (CV.region ?_)))))
      refine RV.op (OV.step gno (Step.assign rfl) rfl ?_)
      refine RV.nil (KV.then_n (KV.env [(2, _)] ⟨rfl, trivial⟩ (CV.ret (KV.then_ret ?_))))
      refine KV.sel [] [] rfl ?_
      first | exact KV.ret1 rfl rfl _ (fun _ h => h) ⟨by rw [show chkM d.d = 1 from chk_bad (fun k => by have k2 := (chkD_iff d).1 k; first | (exfalso; omega) | exact ff k2.1 hnm | exact ff (k2.2.2.1 j (by omega)) hsj | exact ff (k2.2.2.2.1 j (by omega)) hto | (have k3 := k2.2.2.2.2 j (by omega); have e1 : (th d.hs j).t.frm = (d.hs.getD j thK.d).t.frm := rfl; have e2 : (th d.hs (j - 1)).t.frm = (d.hs.getD (j - 1) thK.d).t.frm := rfl; omega))], rfl⟩
    · -- False
      refine RV.op (OV.step gno (Step.pick_f rfl rfl) rfl ?_)
      refine RV.op (OV.step gno (Step.move rfl) rfl ?_)
      refine RV.op (OV.step (gyes rfl) (Step.fieldAddr rfl (F26_1 _ _)) rfl ?_)
      refine RV.op (OV.step (gyes rfl) (Step.load Tryd.underlying23 rfl rfl (fun w h => h.cell 0 rfl rfl)) rfl ?_)
      refine RV.op (OV.step (gyes rfl) (Step.lenSl Tryd.underlying23 rfl) rfl ?_)
      refine RV.op (OV.split (gyes rfl) (Step.gtr rfl rfl) rfl (fun a2 => ?_) (fun a2 => ?_))
      · -- True
        refine RV.op (OV.step gno (Step.pick_f rfl rfl) rfl ?_)
        refine RV.op (OV.step gno (Step.move rfl) rfl ?_)
        refine RV.op (OV.skip rfl rfl ?_)
        refine RV.op (OV.skip rfl rfl ?_)
        refine RV.op (OV.skip rfl rfl ?_)
        refine RV.op (OV.skip rfl rfl ?_)
        refine RV.op (OV.step gno (Step.pick_t rfl rfl) rfl ?_)
        refine RV.nil (KV.then_n (KV.env [(1, _), (29, _)] ⟨rfl, rfl, trivial⟩ (CV.cond_t rfl (CV.seq (CV.region ?_)))))
        refine RV.op (OV.step gno (Step.assign rfl) rfl ?_)
        refine RV.nil (KV.then_n (KV.env [(2, _)] ⟨rfl, trivial⟩ (CV.ret (KV.then_ret ?_))))
        refine KV.sel [] [] rfl ?_
        first | exact KV.ret1 rfl rfl _ (fun _ h => h) ⟨by rw [show chkM d.d = 1 from chk_bad (fun k => by have k2 := (chkD_iff d).1 k; first | (exfalso; omega) | exact ff k2.1 hnm | exact ff (k2.2.2.1 j (by omega)) hsj | exact ff (k2.2.2.2.1 j (by omega)) hto | (have k3 := k2.2.2.2.2 j (by omega); have e1 : (th d.hs j).t.frm = (d.hs.getD j thK.d).t.frm := rfl; have e2 : (th d.hs (j - 1)).t.frm = (d.hs.getD (j - 1) thK.d).t.frm := rfl; omega))], rfl⟩
      · -- False
        refine RV.op (OV.step gno (Step.pick_f rfl rfl) rfl ?_)
        refine RV.op (OV.step gno (Step.move rfl) rfl ?_)
        refine RV.op (OV.step (gyes rfl) (Step.fieldAddr rfl (F26_2 _ _)) rfl ?_)
        refine RV.op (OV.step (gyes rfl) (Step.load Tryd.underlying24 rfl rfl (fun w h => h.cell 0 rfl rfl)) rfl ?_)
        refine RV.op (OV.step (gyes rfl) (Step.lenSl Tryd.underlying24 rfl) rfl ?_)
        refine RV.op (OV.split (gyes rfl) (Step.gtr rfl rfl) rfl (fun a3 => ?_) (fun a3 => ?_))
        · -- True
          refine RV.op (OV.step gno (Step.pick_f rfl rfl) rfl ?_)
          refine RV.nil (KV.then_n (KV.env [(1, _), (29, _)] ⟨rfl, rfl, trivial⟩ (CV.cond_t rfl (CV.seq (CV.region ?_)))))
          refine RV.op (OV.step gno (Step.assign rfl) rfl ?_)
          refine RV.nil (KV.then_n (KV.env [(2, _)] ⟨rfl, trivial⟩ (CV.ret (KV.then_ret ?_))))
          refine KV.sel [] [] rfl ?_
          first | exact KV.ret1 rfl rfl _ (fun _ h => h) ⟨by rw [show chkM d.d = 1 from chk_bad (fun k => by have k2 := (chkD_iff d).1 k; first | (exfalso; omega) | exact ff k2.1 hnm | exact ff (k2.2.2.1 j (by omega)) hsj | exact ff (k2.2.2.2.1 j (by omega)) hto | (have k3 := k2.2.2.2.2 j (by omega); have e1 : (th d.hs j).t.frm = (d.hs.getD j thK.d).t.frm := rfl; have e2 : (th d.hs (j - 1)).t.frm = (d.hs.getD (j - 1) thK.d).t.frm := rfl; omega))], rfl⟩
        · -- False
          refine RV.op (OV.step gno (Step.pick_f rfl rfl) rfl ?_)
          refine RV.nil (KV.then_n (KV.env [(1, _), (29, _)] ⟨rfl, rfl, trivial⟩ (CV.cond_f rfl (CV.skip (KV.then_n ?_)))))
          refine KV.env [(1, _)] ⟨rfl, trivial⟩ (CV.seq (CV.seq (CV.region ?_)))
          refine RV.op (OV.step gno (Step.fieldAddr rfl (F26_1 _ _)) rfl ?_)
          refine RV.op (OV.step gno (Step.load Tryd.underlying23 rfl rfl (fun w h => h.cell 0 rfl rfl)) rfl ?_)
          refine RV.op (OV.step gno (Step.lenSl Tryd.underlying23 rfl) rfl ?_)
          refine RV.op (OV.step gno (Step.move rfl) rfl ?_)
          refine RV.nil (KV.then_n (KV.env [(1, _), (31, _), (32, _), (33, _)] ⟨rfl, rfl, rfl, rfl, trivial⟩ (CV.block ?_)))
          refine KV.sel [0] [_] rfl ?_
          refine CV.loopI (fun (j : Nat) => j ≤ d.ss.length ∧ ∀ k, k < j → isNm (d.ss.getD k []) = true) (fun (j : Nat) => d.ss.length - j) (fun (j : Nat) => [(1, .pointer (some ⟨p, 0, none⟩)), (31, .slice d.sA d.ss.length d.sc), (32, .int .i64 d.ss.length), (33, .int .i64 j)]) (fun (j : Nat) => Hp I w [Blk p (.cells #[.string (bs d.name), .slice d.sA d.ss.length d.sc, .slice d.tA d.hs.length d.tc] 26 (0, 0))]) (0) ⟨Nat.zero_le _, fun k hk => by omega⟩ ⟨rfl, rfl, rfl, rfl, trivial⟩ (fun _ h => h) ?_
          intro j hinv
          refine CV.seq (CV.region ?_)
          refine RV.op (OV.split gno (Step.lss rfl rfl) rfl (fun hj => ?_) (fun hj => ?_))
          · -- True
            refine RV.nil (KV.then_n (KV.env [(1, _), (31, _), (32, _), (33, _), (34, _)] ⟨rfl, rfl, rfl, rfl, rfl, trivial⟩ (CV.seq (CV.cond_t rfl (CV.skip ?_)))))
            refine KV.then_n (KV.env [(1, _), (31, _), (32, _), (33, _)] ⟨rfl, rfl, rfl, rfl, trivial⟩ (CV.seq (CV.block (CV.seq (CV.region ?_)))))
            refine RV.op (OV.step gno (Step.idx Tryd.underlying23 I9 (fun w h => (DR.keep h hd hI).s) rfl rfl (rfl) _ rfl (by omega)) rfl ?_)
            refine RV.op (OV.step gno (Step.load Tryd.underlying9 rfl rfl (fun w h => ((DR.keep h hd hI).s).cell0 (by omega) rfl)) rfl ?_)
            refine RV.op (OV.step gno (Step.assign rfl) rfl ?_)
            refine RV.nil (KV.then_n (KV.env [(1, _), (4, _), (31, _), (32, _), (33, _)] ⟨rfl, rfl, rfl, rfl, rfl, trivial⟩ (CV.seq (CV.region ?_))))
            refine RV.op (OV.step gno (Step.move rfl) rfl ?_)
            refine RV.op (OV.callP Tryd.func53 B53 N53 rfl (isName_fn (d.ss.getD j strK.d)) gno rfl ?_)
            refine RV.op (OV.step gno (Step.not rfl) rfl ?_)
            refine RV.nil (KV.then_n (KV.env [(1, _), (31, _), (32, _), (33, _), (39, _)] ⟨rfl, rfl, rfl, rfl, rfl, trivial⟩ ?_))
            refine KV.cases 39 rfl (fun cc2 => ?_) (fun cc2 => ?_)
            · -- True
              have hsj := neg_t cc2
              refine CV.cond_t rfl (CV.seq (CV.region ?_))
              refine RV.op (OV.step gno (Step.assign rfl) rfl ?_)
              refine RV.nil (KV.then_n (KV.env [(2, _)] ⟨rfl, trivial⟩ (CV.ret (KV.block_ret (KV.then_ret ?_)))))
              refine KV.then_ret (KV.block_ret (KV.then_ret ?_))
              refine KV.sel [] [] rfl ?_
              first | exact KV.ret1 rfl rfl _ (fun _ h => h) ⟨by rw [show chkM d.d = 1 from chk_bad (fun k => by have k2 := (chkD_iff d).1 k; first | (exfalso; omega) | exact ff k2.1 hnm | exact ff (k2.2.2.1 j (by omega)) hsj | exact ff (k2.2.2.2.1 j (by omega)) hto | (have k3 := k2.2.2.2.2 j (by omega); have e1 : (th d.hs j).t.frm = (d.hs.getD j thK.d).t.frm := rfl; have e2 : (th d.hs (j - 1)).t.frm = (d.hs.getD (j - 1) thK.d).t.frm := rfl; omega))], rfl⟩
            · -- False
              have hsj := neg_f cc2
              refine CV.cond_f rfl (CV.skip (KV.block_n (KV.then_n (KV.env [(1, _), (31, _), (32, _), (33, _)] ⟨rfl, rfl, rfl, rfl, trivial⟩ (CV.region ?_)))))
              (first | refine RV.op (OV.step gno (Step.add rfl rfl (wI64 (by omega) (by omega))) rfl ?_) | refine RV.op (OV.step gno (Step.add rfl rfl rfl) rfl ?_))
              refine RV.op (OV.step gno (Step.move rfl) rfl ?_)
              refine RV.nil (KV.then_n (KV.env [(1, _), (31, _), (32, _), (33, _)] ⟨rfl, rfl, rfl, rfl, trivial⟩ ?_))
              refine KV.sel [0] [_] rfl ?_
              exact KV.loopI (z := j) (j + 1) ⟨by omega, fun k hk => by by_cases e : k = j; (subst e; exact hsj); exact hinv.2 k (by omega)⟩ (by omega) ⟨rfl, rfl, rfl, rfl, trivial⟩ (fun _ h => h)
          · -- False
            refine RV.nil (KV.then_n (KV.env [(1, _), (31, _), (32, _), (33, _), (34, _)] ⟨rfl, rfl, rfl, rfl, rfl, trivial⟩ (CV.seq (CV.cond_f rfl (CV.exit ?_)))))
            refine KV.then_exit (KV.then_exit (KV.block_hit (KV.then_n (KV.env [(1, _)] ⟨rfl, trivial⟩ (CV.seq ?_)))))
            have hS := hinv
            refine CV.region ?_
            refine RV.op (OV.step gno (Step.assign rfl) rfl ?_)
            refine RV.nil (KV.then_n (KV.env [(1, _), (5, _)] ⟨rfl, rfl, trivial⟩ (CV.seq (CV.seq (CV.region ?_)))))
            refine RV.op (OV.step gno (Step.fieldAddr rfl (F26_2 _ _)) rfl ?_)
            refine RV.op (OV.step gno (Step.load Tryd.underlying24 rfl rfl (fun w h => h.cell 0 rfl rfl)) rfl ?_)
            refine RV.op (OV.step gno (Step.lenSl Tryd.underlying24 rfl) rfl ?_)
            refine RV.op (OV.step gno (Step.move rfl) rfl ?_)
            refine RV.nil (KV.then_n (KV.env [(1, _), (5, _), (42, _), (43, _), (44, _)] ⟨rfl, rfl, rfl, rfl, rfl, trivial⟩ (CV.block ?_)))
            refine KV.sel [0] [_] rfl ?_
            refine CV.loopI (fun (j : Nat) => j ≤ d.hs.length ∧ ∀ k, k < j → okT d.ss.length (th d.hs k).t = true ∧ (k = 0 ∨ (th d.hs (k - 1)).t.frm ≤ (th d.hs k).t.frm)) (fun (j : Nat) => d.hs.length - j) (fun (j : Nat) => [(1, .pointer (some ⟨p, 0, none⟩)), (5, .int .i64 (if j = 0 then 0 else (th d.hs (j - 1)).t.frm)), (42, .slice d.tA d.hs.length d.tc), (43, .int .i64 d.hs.length), (44, .int .i64 j)]) (fun (j : Nat) => Hp I w [Blk p (.cells #[.string (bs d.name), .slice d.sA d.ss.length d.sc, .slice d.tA d.hs.length d.tc] 26 (0, 0))]) (0) ⟨Nat.zero_le _, fun k hk => by omega⟩ ⟨rfl, rfl, rfl, rfl, rfl, trivial⟩ (fun _ h => h) ?_
            intro j hinv
            refine CV.seq (CV.region ?_)
            refine RV.op (OV.split gno (Step.lss rfl rfl) rfl (fun hj => ?_) (fun hj => ?_))
            · -- True
              refine RV.nil (KV.then_n (KV.env [(1, _), (5, _), (42, _), (43, _), (44, _), (45, _)] ⟨rfl, rfl, rfl, rfl, rfl, rfl, trivial⟩ (CV.seq (CV.cond_t rfl (CV.skip ?_)))))
              refine KV.then_n (KV.env [(1, _), (5, _), (42, _), (43, _), (44, _)] ⟨rfl, rfl, rfl, rfl, rfl, trivial⟩ (CV.seq (CV.block (CV.seq (CV.region ?_)))))
              refine RV.op (OV.step gno (Step.idx Tryd.underlying24 I61 (fun w h => (DR.keep h hd hI).t) rfl rfl (rfl) _ rfl (by omega)) rfl ?_)
              refine RV.op (OV.step gno (Step.loadN _ Tryd.underlying61 rfl I61 rfl rfl (fun w h => ((DR.keep h hd hI).t).cells (by omega))) rfl ?_)
              refine RV.op (OV.alloc #[.int .i64 0, .string (Sv.bs []), .bool false, .int .u64 0, .int .u64 0, .int .u64 0, .slice none 0 0, .int .i64 0] I61 rfl gno rfl (fun q => ?_))
              refine RV.op (OV.store 1 [_, _, _, _, _, _, _, _] #[_, _, _, _, _, _, _, _] I61 rfl rfl rfl rfl rfl (Nat.le_of_ble_eq_true rfl) (by simp [Value.oneCell']) rfl gno ?_)
              refine RV.nil (KV.then_n (KV.env [(1, _), (5, _), (7, _), (42, _), (43, _), (44, _)] ⟨rfl, rfl, rfl, rfl, rfl, rfl, trivial⟩ (CV.seq (CV.seq (CV.region ?_)))))
              refine RV.op (OV.step gno (Step.fieldAddr rfl (F61_0 _ _)) rfl ?_)
              refine RV.op (OV.step gno (Step.load Tryd.underlying3 rfl rfl (fun w h => h.cell 1 rfl rfl)) rfl ?_)
              refine RV.op (OV.step gno (Step.move rfl) rfl ?_)
              refine RV.op (OV.split gno (Step.lss rfl rfl) rfl (fun hlt => ?_) (fun hlt => ?_))
              · -- True
                refine RV.op (OV.step gno (Step.move rfl) rfl ?_)
                refine RV.op (OV.skip rfl rfl ?_)
                refine RV.op (OV.skip rfl rfl ?_)
                refine RV.op (OV.skip rfl rfl ?_)
                refine RV.op (OV.skip rfl rfl ?_)
                refine RV.op (OV.skip rfl rfl ?_)
                refine RV.op (OV.skip rfl rfl ?_)
                refine RV.op (OV.step gno (Step.pick_t rfl rfl) rfl ?_)
                refine RV.nil (KV.then_n (KV.env [(1, _), (7, _), (42, _), (43, _), (44, _), (59, _)] ⟨rfl, rfl, rfl, rfl, rfl, rfl, trivial⟩ (CV.cond_t rfl (CV.seq (CV.region ?_)))))
                refine RV.op (OV.step gno (Step.assign rfl) rfl ?_)
                refine RV.nil (KV.then_n (KV.env [(2, _)] ⟨rfl, trivial⟩ (CV.ret (KV.then_ret (KV.block_ret ?_)))))
                refine KV.then_ret (KV.then_ret (KV.block_ret (KV.then_ret ?_)))
                refine KV.sel [] [] rfl ?_
                have hbad : okT d.ss.length (th d.hs j).t = false ∨ (j ≠ 0 ∧ (th d.hs j).t.frm < (th d.hs (j - 1)).t.frm) := by have e1 : (th d.hs j).t.frm = (d.hs.getD j thK.d).t.frm := rfl; first | exact .inl hto | (by_cases e0 : j = 0; (left; rw [if_pos e0] at hlt; exact bool_f fun k => by have := ((okT_iff _ _).1 k).1; omega); (right; rw [if_neg e0] at hlt; exact ⟨e0, by omega⟩))
                exact KV.ret1 rfl rfl _ (fun _ h => h) ⟨by rw [show chkM d.d = 1 from chk_bad (fun k => by have k2 := (chkD_iff d).1 k; rcases hbad with hb | ⟨hb1, hb2⟩; exact ff (k2.2.2.2.1 j (by omega)) hb; (have := k2.2.2.2.2 j (by omega); omega))], rfl⟩
              · -- False
                refine RV.op (OV.step gno (Step.move rfl) rfl ?_)
                refine RV.op (OV.step (gyes rfl) (Step.loadN _ Tryd.underlying61 rfl I61 rfl rfl (fun w h => h.cells 1 rfl)) rfl ?_)
                refine RV.op (OV.step (gyes rfl) (Step.fieldAddr rfl (F26_1 _ _)) rfl ?_)
                refine RV.op (OV.step (gyes rfl) (Step.load Tryd.underlying23 rfl rfl (fun w h => h.cell 0 rfl rfl)) rfl ?_)
                refine RV.op (OV.step (gyes rfl) (Step.lenSl Tryd.underlying23 rfl) rfl ?_)
                refine RV.op (OV.call [] (F := [_, _]) Tryd.func54 B54 N54 rfl rfl (fun w h => valid_fn (d.hs.getD j thK.d) d.ss.length ((DR.keep h hd hI).o j (by omega))) (fun _ hb => hb.elim) (gyes rfl) rfl (fun v L' hp => ?_))
                obtain ⟨rfl, rfl⟩ := hp
                simp only [List.append_nil]
                refine RV.op (OV.step (gyes rfl) (Step.not rfl) rfl ?_)
                refine RV.op (OV.step gno (Step.pick_f rfl rfl) rfl ?_)
                refine RV.nil (KV.then_n (KV.env [(1, _), (7, _), (42, _), (43, _), (44, _), (59, _)] ⟨rfl, rfl, rfl, rfl, rfl, rfl, trivial⟩ ?_))
                refine KV.cases 59 rfl (fun cc3 => ?_) (fun cc3 => ?_)
                · -- True
                  have hto := neg_t cc3
                  refine CV.cond_t rfl (CV.seq (CV.region ?_))
                  refine RV.op (OV.step gno (Step.assign rfl) rfl ?_)
                  refine RV.nil (KV.then_n (KV.env [(2, _)] ⟨rfl, trivial⟩ (CV.ret (KV.then_ret (KV.block_ret ?_)))))
                  refine KV.then_ret (KV.then_ret (KV.block_ret (KV.then_ret ?_)))
                  refine KV.sel [] [] rfl ?_
                  have hbad : okT d.ss.length (th d.hs j).t = false ∨ (j ≠ 0 ∧ (th d.hs j).t.frm < (th d.hs (j - 1)).t.frm) := by have e1 : (th d.hs j).t.frm = (d.hs.getD j thK.d).t.frm := rfl; first | exact .inl hto | (by_cases e0 : j = 0; (left; rw [if_pos e0] at hlt; exact bool_f fun k => by have := ((okT_iff _ _).1 k).1; omega); (right; rw [if_neg e0] at hlt; exact ⟨e0, by omega⟩))
                  exact KV.ret1 rfl rfl _ (fun _ h => h) ⟨by rw [show chkM d.d = 1 from chk_bad (fun k => by have k2 := (chkD_iff d).1 k; rcases hbad with hb | ⟨hb1, hb2⟩; exact ff (k2.2.2.2.1 j (by omega)) hb; (have := k2.2.2.2.2 j (by omega); omega))], rfl⟩
                · -- False
                  have hto := neg_f cc3
                  refine CV.cond_f rfl (CV.skip (KV.then_n (KV.env [(1, _), (7, _), (42, _), (43, _), (44, _)] ⟨rfl, rfl, rfl, rfl, rfl, trivial⟩ (CV.region ?_))))
                  refine RV.op (OV.step gno (Step.fieldAddr rfl (F61_0 _ _)) rfl ?_)
                  refine RV.op (OV.step gno (Step.load Tryd.underlying3 rfl rfl (fun w h => h.cell 1 rfl rfl)) rfl ?_)
                  refine RV.op (OV.step gno (Step.assign rfl) rfl ?_)
                  refine RV.nil (KV.block_n (KV.then_n (KV.env [(1, _), (5, _), (42, _), (43, _), (44, _)] ⟨rfl, rfl, rfl, rfl, rfl, trivial⟩ (CV.region ?_))))
                  (first | refine RV.op (OV.step gno (Step.add rfl rfl (wI64 (by omega) (by omega))) rfl ?_) | refine RV.op (OV.step gno (Step.add rfl rfl rfl) rfl ?_))
                  refine RV.op (OV.step gno (Step.move rfl) rfl ?_)
                  refine RV.nil (KV.then_n (KV.env [(1, _), (5, _), (42, _), (43, _), (44, _)] ⟨rfl, rfl, rfl, rfl, rfl, trivial⟩ ?_))
                  refine KV.sel [0] [_] rfl ?_
                  exact KV.loopI (z := j) (j + 1) ⟨by omega, fun k hk => by by_cases e : k = j; (subst e; exact ⟨hto, by have e1 : (th d.hs k).t.frm = (d.hs.getD k thK.d).t.frm := rfl; by_cases e0 : k = 0; exact .inl e0; (rw [if_neg e0] at hlt; right; omega)⟩); exact hinv.2 k (by omega)⟩ (by omega) ⟨rfl, (by rw [if_neg (Nat.succ_ne_zero _), Nat.add_sub_cancel]; rfl), rfl, rfl, rfl, trivial⟩ (fun _ h => h)
            · -- False
              refine RV.nil (KV.then_n (KV.env [(1, _), (5, _), (42, _), (43, _), (44, _), (45, _)] ⟨rfl, rfl, rfl, rfl, rfl, rfl, trivial⟩ (CV.seq (CV.cond_f rfl (CV.exit ?_)))))
              refine KV.then_exit (KV.then_exit (KV.block_hit (KV.then_n (KV.env [(1, _)] ⟨rfl, trivial⟩ (CV.seq ?_)))))
              refine CV.seq (CV.region ?_)
              refine RV.op (OV.step gno (Step.fieldAddr rfl (F26_1 _ _)) rfl ?_)
              refine RV.op (OV.step gno (Step.load Tryd.underlying23 rfl rfl (fun w h => h.cell 0 rfl rfl)) rfl ?_)
              refine RV.op (OV.call [] (F := [_]) Tryd.func37 B37 N37 rfl rfl (fun w h => repeats_fn (DR.keep h hd hI).s rfl (by omega)) (fun _ hb => hb.elim) gno rfl (fun v L' hp => ?_))
              obtain ⟨rfl, rfl⟩ := hp
              simp only [List.append_nil]
              by_cases hdup : ¬ d.ss.Nodup
              · rw [decide_eq_true hdup]
                refine RV.nil (KV.then_n (KV.env [(65, _)] ⟨rfl, trivial⟩ (CV.cond_t rfl (CV.seq (CV.region ?_)))))
                refine RV.op (OV.step gno (Step.assign rfl) rfl ?_)
                refine RV.nil (KV.then_n (KV.env [(2, _)] ⟨rfl, trivial⟩ (CV.ret (KV.then_ret ?_))))
                refine KV.sel [] [] rfl ?_
                exact KV.ret1 rfl rfl _ (fun _ h => h) ⟨by rw [chk_dup (show chkA d.d = true from (chkD_iff d).2 ⟨hnm, by omega, fun k hk => hS.2 k (by omega), fun k hk => (hinv.2 k (by omega)).1, fun k hk => (hinv.2 k (by omega)).2⟩) hdup], rfl⟩
              · rw [decide_eq_false hdup]
                refine RV.nil (KV.then_n (KV.env [(65, _)] ⟨rfl, trivial⟩ (CV.cond_f rfl (CV.skip (KV.then_n ?_)))))
                refine KV.env [] trivial (CV.seq (CV.region ?_))
                refine RV.op (OV.step gno (Step.assign rfl) rfl ?_)
                refine RV.nil (KV.then_n (KV.env [(2, _)] ⟨rfl, trivial⟩ (CV.ret ?_)))
                refine KV.sel [] [] rfl ?_
                exact KV.ret1 rfl rfl _ (fun _ h => h) ⟨by rw [chk_ok (show chkA d.d = true from (chkD_iff d).2 ⟨hnm, by omega, fun k hk => hS.2 k (by omega), fun k hk => (hinv.2 k (by omega)).1, fun k hk => (hinv.2 k (by omega)).2⟩) (Decidable.not_not.1 hdup)], rfl⟩
end Go.Proofs.YtplmfekhdaefaaaDoor
