/-
  Walks, part 5.
-/
import Derived.Test.YtaafpnoffdcbnaaTab5
import Derived.Test.YtaafpnoffdcbnaaW4
import Derived.Test.YtaafpnoffdcbnaaMdl3
set_option linter.unusedSimpArgs false
set_option linter.unusedVariables false
namespace Go.Proofs.Ytaafpnoffdcbnaa
open Go.Sv Go.Perf
set_option maxRecDepth 100000 in
set_option maxHeartbeats 1000000 in
theorem params_fn (u d s : Int) {w : World} : Fx Try.prog 24 [.agg #[.int .i64 u, .int .i64 d, .int .i64 s]] w [] no (fun v L => v = .agg #[.int .i64 (prmM u d s).up, .int .i64 (prmM u d s).dn, .int .i64 (prmM u d s).sm] ∧ L = []) := by
  refine Sv.Fx.body Try.func24 rfl T24 rfl ?_
  intro I hro hI
  refine KV.env [(0, _)] ⟨rfl, trivial⟩ ?_
  have m1 := modM_lt u (n := 100) (by omega)
  obtain ⟨q, hq⟩ := Int.eq_ofNat_of_zero_le (show 0 ≤ 1 + modM u 100 by omega)
  have m2 := modM_lt d (n := q) (by omega)
  have m3 := modM_lt s (n := 4) (by omega)
  refine CV.seq ?_
  -- region 0 law.go:120
  refine CV.region ?_
  refine RV.op (OV.box (t := 45) #[_, _, _] rfl rfl gno rfl (fun b0_0 => ?_))
  refine RV.op (OV.alloc #[.int .i64 0, .int .i64 0, .int .i64 0] I45 rfl gno rfl (fun b0_1 => ?_))
  refine RV.nil ?_
  refine KV.then_n ?_
  refine KV.env [(1, _), (2, _)] ⟨rfl, rfl, trivial⟩ ?_
  refine CV.seq ?_
  -- region 1 law.go:121
  refine CV.region ?_
  refine RV.op (OV.step gno (Step.fieldAddr rfl (F45_0 _ _)) rfl ?_)
  refine RV.op (OV.step gno (Step.load Try.underlying3 rfl rfl (fun w h => h.cell 0 rfl rfl)) rfl ?_)
  refine RV.op (OV.call [] Try.func14 B14 N14 rfl rfl (fun w h => (mod_fn u 100 (by omega) (by omega)).fn w) (fun _ hb => hb.elim) gno rfl (fun v L' hp => ?_))
  obtain ⟨rfl, rfl⟩ := hp
  simp only [List.append_nil]
  (first | refine RV.op (OV.step gno (Step.add rfl rfl (wI64 (by omega) (by omega))) rfl ?_) | refine RV.op (OV.step gno (Step.add rfl rfl rfl) rfl ?_))
  refine RV.op (OV.step gno (Step.assign rfl) rfl ?_)
  rw [hq]
  refine RV.nil ?_
  refine KV.then_n ?_
  refine KV.env [(1, _), (2, _), (3, _)] ⟨rfl, rfl, rfl, trivial⟩ ?_
  refine CV.seq ?_
  -- region 2 law.go:122
  refine CV.stillTail 10 (by kernel_rfl) (by kernel_rfl) (fun _ h => h.drew) ?_
  refine SV.step gno (Step.move rfl) rfl ?_
  refine SV.step gno (Step.fieldAddr rfl (F45_1 _ _)) rfl ?_
  refine SV.step gno (Step.load Try.underlying3 rfl rfl (fun w h => h.cell 0 rfl rfl)) rfl ?_
  refine SV.step gno (Step.move rfl) rfl ?_
  refine SV.call Try.func14 B14 N14 rfl (mod_fn d q (by omega) (by omega)) gno rfl ?_
  refine SV.step gno (Step.fieldAddr rfl (F45_2 _ _)) rfl ?_
  refine SV.step gno (Step.load Try.underlying3 rfl rfl (fun w h => h.cell 0 rfl rfl)) rfl ?_
  refine SV.call Try.func14 B14 N14 rfl (mod_fn s 4 (by omega) (by omega)) gno rfl ?_
  (first | refine SV.step gno (Step.add rfl rfl (wI64 (by omega) (by omega))) rfl ?_ | refine SV.step gno (Step.add rfl rfl rfl) rfl ?_)
  refine SV.step gno (Step.build rfl (Bd45_0_1_2 _ _ _)) rfl ?_
  refine SV.nil ?_
  show KV _ (wpList _ _ _ _) _ _
  refine RV.op (OV.store 1 [_, _, _] #[_, _, _] I45 rfl rfl rfl rfl rfl (Nat.le_of_ble_eq_true rfl) (by simp [Value.oneCell']) rfl gno ?_)
  refine RV.nil ?_
  refine KV.then_n ?_
  refine KV.env [(2, _)] ⟨rfl, trivial⟩ ?_
  refine CV.ret ?_
  -- return at r2
  exact KV.retC1 [_, _, _] rfl rfl Try.underlying45 rfl I45 rfl (fun w h => h.cells 1 rfl) [] (fun _ h => h.sel [] rfl) ⟨by unfold prmM; rw [hq]; rfl, rfl⟩

set_option maxRecDepth 100000 in
set_option maxHeartbeats 1000000 in
theorem new_fn {A : Option Addr} {n c : Nat} {ys : List Pt} {w : World} (hr : RS w ptK A ys) (hn : n = ys.length) (hl : ys.length ≤ 1000000) (u d s : Int) : Fx Try.prog 25 [.slice A n c, .agg #[.int .i64 u, .int .i64 d, .int .i64 s]] w [] no (fun v L => (newE ys u d s = 0 → ∃ b A2 c2, v = .tuple #[.pointer (some ⟨b, 0, none⟩), .int .i64 0] ∧ L = gobj 66 b A2 c2 (gov0 ys u d s)) ∧ (newE ys u d s ≠ 0 → v = .tuple #[.pointer none, .int .i64 (newE ys u d s)] ∧ L = [])) := by
  subst hn
  refine Sv.Fx.body Try.func25 rfl T25 rfl ?_
  intro I hro hI
  refine KV.env [(0, _), (1, _)] ⟨rfl, rfl, trivial⟩ ?_
  refine CV.seq ?_
  -- region 0 perf.go:104
  refine CV.region ?_
  refine RV.op (OV.box (t := 45) #[_, _, _] rfl rfl gno rfl (fun b0_0 => ?_))
  refine RV.op (OV.step gno (Step.assign rfl) rfl ?_)
  refine RV.op (OV.step gno (Step.assign rfl) rfl ?_)
  refine RV.nil ?_
  refine KV.then_n ?_
  refine KV.env [(0, _), (3, _)] ⟨rfl, rfl, trivial⟩ ?_
  refine CV.seq ?_
  refine CV.seq ?_
  -- region 1 perf.go:105
  refine CV.region ?_
  refine RV.op (OV.step gno (Step.move rfl) rfl ?_)
  refine RV.op (OV.call [] (F := [_]) Try.func17 B17 N17 rfl rfl (fun w h => check_fn (h.rs hr (fun _ => hI _)) rfl hl) (fun _ hb => hb.elim) gno rfl (fun v L' hp => ?_))
  obtain ⟨rfl, rfl⟩ := hp
  simp only [List.append_nil]
  refine RV.op (OV.step gno (Step.assign rfl) rfl ?_)
  refine RV.nil ?_
  refine KV.then_n ?_
  refine KV.env [(0, _), (3, _), (6, _)] ⟨rfl, rfl, rfl, trivial⟩ ?_
  refine CV.seq ?_
  -- region 2 perf.go:105
  refine CV.region ?_
  refine RV.op (OV.step gno (Step.move rfl) rfl ?_)
  refine RV.op (OV.split gno (Step.neq rfl rfl) rfl (fun hc => ?_) (fun hc => ?_))
  · -- True
    refine RV.nil ?_
    refine KV.then_n ?_
    refine KV.env [(0, _), (3, _), (6, _), (10, _)] ⟨rfl, rfl, rfl, rfl, trivial⟩ ?_
    refine CV.cond_t rfl ?_
    refine CV.seq ?_
    -- region 3 perf.go:106
    refine CV.region ?_
    refine RV.op (OV.step gno (Step.move rfl) rfl ?_)
    refine RV.op (OV.step gno (Step.assign rfl) rfl ?_)
    refine RV.op (OV.step gno (Step.assign rfl) rfl ?_)
    refine RV.nil ?_
    refine KV.then_n ?_
    refine KV.env [(4, _), (5, _)] ⟨rfl, rfl, trivial⟩ ?_
    refine CV.ret ?_
    refine KV.then_ret ?_
    -- return at r3
    refine KV.sel [] [] rfl ?_
    have hE : newE ys u d s = chkM ys := newE_chk hc
    exact KV.ret2 rfl rfl rfl _ (fun _ h => h) ⟨fun h0 => absurd h0 (by rw [hE]; first | decide | exact hc), fun _ => ⟨by rw [hE], rfl⟩⟩
  · -- False
    refine RV.nil ?_
    refine KV.then_n ?_
    refine KV.env [(0, _), (3, _), (6, _), (10, _)] ⟨rfl, rfl, rfl, rfl, trivial⟩ ?_
    refine CV.cond_f rfl ?_
    refine CV.skip ?_
    refine KV.then_n ?_
    refine KV.env [(0, _), (3, _)] ⟨rfl, rfl, trivial⟩ ?_
    refine CV.seq ?_
    refine CV.seq ?_
    -- region 4 perf.go:108
    refine CV.region ?_
    refine RV.op (OV.step gno (Step.fieldAddr rfl (F45_0 _ _)) rfl ?_)
    (first | refine RV.op (OV.step gno (Step.load Try.underlying3 rfl rfl (fun w h => h.cell 0 rfl rfl)) rfl ?_) | refine RV.op (OV.step gno (Step.load Try.underlying3 rfl rfl (fun w h => (h.rs hr (fun _ => hI _)).cell (by omega) rfl)) rfl ?_) | refine RV.op (OV.step gno (Step.load Try.underlying3 rfl rfl (fun w h => (h.rs hr (fun _ => hI _)).cell0 (by omega) rfl)) rfl ?_))
    refine RV.op (OV.split gno (Step.lss rfl rfl) rfl (fun cc1 => ?_) (fun cc1 => ?_))
    · -- True
      refine RV.op (OV.step gno (Step.move rfl) rfl ?_)
      refine RV.op (OV.skip rfl rfl ?_)
      refine RV.op (OV.skip rfl rfl ?_)
      refine RV.op (OV.skip rfl rfl ?_)
      refine RV.op (OV.step gno (Step.pick_t rfl rfl) rfl ?_)
      refine RV.op (OV.step gno (Step.move rfl) rfl ?_)
      refine RV.op (OV.skip rfl rfl ?_)
      refine RV.op (OV.skip rfl rfl ?_)
      refine RV.op (OV.skip rfl rfl ?_)
      refine RV.op (OV.step gno (Step.pick_t rfl rfl) rfl ?_)
      refine RV.op (OV.step gno (Step.move rfl) rfl ?_)
      refine RV.op (OV.skip rfl rfl ?_)
      refine RV.op (OV.skip rfl rfl ?_)
      refine RV.op (OV.skip rfl rfl ?_)
      refine RV.op (OV.skip rfl rfl ?_)
      refine RV.op (OV.skip rfl rfl ?_)
      refine RV.op (OV.step gno (Step.pick_t rfl rfl) rfl ?_)
      refine RV.op (OV.step gno (Step.move rfl) rfl ?_)
      refine RV.op (OV.skip rfl rfl ?_)
      refine RV.op (OV.skip rfl rfl ?_)
      refine RV.op (OV.skip rfl rfl ?_)
      refine RV.op (OV.step gno (Step.pick_t rfl rfl) rfl ?_)
      refine RV.op (OV.step gno (Step.move rfl) rfl ?_)
      refine RV.op (OV.skip rfl rfl ?_)
      refine RV.op (OV.skip rfl rfl ?_)
      refine RV.op (OV.skip rfl rfl ?_)
      refine RV.op (OV.step gno (Step.pick_t rfl rfl) rfl ?_)
      refine RV.nil ?_
      refine KV.then_n ?_
      refine KV.env [(0, _), (3, _), (41, _)] ⟨rfl, rfl, rfl, trivial⟩ ?_
      refine CV.cond_t rfl ?_
      refine CV.seq ?_
      -- region 5 perf.go:109
      refine CV.region ?_
      refine RV.op (OV.step gno (Step.assign rfl) rfl ?_)
      refine RV.op (OV.step gno (Step.assign rfl) rfl ?_)
      refine RV.nil ?_
      refine KV.then_n ?_
      refine KV.env [(4, _), (5, _)] ⟨rfl, rfl, trivial⟩ ?_
      refine CV.ret ?_
      refine KV.then_ret ?_
      -- return at r5
      refine KV.sel [] [] rfl ?_
      have hE : newE ys u d s = 1 := newE_bad (Decidable.not_not.1 hc) (by unfold badPr; omega)
      exact KV.ret2 rfl rfl rfl _ (fun _ h => h) ⟨fun h0 => absurd h0 (by rw [hE]; first | decide | exact hc), fun _ => ⟨by rw [hE], rfl⟩⟩
    · -- False
      refine RV.op (OV.step gno (Step.move rfl) rfl ?_)
      refine RV.op (OV.step (gyes rfl) (Step.fieldAddr rfl (F45_0 _ _)) rfl ?_)
      (first | refine RV.op (OV.step (gyes rfl) (Step.load Try.underlying3 rfl rfl (fun w h => h.cell 0 rfl rfl)) rfl ?_) | refine RV.op (OV.step (gyes rfl) (Step.load Try.underlying3 rfl rfl (fun w h => (h.rs hr (fun _ => hI _)).cell (by omega) rfl)) rfl ?_) | refine RV.op (OV.step (gyes rfl) (Step.load Try.underlying3 rfl rfl (fun w h => (h.rs hr (fun _ => hI _)).cell0 (by omega) rfl)) rfl ?_))
      refine RV.op (OV.split (gyes rfl) (Step.gtr rfl rfl) rfl (fun cc2 => ?_) (fun cc2 => ?_))
      · -- True
        refine RV.op (OV.step gno (Step.pick_f rfl rfl) rfl ?_)
        refine RV.op (OV.step gno (Step.move rfl) rfl ?_)
        refine RV.op (OV.skip rfl rfl ?_)
        refine RV.op (OV.skip rfl rfl ?_)
        refine RV.op (OV.skip rfl rfl ?_)
        refine RV.op (OV.step gno (Step.pick_t rfl rfl) rfl ?_)
        refine RV.op (OV.step gno (Step.move rfl) rfl ?_)
        refine RV.op (OV.skip rfl rfl ?_)
        refine RV.op (OV.skip rfl rfl ?_)
        refine RV.op (OV.skip rfl rfl ?_)
        refine RV.op (OV.skip rfl rfl ?_)
        refine RV.op (OV.skip rfl rfl ?_)
        refine RV.op (OV.step gno (Step.pick_t rfl rfl) rfl ?_)
        refine RV.op (OV.step gno (Step.move rfl) rfl ?_)
        refine RV.op (OV.skip rfl rfl ?_)
        refine RV.op (OV.skip rfl rfl ?_)
        refine RV.op (OV.skip rfl rfl ?_)
        refine RV.op (OV.step gno (Step.pick_t rfl rfl) rfl ?_)
        refine RV.op (OV.step gno (Step.move rfl) rfl ?_)
        refine RV.op (OV.skip rfl rfl ?_)
        refine RV.op (OV.skip rfl rfl ?_)
        refine RV.op (OV.skip rfl rfl ?_)
        refine RV.op (OV.step gno (Step.pick_t rfl rfl) rfl ?_)
        refine RV.nil ?_
        refine KV.then_n ?_
        refine KV.env [(0, _), (3, _), (41, _)] ⟨rfl, rfl, rfl, trivial⟩ ?_
        refine CV.cond_t rfl ?_
        refine CV.seq ?_
        -- region 5 perf.go:109
        refine CV.region ?_
        refine RV.op (OV.step gno (Step.assign rfl) rfl ?_)
        refine RV.op (OV.step gno (Step.assign rfl) rfl ?_)
        refine RV.nil ?_
        refine KV.then_n ?_
        refine KV.env [(4, _), (5, _)] ⟨rfl, rfl, trivial⟩ ?_
        refine CV.ret ?_
        refine KV.then_ret ?_
        -- return at r5
        refine KV.sel [] [] rfl ?_
        have hE : newE ys u d s = 1 := newE_bad (Decidable.not_not.1 hc) (by unfold badPr; omega)
        exact KV.ret2 rfl rfl rfl _ (fun _ h => h) ⟨fun h0 => absurd h0 (by rw [hE]; first | decide | exact hc), fun _ => ⟨by rw [hE], rfl⟩⟩
      · -- False
        refine RV.op (OV.step gno (Step.pick_f rfl rfl) rfl ?_)
        refine RV.op (OV.step gno (Step.move rfl) rfl ?_)
        refine RV.op (OV.step (gyes rfl) (Step.fieldAddr rfl (F45_1 _ _)) rfl ?_)
        (first | refine RV.op (OV.step (gyes rfl) (Step.load Try.underlying3 rfl rfl (fun w h => h.cell 0 rfl rfl)) rfl ?_) | refine RV.op (OV.step (gyes rfl) (Step.load Try.underlying3 rfl rfl (fun w h => (h.rs hr (fun _ => hI _)).cell (by omega) rfl)) rfl ?_) | refine RV.op (OV.step (gyes rfl) (Step.load Try.underlying3 rfl rfl (fun w h => (h.rs hr (fun _ => hI _)).cell0 (by omega) rfl)) rfl ?_))
        refine RV.op (OV.split (gyes rfl) (Step.lss rfl rfl) rfl (fun cc3 => ?_) (fun cc3 => ?_))
        · -- True
          refine RV.op (OV.step gno (Step.pick_f rfl rfl) rfl ?_)
          refine RV.op (OV.step gno (Step.move rfl) rfl ?_)
          refine RV.op (OV.skip rfl rfl ?_)
          refine RV.op (OV.skip rfl rfl ?_)
          refine RV.op (OV.skip rfl rfl ?_)
          refine RV.op (OV.skip rfl rfl ?_)
          refine RV.op (OV.skip rfl rfl ?_)
          refine RV.op (OV.step gno (Step.pick_t rfl rfl) rfl ?_)
          refine RV.op (OV.step gno (Step.move rfl) rfl ?_)
          refine RV.op (OV.skip rfl rfl ?_)
          refine RV.op (OV.skip rfl rfl ?_)
          refine RV.op (OV.skip rfl rfl ?_)
          refine RV.op (OV.step gno (Step.pick_t rfl rfl) rfl ?_)
          refine RV.op (OV.step gno (Step.move rfl) rfl ?_)
          refine RV.op (OV.skip rfl rfl ?_)
          refine RV.op (OV.skip rfl rfl ?_)
          refine RV.op (OV.skip rfl rfl ?_)
          refine RV.op (OV.step gno (Step.pick_t rfl rfl) rfl ?_)
          refine RV.nil ?_
          refine KV.then_n ?_
          refine KV.env [(0, _), (3, _), (41, _)] ⟨rfl, rfl, rfl, trivial⟩ ?_
          refine CV.cond_t rfl ?_
          refine CV.seq ?_
          -- region 5 perf.go:109
          refine CV.region ?_
          refine RV.op (OV.step gno (Step.assign rfl) rfl ?_)
          refine RV.op (OV.step gno (Step.assign rfl) rfl ?_)
          refine RV.nil ?_
          refine KV.then_n ?_
          refine KV.env [(4, _), (5, _)] ⟨rfl, rfl, trivial⟩ ?_
          refine CV.ret ?_
          refine KV.then_ret ?_
          -- return at r5
          refine KV.sel [] [] rfl ?_
          have hE : newE ys u d s = 1 := newE_bad (Decidable.not_not.1 hc) (by unfold badPr; omega)
          exact KV.ret2 rfl rfl rfl _ (fun _ h => h) ⟨fun h0 => absurd h0 (by rw [hE]; first | decide | exact hc), fun _ => ⟨by rw [hE], rfl⟩⟩
        · -- False
          refine RV.op (OV.step gno (Step.pick_f rfl rfl) rfl ?_)
          refine RV.op (OV.step gno (Step.move rfl) rfl ?_)
          refine RV.op (OV.step (gyes rfl) (Step.fieldAddr rfl (F45_1 _ _)) rfl ?_)
          (first | refine RV.op (OV.step (gyes rfl) (Step.load Try.underlying3 rfl rfl (fun w h => h.cell 0 rfl rfl)) rfl ?_) | refine RV.op (OV.step (gyes rfl) (Step.load Try.underlying3 rfl rfl (fun w h => (h.rs hr (fun _ => hI _)).cell (by omega) rfl)) rfl ?_) | refine RV.op (OV.step (gyes rfl) (Step.load Try.underlying3 rfl rfl (fun w h => (h.rs hr (fun _ => hI _)).cell0 (by omega) rfl)) rfl ?_))
          refine RV.op (OV.step (gyes rfl) (Step.fieldAddr rfl (F45_0 _ _)) rfl ?_)
          (first | refine RV.op (OV.step (gyes rfl) (Step.load Try.underlying3 rfl rfl (fun w h => h.cell 0 rfl rfl)) rfl ?_) | refine RV.op (OV.step (gyes rfl) (Step.load Try.underlying3 rfl rfl (fun w h => (h.rs hr (fun _ => hI _)).cell (by omega) rfl)) rfl ?_) | refine RV.op (OV.step (gyes rfl) (Step.load Try.underlying3 rfl rfl (fun w h => (h.rs hr (fun _ => hI _)).cell0 (by omega) rfl)) rfl ?_))
          refine RV.op (OV.split (gyes rfl) (Step.geq rfl rfl) rfl (fun cc4 => ?_) (fun cc4 => ?_))
          · -- True
            refine RV.op (OV.step gno (Step.pick_f rfl rfl) rfl ?_)
            refine RV.op (OV.step gno (Step.move rfl) rfl ?_)
            refine RV.op (OV.skip rfl rfl ?_)
            refine RV.op (OV.skip rfl rfl ?_)
            refine RV.op (OV.skip rfl rfl ?_)
            refine RV.op (OV.step gno (Step.pick_t rfl rfl) rfl ?_)
            refine RV.op (OV.step gno (Step.move rfl) rfl ?_)
            refine RV.op (OV.skip rfl rfl ?_)
            refine RV.op (OV.skip rfl rfl ?_)
            refine RV.op (OV.skip rfl rfl ?_)
            refine RV.op (OV.step gno (Step.pick_t rfl rfl) rfl ?_)
            refine RV.nil ?_
            refine KV.then_n ?_
            refine KV.env [(0, _), (3, _), (41, _)] ⟨rfl, rfl, rfl, trivial⟩ ?_
            refine CV.cond_t rfl ?_
            refine CV.seq ?_
            -- region 5 perf.go:109
            refine CV.region ?_
            refine RV.op (OV.step gno (Step.assign rfl) rfl ?_)
            refine RV.op (OV.step gno (Step.assign rfl) rfl ?_)
            refine RV.nil ?_
            refine KV.then_n ?_
            refine KV.env [(4, _), (5, _)] ⟨rfl, rfl, trivial⟩ ?_
            refine CV.ret ?_
            refine KV.then_ret ?_
            -- return at r5
            refine KV.sel [] [] rfl ?_
            have hE : newE ys u d s = 1 := newE_bad (Decidable.not_not.1 hc) (by unfold badPr; omega)
            exact KV.ret2 rfl rfl rfl _ (fun _ h => h) ⟨fun h0 => absurd h0 (by rw [hE]; first | decide | exact hc), fun _ => ⟨by rw [hE], rfl⟩⟩
          · -- False
            refine RV.op (OV.step gno (Step.pick_f rfl rfl) rfl ?_)
            refine RV.op (OV.step gno (Step.move rfl) rfl ?_)
            refine RV.op (OV.step (gyes rfl) (Step.fieldAddr rfl (F45_2 _ _)) rfl ?_)
            (first | refine RV.op (OV.step (gyes rfl) (Step.load Try.underlying3 rfl rfl (fun w h => h.cell 0 rfl rfl)) rfl ?_) | refine RV.op (OV.step (gyes rfl) (Step.load Try.underlying3 rfl rfl (fun w h => (h.rs hr (fun _ => hI _)).cell (by omega) rfl)) rfl ?_) | refine RV.op (OV.step (gyes rfl) (Step.load Try.underlying3 rfl rfl (fun w h => (h.rs hr (fun _ => hI _)).cell0 (by omega) rfl)) rfl ?_))
            refine RV.op (OV.split (gyes rfl) (Step.lss rfl rfl) rfl (fun cc5 => ?_) (fun cc5 => ?_))
            · -- True
              refine RV.op (OV.step gno (Step.pick_f rfl rfl) rfl ?_)
              refine RV.op (OV.step gno (Step.move rfl) rfl ?_)
              refine RV.op (OV.skip rfl rfl ?_)
              refine RV.op (OV.skip rfl rfl ?_)
              refine RV.op (OV.skip rfl rfl ?_)
              refine RV.op (OV.step gno (Step.pick_t rfl rfl) rfl ?_)
              refine RV.nil ?_
              refine KV.then_n ?_
              refine KV.env [(0, _), (3, _), (41, _)] ⟨rfl, rfl, rfl, trivial⟩ ?_
              refine CV.cond_t rfl ?_
              refine CV.seq ?_
              -- region 5 perf.go:109
              refine CV.region ?_
              refine RV.op (OV.step gno (Step.assign rfl) rfl ?_)
              refine RV.op (OV.step gno (Step.assign rfl) rfl ?_)
              refine RV.nil ?_
              refine KV.then_n ?_
              refine KV.env [(4, _), (5, _)] ⟨rfl, rfl, trivial⟩ ?_
              refine CV.ret ?_
              refine KV.then_ret ?_
              -- return at r5
              refine KV.sel [] [] rfl ?_
              have hE : newE ys u d s = 1 := newE_bad (Decidable.not_not.1 hc) (by unfold badPr; omega)
              exact KV.ret2 rfl rfl rfl _ (fun _ h => h) ⟨fun h0 => absurd h0 (by rw [hE]; first | decide | exact hc), fun _ => ⟨by rw [hE], rfl⟩⟩
            · -- False
              refine RV.op (OV.step gno (Step.pick_f rfl rfl) rfl ?_)
              refine RV.op (OV.step gno (Step.move rfl) rfl ?_)
              refine RV.op (OV.step (gyes rfl) (Step.fieldAddr rfl (F45_2 _ _)) rfl ?_)
              (first | refine RV.op (OV.step (gyes rfl) (Step.load Try.underlying3 rfl rfl (fun w h => h.cell 0 rfl rfl)) rfl ?_) | refine RV.op (OV.step (gyes rfl) (Step.load Try.underlying3 rfl rfl (fun w h => (h.rs hr (fun _ => hI _)).cell (by omega) rfl)) rfl ?_) | refine RV.op (OV.step (gyes rfl) (Step.load Try.underlying3 rfl rfl (fun w h => (h.rs hr (fun _ => hI _)).cell0 (by omega) rfl)) rfl ?_))
              refine RV.op (OV.split (gyes rfl) (Step.gtr rfl rfl) rfl (fun cc6 => ?_) (fun cc6 => ?_))
              · -- True
                refine RV.op (OV.step gno (Step.pick_f rfl rfl) rfl ?_)
                refine RV.nil ?_
                refine KV.then_n ?_
                refine KV.env [(0, _), (3, _), (41, _)] ⟨rfl, rfl, rfl, trivial⟩ ?_
                refine CV.cond_t rfl ?_
                refine CV.seq ?_
                -- region 5 perf.go:109
                refine CV.region ?_
                refine RV.op (OV.step gno (Step.assign rfl) rfl ?_)
                refine RV.op (OV.step gno (Step.assign rfl) rfl ?_)
                refine RV.nil ?_
                refine KV.then_n ?_
                refine KV.env [(4, _), (5, _)] ⟨rfl, rfl, trivial⟩ ?_
                refine CV.ret ?_
                refine KV.then_ret ?_
                -- return at r5
                refine KV.sel [] [] rfl ?_
                have hE : newE ys u d s = 1 := newE_bad (Decidable.not_not.1 hc) (by unfold badPr; omega)
                exact KV.ret2 rfl rfl rfl _ (fun _ h => h) ⟨fun h0 => absurd h0 (by rw [hE]; first | decide | exact hc), fun _ => ⟨by rw [hE], rfl⟩⟩
              · -- False
                refine RV.op (OV.step gno (Step.pick_f rfl rfl) rfl ?_)
                refine RV.nil ?_
                refine KV.then_n ?_
                refine KV.env [(0, _), (3, _), (41, _)] ⟨rfl, rfl, rfl, trivial⟩ ?_
                refine CV.cond_f rfl ?_
                refine CV.skip ?_
                refine KV.then_n ?_
                refine KV.env [(0, _), (3, _)] ⟨rfl, rfl, trivial⟩ ?_
                refine CV.seq ?_
                -- region 6 perf.go:111
                have hpos := (okT_of (Decidable.not_not.1 hc)).1
                have hlen : ((ys.length - 1 : Nat) : Int) = (ys.length : Int) - 1 := by omega
                refine CV.any (Hp I w [Blk b0_0 (.cells #[.int .i64 u, .int .i64 d, .int .i64 s] 45 (0, 0))]) (by kernel_rfl) (fun _ h => h.drew) 10 rfl ?_
                refine AV.take 0 #[true, false, false, false, false, false, false, false, false, false] rfl (by kernel_rfl) (by kernel_rfl) (by kernel_rfl) (fun _ _ _ h => h) gno (Step.move rfl) rfl (fun _ h => h.sel [0] rfl) (by kernel_rfl) ?_
                refine AV.take 2 #[true, false, true, false, false, false, false, false, false, false] rfl (by kernel_rfl) (by kernel_rfl) (by kernel_rfl) (fun _ _ _ h => h) gno (Step.loadN _ Try.underlying45 rfl I45 rfl rfl (fun w h => h.cells 0 rfl)) rfl (fun _ h => h.sel [0] rfl) (by kernel_rfl) ?_
                refine AV.take 3 #[true, false, true, true, false, false, false, false, false, false] rfl (by kernel_rfl) (by kernel_rfl) (by kernel_rfl) (fun _ _ _ h => h) gno (Step.move rfl) rfl (fun _ h => h.sel [0] rfl) (by kernel_rfl) ?_
                refine AV.take 4 #[true, false, true, true, true, false, false, false, false, false] rfl (by kernel_rfl) (by kernel_rfl) (by kernel_rfl) (fun _ _ _ h => h) gno (Step.lenSl Try.underlying22 rfl) rfl (fun _ h => h.sel [0] rfl) (by kernel_rfl) ?_
                (first | refine AV.take 5 #[true, false, true, true, true, true, false, false, false, false] rfl (by kernel_rfl) (by kernel_rfl) (by kernel_rfl) (fun _ _ _ h => h) gno (Step.sub rfl rfl (wI64 (by omega) (by omega))) rfl (fun _ h => h.sel [0] rfl) (by kernel_rfl) ?_ | refine AV.take 5 #[true, false, true, true, true, true, false, false, false, false] rfl (by kernel_rfl) (by kernel_rfl) (by kernel_rfl) (fun _ _ _ h => h) gno (Step.sub rfl rfl rfl) rfl (fun _ h => h.sel [0] rfl) (by kernel_rfl) ?_)
                refine AV.all [1] (by kernel_rfl) (by decide) ?_
                refine ⟨⟨_, rfl, ?_⟩, trivial⟩
                · -- 1 comes up
                  refine OV.call [] (F := [_]) Try.func37 B37 N37 rfl rfl (fun w h => clone_fn (h.rs hr (fun _ => hI _)) rfl hl (fun e => by have hfm := hr.form (m := 0) (by omega); rw [e] at hfm; cases hfm)) (fun _ hb => hb.elim) gno rfl (fun v L' hp => ?_)
                  obtain ⟨A2, c2, rfl, rfl⟩ := hp
                  refine AV.next #[true, true, true, true, true, true, false, false, false, false] (by kernel_rfl) (fun _ h => h.sel [0] rfl) ?_
                  refine AV.take 6 #[true, true, true, true, true, true, true, false, false, false] rfl (by kernel_rfl) (by kernel_rfl) (by kernel_rfl) (fun _ _ _ h => h) gno (Step.build rfl (Bd66_0_1_3 _ _ _ _ _ _ _)) rfl (fun _ h => h.sel [0] rfl) (by kernel_rfl) ?_
                  refine AV.all [7] (by kernel_rfl) (by decide) ?_
                  refine ⟨⟨_, rfl, ?_⟩, trivial⟩
                  · -- 7 comes up
                    refine OV.box (t := 66) #[_, _, _, _, _, _, _, _] rfl rfl gno rfl (fun b6_7 => ?_)
                    refine AV.next #[true, true, true, true, true, true, true, true, false, false] (by kernel_rfl) (fun _ h => h.sel [0] rfl) ?_
                    refine AV.take 8 #[true, true, true, true, true, true, true, true, true, false] rfl (by kernel_rfl) (by kernel_rfl) (by kernel_rfl) (fun _ _ _ h => h) gno (Step.assign rfl) rfl (fun _ h => h.sel [0] rfl) (by kernel_rfl) ?_
                    refine AV.take 9 #[true, true, true, true, true, true, true, true, true, true] rfl (by kernel_rfl) (by kernel_rfl) (by kernel_rfl) (fun _ _ _ h => h) gno (Step.assign rfl) rfl (fun _ h => h.sel [0] rfl) (by kernel_rfl) ?_
                    refine AV.done (by kernel_rfl) ?_
                    refine KV.then_n ?_
                    refine KV.env [(4, _), (5, _)] ⟨rfl, rfl, trivial⟩ ?_
                    refine CV.ret ?_
                    -- return at r6
                    refine KV.sel [2, 1] [_, _] rfl ?_
                    have hE : newE ys u d s = 0 := newE_ok (Decidable.not_not.1 hc) (by unfold badPr; omega)
                    exact KV.ret2 rfl rfl rfl _ (fun _ h => h) ⟨fun _ => ⟨_, _, _, rfl, by rw [gobj, gov0]; simp only [hlen]; rfl⟩, fun h0 => absurd hE h0⟩

set_option maxRecDepth 100000 in
set_option maxHeartbeats 1000000 in
theorem newR_fn {A : Option Addr} {n c : Nat} {ys : List Pt} {w : World} (hr : RS w ptK A ys) (hn : n = ys.length) (hl : ys.length ≤ 1000000) (u d s : Int) : Fx Try.prog 28 [.slice A n c, .agg #[.int .i64 u, .int .i64 d, .int .i64 s]] w [] no (fun v L => (newE ys u d s = 0 → ∃ b A2 c2, v = .tuple #[.pointer (some ⟨b, 0, none⟩), .int .i64 0] ∧ L = gobj 69 b A2 c2 (gov0 ys u d s)) ∧ (newE ys u d s ≠ 0 → v = .tuple #[.pointer none, .int .i64 (newE ys u d s)] ∧ L = [])) := by
  subst hn
  refine Sv.Fx.body Try.func28 rfl T28 rfl ?_
  intro I hro hI
  refine KV.env [(0, _), (1, _)] ⟨rfl, rfl, trivial⟩ ?_
  refine CV.seq ?_
  -- region 0 ref.go:90
  refine CV.region ?_
  refine RV.op (OV.box (t := 45) #[_, _, _] rfl rfl gno rfl (fun b0_0 => ?_))
  refine RV.op (OV.step gno (Step.assign rfl) rfl ?_)
  refine RV.op (OV.step gno (Step.assign rfl) rfl ?_)
  refine RV.nil ?_
  refine KV.then_n ?_
  refine KV.env [(0, _), (3, _)] ⟨rfl, rfl, trivial⟩ ?_
  refine CV.seq ?_
  refine CV.seq ?_
  -- region 1 ref.go:91
  refine CV.region ?_
  refine RV.op (OV.step gno (Step.move rfl) rfl ?_)
  refine RV.op (OV.call [] (F := [_]) Try.func18 B18 N18 rfl rfl (fun w h => checkR_fn (h.rs hr (fun _ => hI _)) rfl hl) (fun _ hb => hb.elim) gno rfl (fun v L' hp => ?_))
  obtain ⟨rfl, rfl⟩ := hp
  simp only [List.append_nil]
  refine RV.op (OV.step gno (Step.assign rfl) rfl ?_)
  refine RV.nil ?_
  refine KV.then_n ?_
  refine KV.env [(0, _), (3, _), (6, _)] ⟨rfl, rfl, rfl, trivial⟩ ?_
  refine CV.seq ?_
  -- region 2 ref.go:91
  refine CV.region ?_
  refine RV.op (OV.step gno (Step.move rfl) rfl ?_)
  refine RV.op (OV.split gno (Step.neq rfl rfl) rfl (fun hc => ?_) (fun hc => ?_))
  · -- True
    refine RV.nil ?_
    refine KV.then_n ?_
    refine KV.env [(0, _), (3, _), (6, _), (10, _)] ⟨rfl, rfl, rfl, rfl, trivial⟩ ?_
    refine CV.cond_t rfl ?_
    refine CV.seq ?_
    -- region 3 ref.go:92
    refine CV.region ?_
    refine RV.op (OV.step gno (Step.move rfl) rfl ?_)
    refine RV.op (OV.step gno (Step.assign rfl) rfl ?_)
    refine RV.op (OV.step gno (Step.assign rfl) rfl ?_)
    refine RV.nil ?_
    refine KV.then_n ?_
    refine KV.env [(4, _), (5, _)] ⟨rfl, rfl, trivial⟩ ?_
    refine CV.ret ?_
    refine KV.then_ret ?_
    -- return at r3
    refine KV.sel [] [] rfl ?_
    have hE : newE ys u d s = chkM ys := newE_chk hc
    exact KV.ret2 rfl rfl rfl _ (fun _ h => h) ⟨fun h0 => absurd h0 (by rw [hE]; first | decide | exact hc), fun _ => ⟨by rw [hE], rfl⟩⟩
  · -- False
    refine RV.nil ?_
    refine KV.then_n ?_
    refine KV.env [(0, _), (3, _), (6, _), (10, _)] ⟨rfl, rfl, rfl, rfl, trivial⟩ ?_
    refine CV.cond_f rfl ?_
    refine CV.skip ?_
    refine KV.then_n ?_
    refine KV.env [(0, _), (3, _)] ⟨rfl, rfl, trivial⟩ ?_
    refine CV.seq ?_
    refine CV.seq ?_
    -- region 4 ref.go:94
    refine CV.region ?_
    refine RV.op (OV.step gno (Step.fieldAddr rfl (F45_0 _ _)) rfl ?_)
    (first | refine RV.op (OV.step gno (Step.load Try.underlying3 rfl rfl (fun w h => h.cell 0 rfl rfl)) rfl ?_) | refine RV.op (OV.step gno (Step.load Try.underlying3 rfl rfl (fun w h => (h.rs hr (fun _ => hI _)).cell (by omega) rfl)) rfl ?_) | refine RV.op (OV.step gno (Step.load Try.underlying3 rfl rfl (fun w h => (h.rs hr (fun _ => hI _)).cell0 (by omega) rfl)) rfl ?_))
    refine RV.op (OV.split gno (Step.lss rfl rfl) rfl (fun cc1 => ?_) (fun cc1 => ?_))
    · -- True
      refine RV.op (OV.step gno (Step.move rfl) rfl ?_)
      refine RV.op (OV.skip rfl rfl ?_)
      refine RV.op (OV.skip rfl rfl ?_)
      refine RV.op (OV.skip rfl rfl ?_)
      refine RV.op (OV.step gno (Step.pick_t rfl rfl) rfl ?_)
      refine RV.op (OV.step gno (Step.move rfl) rfl ?_)
      refine RV.op (OV.skip rfl rfl ?_)
      refine RV.op (OV.skip rfl rfl ?_)
      refine RV.op (OV.skip rfl rfl ?_)
      refine RV.op (OV.step gno (Step.pick_t rfl rfl) rfl ?_)
      refine RV.op (OV.step gno (Step.move rfl) rfl ?_)
      refine RV.op (OV.skip rfl rfl ?_)
      refine RV.op (OV.skip rfl rfl ?_)
      refine RV.op (OV.skip rfl rfl ?_)
      refine RV.op (OV.skip rfl rfl ?_)
      refine RV.op (OV.skip rfl rfl ?_)
      refine RV.op (OV.step gno (Step.pick_t rfl rfl) rfl ?_)
      refine RV.op (OV.step gno (Step.move rfl) rfl ?_)
      refine RV.op (OV.skip rfl rfl ?_)
      refine RV.op (OV.skip rfl rfl ?_)
      refine RV.op (OV.skip rfl rfl ?_)
      refine RV.op (OV.step gno (Step.pick_t rfl rfl) rfl ?_)
      refine RV.op (OV.step gno (Step.move rfl) rfl ?_)
      refine RV.op (OV.skip rfl rfl ?_)
      refine RV.op (OV.skip rfl rfl ?_)
      refine RV.op (OV.skip rfl rfl ?_)
      refine RV.op (OV.step gno (Step.pick_t rfl rfl) rfl ?_)
      refine RV.nil ?_
      refine KV.then_n ?_
      refine KV.env [(0, _), (3, _), (41, _)] ⟨rfl, rfl, rfl, trivial⟩ ?_
      refine CV.cond_t rfl ?_
      refine CV.seq ?_
      -- region 5 ref.go:95
      refine CV.region ?_
      refine RV.op (OV.step gno (Step.assign rfl) rfl ?_)
      refine RV.op (OV.step gno (Step.assign rfl) rfl ?_)
      refine RV.nil ?_
      refine KV.then_n ?_
      refine KV.env [(4, _), (5, _)] ⟨rfl, rfl, trivial⟩ ?_
      refine CV.ret ?_
      refine KV.then_ret ?_
      -- return at r5
      refine KV.sel [] [] rfl ?_
      have hE : newE ys u d s = 1 := newE_bad (Decidable.not_not.1 hc) (by unfold badPr; omega)
      exact KV.ret2 rfl rfl rfl _ (fun _ h => h) ⟨fun h0 => absurd h0 (by rw [hE]; first | decide | exact hc), fun _ => ⟨by rw [hE], rfl⟩⟩
    · -- False
      refine RV.op (OV.step gno (Step.move rfl) rfl ?_)
      refine RV.op (OV.step (gyes rfl) (Step.fieldAddr rfl (F45_0 _ _)) rfl ?_)
      (first | refine RV.op (OV.step (gyes rfl) (Step.load Try.underlying3 rfl rfl (fun w h => h.cell 0 rfl rfl)) rfl ?_) | refine RV.op (OV.step (gyes rfl) (Step.load Try.underlying3 rfl rfl (fun w h => (h.rs hr (fun _ => hI _)).cell (by omega) rfl)) rfl ?_) | refine RV.op (OV.step (gyes rfl) (Step.load Try.underlying3 rfl rfl (fun w h => (h.rs hr (fun _ => hI _)).cell0 (by omega) rfl)) rfl ?_))
      refine RV.op (OV.split (gyes rfl) (Step.gtr rfl rfl) rfl (fun cc2 => ?_) (fun cc2 => ?_))
      · -- True
        refine RV.op (OV.step gno (Step.pick_f rfl rfl) rfl ?_)
        refine RV.op (OV.step gno (Step.move rfl) rfl ?_)
        refine RV.op (OV.skip rfl rfl ?_)
        refine RV.op (OV.skip rfl rfl ?_)
        refine RV.op (OV.skip rfl rfl ?_)
        refine RV.op (OV.step gno (Step.pick_t rfl rfl) rfl ?_)
        refine RV.op (OV.step gno (Step.move rfl) rfl ?_)
        refine RV.op (OV.skip rfl rfl ?_)
        refine RV.op (OV.skip rfl rfl ?_)
        refine RV.op (OV.skip rfl rfl ?_)
        refine RV.op (OV.skip rfl rfl ?_)
        refine RV.op (OV.skip rfl rfl ?_)
        refine RV.op (OV.step gno (Step.pick_t rfl rfl) rfl ?_)
        refine RV.op (OV.step gno (Step.move rfl) rfl ?_)
        refine RV.op (OV.skip rfl rfl ?_)
        refine RV.op (OV.skip rfl rfl ?_)
        refine RV.op (OV.skip rfl rfl ?_)
        refine RV.op (OV.step gno (Step.pick_t rfl rfl) rfl ?_)
        refine RV.op (OV.step gno (Step.move rfl) rfl ?_)
        refine RV.op (OV.skip rfl rfl ?_)
        refine RV.op (OV.skip rfl rfl ?_)
        refine RV.op (OV.skip rfl rfl ?_)
        refine RV.op (OV.step gno (Step.pick_t rfl rfl) rfl ?_)
        refine RV.nil ?_
        refine KV.then_n ?_
        refine KV.env [(0, _), (3, _), (41, _)] ⟨rfl, rfl, rfl, trivial⟩ ?_
        refine CV.cond_t rfl ?_
        refine CV.seq ?_
        -- region 5 ref.go:95
        refine CV.region ?_
        refine RV.op (OV.step gno (Step.assign rfl) rfl ?_)
        refine RV.op (OV.step gno (Step.assign rfl) rfl ?_)
        refine RV.nil ?_
        refine KV.then_n ?_
        refine KV.env [(4, _), (5, _)] ⟨rfl, rfl, trivial⟩ ?_
        refine CV.ret ?_
        refine KV.then_ret ?_
        -- return at r5
        refine KV.sel [] [] rfl ?_
        have hE : newE ys u d s = 1 := newE_bad (Decidable.not_not.1 hc) (by unfold badPr; omega)
        exact KV.ret2 rfl rfl rfl _ (fun _ h => h) ⟨fun h0 => absurd h0 (by rw [hE]; first | decide | exact hc), fun _ => ⟨by rw [hE], rfl⟩⟩
      · -- False
        refine RV.op (OV.step gno (Step.pick_f rfl rfl) rfl ?_)
        refine RV.op (OV.step gno (Step.move rfl) rfl ?_)
        refine RV.op (OV.step (gyes rfl) (Step.fieldAddr rfl (F45_1 _ _)) rfl ?_)
        (first | refine RV.op (OV.step (gyes rfl) (Step.load Try.underlying3 rfl rfl (fun w h => h.cell 0 rfl rfl)) rfl ?_) | refine RV.op (OV.step (gyes rfl) (Step.load Try.underlying3 rfl rfl (fun w h => (h.rs hr (fun _ => hI _)).cell (by omega) rfl)) rfl ?_) | refine RV.op (OV.step (gyes rfl) (Step.load Try.underlying3 rfl rfl (fun w h => (h.rs hr (fun _ => hI _)).cell0 (by omega) rfl)) rfl ?_))
        refine RV.op (OV.split (gyes rfl) (Step.lss rfl rfl) rfl (fun cc3 => ?_) (fun cc3 => ?_))
        · -- True
          refine RV.op (OV.step gno (Step.pick_f rfl rfl) rfl ?_)
          refine RV.op (OV.step gno (Step.move rfl) rfl ?_)
          refine RV.op (OV.skip rfl rfl ?_)
          refine RV.op (OV.skip rfl rfl ?_)
          refine RV.op (OV.skip rfl rfl ?_)
          refine RV.op (OV.skip rfl rfl ?_)
          refine RV.op (OV.skip rfl rfl ?_)
          refine RV.op (OV.step gno (Step.pick_t rfl rfl) rfl ?_)
          refine RV.op (OV.step gno (Step.move rfl) rfl ?_)
          refine RV.op (OV.skip rfl rfl ?_)
          refine RV.op (OV.skip rfl rfl ?_)
          refine RV.op (OV.skip rfl rfl ?_)
          refine RV.op (OV.step gno (Step.pick_t rfl rfl) rfl ?_)
          refine RV.op (OV.step gno (Step.move rfl) rfl ?_)
          refine RV.op (OV.skip rfl rfl ?_)
          refine RV.op (OV.skip rfl rfl ?_)
          refine RV.op (OV.skip rfl rfl ?_)
          refine RV.op (OV.step gno (Step.pick_t rfl rfl) rfl ?_)
          refine RV.nil ?_
          refine KV.then_n ?_
          refine KV.env [(0, _), (3, _), (41, _)] ⟨rfl, rfl, rfl, trivial⟩ ?_
          refine CV.cond_t rfl ?_
          refine CV.seq ?_
          -- region 5 ref.go:95
          refine CV.region ?_
          refine RV.op (OV.step gno (Step.assign rfl) rfl ?_)
          refine RV.op (OV.step gno (Step.assign rfl) rfl ?_)
          refine RV.nil ?_
          refine KV.then_n ?_
          refine KV.env [(4, _), (5, _)] ⟨rfl, rfl, trivial⟩ ?_
          refine CV.ret ?_
          refine KV.then_ret ?_
          -- return at r5
          refine KV.sel [] [] rfl ?_
          have hE : newE ys u d s = 1 := newE_bad (Decidable.not_not.1 hc) (by unfold badPr; omega)
          exact KV.ret2 rfl rfl rfl _ (fun _ h => h) ⟨fun h0 => absurd h0 (by rw [hE]; first | decide | exact hc), fun _ => ⟨by rw [hE], rfl⟩⟩
        · -- False
          refine RV.op (OV.step gno (Step.pick_f rfl rfl) rfl ?_)
          refine RV.op (OV.step gno (Step.move rfl) rfl ?_)
          refine RV.op (OV.step (gyes rfl) (Step.fieldAddr rfl (F45_1 _ _)) rfl ?_)
          (first | refine RV.op (OV.step (gyes rfl) (Step.load Try.underlying3 rfl rfl (fun w h => h.cell 0 rfl rfl)) rfl ?_) | refine RV.op (OV.step (gyes rfl) (Step.load Try.underlying3 rfl rfl (fun w h => (h.rs hr (fun _ => hI _)).cell (by omega) rfl)) rfl ?_) | refine RV.op (OV.step (gyes rfl) (Step.load Try.underlying3 rfl rfl (fun w h => (h.rs hr (fun _ => hI _)).cell0 (by omega) rfl)) rfl ?_))
          refine RV.op (OV.step (gyes rfl) (Step.fieldAddr rfl (F45_0 _ _)) rfl ?_)
          (first | refine RV.op (OV.step (gyes rfl) (Step.load Try.underlying3 rfl rfl (fun w h => h.cell 0 rfl rfl)) rfl ?_) | refine RV.op (OV.step (gyes rfl) (Step.load Try.underlying3 rfl rfl (fun w h => (h.rs hr (fun _ => hI _)).cell (by omega) rfl)) rfl ?_) | refine RV.op (OV.step (gyes rfl) (Step.load Try.underlying3 rfl rfl (fun w h => (h.rs hr (fun _ => hI _)).cell0 (by omega) rfl)) rfl ?_))
          refine RV.op (OV.split (gyes rfl) (Step.geq rfl rfl) rfl (fun cc4 => ?_) (fun cc4 => ?_))
          · -- True
            refine RV.op (OV.step gno (Step.pick_f rfl rfl) rfl ?_)
            refine RV.op (OV.step gno (Step.move rfl) rfl ?_)
            refine RV.op (OV.skip rfl rfl ?_)
            refine RV.op (OV.skip rfl rfl ?_)
            refine RV.op (OV.skip rfl rfl ?_)
            refine RV.op (OV.step gno (Step.pick_t rfl rfl) rfl ?_)
            refine RV.op (OV.step gno (Step.move rfl) rfl ?_)
            refine RV.op (OV.skip rfl rfl ?_)
            refine RV.op (OV.skip rfl rfl ?_)
            refine RV.op (OV.skip rfl rfl ?_)
            refine RV.op (OV.step gno (Step.pick_t rfl rfl) rfl ?_)
            refine RV.nil ?_
            refine KV.then_n ?_
            refine KV.env [(0, _), (3, _), (41, _)] ⟨rfl, rfl, rfl, trivial⟩ ?_
            refine CV.cond_t rfl ?_
            refine CV.seq ?_
            -- region 5 ref.go:95
            refine CV.region ?_
            refine RV.op (OV.step gno (Step.assign rfl) rfl ?_)
            refine RV.op (OV.step gno (Step.assign rfl) rfl ?_)
            refine RV.nil ?_
            refine KV.then_n ?_
            refine KV.env [(4, _), (5, _)] ⟨rfl, rfl, trivial⟩ ?_
            refine CV.ret ?_
            refine KV.then_ret ?_
            -- return at r5
            refine KV.sel [] [] rfl ?_
            have hE : newE ys u d s = 1 := newE_bad (Decidable.not_not.1 hc) (by unfold badPr; omega)
            exact KV.ret2 rfl rfl rfl _ (fun _ h => h) ⟨fun h0 => absurd h0 (by rw [hE]; first | decide | exact hc), fun _ => ⟨by rw [hE], rfl⟩⟩
          · -- False
            refine RV.op (OV.step gno (Step.pick_f rfl rfl) rfl ?_)
            refine RV.op (OV.step gno (Step.move rfl) rfl ?_)
            refine RV.op (OV.step (gyes rfl) (Step.fieldAddr rfl (F45_2 _ _)) rfl ?_)
            (first | refine RV.op (OV.step (gyes rfl) (Step.load Try.underlying3 rfl rfl (fun w h => h.cell 0 rfl rfl)) rfl ?_) | refine RV.op (OV.step (gyes rfl) (Step.load Try.underlying3 rfl rfl (fun w h => (h.rs hr (fun _ => hI _)).cell (by omega) rfl)) rfl ?_) | refine RV.op (OV.step (gyes rfl) (Step.load Try.underlying3 rfl rfl (fun w h => (h.rs hr (fun _ => hI _)).cell0 (by omega) rfl)) rfl ?_))
            refine RV.op (OV.split (gyes rfl) (Step.lss rfl rfl) rfl (fun cc5 => ?_) (fun cc5 => ?_))
            · -- True
              refine RV.op (OV.step gno (Step.pick_f rfl rfl) rfl ?_)
              refine RV.op (OV.step gno (Step.move rfl) rfl ?_)
              refine RV.op (OV.skip rfl rfl ?_)
              refine RV.op (OV.skip rfl rfl ?_)
              refine RV.op (OV.skip rfl rfl ?_)
              refine RV.op (OV.step gno (Step.pick_t rfl rfl) rfl ?_)
              refine RV.nil ?_
              refine KV.then_n ?_
              refine KV.env [(0, _), (3, _), (41, _)] ⟨rfl, rfl, rfl, trivial⟩ ?_
              refine CV.cond_t rfl ?_
              refine CV.seq ?_
              -- region 5 ref.go:95
              refine CV.region ?_
              refine RV.op (OV.step gno (Step.assign rfl) rfl ?_)
              refine RV.op (OV.step gno (Step.assign rfl) rfl ?_)
              refine RV.nil ?_
              refine KV.then_n ?_
              refine KV.env [(4, _), (5, _)] ⟨rfl, rfl, trivial⟩ ?_
              refine CV.ret ?_
              refine KV.then_ret ?_
              -- return at r5
              refine KV.sel [] [] rfl ?_
              have hE : newE ys u d s = 1 := newE_bad (Decidable.not_not.1 hc) (by unfold badPr; omega)
              exact KV.ret2 rfl rfl rfl _ (fun _ h => h) ⟨fun h0 => absurd h0 (by rw [hE]; first | decide | exact hc), fun _ => ⟨by rw [hE], rfl⟩⟩
            · -- False
              refine RV.op (OV.step gno (Step.pick_f rfl rfl) rfl ?_)
              refine RV.op (OV.step gno (Step.move rfl) rfl ?_)
              refine RV.op (OV.step (gyes rfl) (Step.fieldAddr rfl (F45_2 _ _)) rfl ?_)
              (first | refine RV.op (OV.step (gyes rfl) (Step.load Try.underlying3 rfl rfl (fun w h => h.cell 0 rfl rfl)) rfl ?_) | refine RV.op (OV.step (gyes rfl) (Step.load Try.underlying3 rfl rfl (fun w h => (h.rs hr (fun _ => hI _)).cell (by omega) rfl)) rfl ?_) | refine RV.op (OV.step (gyes rfl) (Step.load Try.underlying3 rfl rfl (fun w h => (h.rs hr (fun _ => hI _)).cell0 (by omega) rfl)) rfl ?_))
              refine RV.op (OV.split (gyes rfl) (Step.gtr rfl rfl) rfl (fun cc6 => ?_) (fun cc6 => ?_))
              · -- True
                refine RV.op (OV.step gno (Step.pick_f rfl rfl) rfl ?_)
                refine RV.nil ?_
                refine KV.then_n ?_
                refine KV.env [(0, _), (3, _), (41, _)] ⟨rfl, rfl, rfl, trivial⟩ ?_
                refine CV.cond_t rfl ?_
                refine CV.seq ?_
                -- region 5 ref.go:95
                refine CV.region ?_
                refine RV.op (OV.step gno (Step.assign rfl) rfl ?_)
                refine RV.op (OV.step gno (Step.assign rfl) rfl ?_)
                refine RV.nil ?_
                refine KV.then_n ?_
                refine KV.env [(4, _), (5, _)] ⟨rfl, rfl, trivial⟩ ?_
                refine CV.ret ?_
                refine KV.then_ret ?_
                -- return at r5
                refine KV.sel [] [] rfl ?_
                have hE : newE ys u d s = 1 := newE_bad (Decidable.not_not.1 hc) (by unfold badPr; omega)
                exact KV.ret2 rfl rfl rfl _ (fun _ h => h) ⟨fun h0 => absurd h0 (by rw [hE]; first | decide | exact hc), fun _ => ⟨by rw [hE], rfl⟩⟩
              · -- False
                refine RV.op (OV.step gno (Step.pick_f rfl rfl) rfl ?_)
                refine RV.nil ?_
                refine KV.then_n ?_
                refine KV.env [(0, _), (3, _), (41, _)] ⟨rfl, rfl, rfl, trivial⟩ ?_
                refine CV.cond_f rfl ?_
                refine CV.skip ?_
                refine KV.then_n ?_
                refine KV.env [(0, _), (3, _)] ⟨rfl, rfl, trivial⟩ ?_
                refine CV.seq ?_
                -- region 6 ref.go:97
                have hpos := (okT_of (Decidable.not_not.1 hc)).1
                have hlen : ((ys.length - 1 : Nat) : Int) = (ys.length : Int) - 1 := by omega
                refine CV.any (Hp I w [Blk b0_0 (.cells #[.int .i64 u, .int .i64 d, .int .i64 s] 45 (0, 0))]) (by kernel_rfl) (fun _ h => h.drew) 11 rfl ?_
                refine AV.take 1 #[false, true, false, false, false, false, false, false, false, false, false] rfl (by kernel_rfl) (by kernel_rfl) (by kernel_rfl) (fun _ _ _ h => h) gno (Step.move rfl) rfl (fun _ h => h.sel [0] rfl) (by kernel_rfl) ?_
                refine AV.take 3 #[false, true, false, true, false, false, false, false, false, false, false] rfl (by kernel_rfl) (by kernel_rfl) (by kernel_rfl) (fun _ _ _ h => h) gno (Step.loadN _ Try.underlying45 rfl I45 rfl rfl (fun w h => h.cells 0 rfl)) rfl (fun _ h => h.sel [0] rfl) (by kernel_rfl) ?_
                refine AV.take 4 #[false, true, false, true, true, false, false, false, false, false, false] rfl (by kernel_rfl) (by kernel_rfl) (by kernel_rfl) (fun _ _ _ h => h) gno (Step.move rfl) rfl (fun _ h => h.sel [0] rfl) (by kernel_rfl) ?_
                refine AV.take 5 #[false, true, false, true, true, true, false, false, false, false, false] rfl (by kernel_rfl) (by kernel_rfl) (by kernel_rfl) (fun _ _ _ h => h) gno (Step.lenSl Try.underlying22 rfl) rfl (fun _ h => h.sel [0] rfl) (by kernel_rfl) ?_
                (first | refine AV.take 6 #[false, true, false, true, true, true, true, false, false, false, false] rfl (by kernel_rfl) (by kernel_rfl) (by kernel_rfl) (fun _ _ _ h => h) gno (Step.sub rfl rfl (wI64 (by omega) (by omega))) rfl (fun _ h => h.sel [0] rfl) (by kernel_rfl) ?_ | refine AV.take 6 #[false, true, false, true, true, true, true, false, false, false, false] rfl (by kernel_rfl) (by kernel_rfl) (by kernel_rfl) (fun _ _ _ h => h) gno (Step.sub rfl rfl rfl) rfl (fun _ h => h.sel [0] rfl) (by kernel_rfl) ?_)
                refine AV.all [0] (by kernel_rfl) (by decide) ?_
                refine ⟨⟨_, rfl, ?_⟩, trivial⟩
                · -- 0 comes up
                  refine OV.buildSlice (K := ptK) ([]) rfl (Bs22_0_) rfl rfl (by omega) gno rfl (fun b6_0 => ?_)
                  refine AV.next #[true, true, false, true, true, true, true, false, false, false, false] (by kernel_rfl) (fun _ h => h.sel [0] rfl) ?_
                  refine AV.all [2] (by kernel_rfl) (by decide) ?_
                  refine ⟨⟨_, rfl, ?_⟩, trivial⟩
                  · -- 2 comes up
                    refine OV.append 1 Try.underlying22 I25 rfl rfl rfl rfl rfl rfl (fun w h => h.rs hr (fun _ => hI _)) (by simp only [List.length_nil]; omega) (by simp only [List.length_nil]; omega) gno rfl (fun b6_2a b6_2c => ?_)
                    refine AV.next #[true, true, true, true, true, true, true, false, false, false, false] (by kernel_rfl) (fun _ h => h.sel [0] rfl) ?_
                    refine AV.take 7 #[true, true, true, true, true, true, true, true, false, false, false] rfl (by kernel_rfl) (by kernel_rfl) (by kernel_rfl) (fun _ _ _ h => h) gno (Step.build rfl (Bd69_0_1_3 _ _ _ _ _ _ _)) rfl (fun _ h => h.sel [0] rfl) (by kernel_rfl) ?_
                    refine AV.all [8] (by kernel_rfl) (by decide) ?_
                    refine ⟨⟨_, rfl, ?_⟩, trivial⟩
                    · -- 8 comes up
                      refine OV.box (t := 69) #[_, _, _, _, _, _, _, _] rfl rfl gno rfl (fun b6_8 => ?_)
                      refine AV.next #[true, true, true, true, true, true, true, true, true, false, false] (by kernel_rfl) (fun _ h => h.sel [0] rfl) ?_
                      refine AV.take 9 #[true, true, true, true, true, true, true, true, true, true, false] rfl (by kernel_rfl) (by kernel_rfl) (by kernel_rfl) (fun _ _ _ h => h) gno (Step.assign rfl) rfl (fun _ h => h.sel [0] rfl) (by kernel_rfl) ?_
                      refine AV.take 10 #[true, true, true, true, true, true, true, true, true, true, true] rfl (by kernel_rfl) (by kernel_rfl) (by kernel_rfl) (fun _ _ _ h => h) gno (Step.assign rfl) rfl (fun _ h => h.sel [0] rfl) (by kernel_rfl) ?_
                      refine AV.done (by kernel_rfl) ?_
                      refine KV.then_n ?_
                      refine KV.env [(4, _), (5, _)] ⟨rfl, rfl, trivial⟩ ?_
                      refine CV.ret ?_
                      -- return at r6
                      refine KV.sel [2, 1] [_, _] rfl ?_
                      have hE : newE ys u d s = 0 := newE_ok (Decidable.not_not.1 hc) (by unfold badPr; omega)
                      exact KV.ret2 rfl rfl rfl _ (fun _ h => h) ⟨fun _ => ⟨_, _, _, rfl, by rw [gobj, gov0]; simp only [hlen]; rfl⟩, fun h0 => absurd hE h0⟩

set_option maxRecDepth 100000 in
set_option maxHeartbeats 1000000 in
theorem current_fn (b : Nat) (A : Option Addr) (c : Nat) (g : Gov) {w : World} : Fx Try.prog 27 [.pointer (some ⟨b, 0, none⟩)] w (gobj 66 b A c g) no (fun v L => v = .int .i64 g.cu ∧ L = gobj 66 b A c g) := by
  refine Sv.Fx.body Try.func27 rfl T27 rfl ?_
  intro I hro hI
  refine KV.env [(0, _)] ⟨rfl, trivial⟩ ?_
  refine CV.seq ?_
  -- region 0 perf.go:158
  refine CV.region ?_
  refine RV.op (OV.step gno (Step.assign rfl) rfl ?_)
  refine RV.nil ?_
  refine KV.then_n ?_
  refine KV.env [(0, _)] ⟨rfl, trivial⟩ ?_
  refine CV.seq ?_
  -- region 1 perf.go:158
  refine CV.region ?_
  refine RV.op (OV.step gno (Step.move rfl) rfl ?_)
  refine RV.op (OV.step gno (Step.nilCheck rfl) rfl ?_)
  refine RV.op (OV.step gno (Step.fieldAddr rfl (F66_4 _ _)) rfl ?_)
  refine RV.op (OV.step gno (Step.load Try.underlying3 rfl rfl (fun w h => h.cell 0 rfl rfl)) rfl ?_)
  refine RV.op (OV.step gno (Step.assign rfl) rfl ?_)
  refine RV.nil ?_
  refine KV.then_n ?_
  refine KV.env [(2, _)] ⟨rfl, trivial⟩ ?_
  refine CV.ret ?_
  -- return at r1
  exact KV.ret1 rfl rfl _ (fun _ h => h) ⟨rfl, rfl⟩

set_option maxRecDepth 100000 in
set_option maxHeartbeats 1000000 in
theorem currentR_fn (b : Nat) (A : Option Addr) (c : Nat) (g : Gov) {w : World} : Fx Try.prog 32 [.pointer (some ⟨b, 0, none⟩)] w (gobj 69 b A c g) no (fun v L => v = .int .i64 g.cu ∧ L = gobj 69 b A c g) := by
  refine Sv.Fx.body Try.func32 rfl T32 rfl ?_
  intro I hro hI
  refine KV.env [(0, _)] ⟨rfl, trivial⟩ ?_
  refine CV.seq ?_
  -- region 0 ref.go:136
  refine CV.region ?_
  refine RV.op (OV.step gno (Step.assign rfl) rfl ?_)
  refine RV.nil ?_
  refine KV.then_n ?_
  refine KV.env [(0, _)] ⟨rfl, trivial⟩ ?_
  refine CV.seq ?_
  -- region 1 ref.go:136
  refine CV.region ?_
  refine RV.op (OV.step gno (Step.move rfl) rfl ?_)
  refine RV.op (OV.step gno (Step.nilCheck rfl) rfl ?_)
  refine RV.op (OV.step gno (Step.fieldAddr rfl (F69_4 _ _)) rfl ?_)
  refine RV.op (OV.step gno (Step.load Try.underlying3 rfl rfl (fun w h => h.cell 0 rfl rfl)) rfl ?_)
  refine RV.op (OV.step gno (Step.assign rfl) rfl ?_)
  refine RV.nil ?_
  refine KV.then_n ?_
  refine KV.env [(2, _)] ⟨rfl, trivial⟩ ?_
  refine CV.ret ?_
  -- return at r1
  exact KV.ret1 rfl rfl _ (fun _ h => h) ⟨rfl, rfl⟩

set_option maxRecDepth 100000 in
set_option maxHeartbeats 1000000 in
theorem limit_fn (b : Nat) (A : Option Addr) (c : Nat) (g : Gov) {w : World} (l h : Int) : Fx Try.prog 29 [.pointer (some ⟨b, 0, none⟩), .int .i64 l, .int .i64 h] w (gobj 66 b A c g) no (fun v L => v = .int .i64 (limE g l h) ∧ L = gobj 66 b A c (limG g l h)) := by
  refine Sv.Fx.body Try.func29 rfl T29 rfl ?_
  intro I hro hI
  refine KV.env [(0, _), (1, _), (2, _)] ⟨rfl, rfl, rfl, trivial⟩ ?_
  refine CV.seq ?_
  -- region 0 perf.go:115
  refine CV.region ?_
  refine RV.op (OV.step gno (Step.assign rfl) rfl ?_)
  refine RV.nil ?_
  refine KV.then_n ?_
  refine KV.env [(0, _), (1, _), (2, _)] ⟨rfl, rfl, rfl, trivial⟩ ?_
  refine CV.seq ?_
  refine CV.seq ?_
  -- region 1 perf.go:116
  refine CV.region ?_
  refine RV.op (OV.step gno (Step.move rfl) rfl ?_)
  refine RV.op (OV.split gno (Step.lss rfl rfl) rfl (fun cc1 => ?_) (fun cc1 => ?_))
  · -- True
    refine RV.op (OV.step gno (Step.move rfl) rfl ?_)
    refine RV.op (OV.skip rfl rfl ?_)
    refine RV.op (OV.skip rfl rfl ?_)
    refine RV.op (OV.skip rfl rfl ?_)
    refine RV.op (OV.step gno (Step.pick_t rfl rfl) rfl ?_)
    refine RV.op (OV.step gno (Step.move rfl) rfl ?_)
    refine RV.op (OV.skip rfl rfl ?_)
    refine RV.op (OV.skip rfl rfl ?_)
    refine RV.op (OV.skip rfl rfl ?_)
    refine RV.op (OV.skip rfl rfl ?_)
    refine RV.op (OV.skip rfl rfl ?_)
    refine RV.op (OV.skip rfl rfl ?_)
    refine RV.op (OV.skip rfl rfl ?_)
    refine RV.op (OV.step gno (Step.pick_t rfl rfl) rfl ?_)
    refine RV.nil ?_
    refine KV.then_n ?_
    refine KV.env [(0, _), (1, _), (2, _), (22, _)] ⟨rfl, rfl, rfl, rfl, trivial⟩ ?_
    refine CV.cond_t rfl ?_
    refine CV.seq ?_
    -- region 2 perf.go:117
    refine CV.region ?_
    refine RV.op (OV.step gno (Step.assign rfl) rfl ?_)
    refine RV.nil ?_
    refine KV.then_n ?_
    refine KV.env [(6, _)] ⟨rfl, trivial⟩ ?_
    refine CV.ret ?_
    refine KV.then_ret ?_
    -- return at r2
    exact KV.ret1 rfl rfl _ (fun _ h => h) ⟨by rw [limE, if_pos (by unfold badL; omega)], by rw [limG, if_pos (by unfold badL; omega)]⟩
  · -- False
    refine RV.op (OV.step gno (Step.move rfl) rfl ?_)
    refine RV.op (OV.step (gyes rfl) (Step.move rfl) rfl ?_)
    refine RV.op (OV.step (gyes rfl) (Step.move rfl) rfl ?_)
    refine RV.op (OV.split (gyes rfl) (Step.gtr rfl rfl) rfl (fun cc2 => ?_) (fun cc2 => ?_))
    · -- True
      refine RV.op (OV.step gno (Step.pick_f rfl rfl) rfl ?_)
      refine RV.op (OV.step gno (Step.move rfl) rfl ?_)
      refine RV.op (OV.skip rfl rfl ?_)
      refine RV.op (OV.skip rfl rfl ?_)
      refine RV.op (OV.skip rfl rfl ?_)
      refine RV.op (OV.skip rfl rfl ?_)
      refine RV.op (OV.skip rfl rfl ?_)
      refine RV.op (OV.skip rfl rfl ?_)
      refine RV.op (OV.skip rfl rfl ?_)
      refine RV.op (OV.step gno (Step.pick_t rfl rfl) rfl ?_)
      refine RV.nil ?_
      refine KV.then_n ?_
      refine KV.env [(0, _), (1, _), (2, _), (22, _)] ⟨rfl, rfl, rfl, rfl, trivial⟩ ?_
      refine CV.cond_t rfl ?_
      refine CV.seq ?_
      -- region 2 perf.go:117
      refine CV.region ?_
      refine RV.op (OV.step gno (Step.assign rfl) rfl ?_)
      refine RV.nil ?_
      refine KV.then_n ?_
      refine KV.env [(6, _)] ⟨rfl, trivial⟩ ?_
      refine CV.ret ?_
      refine KV.then_ret ?_
      -- return at r2
      exact KV.ret1 rfl rfl _ (fun _ h => h) ⟨by rw [limE, if_pos (by unfold badL; omega)], by rw [limG, if_pos (by unfold badL; omega)]⟩
    · -- False
      refine RV.op (OV.step gno (Step.pick_f rfl rfl) rfl ?_)
      refine RV.op (OV.step gno (Step.move rfl) rfl ?_)
      refine RV.op (OV.step (gyes rfl) (Step.move rfl) rfl ?_)
      refine RV.op (OV.step (gyes rfl) (Step.move rfl) rfl ?_)
      refine RV.op (OV.step (gyes rfl) (Step.nilCheck rfl) rfl ?_)
      refine RV.op (OV.step (gyes rfl) (Step.fieldAddr rfl (F66_0 _ _)) rfl ?_)
      refine RV.op (OV.step (gyes rfl) (Step.load Try.underlying22 rfl rfl (fun w h => h.cell 0 rfl rfl)) rfl ?_)
      refine RV.op (OV.step (gyes rfl) (Step.lenSl Try.underlying22 rfl) rfl ?_)
      refine RV.op (OV.split (gyes rfl) (Step.geq rfl rfl) rfl (fun cc3 => ?_) (fun cc3 => ?_))
      · -- True
        refine RV.op (OV.step gno (Step.pick_f rfl rfl) rfl ?_)
        refine RV.nil ?_
        refine KV.then_n ?_
        refine KV.env [(0, _), (1, _), (2, _), (22, _)] ⟨rfl, rfl, rfl, rfl, trivial⟩ ?_
        refine CV.cond_t rfl ?_
        refine CV.seq ?_
        -- region 2 perf.go:117
        refine CV.region ?_
        refine RV.op (OV.step gno (Step.assign rfl) rfl ?_)
        refine RV.nil ?_
        refine KV.then_n ?_
        refine KV.env [(6, _)] ⟨rfl, trivial⟩ ?_
        refine CV.ret ?_
        refine KV.then_ret ?_
        -- return at r2
        exact KV.ret1 rfl rfl _ (fun _ h => h) ⟨by rw [limE, if_pos (by unfold badL; omega)], by rw [limG, if_pos (by unfold badL; omega)]⟩
      · -- False
        refine RV.op (OV.step gno (Step.pick_f rfl rfl) rfl ?_)
        refine RV.nil ?_
        refine KV.then_n ?_
        refine KV.env [(0, _), (1, _), (2, _), (22, _)] ⟨rfl, rfl, rfl, rfl, trivial⟩ ?_
        refine CV.cond_f rfl ?_
        refine CV.skip ?_
        refine KV.then_n ?_
        refine KV.env [(0, _), (1, _), (2, _)] ⟨rfl, rfl, rfl, trivial⟩ ?_
        refine CV.seq ?_
        -- region 3 perf.go:119
        obtain ⟨p, rfl⟩ := Int.eq_ofNat_of_zero_le (show 0 ≤ l by omega)
        obtain ⟨q, rfl⟩ := Int.eq_ofNat_of_zero_le (show 0 ≤ h by omega)
        refine CV.region ?_
        refine RV.op (OV.step gno (Step.move rfl) rfl ?_)
        refine RV.op (OV.step gno (Step.move rfl) rfl ?_)
        refine RV.op (OV.step gno (Step.move rfl) rfl ?_)
        refine RV.op (OV.step gno (Step.move rfl) rfl ?_)
        refine RV.op (OV.step gno (Step.nilCheck rfl) rfl ?_)
        refine RV.op (OV.step gno (Step.fieldAddr rfl (F66_2 _ _)) rfl ?_)
        refine RV.op (OV.store 0 [_] #[_, _, _, _, _, _, _, _] I3 rfl rfl rfl rfl rfl (Nat.le_of_ble_eq_true rfl) (by simp [Value.oneCell']) rfl gno ?_)
        refine RV.op (OV.step gno (Step.nilCheck rfl) rfl ?_)
        refine RV.op (OV.step gno (Step.fieldAddr rfl (F66_3 _ _)) rfl ?_)
        refine RV.op (OV.store 0 [_] #[_, _, _, _, _, _, _, _] I3 rfl rfl rfl rfl rfl (Nat.le_of_ble_eq_true rfl) (by simp [Value.oneCell']) rfl gno ?_)
        refine RV.nil ?_
        refine KV.then_n ?_
        refine KV.env [(0, _), (1, _), (2, _)] ⟨rfl, rfl, rfl, trivial⟩ ?_
        refine CV.seq ?_
        -- region 4 perf.go:120
        refine CV.region ?_
        refine RV.op (OV.step gno (Step.move rfl) rfl ?_)
        refine RV.op (OV.step gno (Step.move rfl) rfl ?_)
        refine RV.op (OV.step gno (Step.nilCheck rfl) rfl ?_)
        refine RV.op (OV.step gno (Step.fieldAddr rfl (F66_4 _ _)) rfl ?_)
        refine RV.op (OV.step gno (Step.load Try.underlying3 rfl rfl (fun w h => h.cell 0 rfl rfl)) rfl ?_)
        refine RV.op (OV.step gno (Step.move rfl) rfl ?_)
        refine RV.op (OV.step gno (Step.max2 rfl rfl) rfl ?_)
        refine RV.op (OV.step gno (Step.move rfl) rfl ?_)
        refine RV.op (OV.step gno (Step.min2 rfl rfl) rfl ?_)
        refine RV.op (OV.step gno (Step.nilCheck rfl) rfl ?_)
        refine RV.op (OV.step gno (Step.fieldAddr rfl (F66_4 _ _)) rfl ?_)
        refine RV.op (OV.store 0 [_] #[_, _, _, _, _, _, _, _] I3 rfl rfl rfl rfl rfl (Nat.le_of_ble_eq_true rfl) (by simp [Value.oneCell']) rfl gno ?_)
        refine RV.nil ?_
        refine KV.then_n ?_
        refine KV.env [(0, _)] ⟨rfl, trivial⟩ ?_
        refine CV.seq ?_
        -- region 5 perf.go:121
        refine CV.region ?_
        refine RV.op (OV.step gno (Step.move rfl) rfl ?_)
        refine RV.op (OV.step gno (Step.nilCheck rfl) rfl ?_)
        refine RV.op (OV.step gno (Step.fieldAddr rfl (F66_5 _ _)) rfl ?_)
        refine RV.op (OV.store 0 [_] #[_, _, _, _, _, _, _, _] I3 rfl rfl rfl rfl rfl (Nat.le_of_ble_eq_true rfl) (by simp [Value.oneCell']) rfl gno ?_)
        refine RV.nil ?_
        refine KV.then_n ?_
        refine KV.env [] trivial ?_
        refine CV.seq ?_
        -- region 6 perf.go:122
        refine CV.region ?_
        refine RV.op (OV.step gno (Step.assign rfl) rfl ?_)
        refine RV.nil ?_
        refine KV.then_n ?_
        refine KV.env [(6, _)] ⟨rfl, trivial⟩ ?_
        refine CV.ret ?_
        -- return at r6
        exact KV.ret1 rfl rfl _ (fun _ h => h) ⟨by rw [limE, if_neg (by unfold badL; omega)], by rw [limG, if_neg (by unfold badL; omega)]; simp only [gobj, Int.toNat_natCast, mm1]; rfl⟩

set_option maxRecDepth 100000 in
set_option maxHeartbeats 1000000 in
theorem limitR_fn (b : Nat) (A : Option Addr) (c : Nat) (g : Gov) {w : World} (l h : Int) : Fx Try.prog 30 [.pointer (some ⟨b, 0, none⟩), .int .i64 l, .int .i64 h] w (gobj 69 b A c g) no (fun v L => v = .int .i64 (limE g l h) ∧ L = gobj 69 b A c (limG g l h)) := by
  refine Sv.Fx.body Try.func30 rfl T30 rfl ?_
  intro I hro hI
  refine KV.env [(0, _), (1, _), (2, _)] ⟨rfl, rfl, rfl, trivial⟩ ?_
  refine CV.seq ?_
  -- region 0 ref.go:101
  refine CV.region ?_
  refine RV.op (OV.step gno (Step.assign rfl) rfl ?_)
  refine RV.nil ?_
  refine KV.then_n ?_
  refine KV.env [(0, _), (1, _), (2, _)] ⟨rfl, rfl, rfl, trivial⟩ ?_
  refine CV.seq ?_
  refine CV.seq ?_
  -- region 1 ref.go:102
  refine CV.region ?_
  refine RV.op (OV.step gno (Step.move rfl) rfl ?_)
  refine RV.op (OV.split gno (Step.lss rfl rfl) rfl (fun cc1 => ?_) (fun cc1 => ?_))
  · -- True
    refine RV.op (OV.step gno (Step.move rfl) rfl ?_)
    refine RV.op (OV.skip rfl rfl ?_)
    refine RV.op (OV.skip rfl rfl ?_)
    refine RV.op (OV.skip rfl rfl ?_)
    refine RV.op (OV.step gno (Step.pick_t rfl rfl) rfl ?_)
    refine RV.op (OV.step gno (Step.move rfl) rfl ?_)
    refine RV.op (OV.skip rfl rfl ?_)
    refine RV.op (OV.skip rfl rfl ?_)
    refine RV.op (OV.skip rfl rfl ?_)
    refine RV.op (OV.skip rfl rfl ?_)
    refine RV.op (OV.skip rfl rfl ?_)
    refine RV.op (OV.skip rfl rfl ?_)
    refine RV.op (OV.skip rfl rfl ?_)
    refine RV.op (OV.step gno (Step.pick_t rfl rfl) rfl ?_)
    refine RV.nil ?_
    refine KV.then_n ?_
    refine KV.env [(0, _), (1, _), (2, _), (22, _)] ⟨rfl, rfl, rfl, rfl, trivial⟩ ?_
    refine CV.cond_t rfl ?_
    refine CV.seq ?_
    -- region 2 ref.go:103
    refine CV.region ?_
    refine RV.op (OV.step gno (Step.assign rfl) rfl ?_)
    refine RV.nil ?_
    refine KV.then_n ?_
    refine KV.env [(6, _)] ⟨rfl, trivial⟩ ?_
    refine CV.ret ?_
    refine KV.then_ret ?_
    -- return at r2
    exact KV.ret1 rfl rfl _ (fun _ h => h) ⟨by rw [limE, if_pos (by unfold badL; omega)], by rw [limG, if_pos (by unfold badL; omega)]⟩
  · -- False
    refine RV.op (OV.step gno (Step.move rfl) rfl ?_)
    refine RV.op (OV.step (gyes rfl) (Step.move rfl) rfl ?_)
    refine RV.op (OV.step (gyes rfl) (Step.move rfl) rfl ?_)
    refine RV.op (OV.split (gyes rfl) (Step.gtr rfl rfl) rfl (fun cc2 => ?_) (fun cc2 => ?_))
    · -- True
      refine RV.op (OV.step gno (Step.pick_f rfl rfl) rfl ?_)
      refine RV.op (OV.step gno (Step.move rfl) rfl ?_)
      refine RV.op (OV.skip rfl rfl ?_)
      refine RV.op (OV.skip rfl rfl ?_)
      refine RV.op (OV.skip rfl rfl ?_)
      refine RV.op (OV.skip rfl rfl ?_)
      refine RV.op (OV.skip rfl rfl ?_)
      refine RV.op (OV.skip rfl rfl ?_)
      refine RV.op (OV.skip rfl rfl ?_)
      refine RV.op (OV.step gno (Step.pick_t rfl rfl) rfl ?_)
      refine RV.nil ?_
      refine KV.then_n ?_
      refine KV.env [(0, _), (1, _), (2, _), (22, _)] ⟨rfl, rfl, rfl, rfl, trivial⟩ ?_
      refine CV.cond_t rfl ?_
      refine CV.seq ?_
      -- region 2 ref.go:103
      refine CV.region ?_
      refine RV.op (OV.step gno (Step.assign rfl) rfl ?_)
      refine RV.nil ?_
      refine KV.then_n ?_
      refine KV.env [(6, _)] ⟨rfl, trivial⟩ ?_
      refine CV.ret ?_
      refine KV.then_ret ?_
      -- return at r2
      exact KV.ret1 rfl rfl _ (fun _ h => h) ⟨by rw [limE, if_pos (by unfold badL; omega)], by rw [limG, if_pos (by unfold badL; omega)]⟩
    · -- False
      refine RV.op (OV.step gno (Step.pick_f rfl rfl) rfl ?_)
      refine RV.op (OV.step gno (Step.move rfl) rfl ?_)
      refine RV.op (OV.step (gyes rfl) (Step.move rfl) rfl ?_)
      refine RV.op (OV.step (gyes rfl) (Step.move rfl) rfl ?_)
      refine RV.op (OV.step (gyes rfl) (Step.nilCheck rfl) rfl ?_)
      refine RV.op (OV.step (gyes rfl) (Step.fieldAddr rfl (F69_0 _ _)) rfl ?_)
      refine RV.op (OV.step (gyes rfl) (Step.load Try.underlying22 rfl rfl (fun w h => h.cell 0 rfl rfl)) rfl ?_)
      refine RV.op (OV.step (gyes rfl) (Step.lenSl Try.underlying22 rfl) rfl ?_)
      refine RV.op (OV.split (gyes rfl) (Step.geq rfl rfl) rfl (fun cc3 => ?_) (fun cc3 => ?_))
      · -- True
        refine RV.op (OV.step gno (Step.pick_f rfl rfl) rfl ?_)
        refine RV.nil ?_
        refine KV.then_n ?_
        refine KV.env [(0, _), (1, _), (2, _), (22, _)] ⟨rfl, rfl, rfl, rfl, trivial⟩ ?_
        refine CV.cond_t rfl ?_
        refine CV.seq ?_
        -- region 2 ref.go:103
        refine CV.region ?_
        refine RV.op (OV.step gno (Step.assign rfl) rfl ?_)
        refine RV.nil ?_
        refine KV.then_n ?_
        refine KV.env [(6, _)] ⟨rfl, trivial⟩ ?_
        refine CV.ret ?_
        refine KV.then_ret ?_
        -- return at r2
        exact KV.ret1 rfl rfl _ (fun _ h => h) ⟨by rw [limE, if_pos (by unfold badL; omega)], by rw [limG, if_pos (by unfold badL; omega)]⟩
      · -- False
        refine RV.op (OV.step gno (Step.pick_f rfl rfl) rfl ?_)
        refine RV.nil ?_
        refine KV.then_n ?_
        refine KV.env [(0, _), (1, _), (2, _), (22, _)] ⟨rfl, rfl, rfl, rfl, trivial⟩ ?_
        refine CV.cond_f rfl ?_
        refine CV.skip ?_
        refine KV.then_n ?_
        refine KV.env [(0, _), (1, _), (2, _)] ⟨rfl, rfl, rfl, trivial⟩ ?_
        refine CV.seq ?_
        -- region 3 ref.go:105
        obtain ⟨p, rfl⟩ := Int.eq_ofNat_of_zero_le (show 0 ≤ l by omega)
        obtain ⟨q, rfl⟩ := Int.eq_ofNat_of_zero_le (show 0 ≤ h by omega)
        refine CV.region ?_
        refine RV.op (OV.step gno (Step.move rfl) rfl ?_)
        refine RV.op (OV.step gno (Step.move rfl) rfl ?_)
        refine RV.op (OV.step gno (Step.move rfl) rfl ?_)
        refine RV.op (OV.step gno (Step.move rfl) rfl ?_)
        refine RV.op (OV.step gno (Step.move rfl) rfl ?_)
        refine RV.op (OV.step gno (Step.nilCheck rfl) rfl ?_)
        refine RV.op (OV.step gno (Step.fieldAddr rfl (F69_2 _ _)) rfl ?_)
        refine RV.op (OV.store 0 [_] #[_, _, _, _, _, _, _, _] I3 rfl rfl rfl rfl rfl (Nat.le_of_ble_eq_true rfl) (by simp [Value.oneCell']) rfl gno ?_)
        refine RV.op (OV.step gno (Step.nilCheck rfl) rfl ?_)
        refine RV.op (OV.step gno (Step.fieldAddr rfl (F69_3 _ _)) rfl ?_)
        refine RV.op (OV.store 0 [_] #[_, _, _, _, _, _, _, _] I3 rfl rfl rfl rfl rfl (Nat.le_of_ble_eq_true rfl) (by simp [Value.oneCell']) rfl gno ?_)
        refine RV.op (OV.step gno (Step.nilCheck rfl) rfl ?_)
        refine RV.op (OV.step gno (Step.fieldAddr rfl (F69_5 _ _)) rfl ?_)
        refine RV.op (OV.store 0 [_] #[_, _, _, _, _, _, _, _] I3 rfl rfl rfl rfl rfl (Nat.le_of_ble_eq_true rfl) (by simp [Value.oneCell']) rfl gno ?_)
        refine RV.nil ?_
        refine KV.then_n ?_
        refine KV.env [(0, _), (1, _), (2, _)] ⟨rfl, rfl, rfl, trivial⟩ ?_
        refine CV.seq ?_
        -- region 4 ref.go:106
        refine CV.region ?_
        refine RV.op (OV.step gno (Step.move rfl) rfl ?_)
        refine RV.op (OV.step gno (Step.move rfl) rfl ?_)
        refine RV.op (OV.step gno (Step.nilCheck rfl) rfl ?_)
        refine RV.op (OV.step gno (Step.fieldAddr rfl (F69_4 _ _)) rfl ?_)
        refine RV.op (OV.step gno (Step.load Try.underlying3 rfl rfl (fun w h => h.cell 0 rfl rfl)) rfl ?_)
        refine RV.op (OV.step gno (Step.move rfl) rfl ?_)
        refine RV.op (OV.step gno (Step.max2 rfl rfl) rfl ?_)
        refine RV.op (OV.step gno (Step.move rfl) rfl ?_)
        refine RV.op (OV.step gno (Step.min2 rfl rfl) rfl ?_)
        refine RV.op (OV.step gno (Step.nilCheck rfl) rfl ?_)
        refine RV.op (OV.step gno (Step.fieldAddr rfl (F69_4 _ _)) rfl ?_)
        refine RV.op (OV.store 0 [_] #[_, _, _, _, _, _, _, _] I3 rfl rfl rfl rfl rfl (Nat.le_of_ble_eq_true rfl) (by simp [Value.oneCell']) rfl gno ?_)
        refine RV.nil ?_
        refine KV.then_n ?_
        refine KV.env [] trivial ?_
        refine CV.seq ?_
        -- region 5 ref.go:107
        refine CV.region ?_
        refine RV.op (OV.step gno (Step.assign rfl) rfl ?_)
        refine RV.nil ?_
        refine KV.then_n ?_
        refine KV.env [(6, _)] ⟨rfl, trivial⟩ ?_
        refine CV.ret ?_
        -- return at r5
        exact KV.ret1 rfl rfl _ (fun _ h => h) ⟨by rw [limE, if_neg (by unfold badL; omega)], by rw [limG, if_neg (by unfold badL; omega)]; simp only [gobj, Int.toNat_natCast, mm1]; rfl⟩

set_option maxRecDepth 100000 in
set_option maxHeartbeats 1000000 in
theorem sufficient_fn (b : Nat) (A : Option Addr) (c : Nat) (g : Gov) {w : World} (x : Int) (hg : g.ok) (hx : okX x) : Fx Try.prog 38 [.pointer (some ⟨b, 0, none⟩), .int .i64 x] w (gobj 66 b A c g) no (fun v L => v = .int .i64 (sufM g x) ∧ L = gobj 66 b A c g) := by
  refine Sv.Fx.body Try.func38 rfl T38 rfl ?_
  intro I hro hI
  refine KV.env [(0, _), (1, _)] ⟨rfl, rfl, trivial⟩ ?_
  have hx4 := hx
  unfold okX at hx4
  have hyl := hg.t.1
  have hl1 := hg.l1
  have hl2 := hg.l2
  have hl3 := hg.l3
  have hu1 := hg.u1
  have hu2 := hg.u2
  have hbc := hg.t.big (show g.cu < g.ys.length by omega)
  unfold pt at hbc
  have hmc := mulB (f := (g.ys.getD g.cu ptK.d).f) (show 0 ≤ x by omega) (by omega) (by omega) (by omega)
  refine CV.seq ?_
  -- region 0 perf.go:147
  refine CV.region ?_
  refine RV.op (OV.step gno (Step.assign rfl) rfl ?_)
  refine RV.nil ?_
  refine KV.then_n ?_
  refine KV.env [(0, _), (1, _)] ⟨rfl, rfl, trivial⟩ ?_
  refine CV.seq ?_
  -- region 1 perf.go:148
  refine CV.still (by kernel_rfl) (by kernel_rfl) (fun _ h => h.drew) ?_
  refine SV.step gno (Step.move rfl) rfl ?_
  (first | refine SV.step gno (Step.convI Try.underlying3 Try.underlying23 rfl (wU64 (by omega) (by omega))) rfl ?_ | refine SV.step gno (Step.convI Try.underlying3 Try.underlying23 rfl rfl) rfl ?_)
  refine SV.step gno (Step.move rfl) rfl ?_
  refine SV.step gno (Step.nilCheck rfl) rfl ?_
  refine SV.step gno (Step.fieldAddr rfl (F66_0 _ _)) rfl ?_
  refine SV.step gno (Step.load Try.underlying22 rfl rfl (fun w h => h.cell 0 rfl rfl)) rfl ?_
  refine SV.step gno (Step.move rfl) rfl ?_
  refine SV.step gno (Step.nilCheck rfl) rfl ?_
  refine SV.step gno (Step.fieldAddr rfl (F66_4 _ _)) rfl ?_
  refine SV.step gno (Step.load Try.underlying3 rfl rfl (fun w h => h.cell 0 rfl rfl)) rfl ?_
  refine SV.step gno (Step.idx Try.underlying22 I25 (fun w h => h.os 1 rfl) rfl rfl (rfl) _ rfl (by omega)) rfl ?_
  refine SV.step gno (Step.fieldAddr rfl (F25_0 _ _)) rfl ?_
  refine SV.step gno (Step.load Try.underlying23 rfl rfl (fun w h => (h.os 1 rfl).cell0 (by omega) rfl)) rfl ?_
  (first | refine SV.step gno (Step.mul rfl rfl (wU64 (by omega) (by omega))) rfl ?_ | refine SV.step gno (Step.mul rfl rfl rfl) rfl ?_)
  refine SV.step gno (Step.assign rfl) rfl ?_
  refine SV.nil ?_
  refine KV.then_n ?_
  refine KV.env [(0, _), (5, _)] ⟨rfl, rfl, trivial⟩ ?_
  refine CV.seq ?_
  refine CV.seq ?_
  -- region 2 perf.go:149
  refine CV.region ?_
  refine RV.op (OV.step gno (Step.move rfl) rfl ?_)
  refine RV.op (OV.step gno (Step.nilCheck rfl) rfl ?_)
  refine RV.op (OV.step gno (Step.fieldAddr rfl (F66_2 _ _)) rfl ?_)
  refine RV.op (OV.step gno (Step.load Try.underlying3 rfl rfl (fun w h => h.cell 0 rfl rfl)) rfl ?_)
  refine RV.op (OV.step gno (Step.assign rfl) rfl ?_)
  refine RV.nil ?_
  refine KV.then_n ?_
  refine KV.env [(0, _), (5, _), (6, _)] ⟨rfl, rfl, rfl, trivial⟩ ?_
  refine CV.block ?_
  -- loop L3; live [0, 5, 6]
  refine KV.sel [0, 0] [_, _] rfl ?_
  refine CV.loopI (fun (p : Nat) => (g.lo ≤ p ∧ p ≤ g.hi) ∧ ∀ i, g.lo ≤ i → i < p → ¬ good g x i) (fun (p : Nat) => g.hi - p) (fun (p : Nat) => [(0, .pointer (some ⟨b, 0, none⟩)), (5, .int .u64 (x * (g.ys.getD g.cu ptK.d).f)), (6, .int .i64 p)]) (fun (p : Nat) => Hp I w (gobj 66 b A c g)) (g.lo) ⟨⟨Nat.le_refl _, by omega⟩, fun i h1 h2 => by omega⟩ ⟨rfl, rfl, rfl, trivial⟩ (fun _ h => h) ?_
  intro p hinv
  refine CV.seq ?_
  refine CV.seq ?_
  -- region 3 perf.go:149
  refine CV.region ?_
  refine RV.op (OV.step gno (Step.move rfl) rfl ?_)
  refine RV.op (OV.step gno (Step.move rfl) rfl ?_)
  refine RV.op (OV.step gno (Step.nilCheck rfl) rfl ?_)
  refine RV.op (OV.step gno (Step.fieldAddr rfl (F66_3 _ _)) rfl ?_)
  refine RV.op (OV.step gno (Step.load Try.underlying3 rfl rfl (fun w h => h.cell 0 rfl rfl)) rfl ?_)
  refine RV.op (OV.split gno (Step.lss rfl rfl) rfl (fun hp => ?_) (fun hp => ?_))
  · -- True
    refine RV.nil ?_
    refine KV.then_n ?_
    refine KV.env [(0, _), (5, _), (6, _), (30, _)] ⟨rfl, rfl, rfl, rfl, trivial⟩ ?_
    refine CV.cond_t rfl ?_
    refine CV.skip ?_
    refine KV.then_n ?_
    refine KV.env [(0, _), (5, _), (6, _)] ⟨rfl, rfl, rfl, trivial⟩ ?_
    refine CV.seq ?_
    refine CV.block ?_
    refine CV.seq ?_
    -- region 5 perf.go:150
    have hbp := hg.t.big (show p < g.ys.length by omega)
    unfold pt at hbp
    have hmp := mulB (f := (g.ys.getD p ptK.d).f) (show 0 ≤ g.up by omega) hu2 (by omega) (by omega)
    refine CV.still (by kernel_rfl) (by kernel_rfl) (fun _ h => h.drew) ?_
    refine SV.step gno (Step.move rfl) rfl ?_
    refine SV.step gno (Step.move rfl) rfl ?_
    refine SV.step gno (Step.nilCheck rfl) rfl ?_
    refine SV.step gno (Step.fieldAddr rfl (F66_1 _ _)) rfl ?_
    refine SV.step gno (Step.fieldAddr rfl (F45_0 _ _)) rfl ?_
    refine SV.step gno (Step.load Try.underlying3 rfl rfl (fun w h => h.cell 0 rfl rfl)) rfl ?_
    (first | refine SV.step gno (Step.convI Try.underlying3 Try.underlying23 rfl (wU64 (by omega) (by omega))) rfl ?_ | refine SV.step gno (Step.convI Try.underlying3 Try.underlying23 rfl rfl) rfl ?_)
    refine SV.step gno (Step.move rfl) rfl ?_
    refine SV.step gno (Step.nilCheck rfl) rfl ?_
    refine SV.step gno (Step.fieldAddr rfl (F66_0 _ _)) rfl ?_
    refine SV.step gno (Step.load Try.underlying22 rfl rfl (fun w h => h.cell 0 rfl rfl)) rfl ?_
    refine SV.step gno (Step.move rfl) rfl ?_
    refine SV.step gno (Step.idx Try.underlying22 I25 (fun w h => h.os 1 rfl) rfl rfl (rfl) _ rfl (by omega)) rfl ?_
    refine SV.step gno (Step.fieldAddr rfl (F25_0 _ _)) rfl ?_
    refine SV.step gno (Step.load Try.underlying23 rfl rfl (fun w h => (h.os 1 rfl).cell0 (by omega) rfl)) rfl ?_
    (first | refine SV.step gno (Step.mul rfl rfl (wU64 (by omega) (by omega))) rfl ?_ | refine SV.step gno (Step.mul rfl rfl rfl) rfl ?_)
    refine SV.split gno (Step.leq rfl rfl) rfl (fun hq => ?_) (fun hq => ?_)
    · -- True
      refine SV.nil ?_
      refine KV.then_n ?_
      refine KV.env [(0, _), (5, _), (6, _), (49, _)] ⟨rfl, rfl, rfl, rfl, trivial⟩ ?_
      refine CV.cond_t rfl ?_
      refine CV.seq ?_
      -- region 6 perf.go:151
      refine CV.region ?_
      refine RV.op (OV.step gno (Step.move rfl) rfl ?_)
      refine RV.op (OV.step gno (Step.assign rfl) rfl ?_)
      refine RV.nil ?_
      refine KV.then_n ?_
      refine KV.env [(4, _)] ⟨rfl, trivial⟩ ?_
      refine CV.ret ?_
      refine KV.block_ret ?_
      refine KV.then_ret ?_
      refine KV.then_ret ?_
      refine KV.block_ret ?_
      refine KV.then_ret ?_
      -- return at r6
      exact KV.ret1 rfl rfl _ (fun _ h => h) ⟨by rw [sufM_at hinv.1.1 (by omega) hinv.2 hq], rfl⟩
    · -- False
      refine SV.nil ?_
      refine KV.then_n ?_
      refine KV.env [(0, _), (5, _), (6, _), (49, _)] ⟨rfl, rfl, rfl, rfl, trivial⟩ ?_
      refine CV.cond_f rfl ?_
      refine CV.skip ?_
      refine KV.block_n ?_
      refine KV.then_n ?_
      refine KV.env [(0, _), (5, _), (6, _)] ⟨rfl, rfl, rfl, trivial⟩ ?_
      -- region 4 perf.go:149
      refine CV.region ?_
      refine RV.op (OV.step gno (Step.move rfl) rfl ?_)
      (first | refine RV.op (OV.step gno (Step.add rfl rfl (wI64 (by omega) (by omega))) rfl ?_) | refine RV.op (OV.step gno (Step.add rfl rfl rfl) rfl ?_))
      refine RV.op (OV.step gno (Step.assign rfl) rfl ?_)
      refine RV.nil ?_
      refine KV.then_n ?_
      refine KV.env [(0, _), (5, _), (6, _)] ⟨rfl, rfl, rfl, trivial⟩ ?_
      refine KV.sel [0, 0] [_, _] rfl ?_
      exact KV.loopI (z := p) (p + 1) ⟨by omega, fun i h1 h2 => by by_cases e : i = p; (subst e; exact hq); exact hinv.2 i h1 (by omega)⟩ (by omega) ⟨rfl, rfl, rfl, trivial⟩ (fun _ h => h)
  · -- False
    refine RV.nil ?_
    refine KV.then_n ?_
    refine KV.env [(0, _), (5, _), (6, _), (30, _)] ⟨rfl, rfl, rfl, rfl, trivial⟩ ?_
    refine CV.cond_f rfl ?_
    refine CV.exit ?_
    refine KV.then_exit ?_
    refine KV.then_exit ?_
    refine KV.block_hit ?_
    refine KV.then_n ?_
    refine KV.env [(0, _)] ⟨rfl, trivial⟩ ?_
    refine CV.seq ?_
    -- region 7 perf.go:154
    refine CV.region ?_
    refine RV.op (OV.step gno (Step.move rfl) rfl ?_)
    refine RV.op (OV.step gno (Step.nilCheck rfl) rfl ?_)
    refine RV.op (OV.step gno (Step.fieldAddr rfl (F66_3 _ _)) rfl ?_)
    refine RV.op (OV.step gno (Step.load Try.underlying3 rfl rfl (fun w h => h.cell 0 rfl rfl)) rfl ?_)
    refine RV.op (OV.step gno (Step.assign rfl) rfl ?_)
    refine RV.nil ?_
    refine KV.then_n ?_
    refine KV.env [(4, _)] ⟨rfl, trivial⟩ ?_
    refine CV.ret ?_
    -- return at r7
    exact KV.ret1 rfl rfl _ (fun _ h => h) ⟨by rw [sufM_end (by omega) fun i h1 h2 => hinv.2 i h1 (by omega)], rfl⟩

set_option maxRecDepth 100000 in
set_option maxHeartbeats 1000000 in
theorem sample_fn (b : Nat) (A : Option Addr) (c : Nat) (g : Gov) {w : World} (x : Int) (hg : g.ok) : Fx Try.prog 26 [.pointer (some ⟨b, 0, none⟩), .int .i64 x] w (gobj 66 b A c g) no (fun v L => v = .tuple #[.int .i64 (sampV g x), .int .i64 (sampE x)] ∧ L = gobj 66 b A c (sampG g x)) := by
  refine Sv.Fx.body Try.func26 rfl T26 rfl ?_
  intro I hro hI
  refine KV.env [(0, _), (1, _)] ⟨rfl, rfl, trivial⟩ ?_
  have hn1 := hg.n1
  have hn2 := hg.n2
  have hs2 := hg.s2
  refine CV.seq ?_
  -- region 0 perf.go:126
  refine CV.region ?_
  refine RV.op (OV.step gno (Step.assign rfl) rfl ?_)
  refine RV.op (OV.step gno (Step.assign rfl) rfl ?_)
  refine RV.nil ?_
  refine KV.then_n ?_
  refine KV.env [(0, _), (1, _)] ⟨rfl, rfl, trivial⟩ ?_
  refine CV.seq ?_
  refine CV.seq ?_
  -- region 1 perf.go:127
  refine CV.region ?_
  refine RV.op (OV.step gno (Step.move rfl) rfl ?_)
  refine RV.op (OV.split gno (Step.lss rfl rfl) rfl (fun cc1 => ?_) (fun cc1 => ?_))
  · -- True
    refine RV.op (OV.step gno (Step.move rfl) rfl ?_)
    refine RV.op (OV.skip rfl rfl ?_)
    refine RV.op (OV.skip rfl rfl ?_)
    refine RV.op (OV.step gno (Step.pick_t rfl rfl) rfl ?_)
    refine RV.nil ?_
    refine KV.then_n ?_
    refine KV.env [(0, _), (1, _), (11, _)] ⟨rfl, rfl, rfl, trivial⟩ ?_
    refine CV.cond_t rfl ?_
    refine CV.seq ?_
    -- region 2 perf.go:128
    refine CV.region ?_
    refine RV.op (OV.step gno (Step.assign rfl) rfl ?_)
    refine RV.op (OV.step gno (Step.assign rfl) rfl ?_)
    refine RV.nil ?_
    refine KV.then_n ?_
    refine KV.env [(4, _), (5, _)] ⟨rfl, rfl, trivial⟩ ?_
    refine CV.ret ?_
    refine KV.then_ret ?_
    -- return at r2
    exact KV.ret2 rfl rfl rfl _ (fun _ h => h) ⟨by rw [(samp_no (g := g) (show ¬ okX x by unfold okX; omega)).2.1, (samp_no (g := g) (show ¬ okX x by unfold okX; omega)).2.2] <;> rfl, by rw [(samp_no (g := g) (show ¬ okX x by unfold okX; omega)).1] <;> rfl⟩
  · -- False
    refine RV.op (OV.step gno (Step.move rfl) rfl ?_)
    refine RV.op (OV.step (gyes rfl) (Step.move rfl) rfl ?_)
    refine RV.op (OV.split (gyes rfl) (Step.gtr rfl rfl) rfl (fun cc2 => ?_) (fun cc2 => ?_))
    · -- True
      refine RV.op (OV.step gno (Step.pick_f rfl rfl) rfl ?_)
      refine RV.nil ?_
      refine KV.then_n ?_
      refine KV.env [(0, _), (1, _), (11, _)] ⟨rfl, rfl, rfl, trivial⟩ ?_
      refine CV.cond_t rfl ?_
      refine CV.seq ?_
      -- region 2 perf.go:128
      refine CV.region ?_
      refine RV.op (OV.step gno (Step.assign rfl) rfl ?_)
      refine RV.op (OV.step gno (Step.assign rfl) rfl ?_)
      refine RV.nil ?_
      refine KV.then_n ?_
      refine KV.env [(4, _), (5, _)] ⟨rfl, rfl, trivial⟩ ?_
      refine CV.ret ?_
      refine KV.then_ret ?_
      -- return at r2
      exact KV.ret2 rfl rfl rfl _ (fun _ h => h) ⟨by rw [(samp_no (g := g) (show ¬ okX x by unfold okX; omega)).2.1, (samp_no (g := g) (show ¬ okX x by unfold okX; omega)).2.2] <;> rfl, by rw [(samp_no (g := g) (show ¬ okX x by unfold okX; omega)).1] <;> rfl⟩
    · -- False
      refine RV.op (OV.step gno (Step.pick_f rfl rfl) rfl ?_)
      refine RV.nil ?_
      refine KV.then_n ?_
      refine KV.env [(0, _), (1, _), (11, _)] ⟨rfl, rfl, rfl, trivial⟩ ?_
      refine CV.cond_f rfl ?_
      refine CV.skip ?_
      refine KV.then_n ?_
      refine KV.env [(0, _), (1, _)] ⟨rfl, rfl, trivial⟩ ?_
      refine CV.seq ?_
      refine CV.block ?_
      refine CV.seq ?_
      -- region 4 perf.go:131
      refine CV.region ?_
      refine RV.op (OV.step gno (Step.move rfl) rfl ?_)
      refine RV.op (OV.step gno (Step.move rfl) rfl ?_)
      refine RV.op (OV.step gno (Step.nilCheck rfl) rfl ?_)
      refine RV.op (OV.step gno (Step.fieldAddr rfl (F66_1 _ _)) rfl ?_)
      refine RV.op (OV.step gno (Step.fieldAddr rfl (F45_0 _ _)) rfl ?_)
      refine RV.op (OV.step gno (Step.load Try.underlying3 rfl rfl (fun w h => h.cell 0 rfl rfl)) rfl ?_)
      refine RV.op (OV.split gno (Step.gtr rfl rfl) rfl (fun h1 => ?_) (fun h1 => ?_))
      · -- True
        refine RV.op (OV.step gno (Step.assign rfl) rfl ?_)
        refine RV.nil ?_
        refine KV.then_n ?_
        refine KV.env [(0, _), (1, _), (15, _)] ⟨rfl, rfl, rfl, trivial⟩ ?_
        refine CV.cond_t rfl ?_
        refine CV.seq ?_
        -- region 5 perf.go:132
        refine CV.region ?_
        refine RV.op (OV.step gno (Step.move rfl) rfl ?_)
        refine RV.op (OV.step gno (Step.move rfl) rfl ?_)
        refine RV.op (OV.step gno (Step.nilCheck rfl) rfl ?_)
        refine RV.op (OV.step gno (Step.fieldAddr rfl (F66_3 _ _)) rfl ?_)
        refine RV.op (OV.step gno (Step.load Try.underlying3 rfl rfl (fun w h => h.cell 0 rfl rfl)) rfl ?_)
        refine RV.op (OV.step gno (Step.nilCheck rfl) rfl ?_)
        refine RV.op (OV.step gno (Step.fieldAddr rfl (F66_4 _ _)) rfl ?_)
        refine RV.op (OV.store 0 [_] #[_, _, _, _, _, _, _, _] I3 rfl rfl rfl rfl rfl (Nat.le_of_ble_eq_true rfl) (by simp [Value.oneCell']) rfl gno ?_)
        refine RV.nil ?_
        refine KV.then_n ?_
        refine KV.env [(0, _)] ⟨rfl, trivial⟩ ?_
        -- region 6 perf.go:133
        refine CV.region ?_
        refine RV.op (OV.step gno (Step.move rfl) rfl ?_)
        refine RV.op (OV.step gno (Step.nilCheck rfl) rfl ?_)
        refine RV.op (OV.step gno (Step.fieldAddr rfl (F66_5 _ _)) rfl ?_)
        refine RV.op (OV.store 0 [_] #[_, _, _, _, _, _, _, _] I3 rfl rfl rfl rfl rfl (Nat.le_of_ble_eq_true rfl) (by simp [Value.oneCell']) rfl gno ?_)
        refine RV.nil ?_
        refine KV.block_n ?_
        refine KV.then_n ?_
        refine KV.env [(0, _)] ⟨rfl, trivial⟩ ?_
        refine CV.seq ?_
        -- region 12 perf.go:143
        refine CV.region ?_
        refine RV.op (OV.step gno (Step.move rfl) rfl ?_)
        refine RV.op (OV.step gno (Step.nilCheck rfl) rfl ?_)
        refine RV.op (OV.step gno (Step.fieldAddr rfl (F66_4 _ _)) rfl ?_)
        refine RV.op (OV.step gno (Step.load Try.underlying3 rfl rfl (fun w h => h.cell 0 rfl rfl)) rfl ?_)
        refine RV.op (OV.step gno (Step.assign rfl) rfl ?_)
        refine RV.op (OV.step gno (Step.assign rfl) rfl ?_)
        refine RV.nil ?_
        refine KV.then_n ?_
        refine KV.env [(4, _), (5, _)] ⟨rfl, rfl, trivial⟩ ?_
        refine CV.ret ?_
        -- return at r12
        first | exact KV.ret2 rfl rfl rfl _ (fun _ h => h) ⟨by rw [(samp_hi (g := g) (show okX x by unfold okX; omega) h1).2.1, (samp_hi (g := g) (show okX x by unfold okX; omega) h1).2.2] <;> rfl, by rw [(samp_hi (g := g) (show okX x by unfold okX; omega) h1).1] <;> rfl⟩ | exact KV.ret2 rfl rfl rfl _ (fun _ h => h) ⟨by rw [(samp_suf (g := g) (show okX x by unfold okX; omega) h1 h2 h3).2.1, (samp_suf (g := g) (show okX x by unfold okX; omega) h1 h2 h3).2.2] <;> rfl, by rw [(samp_suf (g := g) (show okX x by unfold okX; omega) h1 h2 h3).1] <;> rfl⟩ | exact KV.ret2 rfl rfl rfl _ (fun _ h => h) ⟨by rw [(samp_wait (g := g) (show okX x by unfold okX; omega) h1 h2 h3).2.1, (samp_wait (g := g) (show okX x by unfold okX; omega) h1 h2 h3).2.2] <;> rfl, by rw [(samp_wait (g := g) (show okX x by unfold okX; omega) h1 h2 h3).1] <;> rfl⟩ | exact KV.ret2 rfl rfl rfl _ (fun _ h => h) ⟨by rw [(samp_mid (g := g) (show okX x by unfold okX; omega) h1 h2).2.1, (samp_mid (g := g) (show okX x by unfold okX; omega) h1 h2).2.2] <;> rfl, by rw [(samp_mid (g := g) (show okX x by unfold okX; omega) h1 h2).1] <;> rfl⟩
      · -- False
        refine RV.op (OV.step gno (Step.assign rfl) rfl ?_)
        refine RV.nil ?_
        refine KV.then_n ?_
        refine KV.env [(0, _), (1, _), (15, _)] ⟨rfl, rfl, rfl, trivial⟩ ?_
        refine CV.cond_f rfl ?_
        refine CV.seq ?_
        -- region 7 perf.go:134
        refine CV.region ?_
        refine RV.op (OV.step gno (Step.move rfl) rfl ?_)
        refine RV.op (OV.step gno (Step.move rfl) rfl ?_)
        refine RV.op (OV.step gno (Step.nilCheck rfl) rfl ?_)
        refine RV.op (OV.step gno (Step.fieldAddr rfl (F66_1 _ _)) rfl ?_)
        refine RV.op (OV.step gno (Step.fieldAddr rfl (F45_1 _ _)) rfl ?_)
        refine RV.op (OV.step gno (Step.load Try.underlying3 rfl rfl (fun w h => h.cell 0 rfl rfl)) rfl ?_)
        refine RV.op (OV.split gno (Step.lss rfl rfl) rfl (fun h2 => ?_) (fun h2 => ?_))
        · -- True
          refine RV.op (OV.step gno (Step.assign rfl) rfl ?_)
          refine RV.nil ?_
          refine KV.then_n ?_
          refine KV.env [(0, _), (1, _), (33, _)] ⟨rfl, rfl, rfl, trivial⟩ ?_
          refine CV.cond_t rfl ?_
          refine CV.seq ?_
          -- region 8 perf.go:135
          refine CV.region ?_
          refine RV.op (OV.step gno (Step.move rfl) rfl ?_)
          refine RV.op (OV.step gno (Step.nilCheck rfl) rfl ?_)
          refine RV.op (OV.step gno (Step.fieldAddr rfl (F66_5 _ _)) rfl ?_)
          refine RV.op (OV.step gno (Step.load Try.underlying3 rfl rfl (fun w h => h.cell 0 rfl rfl)) rfl ?_)
          (first | refine RV.op (OV.step gno (Step.add rfl rfl (wI64 (by omega) (by omega))) rfl ?_) | refine RV.op (OV.step gno (Step.add rfl rfl rfl) rfl ?_))
          refine RV.op (OV.step gno (Step.nilCheck rfl) rfl ?_)
          refine RV.op (OV.step gno (Step.fieldAddr rfl (F66_5 _ _)) rfl ?_)
          refine RV.op (OV.store 0 [_] #[_, _, _, _, _, _, _, _] I3 rfl rfl rfl rfl rfl (Nat.le_of_ble_eq_true rfl) (by simp [Value.oneCell']) rfl gno ?_)
          refine RV.nil ?_
          refine KV.then_n ?_
          refine KV.env [(0, _), (1, _)] ⟨rfl, rfl, trivial⟩ ?_
          refine CV.seq ?_
          -- region 9 perf.go:136
          refine CV.still (by kernel_rfl) (by kernel_rfl) (fun _ h => h.drew) ?_
          refine SV.step gno (Step.move rfl) rfl ?_
          refine SV.step gno (Step.nilCheck rfl) rfl ?_
          refine SV.step gno (Step.fieldAddr rfl (F66_5 _ _)) rfl ?_
          refine SV.step gno (Step.load Try.underlying3 rfl rfl (fun w h => h.cell 0 rfl rfl)) rfl ?_
          refine SV.step gno (Step.move rfl) rfl ?_
          refine SV.step gno (Step.nilCheck rfl) rfl ?_
          refine SV.step gno (Step.fieldAddr rfl (F66_1 _ _)) rfl ?_
          refine SV.step gno (Step.fieldAddr rfl (F45_2 _ _)) rfl ?_
          refine SV.step gno (Step.load Try.underlying3 rfl rfl (fun w h => h.cell 0 rfl rfl)) rfl ?_
          refine SV.split gno (Step.geq rfl rfl) rfl (fun h3 => ?_) (fun h3 => ?_)
          · -- True
            refine SV.nil ?_
            refine KV.then_n ?_
            refine KV.env [(0, _), (1, _), (57, _)] ⟨rfl, rfl, rfl, trivial⟩ ?_
            refine CV.cond_t rfl ?_
            refine CV.seq ?_
            -- region 10 perf.go:137
            refine CV.region ?_
            refine RV.op (OV.step gno (Step.move rfl) rfl ?_)
            refine RV.op (OV.step gno (Step.nilCheck rfl) rfl ?_)
            refine RV.op (OV.step gno (Step.fieldAddr rfl (F66_5 _ _)) rfl ?_)
            refine RV.op (OV.store 0 [_] #[_, _, _, _, _, _, _, _] I3 rfl rfl rfl rfl rfl (Nat.le_of_ble_eq_true rfl) (by simp [Value.oneCell']) rfl gno ?_)
            refine RV.nil ?_
            refine KV.then_n ?_
            refine KV.env [(0, _), (1, _)] ⟨rfl, rfl, trivial⟩ ?_
            -- region 11 perf.go:138
            refine CV.region ?_
            refine RV.op (OV.step gno (Step.move rfl) rfl ?_)
            refine RV.op (OV.step gno (Step.move rfl) rfl ?_)
            refine RV.op (OV.step gno (Step.move rfl) rfl ?_)
            refine RV.op (OV.call [0, 0] (F := []) Try.func38 B38 N38 rfl rfl (fun w h => sufficient_fn b A c { g with n := 0 } x ⟨hg.t, hg.u1, hg.u2, hg.d1, hg.d2, hg.s1, hg.s2, hg.l1, hg.l2, hg.l3, Int.le_refl _, (by have := hg.s1; simp only []; omega)⟩ (show okX x by unfold okX; omega)) (fun _ hb => hb.elim) gno rfl (fun v L' hp => ?_))
            obtain ⟨rfl, rfl⟩ := hp
            refine RV.op (OV.step gno (Step.nilCheck rfl) rfl ?_)
            refine RV.op (OV.step gno (Step.fieldAddr rfl (F66_4 _ _)) rfl ?_)
            refine RV.op (OV.store 0 [_] #[_, _, _, _, _, _, _, _] I3 rfl rfl rfl rfl rfl (Nat.le_of_ble_eq_true rfl) (by simp [Value.oneCell']) rfl gno ?_)
            refine RV.nil ?_
            refine KV.block_n ?_
            refine KV.then_n ?_
            refine KV.env [(0, _)] ⟨rfl, trivial⟩ ?_
            refine CV.seq ?_
            -- region 12 perf.go:143
            refine CV.region ?_
            refine RV.op (OV.step gno (Step.move rfl) rfl ?_)
            refine RV.op (OV.step gno (Step.nilCheck rfl) rfl ?_)
            refine RV.op (OV.step gno (Step.fieldAddr rfl (F66_4 _ _)) rfl ?_)
            refine RV.op (OV.step gno (Step.load Try.underlying3 rfl rfl (fun w h => h.cell 0 rfl rfl)) rfl ?_)
            refine RV.op (OV.step gno (Step.assign rfl) rfl ?_)
            refine RV.op (OV.step gno (Step.assign rfl) rfl ?_)
            refine RV.nil ?_
            refine KV.then_n ?_
            refine KV.env [(4, _), (5, _)] ⟨rfl, rfl, trivial⟩ ?_
            refine CV.ret ?_
            -- return at r12
            first | exact KV.ret2 rfl rfl rfl _ (fun _ h => h) ⟨by rw [(samp_hi (g := g) (show okX x by unfold okX; omega) h1).2.1, (samp_hi (g := g) (show okX x by unfold okX; omega) h1).2.2] <;> rfl, by rw [(samp_hi (g := g) (show okX x by unfold okX; omega) h1).1] <;> rfl⟩ | exact KV.ret2 rfl rfl rfl _ (fun _ h => h) ⟨by rw [(samp_suf (g := g) (show okX x by unfold okX; omega) h1 h2 h3).2.1, (samp_suf (g := g) (show okX x by unfold okX; omega) h1 h2 h3).2.2] <;> rfl, by rw [(samp_suf (g := g) (show okX x by unfold okX; omega) h1 h2 h3).1] <;> rfl⟩ | exact KV.ret2 rfl rfl rfl _ (fun _ h => h) ⟨by rw [(samp_wait (g := g) (show okX x by unfold okX; omega) h1 h2 h3).2.1, (samp_wait (g := g) (show okX x by unfold okX; omega) h1 h2 h3).2.2] <;> rfl, by rw [(samp_wait (g := g) (show okX x by unfold okX; omega) h1 h2 h3).1] <;> rfl⟩ | exact KV.ret2 rfl rfl rfl _ (fun _ h => h) ⟨by rw [(samp_mid (g := g) (show okX x by unfold okX; omega) h1 h2).2.1, (samp_mid (g := g) (show okX x by unfold okX; omega) h1 h2).2.2] <;> rfl, by rw [(samp_mid (g := g) (show okX x by unfold okX; omega) h1 h2).1] <;> rfl⟩
          · -- False
            refine SV.nil ?_
            refine KV.then_n ?_
            refine KV.env [(0, _), (1, _), (57, _)] ⟨rfl, rfl, rfl, trivial⟩ ?_
            refine CV.cond_f rfl ?_
            refine CV.skip ?_
            refine KV.block_n ?_
            refine KV.then_n ?_
            refine KV.env [(0, _)] ⟨rfl, trivial⟩ ?_
            refine CV.seq ?_
            -- region 12 perf.go:143
            refine CV.region ?_
            refine RV.op (OV.step gno (Step.move rfl) rfl ?_)
            refine RV.op (OV.step gno (Step.nilCheck rfl) rfl ?_)
            refine RV.op (OV.step gno (Step.fieldAddr rfl (F66_4 _ _)) rfl ?_)
            refine RV.op (OV.step gno (Step.load Try.underlying3 rfl rfl (fun w h => h.cell 0 rfl rfl)) rfl ?_)
            refine RV.op (OV.step gno (Step.assign rfl) rfl ?_)
            refine RV.op (OV.step gno (Step.assign rfl) rfl ?_)
            refine RV.nil ?_
            refine KV.then_n ?_
            refine KV.env [(4, _), (5, _)] ⟨rfl, rfl, trivial⟩ ?_
            refine CV.ret ?_
            -- return at r12
            first | exact KV.ret2 rfl rfl rfl _ (fun _ h => h) ⟨by rw [(samp_hi (g := g) (show okX x by unfold okX; omega) h1).2.1, (samp_hi (g := g) (show okX x by unfold okX; omega) h1).2.2] <;> rfl, by rw [(samp_hi (g := g) (show okX x by unfold okX; omega) h1).1] <;> rfl⟩ | exact KV.ret2 rfl rfl rfl _ (fun _ h => h) ⟨by rw [(samp_suf (g := g) (show okX x by unfold okX; omega) h1 h2 h3).2.1, (samp_suf (g := g) (show okX x by unfold okX; omega) h1 h2 h3).2.2] <;> rfl, by rw [(samp_suf (g := g) (show okX x by unfold okX; omega) h1 h2 h3).1] <;> rfl⟩ | exact KV.ret2 rfl rfl rfl _ (fun _ h => h) ⟨by rw [(samp_wait (g := g) (show okX x by unfold okX; omega) h1 h2 h3).2.1, (samp_wait (g := g) (show okX x by unfold okX; omega) h1 h2 h3).2.2] <;> rfl, by rw [(samp_wait (g := g) (show okX x by unfold okX; omega) h1 h2 h3).1] <;> rfl⟩ | exact KV.ret2 rfl rfl rfl _ (fun _ h => h) ⟨by rw [(samp_mid (g := g) (show okX x by unfold okX; omega) h1 h2).2.1, (samp_mid (g := g) (show okX x by unfold okX; omega) h1 h2).2.2] <;> rfl, by rw [(samp_mid (g := g) (show okX x by unfold okX; omega) h1 h2).1] <;> rfl⟩
        · -- False
          refine RV.op (OV.step gno (Step.assign rfl) rfl ?_)
          refine RV.nil ?_
          refine KV.then_n ?_
          refine KV.env [(0, _), (1, _), (33, _)] ⟨rfl, rfl, rfl, trivial⟩ ?_
          refine CV.cond_f rfl ?_
          -- region 3 perf.go:141
          refine CV.region ?_
          refine RV.op (OV.step gno (Step.move rfl) rfl ?_)
          refine RV.op (OV.step gno (Step.nilCheck rfl) rfl ?_)
          refine RV.op (OV.step gno (Step.fieldAddr rfl (F66_5 _ _)) rfl ?_)
          refine RV.op (OV.store 0 [_] #[_, _, _, _, _, _, _, _] I3 rfl rfl rfl rfl rfl (Nat.le_of_ble_eq_true rfl) (by simp [Value.oneCell']) rfl gno ?_)
          refine RV.nil ?_
          refine KV.block_n ?_
          refine KV.then_n ?_
          refine KV.env [(0, _)] ⟨rfl, trivial⟩ ?_
          refine CV.seq ?_
          -- region 12 perf.go:143
          refine CV.region ?_
          refine RV.op (OV.step gno (Step.move rfl) rfl ?_)
          refine RV.op (OV.step gno (Step.nilCheck rfl) rfl ?_)
          refine RV.op (OV.step gno (Step.fieldAddr rfl (F66_4 _ _)) rfl ?_)
          refine RV.op (OV.step gno (Step.load Try.underlying3 rfl rfl (fun w h => h.cell 0 rfl rfl)) rfl ?_)
          refine RV.op (OV.step gno (Step.assign rfl) rfl ?_)
          refine RV.op (OV.step gno (Step.assign rfl) rfl ?_)
          refine RV.nil ?_
          refine KV.then_n ?_
          refine KV.env [(4, _), (5, _)] ⟨rfl, rfl, trivial⟩ ?_
          refine CV.ret ?_
          -- return at r12
          first | exact KV.ret2 rfl rfl rfl _ (fun _ h => h) ⟨by rw [(samp_hi (g := g) (show okX x by unfold okX; omega) h1).2.1, (samp_hi (g := g) (show okX x by unfold okX; omega) h1).2.2] <;> rfl, by rw [(samp_hi (g := g) (show okX x by unfold okX; omega) h1).1] <;> rfl⟩ | exact KV.ret2 rfl rfl rfl _ (fun _ h => h) ⟨by rw [(samp_suf (g := g) (show okX x by unfold okX; omega) h1 h2 h3).2.1, (samp_suf (g := g) (show okX x by unfold okX; omega) h1 h2 h3).2.2] <;> rfl, by rw [(samp_suf (g := g) (show okX x by unfold okX; omega) h1 h2 h3).1] <;> rfl⟩ | exact KV.ret2 rfl rfl rfl _ (fun _ h => h) ⟨by rw [(samp_wait (g := g) (show okX x by unfold okX; omega) h1 h2 h3).2.1, (samp_wait (g := g) (show okX x by unfold okX; omega) h1 h2 h3).2.2] <;> rfl, by rw [(samp_wait (g := g) (show okX x by unfold okX; omega) h1 h2 h3).1] <;> rfl⟩ | exact KV.ret2 rfl rfl rfl _ (fun _ h => h) ⟨by rw [(samp_mid (g := g) (show okX x by unfold okX; omega) h1 h2).2.1, (samp_mid (g := g) (show okX x by unfold okX; omega) h1 h2).2.2] <;> rfl, by rw [(samp_mid (g := g) (show okX x by unfold okX; omega) h1 h2).1] <;> rfl⟩

set_option maxRecDepth 100000 in
set_option maxHeartbeats 1000000 in
theorem sampleR_fn (b : Nat) (A : Option Addr) (c : Nat) (g : Gov) {w : World} (x : Int) (hg : g.ok) : Fx Try.prog 31 [.pointer (some ⟨b, 0, none⟩), .int .i64 x] w (gobj 69 b A c g) no (fun v L => v = .tuple #[.int .i64 (sampV g x), .int .i64 (sampE x)] ∧ L = gobj 69 b A c (sampG g x)) := by
  refine Sv.Fx.body Try.func31 rfl T31 rfl ?_
  intro I hro hI
  refine KV.env [(0, _), (1, _)] ⟨rfl, rfl, trivial⟩ ?_
  have hn1 := hg.n1
  have hn2 := hg.n2
  have hs2 := hg.s2
  refine CV.seq ?_
  -- region 0 ref.go:111
  refine CV.region ?_
  refine RV.op (OV.step gno (Step.assign rfl) rfl ?_)
  refine RV.op (OV.step gno (Step.assign rfl) rfl ?_)
  refine RV.nil ?_
  refine KV.then_n ?_
  refine KV.env [(0, _), (1, _)] ⟨rfl, rfl, trivial⟩ ?_
  refine CV.seq ?_
  refine CV.seq ?_
  -- region 1 ref.go:112
  refine CV.region ?_
  refine RV.op (OV.step gno (Step.move rfl) rfl ?_)
  refine RV.op (OV.split gno (Step.lss rfl rfl) rfl (fun cc1 => ?_) (fun cc1 => ?_))
  · -- True
    refine RV.op (OV.step gno (Step.move rfl) rfl ?_)
    refine RV.op (OV.skip rfl rfl ?_)
    refine RV.op (OV.skip rfl rfl ?_)
    refine RV.op (OV.step gno (Step.pick_t rfl rfl) rfl ?_)
    refine RV.nil ?_
    refine KV.then_n ?_
    refine KV.env [(0, _), (1, _), (12, _)] ⟨rfl, rfl, rfl, trivial⟩ ?_
    refine CV.cond_t rfl ?_
    refine CV.seq ?_
    -- region 2 ref.go:113
    refine CV.region ?_
    refine RV.op (OV.step gno (Step.assign rfl) rfl ?_)
    refine RV.op (OV.step gno (Step.assign rfl) rfl ?_)
    refine RV.nil ?_
    refine KV.then_n ?_
    refine KV.env [(4, _), (5, _)] ⟨rfl, rfl, trivial⟩ ?_
    refine CV.ret ?_
    refine KV.then_ret ?_
    -- return at r2
    exact KV.ret2 rfl rfl rfl _ (fun _ h => h) ⟨by rw [(samp_no (g := g) (show ¬ okX x by unfold okX; omega)).2.1, (samp_no (g := g) (show ¬ okX x by unfold okX; omega)).2.2] <;> rfl, by rw [(samp_no (g := g) (show ¬ okX x by unfold okX; omega)).1] <;> rfl⟩
  · -- False
    refine RV.op (OV.step gno (Step.move rfl) rfl ?_)
    refine RV.op (OV.step (gyes rfl) (Step.move rfl) rfl ?_)
    refine RV.op (OV.split (gyes rfl) (Step.gtr rfl rfl) rfl (fun cc2 => ?_) (fun cc2 => ?_))
    · -- True
      refine RV.op (OV.step gno (Step.pick_f rfl rfl) rfl ?_)
      refine RV.nil ?_
      refine KV.then_n ?_
      refine KV.env [(0, _), (1, _), (12, _)] ⟨rfl, rfl, rfl, trivial⟩ ?_
      refine CV.cond_t rfl ?_
      refine CV.seq ?_
      -- region 2 ref.go:113
      refine CV.region ?_
      refine RV.op (OV.step gno (Step.assign rfl) rfl ?_)
      refine RV.op (OV.step gno (Step.assign rfl) rfl ?_)
      refine RV.nil ?_
      refine KV.then_n ?_
      refine KV.env [(4, _), (5, _)] ⟨rfl, rfl, trivial⟩ ?_
      refine CV.ret ?_
      refine KV.then_ret ?_
      -- return at r2
      exact KV.ret2 rfl rfl rfl _ (fun _ h => h) ⟨by rw [(samp_no (g := g) (show ¬ okX x by unfold okX; omega)).2.1, (samp_no (g := g) (show ¬ okX x by unfold okX; omega)).2.2] <;> rfl, by rw [(samp_no (g := g) (show ¬ okX x by unfold okX; omega)).1] <;> rfl⟩
    · -- False
      refine RV.op (OV.step gno (Step.pick_f rfl rfl) rfl ?_)
      refine RV.nil ?_
      refine KV.then_n ?_
      refine KV.env [(0, _), (1, _), (12, _)] ⟨rfl, rfl, rfl, trivial⟩ ?_
      refine CV.cond_f rfl ?_
      refine CV.skip ?_
      refine KV.then_n ?_
      refine KV.env [(0, _), (1, _)] ⟨rfl, rfl, trivial⟩ ?_
      refine CV.seq ?_
      refine CV.block ?_
      refine CV.seq ?_
      -- region 4 ref.go:116
      refine CV.region ?_
      refine RV.op (OV.step gno (Step.move rfl) rfl ?_)
      refine RV.op (OV.step gno (Step.move rfl) rfl ?_)
      refine RV.op (OV.step gno (Step.nilCheck rfl) rfl ?_)
      refine RV.op (OV.step gno (Step.fieldAddr rfl (F69_1 _ _)) rfl ?_)
      refine RV.op (OV.step gno (Step.fieldAddr rfl (F45_0 _ _)) rfl ?_)
      refine RV.op (OV.step gno (Step.load Try.underlying3 rfl rfl (fun w h => h.cell 0 rfl rfl)) rfl ?_)
      refine RV.op (OV.split gno (Step.gtr rfl rfl) rfl (fun h1 => ?_) (fun h1 => ?_))
      · -- True
        refine RV.op (OV.step gno (Step.assign rfl) rfl ?_)
        refine RV.nil ?_
        refine KV.then_n ?_
        refine KV.env [(0, _), (1, _), (16, _)] ⟨rfl, rfl, rfl, trivial⟩ ?_
        refine CV.cond_t rfl ?_
        -- region 5 ref.go:117
        refine CV.region ?_
        refine RV.op (OV.step gno (Step.move rfl) rfl ?_)
        refine RV.op (OV.step gno (Step.move rfl) rfl ?_)
        refine RV.op (OV.step gno (Step.move rfl) rfl ?_)
        refine RV.op (OV.step gno (Step.nilCheck rfl) rfl ?_)
        refine RV.op (OV.step gno (Step.fieldAddr rfl (F69_3 _ _)) rfl ?_)
        refine RV.op (OV.step gno (Step.load Try.underlying3 rfl rfl (fun w h => h.cell 0 rfl rfl)) rfl ?_)
        refine RV.op (OV.step gno (Step.nilCheck rfl) rfl ?_)
        refine RV.op (OV.step gno (Step.fieldAddr rfl (F69_4 _ _)) rfl ?_)
        refine RV.op (OV.store 0 [_] #[_, _, _, _, _, _, _, _] I3 rfl rfl rfl rfl rfl (Nat.le_of_ble_eq_true rfl) (by simp [Value.oneCell']) rfl gno ?_)
        refine RV.op (OV.step gno (Step.nilCheck rfl) rfl ?_)
        refine RV.op (OV.step gno (Step.fieldAddr rfl (F69_5 _ _)) rfl ?_)
        refine RV.op (OV.store 0 [_] #[_, _, _, _, _, _, _, _] I3 rfl rfl rfl rfl rfl (Nat.le_of_ble_eq_true rfl) (by simp [Value.oneCell']) rfl gno ?_)
        refine RV.nil ?_
        refine KV.block_n ?_
        refine KV.then_n ?_
        refine KV.env [(0, _)] ⟨rfl, trivial⟩ ?_
        refine CV.seq ?_
        -- region 17 ref.go:134
        refine CV.region ?_
        refine RV.op (OV.step gno (Step.move rfl) rfl ?_)
        refine RV.op (OV.step gno (Step.nilCheck rfl) rfl ?_)
        refine RV.op (OV.step gno (Step.fieldAddr rfl (F69_4 _ _)) rfl ?_)
        refine RV.op (OV.step gno (Step.load Try.underlying3 rfl rfl (fun w h => h.cell 0 rfl rfl)) rfl ?_)
        refine RV.op (OV.step gno (Step.assign rfl) rfl ?_)
        refine RV.op (OV.step gno (Step.assign rfl) rfl ?_)
        refine RV.nil ?_
        refine KV.then_n ?_
        refine KV.env [(4, _), (5, _)] ⟨rfl, rfl, trivial⟩ ?_
        refine CV.ret ?_
        -- return at r17
        first | exact KV.ret2 rfl rfl rfl _ (fun _ h => h) ⟨by rw [(samp_hi (g := g) (show okX x by unfold okX; omega) h1).2.1, (samp_hi (g := g) (show okX x by unfold okX; omega) h1).2.2] <;> rfl, by rw [(samp_hi (g := g) (show okX x by unfold okX; omega) h1).1] <;> rfl⟩ | exact KV.ret2 rfl rfl rfl _ (fun _ h => h) ⟨by rw [(samp_wait (g := g) (show okX x by unfold okX; omega) h1 h2 h3).2.1, (samp_wait (g := g) (show okX x by unfold okX; omega) h1 h2 h3).2.2] <;> rfl, by rw [(samp_wait (g := g) (show okX x by unfold okX; omega) h1 h2 h3).1] <;> rfl⟩ | exact KV.ret2 rfl rfl rfl _ (fun _ h => h) ⟨by rw [(samp_mid (g := g) (show okX x by unfold okX; omega) h1 h2).2.1, (samp_mid (g := g) (show okX x by unfold okX; omega) h1 h2).2.2] <;> rfl, by rw [(samp_mid (g := g) (show okX x by unfold okX; omega) h1 h2).1] <;> rfl⟩ | (have hsr := suf_ref2 hg (x := x) (fun i h1 h2 => hinv.2 i (by omega) h2); exact KV.ret2 rfl rfl rfl _ (fun _ h => h) ⟨by rw [(samp_suf (g := g) hx h1 h2 h3).2.1, (samp_suf (g := g) hx h1 h2 h3).2.2, hsr], by rw [(samp_suf (g := g) hx h1 h2 h3).1, hsr]; rfl⟩)
      · -- False
        refine RV.op (OV.step gno (Step.assign rfl) rfl ?_)
        refine RV.nil ?_
        refine KV.then_n ?_
        refine KV.env [(0, _), (1, _), (16, _)] ⟨rfl, rfl, rfl, trivial⟩ ?_
        refine CV.cond_f rfl ?_
        refine CV.seq ?_
        -- region 6 ref.go:118
        refine CV.region ?_
        refine RV.op (OV.step gno (Step.move rfl) rfl ?_)
        refine RV.op (OV.step gno (Step.move rfl) rfl ?_)
        refine RV.op (OV.step gno (Step.nilCheck rfl) rfl ?_)
        refine RV.op (OV.step gno (Step.fieldAddr rfl (F69_1 _ _)) rfl ?_)
        refine RV.op (OV.step gno (Step.fieldAddr rfl (F45_1 _ _)) rfl ?_)
        refine RV.op (OV.step gno (Step.load Try.underlying3 rfl rfl (fun w h => h.cell 0 rfl rfl)) rfl ?_)
        refine RV.op (OV.split gno (Step.lss rfl rfl) rfl (fun h2 => ?_) (fun h2 => ?_))
        · -- True
          refine RV.op (OV.step gno (Step.assign rfl) rfl ?_)
          refine RV.nil ?_
          refine KV.then_n ?_
          refine KV.env [(0, _), (1, _), (34, _)] ⟨rfl, rfl, rfl, trivial⟩ ?_
          refine CV.cond_t rfl ?_
          refine CV.seq ?_
          -- region 7 ref.go:119
          refine CV.region ?_
          refine RV.op (OV.step gno (Step.move rfl) rfl ?_)
          refine RV.op (OV.step gno (Step.nilCheck rfl) rfl ?_)
          refine RV.op (OV.step gno (Step.fieldAddr rfl (F69_5 _ _)) rfl ?_)
          refine RV.op (OV.step gno (Step.load Try.underlying3 rfl rfl (fun w h => h.cell 0 rfl rfl)) rfl ?_)
          (first | refine RV.op (OV.step gno (Step.add rfl rfl (wI64 (by omega) (by omega))) rfl ?_) | refine RV.op (OV.step gno (Step.add rfl rfl rfl) rfl ?_))
          refine RV.op (OV.step gno (Step.nilCheck rfl) rfl ?_)
          refine RV.op (OV.step gno (Step.fieldAddr rfl (F69_5 _ _)) rfl ?_)
          refine RV.op (OV.store 0 [_] #[_, _, _, _, _, _, _, _] I3 rfl rfl rfl rfl rfl (Nat.le_of_ble_eq_true rfl) (by simp [Value.oneCell']) rfl gno ?_)
          refine RV.nil ?_
          refine KV.then_n ?_
          refine KV.env [(0, _), (1, _)] ⟨rfl, rfl, trivial⟩ ?_
          refine CV.seq ?_
          -- region 8 ref.go:120
          refine CV.still (by kernel_rfl) (by kernel_rfl) (fun _ h => h.drew) ?_
          refine SV.step gno (Step.move rfl) rfl ?_
          refine SV.step gno (Step.nilCheck rfl) rfl ?_
          refine SV.step gno (Step.fieldAddr rfl (F69_5 _ _)) rfl ?_
          refine SV.step gno (Step.load Try.underlying3 rfl rfl (fun w h => h.cell 0 rfl rfl)) rfl ?_
          refine SV.step gno (Step.move rfl) rfl ?_
          refine SV.step gno (Step.nilCheck rfl) rfl ?_
          refine SV.step gno (Step.fieldAddr rfl (F69_1 _ _)) rfl ?_
          refine SV.step gno (Step.fieldAddr rfl (F45_2 _ _)) rfl ?_
          refine SV.step gno (Step.load Try.underlying3 rfl rfl (fun w h => h.cell 0 rfl rfl)) rfl ?_
          refine SV.split gno (Step.geq rfl rfl) rfl (fun h3 => ?_) (fun h3 => ?_)
          · -- True
            refine SV.nil ?_
            refine KV.then_n ?_
            refine KV.env [(0, _), (1, _), (58, _)] ⟨rfl, rfl, rfl, trivial⟩ ?_
            refine CV.cond_t rfl ?_
            refine CV.seq ?_
            -- region 9 ref.go:121
            refine CV.region ?_
            refine RV.op (OV.step gno (Step.move rfl) rfl ?_)
            refine RV.op (OV.step gno (Step.nilCheck rfl) rfl ?_)
            refine RV.op (OV.step gno (Step.fieldAddr rfl (F69_5 _ _)) rfl ?_)
            refine RV.op (OV.store 0 [_] #[_, _, _, _, _, _, _, _] I3 rfl rfl rfl rfl rfl (Nat.le_of_ble_eq_true rfl) (by simp [Value.oneCell']) rfl gno ?_)
            refine RV.nil ?_
            refine KV.then_n ?_
            refine KV.env [(0, _), (1, _)] ⟨rfl, rfl, trivial⟩ ?_
            refine CV.seq ?_
            refine CV.seq ?_
            -- region 10 ref.go:122
            have hx : okX x := by unfold okX; omega
            have hx4 := hx
            unfold okX at hx4
            have hyl := hg.t.1
            have hl1 := hg.l1
            have hl2 := hg.l2
            have hl3 := hg.l3
            have hu1 := hg.u1
            have hu2 := hg.u2
            have hbc := hg.t.big (show g.cu < g.ys.length by omega)
            unfold pt at hbc
            have hmc := mulB (f := (g.ys.getD g.cu ptK.d).f) (show 0 ≤ x by omega) (by omega) (by omega) (by omega)
            refine CV.region ?_
            refine RV.op (OV.step gno (Step.move rfl) rfl ?_)
            refine RV.op (OV.step gno (Step.nilCheck rfl) rfl ?_)
            refine RV.op (OV.step gno (Step.fieldAddr rfl (F69_4 _ _)) rfl ?_)
            refine RV.op (OV.step gno (Step.load Try.underlying3 rfl rfl (fun w h => h.cell 0 rfl rfl)) rfl ?_)
            refine RV.op (OV.step gno (Step.assign rfl) rfl ?_)
            refine RV.nil ?_
            refine KV.then_n ?_
            refine KV.env [(0, _), (1, _), (6, _)] ⟨rfl, rfl, rfl, trivial⟩ ?_
            refine CV.block ?_
            -- loop L11; live [0, 1, 6]
            refine KV.sel [0, 0] [_, _] rfl ?_
            refine CV.loopI (fun (p : Nat) => (g.lo ≤ p ∧ p ≤ g.cu + 1) ∧ ∀ i, p ≤ i → i ≤ g.cu → good g x i) (fun (p : Nat) => p) (fun (p : Nat) => [(0, .pointer (some ⟨b, 0, none⟩)), (1, .int .i64 x), (6, .int .i64 ((p : Int) - 1))]) (fun (p : Nat) => Hp I w [Blk b (.cells #[.slice A g.ys.length c, .int .i64 g.up, .int .i64 g.dn, .int .i64 g.sm, .int .i64 g.lo, .int .i64 g.hi, .int .i64 g.cu, .int .i64 0] 69 (0, 0)), OS 25 ptK A c g.ys]) (g.cu + 1) ⟨by omega, fun i h1 h2 => by omega⟩ ⟨rfl, rfl, (show some (Value.int .i64 _) = some (Value.int .i64 _) by congr 2; omega), trivial⟩ (fun _ h => h) ?_
            intro p hinv
            refine CV.seq ?_
            refine CV.seq ?_
            -- region 11 ref.go:122
            refine CV.region ?_
            refine RV.op (OV.step gno (Step.move rfl) rfl ?_)
            refine RV.op (OV.step gno (Step.move rfl) rfl ?_)
            refine RV.op (OV.step gno (Step.nilCheck rfl) rfl ?_)
            refine RV.op (OV.step gno (Step.fieldAddr rfl (F69_2 _ _)) rfl ?_)
            refine RV.op (OV.step gno (Step.load Try.underlying3 rfl rfl (fun w h => h.cell 0 rfl rfl)) rfl ?_)
            refine RV.op (OV.split gno (Step.geq rfl rfl) rfl (fun hp => ?_) (fun hp => ?_))
            · -- True
              obtain ⟨m, hm⟩ : ∃ m, p = m + 1 := ⟨p - 1, by omega⟩
              have hpm : (p : Int) - 1 = (m : Int) := by omega
              rw [hpm]
              refine RV.nil ?_
              refine KV.then_n ?_
              refine KV.env [(0, _), (1, _), (6, _), (71, _)] ⟨rfl, rfl, rfl, rfl, trivial⟩ ?_
              refine CV.cond_t rfl ?_
              refine CV.skip ?_
              refine KV.then_n ?_
              refine KV.env [(0, _), (1, _), (6, _)] ⟨rfl, rfl, rfl, trivial⟩ ?_
              refine CV.seq ?_
              refine CV.block ?_
              refine CV.seq ?_
              refine CV.seq ?_
              -- region 13 ref.go:123
              have hbp := hg.t.big (show m < g.ys.length by omega)
              unfold pt at hbp
              have hmp := mulB (f := (g.ys.getD m ptK.d).f) (show 0 ≤ g.up by omega) hu2 (by omega) (by omega)
              refine CV.still (by kernel_rfl) (by kernel_rfl) (fun _ h => h.drew) ?_
              refine SV.step gno (Step.move rfl) rfl ?_
              (first | refine SV.step gno (Step.convI Try.underlying3 Try.underlying23 rfl (wU64 (by omega) (by omega))) rfl ?_ | refine SV.step gno (Step.convI Try.underlying3 Try.underlying23 rfl rfl) rfl ?_)
              refine SV.step gno (Step.move rfl) rfl ?_
              refine SV.step gno (Step.nilCheck rfl) rfl ?_
              refine SV.step gno (Step.fieldAddr rfl (F69_0 _ _)) rfl ?_
              refine SV.step gno (Step.load Try.underlying22 rfl rfl (fun w h => h.cell 0 rfl rfl)) rfl ?_
              refine SV.step gno (Step.move rfl) rfl ?_
              refine SV.step gno (Step.nilCheck rfl) rfl ?_
              refine SV.step gno (Step.fieldAddr rfl (F69_4 _ _)) rfl ?_
              refine SV.step gno (Step.load Try.underlying3 rfl rfl (fun w h => h.cell 0 rfl rfl)) rfl ?_
              refine SV.step gno (Step.idx Try.underlying22 I25 (fun w h => h.os 1 rfl) rfl rfl (rfl) _ rfl (by omega)) rfl ?_
              refine SV.step gno (Step.fieldAddr rfl (F25_0 _ _)) rfl ?_
              refine SV.step gno (Step.load Try.underlying23 rfl rfl (fun w h => (h.os 1 rfl).cell0 (by omega) rfl)) rfl ?_
              (first | refine SV.step gno (Step.mul rfl rfl (wU64 (by omega) (by omega))) rfl ?_ | refine SV.step gno (Step.mul rfl rfl rfl) rfl ?_)
              refine SV.step gno (Step.move rfl) rfl ?_
              refine SV.step gno (Step.nilCheck rfl) rfl ?_
              refine SV.step gno (Step.fieldAddr rfl (F69_1 _ _)) rfl ?_
              refine SV.step gno (Step.fieldAddr rfl (F45_0 _ _)) rfl ?_
              refine SV.step gno (Step.load Try.underlying3 rfl rfl (fun w h => h.cell 0 rfl rfl)) rfl ?_
              (first | refine SV.step gno (Step.convI Try.underlying3 Try.underlying23 rfl (wU64 (by omega) (by omega))) rfl ?_ | refine SV.step gno (Step.convI Try.underlying3 Try.underlying23 rfl rfl) rfl ?_)
              refine SV.step gno (Step.move rfl) rfl ?_
              refine SV.step gno (Step.nilCheck rfl) rfl ?_
              refine SV.step gno (Step.fieldAddr rfl (F69_0 _ _)) rfl ?_
              refine SV.step gno (Step.load Try.underlying22 rfl rfl (fun w h => h.cell 0 rfl rfl)) rfl ?_
              refine SV.step gno (Step.move rfl) rfl ?_
              refine SV.step gno (Step.idx Try.underlying22 I25 (fun w h => h.os 1 rfl) rfl rfl (rfl) _ rfl (by omega)) rfl ?_
              refine SV.step gno (Step.fieldAddr rfl (F25_0 _ _)) rfl ?_
              refine SV.step gno (Step.load Try.underlying23 rfl rfl (fun w h => (h.os 1 rfl).cell0 (by omega) rfl)) rfl ?_
              (first | refine SV.step gno (Step.mul rfl rfl (wU64 (by omega) (by omega))) rfl ?_ | refine SV.step gno (Step.mul rfl rfl rfl) rfl ?_)
              refine SV.split gno (Step.leq rfl rfl) rfl (fun hq => ?_) (fun hq => ?_)
              · -- True
                refine SV.nil ?_
                refine KV.then_n ?_
                refine KV.env [(0, _), (1, _), (6, _), (103, _)] ⟨rfl, rfl, rfl, rfl, trivial⟩ ?_
                refine CV.cond_t rfl ?_
                refine CV.exit ?_
                refine KV.then_exit ?_
                refine KV.block_hit ?_
                refine KV.then_n ?_
                refine KV.env [(0, _), (1, _), (6, _)] ⟨rfl, rfl, rfl, trivial⟩ ?_
                -- region 12 ref.go:122
                refine CV.region ?_
                refine RV.op (OV.step gno (Step.move rfl) rfl ?_)
                (first | refine RV.op (OV.step gno (Step.sub rfl rfl (wI64 (by omega) (by omega))) rfl ?_) | refine RV.op (OV.step gno (Step.sub rfl rfl rfl) rfl ?_))
                refine RV.op (OV.step gno (Step.assign rfl) rfl ?_)
                refine RV.nil ?_
                refine KV.then_n ?_
                refine KV.env [(0, _), (1, _), (6, _)] ⟨rfl, rfl, rfl, trivial⟩ ?_
                refine KV.sel [0, 0] [_, _] rfl ?_
                exact KV.loopI (z := p) (m) ⟨by omega, fun i h1 h2 => by by_cases e : i = m; (subst e; exact hq); exact hinv.2 i (by omega) h2⟩ (by omega) ⟨rfl, rfl, (show some (Value.int .i64 _) = some (Value.int .i64 _) by first | rfl | (congr 2; omega)), trivial⟩ (fun _ h => h)
              · -- False
                refine SV.nil ?_
                refine KV.then_n ?_
                refine KV.env [(0, _), (1, _), (6, _), (103, _)] ⟨rfl, rfl, rfl, rfl, trivial⟩ ?_
                refine CV.cond_f rfl ?_
                refine CV.skip ?_
                refine KV.then_n ?_
                refine KV.env [(0, _), (6, _)] ⟨rfl, rfl, trivial⟩ ?_
                refine CV.seq ?_
                -- region 14 ref.go:126
                refine CV.region ?_
                refine RV.op (OV.step gno (Step.move rfl) rfl ?_)
                refine RV.op (OV.step gno (Step.move rfl) rfl ?_)
                (first | refine RV.op (OV.step gno (Step.add rfl rfl (wI64 (by omega) (by omega))) rfl ?_) | refine RV.op (OV.step gno (Step.add rfl rfl rfl) rfl ?_))
                refine RV.op (OV.step gno (Step.nilCheck rfl) rfl ?_)
                refine RV.op (OV.step gno (Step.fieldAddr rfl (F69_4 _ _)) rfl ?_)
                refine RV.op (OV.store 0 [_] #[_, _, _, _, _, _, _, _] I3 rfl rfl rfl rfl rfl (Nat.le_of_ble_eq_true rfl) (by simp [Value.oneCell']) rfl gno ?_)
                refine RV.nil ?_
                refine KV.then_n ?_
                refine KV.env [(0, _)] ⟨rfl, trivial⟩ ?_
                refine CV.seq ?_
                -- region 15 ref.go:127
                refine CV.region ?_
                refine RV.op (OV.step gno (Step.move rfl) rfl ?_)
                refine RV.op (OV.step gno (Step.nilCheck rfl) rfl ?_)
                refine RV.op (OV.step gno (Step.fieldAddr rfl (F69_4 _ _)) rfl ?_)
                refine RV.op (OV.step gno (Step.load Try.underlying3 rfl rfl (fun w h => h.cell 0 rfl rfl)) rfl ?_)
                refine RV.op (OV.step gno (Step.assign rfl) rfl ?_)
                refine RV.op (OV.step gno (Step.assign rfl) rfl ?_)
                refine RV.nil ?_
                refine KV.then_n ?_
                refine KV.env [(4, _), (5, _)] ⟨rfl, rfl, trivial⟩ ?_
                refine CV.ret ?_
                refine KV.block_ret ?_
                refine KV.then_ret ?_
                refine KV.then_ret ?_
                refine KV.block_ret ?_
                refine KV.then_ret ?_
                refine KV.block_ret ?_
                refine KV.then_ret ?_
                -- return at r15
                have hsr := suf_ref1 hg h2 (p := m) (by omega) (by omega) (fun i h1 h2 => hinv.2 i (by omega) h2) hq
                have hsi : ((sufM g x : Nat) : Int) = (m : Int) + 1 := by omega
                exact KV.ret2 rfl rfl rfl _ (fun _ h => h) ⟨by rw [(samp_suf (g := g) hx h1 h2 h3).2.1, (samp_suf (g := g) hx h1 h2 h3).2.2, hsi], by rw [(samp_suf (g := g) hx h1 h2 h3).1]; simp only [gobj, hsi]; rfl⟩
            · -- False
              refine RV.nil ?_
              refine KV.then_n ?_
              refine KV.env [(0, _), (1, _), (6, _), (71, _)] ⟨rfl, rfl, rfl, rfl, trivial⟩ ?_
              refine CV.cond_f rfl ?_
              refine CV.exit ?_
              refine KV.then_exit ?_
              refine KV.then_exit ?_
              refine KV.block_hit ?_
              refine KV.then_n ?_
              refine KV.env [(0, _)] ⟨rfl, trivial⟩ ?_
              -- region 16 ref.go:129
              refine CV.region ?_
              refine RV.op (OV.step gno (Step.move rfl) rfl ?_)
              refine RV.op (OV.step gno (Step.move rfl) rfl ?_)
              refine RV.op (OV.step gno (Step.nilCheck rfl) rfl ?_)
              refine RV.op (OV.step gno (Step.fieldAddr rfl (F69_2 _ _)) rfl ?_)
              refine RV.op (OV.step gno (Step.load Try.underlying3 rfl rfl (fun w h => h.cell 0 rfl rfl)) rfl ?_)
              refine RV.op (OV.step gno (Step.nilCheck rfl) rfl ?_)
              refine RV.op (OV.step gno (Step.fieldAddr rfl (F69_4 _ _)) rfl ?_)
              refine RV.op (OV.store 0 [_] #[_, _, _, _, _, _, _, _] I3 rfl rfl rfl rfl rfl (Nat.le_of_ble_eq_true rfl) (by simp [Value.oneCell']) rfl gno ?_)
              refine RV.nil ?_
              refine KV.block_n ?_
              refine KV.then_n ?_
              refine KV.env [(0, _)] ⟨rfl, trivial⟩ ?_
              refine CV.seq ?_
              -- region 17 ref.go:134
              refine CV.region ?_
              refine RV.op (OV.step gno (Step.move rfl) rfl ?_)
              refine RV.op (OV.step gno (Step.nilCheck rfl) rfl ?_)
              refine RV.op (OV.step gno (Step.fieldAddr rfl (F69_4 _ _)) rfl ?_)
              refine RV.op (OV.step gno (Step.load Try.underlying3 rfl rfl (fun w h => h.cell 0 rfl rfl)) rfl ?_)
              refine RV.op (OV.step gno (Step.assign rfl) rfl ?_)
              refine RV.op (OV.step gno (Step.assign rfl) rfl ?_)
              refine RV.nil ?_
              refine KV.then_n ?_
              refine KV.env [(4, _), (5, _)] ⟨rfl, rfl, trivial⟩ ?_
              refine CV.ret ?_
              -- return at r17
              first | exact KV.ret2 rfl rfl rfl _ (fun _ h => h) ⟨by rw [(samp_hi (g := g) (show okX x by unfold okX; omega) h1).2.1, (samp_hi (g := g) (show okX x by unfold okX; omega) h1).2.2] <;> rfl, by rw [(samp_hi (g := g) (show okX x by unfold okX; omega) h1).1] <;> rfl⟩ | exact KV.ret2 rfl rfl rfl _ (fun _ h => h) ⟨by rw [(samp_wait (g := g) (show okX x by unfold okX; omega) h1 h2 h3).2.1, (samp_wait (g := g) (show okX x by unfold okX; omega) h1 h2 h3).2.2] <;> rfl, by rw [(samp_wait (g := g) (show okX x by unfold okX; omega) h1 h2 h3).1] <;> rfl⟩ | exact KV.ret2 rfl rfl rfl _ (fun _ h => h) ⟨by rw [(samp_mid (g := g) (show okX x by unfold okX; omega) h1 h2).2.1, (samp_mid (g := g) (show okX x by unfold okX; omega) h1 h2).2.2] <;> rfl, by rw [(samp_mid (g := g) (show okX x by unfold okX; omega) h1 h2).1] <;> rfl⟩ | (have hsr := suf_ref2 hg (x := x) (fun i h1 h2 => hinv.2 i (by omega) h2); exact KV.ret2 rfl rfl rfl _ (fun _ h => h) ⟨by rw [(samp_suf (g := g) hx h1 h2 h3).2.1, (samp_suf (g := g) hx h1 h2 h3).2.2, hsr], by rw [(samp_suf (g := g) hx h1 h2 h3).1, hsr]; rfl⟩)
          · -- False
            refine SV.nil ?_
            refine KV.then_n ?_
            refine KV.env [(0, _), (1, _), (58, _)] ⟨rfl, rfl, rfl, trivial⟩ ?_
            refine CV.cond_f rfl ?_
            refine CV.skip ?_
            refine KV.block_n ?_
            refine KV.then_n ?_
            refine KV.env [(0, _)] ⟨rfl, trivial⟩ ?_
            refine CV.seq ?_
            -- region 17 ref.go:134
            refine CV.region ?_
            refine RV.op (OV.step gno (Step.move rfl) rfl ?_)
            refine RV.op (OV.step gno (Step.nilCheck rfl) rfl ?_)
            refine RV.op (OV.step gno (Step.fieldAddr rfl (F69_4 _ _)) rfl ?_)
            refine RV.op (OV.step gno (Step.load Try.underlying3 rfl rfl (fun w h => h.cell 0 rfl rfl)) rfl ?_)
            refine RV.op (OV.step gno (Step.assign rfl) rfl ?_)
            refine RV.op (OV.step gno (Step.assign rfl) rfl ?_)
            refine RV.nil ?_
            refine KV.then_n ?_
            refine KV.env [(4, _), (5, _)] ⟨rfl, rfl, trivial⟩ ?_
            refine CV.ret ?_
            -- return at r17
            first | exact KV.ret2 rfl rfl rfl _ (fun _ h => h) ⟨by rw [(samp_hi (g := g) (show okX x by unfold okX; omega) h1).2.1, (samp_hi (g := g) (show okX x by unfold okX; omega) h1).2.2] <;> rfl, by rw [(samp_hi (g := g) (show okX x by unfold okX; omega) h1).1] <;> rfl⟩ | exact KV.ret2 rfl rfl rfl _ (fun _ h => h) ⟨by rw [(samp_wait (g := g) (show okX x by unfold okX; omega) h1 h2 h3).2.1, (samp_wait (g := g) (show okX x by unfold okX; omega) h1 h2 h3).2.2] <;> rfl, by rw [(samp_wait (g := g) (show okX x by unfold okX; omega) h1 h2 h3).1] <;> rfl⟩ | exact KV.ret2 rfl rfl rfl _ (fun _ h => h) ⟨by rw [(samp_mid (g := g) (show okX x by unfold okX; omega) h1 h2).2.1, (samp_mid (g := g) (show okX x by unfold okX; omega) h1 h2).2.2] <;> rfl, by rw [(samp_mid (g := g) (show okX x by unfold okX; omega) h1 h2).1] <;> rfl⟩ | (have hsr := suf_ref2 hg (x := x) (fun i h1 h2 => hinv.2 i (by omega) h2); exact KV.ret2 rfl rfl rfl _ (fun _ h => h) ⟨by rw [(samp_suf (g := g) hx h1 h2 h3).2.1, (samp_suf (g := g) hx h1 h2 h3).2.2, hsr], by rw [(samp_suf (g := g) hx h1 h2 h3).1, hsr]; rfl⟩)
        · -- False
          refine RV.op (OV.step gno (Step.assign rfl) rfl ?_)
          refine RV.nil ?_
          refine KV.then_n ?_
          refine KV.env [(0, _), (1, _), (34, _)] ⟨rfl, rfl, rfl, trivial⟩ ?_
          refine CV.cond_f rfl ?_
          -- region 3 ref.go:132
          refine CV.region ?_
          refine RV.op (OV.step gno (Step.move rfl) rfl ?_)
          refine RV.op (OV.step gno (Step.nilCheck rfl) rfl ?_)
          refine RV.op (OV.step gno (Step.fieldAddr rfl (F69_5 _ _)) rfl ?_)
          refine RV.op (OV.store 0 [_] #[_, _, _, _, _, _, _, _] I3 rfl rfl rfl rfl rfl (Nat.le_of_ble_eq_true rfl) (by simp [Value.oneCell']) rfl gno ?_)
          refine RV.nil ?_
          refine KV.block_n ?_
          refine KV.then_n ?_
          refine KV.env [(0, _)] ⟨rfl, trivial⟩ ?_
          refine CV.seq ?_
          -- region 17 ref.go:134
          refine CV.region ?_
          refine RV.op (OV.step gno (Step.move rfl) rfl ?_)
          refine RV.op (OV.step gno (Step.nilCheck rfl) rfl ?_)
          refine RV.op (OV.step gno (Step.fieldAddr rfl (F69_4 _ _)) rfl ?_)
          refine RV.op (OV.step gno (Step.load Try.underlying3 rfl rfl (fun w h => h.cell 0 rfl rfl)) rfl ?_)
          refine RV.op (OV.step gno (Step.assign rfl) rfl ?_)
          refine RV.op (OV.step gno (Step.assign rfl) rfl ?_)
          refine RV.nil ?_
          refine KV.then_n ?_
          refine KV.env [(4, _), (5, _)] ⟨rfl, rfl, trivial⟩ ?_
          refine CV.ret ?_
          -- return at r17
          first | exact KV.ret2 rfl rfl rfl _ (fun _ h => h) ⟨by rw [(samp_hi (g := g) (show okX x by unfold okX; omega) h1).2.1, (samp_hi (g := g) (show okX x by unfold okX; omega) h1).2.2] <;> rfl, by rw [(samp_hi (g := g) (show okX x by unfold okX; omega) h1).1] <;> rfl⟩ | exact KV.ret2 rfl rfl rfl _ (fun _ h => h) ⟨by rw [(samp_wait (g := g) (show okX x by unfold okX; omega) h1 h2 h3).2.1, (samp_wait (g := g) (show okX x by unfold okX; omega) h1 h2 h3).2.2] <;> rfl, by rw [(samp_wait (g := g) (show okX x by unfold okX; omega) h1 h2 h3).1] <;> rfl⟩ | exact KV.ret2 rfl rfl rfl _ (fun _ h => h) ⟨by rw [(samp_mid (g := g) (show okX x by unfold okX; omega) h1 h2).2.1, (samp_mid (g := g) (show okX x by unfold okX; omega) h1 h2).2.2] <;> rfl, by rw [(samp_mid (g := g) (show okX x by unfold okX; omega) h1 h2).1] <;> rfl⟩ | (have hsr := suf_ref2 hg (x := x) (fun i h1 h2 => hinv.2 i (by omega) h2); exact KV.ret2 rfl rfl rfl _ (fun _ h => h) ⟨by rw [(samp_suf (g := g) hx h1 h2 h3).2.1, (samp_suf (g := g) hx h1 h2 h3).2.2, hsr], by rw [(samp_suf (g := g) hx h1 h2 h3).1, hsr]; rfl⟩)
end Go.Proofs.Ytaafpnoffdcbnaa
