/-
  Walks, part 16.
-/
import Derived.Test.YthdpojggdodpfaaTabs
import Derived.Test.YthdpojggdodpfaaW15
import Derived.Test.YthdpojggdodpfaaRmA
set_option linter.unusedSimpArgs false
set_option linter.unusedVariables false
namespace Go.Proofs.Ythdpojggdodpfaa
open Go.Sv Go.Ios
set_option maxRecDepth 100000 in
set_option maxHeartbeats 4000000 in
theorem rpoke_fn (b : Nat) (s : RB) {w : World} (hk : s.ok) (z x v : Int) (hx : isU x) (hv : 0 ≤ v ∧ v ≤ 255) : Fx Try.prog 41 [.pointer (some ⟨b, 0, none⟩), .int .i64 z, .int .u64 x, .int .u8 v] w (rbL b s) no (fun r L => (¬ 0 ≤ fR s.ms z x ∧ r = .bool false ∧ L = rbL b s) ∨ (∃ i : Nat, fR s.ms z x = i ∧ i < s.ms.length ∧ r = .bool true ∧ L = rbL b (setB s i ((s.ms.getD i rhK.d).bs.set (x - (s.ms.getD i rhK.d).base).toNat v)))) := by
  refine Sv.Fx.body Try.func41 rfl T41 rfl ?_
  intro I hro hI
  refine KV.env [(0, _), (1, _), (2, _), (3, _)] ⟨rfl, rfl, rfl, rfl, trivial⟩ ?_
  have hw := hk.en
  have hmx := hk.max
  have hfx := hk.fl
  refine CV.seq ?_
  -- region 0 iospace.go:202
  refine CV.region ?_
  refine RV.op (OV.step gno (Step.assign rfl) rfl ?_)
  refine RV.nil ?_
  refine KV.then_n ?_
  refine KV.env [(0, _), (1, _), (2, _), (3, _)] ⟨rfl, rfl, rfl, rfl, trivial⟩ ?_
  refine CV.seq ?_
  -- region 1 iospace.go:203
  refine CV.region ?_
  refine RV.op (OV.step gno (Step.move rfl) rfl ?_)
  refine RV.op (OV.step gno (Step.move rfl) rfl ?_)
  refine RV.op (OV.step gno (Step.move rfl) rfl ?_)
  refine RV.op (OV.call [0, 0, 0, 0, 0] (F := []) Try.func56 B56 N56 rfl rfl (fun w h => rfind_fn b s hk z x hx) (fun _ hb => hb.elim) gno rfl (fun v L' hp => ?_))
  obtain ⟨rfl, rfl⟩ := hp
  refine RV.op (OV.step gno (Step.assign rfl) rfl ?_)
  refine RV.nil ?_
  refine KV.then_n ?_
  refine KV.env [(0, _), (2, _), (3, _), (9, _)] ⟨rfl, rfl, rfl, rfl, trivial⟩ ?_
  refine CV.seq ?_
  refine CV.seq ?_
  -- region 2 iospace.go:204
  refine CV.region ?_
  refine RV.op (OV.step gno (Step.move rfl) rfl ?_)
  refine RV.op (OV.split gno (Step.geq rfl rfl) rfl (fun hq => ?_) (fun hq => ?_))
  · -- True
    obtain ⟨i, hfi, hi, hit, hfst⟩ := fR_pos (show 0 ≤ fR s.ms z x by omega)
    have hit1 : (s.ms.getD i rhK.d).base ≤ x := hit.2.1
    have hit2 : x - (s.ms.getD i rhK.d).base < (s.ms.getD i rhK.d).len := hit.2.2
    have hmo := hk.each i hi
    have hml : (s.ms.getD i rhK.d).bs.length = (s.ms.getD i rhK.d).len.toNat := hmo.l
    have hmb : isU (s.ms.getD i rhK.d).base := hmo.b
    unfold isU at hmb hx
    rw [hfi]
    refine RV.nil ?_
    refine KV.then_n ?_
    refine KV.env [(0, _), (2, _), (3, _), (9, _), (15, _)] ⟨rfl, rfl, rfl, rfl, rfl, trivial⟩ ?_
    refine CV.cond_t rfl ?_
    -- region 3 iospace.go:205
    refine KV.sel [0, 0, 0, 0, 0] [_, _, _, _, _] rfl ?_
    refine KV.heap (fun w h => openR h hi) ?_
    refine CV.stillTail 21 (by kernel_rfl) (by kernel_rfl) (fun _ h => h.drew) ?_
    refine SV.step gno (Step.move rfl) rfl ?_
    refine SV.step gno (Step.nilCheck rfl) rfl ?_
    refine SV.step gno (Step.fieldAddr rfl (F56_0 _ _)) rfl ?_
    refine SV.step gno (Step.load Try.underlying51 rfl rfl (fun w h => h.cell 0 rfl (rbC_m hw))) rfl ?_
    refine SV.step gno (Step.move rfl) rfl ?_
    refine SV.step gno (Step.idx Try.underlying51 I94 (fun w h => h.os 1 rfl) rfl rfl (rfl) _ rfl (by omega)) rfl ?_
    refine SV.step gno (Step.fieldAddr rfl (F94_3 _ _)) rfl ?_
    refine SV.step gno (Step.load Try.underlying23 rfl rfl (fun w h => (h.os 1 rfl).cell (j := 4) (by omega) rfl)) rfl ?_
    refine SV.step gno (Step.move rfl) rfl ?_
    refine SV.step gno (Step.move rfl) rfl ?_
    refine SV.step gno (Step.nilCheck rfl) rfl ?_
    refine SV.step gno (Step.fieldAddr rfl (F56_0 _ _)) rfl ?_
    refine SV.step gno (Step.load Try.underlying51 rfl rfl (fun w h => h.cell 0 rfl (rbC_m hw))) rfl ?_
    refine SV.step gno (Step.move rfl) rfl ?_
    refine SV.step gno (Step.idx Try.underlying51 I94 (fun w h => h.os 1 rfl) rfl rfl (rfl) _ rfl (by omega)) rfl ?_
    refine SV.step gno (Step.fieldAddr rfl (F94_1 _ _)) rfl ?_
    refine SV.step gno (Step.fieldAddr rfl (F32_0 _ _)) rfl ?_
    refine SV.step gno (Step.load Try.underlying22 rfl rfl (fun w h => (h.os 1 rfl).cell (j := 1) (by omega) rfl)) rfl ?_
    (first | refine SV.step gno (Step.sub rfl rfl (wU64 (by omega) (by omega))) rfl ?_ | refine SV.step gno (Step.sub rfl rfl rfl) rfl ?_)
    refine SV.step gno (Step.move rfl) rfl ?_
    refine SV.step gno (Step.idx Try.underlying23 I5 (fun w h => h.os 2 rfl) rfl rfl (rfl) _ (show x - (s.ms.getD i rhK.d).base = ((((x - (s.ms.getD i rhK.d).base).toNat) : Nat) : Int) by omega) (by omega)) rfl ?_
    refine SV.nil ?_
    show KV _ (wpList _ _ _ _) _ _
    refine RV.op (OV.storeE 2 ((x - (s.ms.getD i rhK.d).base).toNat) (v) (j := 0) [_] I5 rfl rfl rfl rfl rfl rfl (by omega) rfl (Nat.le_of_ble_eq_true rfl) gno ?_)
    refine KV.sel [0, 0, 0, 0, 0, 0] [_, _, _, _, _, _] rfl ?_
    refine KV.heap (fun w h => closeR h hi (by rw [List.length_set])) ?_
    refine RV.nil ?_
    refine KV.then_n ?_
    refine KV.env [(9, _)] ⟨rfl, trivial⟩ ?_
    refine CV.seq ?_
    -- region 4 iospace.go:207
    refine CV.region ?_
    refine RV.op (OV.step gno (Step.move rfl) rfl ?_)
    refine RV.op (OV.split gno (Step.geq rfl rfl) rfl (fun hq2 => ?_) (fun hq2 => ?_))
    · -- True
      refine RV.op (OV.step gno (Step.assign rfl) rfl ?_)
      refine RV.nil ?_
      refine KV.then_n ?_
      refine KV.env [(8, _)] ⟨rfl, trivial⟩ ?_
      refine CV.ret ?_
      -- return at r4
      refine KV.sel [0, 0, 0, 0, 0] [_, _, _, _, _] rfl ?_
      first | (exfalso; omega) | exact KV.ret1 rfl rfl _ (fun _ h => h) (.inr ⟨i, rfl, hi, rfl, rfl⟩) | exact KV.ret1 rfl rfl _ (fun _ h => h) (.inl ⟨hq, rfl, rfl⟩)
    · -- False
      refine RV.op (OV.step gno (Step.assign rfl) rfl ?_)
      refine RV.nil ?_
      refine KV.then_n ?_
      refine KV.env [(8, _)] ⟨rfl, trivial⟩ ?_
      refine CV.ret ?_
      -- return at r4
      refine KV.sel [0, 0, 0, 0, 0] [_, _, _, _, _] rfl ?_
      first | (exfalso; omega) | exact KV.ret1 rfl rfl _ (fun _ h => h) (.inr ⟨i, rfl, hi, rfl, rfl⟩) | exact KV.ret1 rfl rfl _ (fun _ h => h) (.inl ⟨hq, rfl, rfl⟩)
  · -- False
    refine RV.nil ?_
    refine KV.then_n ?_
    refine KV.env [(0, _), (2, _), (3, _), (9, _), (15, _)] ⟨rfl, rfl, rfl, rfl, rfl, trivial⟩ ?_
    refine CV.cond_f rfl ?_
    refine CV.skip ?_
    refine KV.then_n ?_
    refine KV.env [(9, _)] ⟨rfl, trivial⟩ ?_
    refine CV.seq ?_
    -- region 4 iospace.go:207
    refine CV.region ?_
    refine RV.op (OV.step gno (Step.move rfl) rfl ?_)
    refine RV.op (OV.split gno (Step.geq rfl rfl) rfl (fun hq2 => ?_) (fun hq2 => ?_))
    · -- True
      refine RV.op (OV.step gno (Step.assign rfl) rfl ?_)
      refine RV.nil ?_
      refine KV.then_n ?_
      refine KV.env [(8, _)] ⟨rfl, trivial⟩ ?_
      refine CV.ret ?_
      -- return at r4
      refine KV.sel [0, 0, 0, 0, 0] [_, _, _, _, _] rfl ?_
      first | (exfalso; omega) | exact KV.ret1 rfl rfl _ (fun _ h => h) (.inr ⟨i, rfl, hi, rfl, rfl⟩) | exact KV.ret1 rfl rfl _ (fun _ h => h) (.inl ⟨hq, rfl, rfl⟩)
    · -- False
      refine RV.op (OV.step gno (Step.assign rfl) rfl ?_)
      refine RV.nil ?_
      refine KV.then_n ?_
      refine KV.env [(8, _)] ⟨rfl, trivial⟩ ?_
      refine CV.ret ?_
      -- return at r4
      refine KV.sel [0, 0, 0, 0, 0] [_, _, _, _, _] rfl ?_
      first | (exfalso; omega) | exact KV.ret1 rfl rfl _ (fun _ h => h) (.inr ⟨i, rfl, hi, rfl, rfl⟩) | exact KV.ret1 rfl rfl _ (fun _ h => h) (.inl ⟨hq, rfl, rfl⟩)

set_option maxRecDepth 100000 in
set_option maxHeartbeats 4000000 in
theorem rwell_fn (a : Acs) (hu : isU a.addr) {w : World} : Fx Try.prog 57 [.agg #[.int .i64 a.space, .int .u64 a.addr, .int .i64 a.width, .bool a.wr, .int .u64 a.val]] w [] no (fun v L => v = .bool (decide (wfA a)) ∧ L = []) := by
  refine Sv.Fx.body Try.func57 rfl T57 rfl ?_
  intro I hro hI
  refine KV.env [(0, _)] ⟨rfl, trivial⟩ ?_
  refine CV.seq ?_
  -- region 0 iospace.go:125
  refine CV.region ?_
  refine RV.op (OV.box (t := 37) #[_, _, _, _, _] rfl rfl gno rfl (fun b0_0 => ?_))
  refine RV.op (OV.step gno (Step.assign rfl) rfl ?_)
  refine RV.nil ?_
  refine KV.then_n ?_
  refine KV.env [(1, _)] ⟨rfl, trivial⟩ ?_
  refine CV.seq ?_
  -- region 1 iospace.go:126
  refine CV.region ?_
  refine RV.op (OV.step gno (Step.fieldAddr rfl (F37_0 _ _)) rfl ?_)
  refine RV.op (OV.step gno (Step.load Try.underlying3 rfl rfl (fun w h => h.cell 0 rfl rfl)) rfl ?_)
  refine RV.op (OV.call [] Try.func52 B52 N52 rfl rfl (fun w h => (ordinary_fn a.space).fn w) (fun _ hb => hb.elim) gno rfl (fun v L' hp => ?_))
  obtain ⟨rfl, rfl⟩ := hp
  simp only [List.append_nil]
  by_cases hz : 0 ≤ a.space ∧ a.space < 3
  · rw [decide_eq_true hz]
    refine RV.op (OV.step gno (Step.move rfl) rfl ?_)
    refine RV.op (OV.step (gyes rfl) (Step.fieldAddr rfl (F37_2 _ _)) rfl ?_)
    refine RV.op (OV.step (gyes rfl) (Step.load Try.underlying3 rfl rfl (fun w h => h.cell 0 rfl rfl)) rfl ?_)
    refine RV.op (OV.split (gyes rfl) (Step.eql rfl rfl) rfl (fun w1 => ?_) (fun w1 => ?_))
    · -- True
      refine RV.op (OV.step (gyes rfl) (Step.move rfl) rfl ?_)
      refine RV.op (OV.skip rfl rfl ?_)
      refine RV.op (OV.skip rfl rfl ?_)
      refine RV.op (OV.skip rfl rfl ?_)
      refine RV.op (OV.step (gyes rfl) (Step.pick_t rfl rfl) rfl ?_)
      refine RV.op (OV.step (gyes rfl) (Step.move rfl) rfl ?_)
      refine RV.op (OV.skip rfl rfl ?_)
      refine RV.op (OV.skip rfl rfl ?_)
      refine RV.op (OV.skip rfl rfl ?_)
      refine RV.op (OV.step (gyes rfl) (Step.pick_t rfl rfl) rfl ?_)
      refine RV.op (OV.step (gyes rfl) (Step.move rfl) rfl ?_)
      refine RV.op (OV.skip rfl rfl ?_)
      refine RV.op (OV.skip rfl rfl ?_)
      refine RV.op (OV.skip rfl rfl ?_)
      refine RV.op (OV.step (gyes rfl) (Step.pick_t rfl rfl) rfl ?_)
      refine RV.op (OV.step gno (Step.pick_t rfl rfl) rfl ?_)
      refine RV.op (OV.step gno (Step.move rfl) rfl ?_)
      refine RV.op (OV.step (gyes rfl) (Step.fieldAddr rfl (F37_1 _ _)) rfl ?_)
      refine RV.op (OV.step (gyes rfl) (Step.load Try.underlying22 rfl rfl (fun w h => h.cell 0 rfl rfl)) rfl ?_)
      refine RV.op (OV.step (gyes rfl) (Step.fieldAddr rfl (F37_2 _ _)) rfl ?_)
      refine RV.op (OV.step (gyes rfl) (Step.load Try.underlying3 rfl rfl (fun w h => h.cell 0 rfl rfl)) rfl ?_)
      (first | refine RV.op (OV.step (gyes rfl) (Step.convI Try.underlying3 Try.underlying22 rfl (wU64 (by omega) (by omega))) rfl ?_) | refine RV.op (OV.step (gyes rfl) (Step.convI Try.underlying3 Try.underlying22 rfl rfl) rfl ?_))
      refine RV.op (OV.step (gyes rfl) (Step.rem rfl rfl (by omega) (rfl)) rfl ?_)
      refine RV.op (OV.split (gyes rfl) (Step.eql rfl rfl) rfl (fun hr => ?_) (fun hr => ?_))
      · -- True
        refine RV.op (OV.step gno (Step.pick_t rfl rfl) rfl ?_)
        refine RV.op (OV.step gno (Step.assign rfl) rfl ?_)
        refine RV.nil ?_
        refine KV.then_n ?_
        refine KV.env [(2, _)] ⟨rfl, trivial⟩ ?_
        refine CV.ret ?_
        -- return at r1
        refine KV.sel [] [] rfl ?_
        have hcl : wfA a ∨ ¬ wfA a := Decidable.em _
        first | exact KV.ret1 rfl rfl _ (fun _ h => h) ⟨by rw [decide_eq_true (show wfA a from ⟨by unfold isW; omega, hz, hr⟩)], rfl⟩ | exact KV.ret1 rfl rfl _ (fun _ h => h) ⟨by rw [decide_eq_false (show ¬ wfA a from fun k => by first | exact hz k.2.1 | exact hr k.2.2 | (have := k.1; unfold isW at this; omega))], rfl⟩
      · -- False
        refine RV.op (OV.step gno (Step.pick_t rfl rfl) rfl ?_)
        refine RV.op (OV.step gno (Step.assign rfl) rfl ?_)
        refine RV.nil ?_
        refine KV.then_n ?_
        refine KV.env [(2, _)] ⟨rfl, trivial⟩ ?_
        refine CV.ret ?_
        -- return at r1
        refine KV.sel [] [] rfl ?_
        have hcl : wfA a ∨ ¬ wfA a := Decidable.em _
        first | exact KV.ret1 rfl rfl _ (fun _ h => h) ⟨by rw [decide_eq_true (show wfA a from ⟨by unfold isW; omega, hz, hr⟩)], rfl⟩ | exact KV.ret1 rfl rfl _ (fun _ h => h) ⟨by rw [decide_eq_false (show ¬ wfA a from fun k => by first | exact hz k.2.1 | exact hr k.2.2 | (have := k.1; unfold isW at this; omega))], rfl⟩
    · -- False
      refine RV.op (OV.step (gyes rfl) (Step.move rfl) rfl ?_)
      refine RV.op (OV.step (gyes rfl) (Step.fieldAddr rfl (F37_2 _ _)) rfl ?_)
      refine RV.op (OV.step (gyes rfl) (Step.load Try.underlying3 rfl rfl (fun w h => h.cell 0 rfl rfl)) rfl ?_)
      refine RV.op (OV.split (gyes rfl) (Step.eql rfl rfl) rfl (fun w2 => ?_) (fun w2 => ?_))
      · -- True
        refine RV.op (OV.step (gyes rfl) (Step.pick_f rfl rfl) rfl ?_)
        refine RV.op (OV.step (gyes rfl) (Step.move rfl) rfl ?_)
        refine RV.op (OV.skip rfl rfl ?_)
        refine RV.op (OV.skip rfl rfl ?_)
        refine RV.op (OV.skip rfl rfl ?_)
        refine RV.op (OV.step (gyes rfl) (Step.pick_t rfl rfl) rfl ?_)
        refine RV.op (OV.step (gyes rfl) (Step.move rfl) rfl ?_)
        refine RV.op (OV.skip rfl rfl ?_)
        refine RV.op (OV.skip rfl rfl ?_)
        refine RV.op (OV.skip rfl rfl ?_)
        refine RV.op (OV.step (gyes rfl) (Step.pick_t rfl rfl) rfl ?_)
        refine RV.op (OV.step gno (Step.pick_t rfl rfl) rfl ?_)
        refine RV.op (OV.step gno (Step.move rfl) rfl ?_)
        refine RV.op (OV.step (gyes rfl) (Step.fieldAddr rfl (F37_1 _ _)) rfl ?_)
        refine RV.op (OV.step (gyes rfl) (Step.load Try.underlying22 rfl rfl (fun w h => h.cell 0 rfl rfl)) rfl ?_)
        refine RV.op (OV.step (gyes rfl) (Step.fieldAddr rfl (F37_2 _ _)) rfl ?_)
        refine RV.op (OV.step (gyes rfl) (Step.load Try.underlying3 rfl rfl (fun w h => h.cell 0 rfl rfl)) rfl ?_)
        (first | refine RV.op (OV.step (gyes rfl) (Step.convI Try.underlying3 Try.underlying22 rfl (wU64 (by omega) (by omega))) rfl ?_) | refine RV.op (OV.step (gyes rfl) (Step.convI Try.underlying3 Try.underlying22 rfl rfl) rfl ?_))
        refine RV.op (OV.step (gyes rfl) (Step.rem rfl rfl (by omega) (rfl)) rfl ?_)
        refine RV.op (OV.split (gyes rfl) (Step.eql rfl rfl) rfl (fun hr => ?_) (fun hr => ?_))
        · -- True
          refine RV.op (OV.step gno (Step.pick_t rfl rfl) rfl ?_)
          refine RV.op (OV.step gno (Step.assign rfl) rfl ?_)
          refine RV.nil ?_
          refine KV.then_n ?_
          refine KV.env [(2, _)] ⟨rfl, trivial⟩ ?_
          refine CV.ret ?_
          -- return at r1
          refine KV.sel [] [] rfl ?_
          have hcl : wfA a ∨ ¬ wfA a := Decidable.em _
          first | exact KV.ret1 rfl rfl _ (fun _ h => h) ⟨by rw [decide_eq_true (show wfA a from ⟨by unfold isW; omega, hz, hr⟩)], rfl⟩ | exact KV.ret1 rfl rfl _ (fun _ h => h) ⟨by rw [decide_eq_false (show ¬ wfA a from fun k => by first | exact hz k.2.1 | exact hr k.2.2 | (have := k.1; unfold isW at this; omega))], rfl⟩
        · -- False
          refine RV.op (OV.step gno (Step.pick_t rfl rfl) rfl ?_)
          refine RV.op (OV.step gno (Step.assign rfl) rfl ?_)
          refine RV.nil ?_
          refine KV.then_n ?_
          refine KV.env [(2, _)] ⟨rfl, trivial⟩ ?_
          refine CV.ret ?_
          -- return at r1
          refine KV.sel [] [] rfl ?_
          have hcl : wfA a ∨ ¬ wfA a := Decidable.em _
          first | exact KV.ret1 rfl rfl _ (fun _ h => h) ⟨by rw [decide_eq_true (show wfA a from ⟨by unfold isW; omega, hz, hr⟩)], rfl⟩ | exact KV.ret1 rfl rfl _ (fun _ h => h) ⟨by rw [decide_eq_false (show ¬ wfA a from fun k => by first | exact hz k.2.1 | exact hr k.2.2 | (have := k.1; unfold isW at this; omega))], rfl⟩
      · -- False
        refine RV.op (OV.step (gyes rfl) (Step.pick_f rfl rfl) rfl ?_)
        refine RV.op (OV.step (gyes rfl) (Step.move rfl) rfl ?_)
        refine RV.op (OV.step (gyes rfl) (Step.fieldAddr rfl (F37_2 _ _)) rfl ?_)
        refine RV.op (OV.step (gyes rfl) (Step.load Try.underlying3 rfl rfl (fun w h => h.cell 0 rfl rfl)) rfl ?_)
        refine RV.op (OV.split (gyes rfl) (Step.eql rfl rfl) rfl (fun w4 => ?_) (fun w4 => ?_))
        · -- True
          refine RV.op (OV.step (gyes rfl) (Step.pick_f rfl rfl) rfl ?_)
          refine RV.op (OV.step (gyes rfl) (Step.move rfl) rfl ?_)
          refine RV.op (OV.skip rfl rfl ?_)
          refine RV.op (OV.skip rfl rfl ?_)
          refine RV.op (OV.skip rfl rfl ?_)
          refine RV.op (OV.step (gyes rfl) (Step.pick_t rfl rfl) rfl ?_)
          refine RV.op (OV.step gno (Step.pick_t rfl rfl) rfl ?_)
          refine RV.op (OV.step gno (Step.move rfl) rfl ?_)
          refine RV.op (OV.step (gyes rfl) (Step.fieldAddr rfl (F37_1 _ _)) rfl ?_)
          refine RV.op (OV.step (gyes rfl) (Step.load Try.underlying22 rfl rfl (fun w h => h.cell 0 rfl rfl)) rfl ?_)
          refine RV.op (OV.step (gyes rfl) (Step.fieldAddr rfl (F37_2 _ _)) rfl ?_)
          refine RV.op (OV.step (gyes rfl) (Step.load Try.underlying3 rfl rfl (fun w h => h.cell 0 rfl rfl)) rfl ?_)
          (first | refine RV.op (OV.step (gyes rfl) (Step.convI Try.underlying3 Try.underlying22 rfl (wU64 (by omega) (by omega))) rfl ?_) | refine RV.op (OV.step (gyes rfl) (Step.convI Try.underlying3 Try.underlying22 rfl rfl) rfl ?_))
          refine RV.op (OV.step (gyes rfl) (Step.rem rfl rfl (by omega) (rfl)) rfl ?_)
          refine RV.op (OV.split (gyes rfl) (Step.eql rfl rfl) rfl (fun hr => ?_) (fun hr => ?_))
          · -- True
            refine RV.op (OV.step gno (Step.pick_t rfl rfl) rfl ?_)
            refine RV.op (OV.step gno (Step.assign rfl) rfl ?_)
            refine RV.nil ?_
            refine KV.then_n ?_
            refine KV.env [(2, _)] ⟨rfl, trivial⟩ ?_
            refine CV.ret ?_
            -- return at r1
            refine KV.sel [] [] rfl ?_
            have hcl : wfA a ∨ ¬ wfA a := Decidable.em _
            first | exact KV.ret1 rfl rfl _ (fun _ h => h) ⟨by rw [decide_eq_true (show wfA a from ⟨by unfold isW; omega, hz, hr⟩)], rfl⟩ | exact KV.ret1 rfl rfl _ (fun _ h => h) ⟨by rw [decide_eq_false (show ¬ wfA a from fun k => by first | exact hz k.2.1 | exact hr k.2.2 | (have := k.1; unfold isW at this; omega))], rfl⟩
          · -- False
            refine RV.op (OV.step gno (Step.pick_t rfl rfl) rfl ?_)
            refine RV.op (OV.step gno (Step.assign rfl) rfl ?_)
            refine RV.nil ?_
            refine KV.then_n ?_
            refine KV.env [(2, _)] ⟨rfl, trivial⟩ ?_
            refine CV.ret ?_
            -- return at r1
            refine KV.sel [] [] rfl ?_
            have hcl : wfA a ∨ ¬ wfA a := Decidable.em _
            first | exact KV.ret1 rfl rfl _ (fun _ h => h) ⟨by rw [decide_eq_true (show wfA a from ⟨by unfold isW; omega, hz, hr⟩)], rfl⟩ | exact KV.ret1 rfl rfl _ (fun _ h => h) ⟨by rw [decide_eq_false (show ¬ wfA a from fun k => by first | exact hz k.2.1 | exact hr k.2.2 | (have := k.1; unfold isW at this; omega))], rfl⟩
        · -- False
          refine RV.op (OV.step (gyes rfl) (Step.pick_f rfl rfl) rfl ?_)
          refine RV.op (OV.step (gyes rfl) (Step.move rfl) rfl ?_)
          refine RV.op (OV.step (gyes rfl) (Step.fieldAddr rfl (F37_2 _ _)) rfl ?_)
          refine RV.op (OV.step (gyes rfl) (Step.load Try.underlying3 rfl rfl (fun w h => h.cell 0 rfl rfl)) rfl ?_)
          refine RV.op (OV.split (gyes rfl) (Step.eql rfl rfl) rfl (fun w8 => ?_) (fun w8 => ?_))
          · -- True
            refine RV.op (OV.step (gyes rfl) (Step.pick_f rfl rfl) rfl ?_)
            refine RV.op (OV.step gno (Step.pick_t rfl rfl) rfl ?_)
            refine RV.op (OV.step gno (Step.move rfl) rfl ?_)
            refine RV.op (OV.step (gyes rfl) (Step.fieldAddr rfl (F37_1 _ _)) rfl ?_)
            refine RV.op (OV.step (gyes rfl) (Step.load Try.underlying22 rfl rfl (fun w h => h.cell 0 rfl rfl)) rfl ?_)
            refine RV.op (OV.step (gyes rfl) (Step.fieldAddr rfl (F37_2 _ _)) rfl ?_)
            refine RV.op (OV.step (gyes rfl) (Step.load Try.underlying3 rfl rfl (fun w h => h.cell 0 rfl rfl)) rfl ?_)
            (first | refine RV.op (OV.step (gyes rfl) (Step.convI Try.underlying3 Try.underlying22 rfl (wU64 (by omega) (by omega))) rfl ?_) | refine RV.op (OV.step (gyes rfl) (Step.convI Try.underlying3 Try.underlying22 rfl rfl) rfl ?_))
            refine RV.op (OV.step (gyes rfl) (Step.rem rfl rfl (by omega) (rfl)) rfl ?_)
            refine RV.op (OV.split (gyes rfl) (Step.eql rfl rfl) rfl (fun hr => ?_) (fun hr => ?_))
            · -- True
              refine RV.op (OV.step gno (Step.pick_t rfl rfl) rfl ?_)
              refine RV.op (OV.step gno (Step.assign rfl) rfl ?_)
              refine RV.nil ?_
              refine KV.then_n ?_
              refine KV.env [(2, _)] ⟨rfl, trivial⟩ ?_
              refine CV.ret ?_
              -- return at r1
              refine KV.sel [] [] rfl ?_
              have hcl : wfA a ∨ ¬ wfA a := Decidable.em _
              first | exact KV.ret1 rfl rfl _ (fun _ h => h) ⟨by rw [decide_eq_true (show wfA a from ⟨by unfold isW; omega, hz, hr⟩)], rfl⟩ | exact KV.ret1 rfl rfl _ (fun _ h => h) ⟨by rw [decide_eq_false (show ¬ wfA a from fun k => by first | exact hz k.2.1 | exact hr k.2.2 | (have := k.1; unfold isW at this; omega))], rfl⟩
            · -- False
              refine RV.op (OV.step gno (Step.pick_t rfl rfl) rfl ?_)
              refine RV.op (OV.step gno (Step.assign rfl) rfl ?_)
              refine RV.nil ?_
              refine KV.then_n ?_
              refine KV.env [(2, _)] ⟨rfl, trivial⟩ ?_
              refine CV.ret ?_
              -- return at r1
              refine KV.sel [] [] rfl ?_
              have hcl : wfA a ∨ ¬ wfA a := Decidable.em _
              first | exact KV.ret1 rfl rfl _ (fun _ h => h) ⟨by rw [decide_eq_true (show wfA a from ⟨by unfold isW; omega, hz, hr⟩)], rfl⟩ | exact KV.ret1 rfl rfl _ (fun _ h => h) ⟨by rw [decide_eq_false (show ¬ wfA a from fun k => by first | exact hz k.2.1 | exact hr k.2.2 | (have := k.1; unfold isW at this; omega))], rfl⟩
          · -- False
            refine RV.op (OV.step (gyes rfl) (Step.pick_f rfl rfl) rfl ?_)
            refine RV.op (OV.step gno (Step.pick_t rfl rfl) rfl ?_)
            refine RV.op (OV.step gno (Step.move rfl) rfl ?_)
            refine RV.op (OV.skip rfl rfl ?_)
            refine RV.op (OV.skip rfl rfl ?_)
            refine RV.op (OV.skip rfl rfl ?_)
            refine RV.op (OV.skip rfl rfl ?_)
            refine RV.op (OV.skip rfl rfl ?_)
            refine RV.op (OV.skip rfl rfl ?_)
            refine RV.op (OV.skip rfl rfl ?_)
            refine RV.op (OV.step gno (Step.pick_f rfl rfl) rfl ?_)
            refine RV.op (OV.step gno (Step.assign rfl) rfl ?_)
            refine RV.nil ?_
            refine KV.then_n ?_
            refine KV.env [(2, _)] ⟨rfl, trivial⟩ ?_
            refine CV.ret ?_
            -- return at r1
            refine KV.sel [] [] rfl ?_
            have hcl : wfA a ∨ ¬ wfA a := Decidable.em _
            first | exact KV.ret1 rfl rfl _ (fun _ h => h) ⟨by rw [decide_eq_true (show wfA a from ⟨by unfold isW; omega, hz, hr⟩)], rfl⟩ | exact KV.ret1 rfl rfl _ (fun _ h => h) ⟨by rw [decide_eq_false (show ¬ wfA a from fun k => by first | exact hz k.2.1 | exact hr k.2.2 | (have := k.1; unfold isW at this; omega))], rfl⟩
  · rw [decide_eq_false hz]
    refine RV.op (OV.step gno (Step.move rfl) rfl ?_)
    refine RV.op (OV.skip rfl rfl ?_)
    refine RV.op (OV.skip rfl rfl ?_)
    refine RV.op (OV.skip rfl rfl ?_)
    refine RV.op (OV.skip rfl rfl ?_)
    refine RV.op (OV.skipU rfl rfl ?_)
    refine RV.op (OV.skipU rfl rfl ?_)
    refine RV.op (OV.skipU rfl rfl ?_)
    refine RV.op (OV.skip rfl rfl ?_)
    refine RV.op (OV.skip rfl rfl ?_)
    refine RV.op (OV.skipU rfl rfl ?_)
    refine RV.op (OV.skipU rfl rfl ?_)
    refine RV.op (OV.skipU rfl rfl ?_)
    refine RV.op (OV.skip rfl rfl ?_)
    refine RV.op (OV.skip rfl rfl ?_)
    refine RV.op (OV.skipU rfl rfl ?_)
    refine RV.op (OV.skipU rfl rfl ?_)
    refine RV.op (OV.skipU rfl rfl ?_)
    refine RV.op (OV.skip rfl rfl ?_)
    refine RV.op (OV.step gno (Step.pick_f rfl rfl) rfl ?_)
    refine RV.op (OV.step gno (Step.move rfl) rfl ?_)
    refine RV.op (OV.skip rfl rfl ?_)
    refine RV.op (OV.skip rfl rfl ?_)
    refine RV.op (OV.skip rfl rfl ?_)
    refine RV.op (OV.skip rfl rfl ?_)
    refine RV.op (OV.skip rfl rfl ?_)
    refine RV.op (OV.skip rfl rfl ?_)
    refine RV.op (OV.skip rfl rfl ?_)
    refine RV.op (OV.step gno (Step.pick_f rfl rfl) rfl ?_)
    refine RV.op (OV.step gno (Step.assign rfl) rfl ?_)
    refine RV.nil ?_
    refine KV.then_n ?_
    refine KV.env [(2, _)] ⟨rfl, trivial⟩ ?_
    refine CV.ret ?_
    -- return at r1
    refine KV.sel [] [] rfl ?_
    have hcl : wfA a ∨ ¬ wfA a := Decidable.em _
    first | exact KV.ret1 rfl rfl _ (fun _ h => h) ⟨by rw [decide_eq_true (show wfA a from ⟨by unfold isW; omega, hz, hr⟩)], rfl⟩ | exact KV.ret1 rfl rfl _ (fun _ h => h) ⟨by rw [decide_eq_false (show ¬ wfA a from fun k => by first | exact hz k.2.1 | exact hr k.2.2 | (have := k.1; unfold isW at this; omega))], rfl⟩

set_option maxRecDepth 100000 in
set_option maxHeartbeats 4000000 in
theorem rplan_fn (b : Nat) (s : RB) {w : World} (hk : s.ok) (z p0 q0 n : Int) (hp0 : isU p0) (hfm : s.fl.length < 1000) : Fx Try.prog 39 [.pointer (some ⟨b, 0, none⟩), .int .i64 z, .agg #[.int .u64 p0, .int .u64 q0], .int .i64 n] w (rbL b s) no (fun r L => (¬ ((0 ≤ z ∧ z < 3) ∧ okR p0 q0 ∧ 1 ≤ n ∧ n ≤ 64) → r = .int .i64 1 ∧ L = rbL b s) ∧ (((0 ≤ z ∧ z < 3) ∧ okR p0 q0 ∧ 1 ≤ n ∧ n ≤ 64) → (64 ≤ lvC s.fl s.fl.length → r = .int .i64 8 ∧ L = rbL b s) ∧ (¬ 64 ≤ lvC s.fl s.fl.length → r = .int .i64 0 ∧ ∃ A c, L = rbL b (rflt s ⟨z, p0, q0, n⟩ A c)))) := by
  refine Sv.Fx.body Try.func39 rfl T39 rfl ?_
  intro I hro hI
  refine KV.env [(0, _), (1, _), (2, _), (3, _)] ⟨rfl, rfl, rfl, rfl, trivial⟩ ?_
  have hw := hk.en
  have hmx := hk.max
  have hfx := hk.fl
  refine CV.seq ?_
  -- region 0 iospace.go:104
  refine CV.region ?_
  refine RV.op (OV.box (t := 32) #[_, _] rfl rfl gno rfl (fun b0_0 => ?_))
  refine RV.op (OV.step gno (Step.assign rfl) rfl ?_)
  refine RV.nil ?_
  refine KV.then_n ?_
  refine KV.env [(0, _), (1, _), (3, _), (6, _)] ⟨rfl, rfl, rfl, rfl, trivial⟩ ?_
  refine CV.seq ?_
  refine CV.seq ?_
  -- region 1 iospace.go:105
  refine CV.region ?_
  refine RV.op (OV.step gno (Step.move rfl) rfl ?_)
  refine RV.op (OV.call [] Try.func52 B52 N52 rfl rfl (fun w h => (ordinary_fn z).fn w) (fun _ hb => hb.elim) gno rfl (fun v L' hp => ?_))
  obtain ⟨rfl, rfl⟩ := hp
  simp only [List.append_nil]
  by_cases hz : 0 ≤ z ∧ z < 3
  · rw [decide_eq_true hz]
    refine RV.op (OV.step gno (Step.not rfl) rfl ?_)
    refine RV.op (OV.step gno (Step.move rfl) rfl ?_)
    refine RV.op (OV.step (gyes rfl) (Step.loadN _ Try.underlying32 rfl I32 rfl rfl (fun w h => h.cells 5 rfl)) rfl ?_)
    refine RV.op (OV.call [] (F := [_, _, _, _, _, _]) Try.func53 B53 N53 rfl rfl (fun w h => rvalid_fn p0 q0 hp0) (fun _ hb => hb.elim) (gyes rfl) rfl (fun v L' hp => ?_))
    obtain ⟨rfl, rfl⟩ := hp
    simp only [List.append_nil]
    by_cases hr : okR p0 q0
    · rw [decide_eq_true hr]
      refine RV.op (OV.step (gyes rfl) (Step.not rfl) rfl ?_)
      refine RV.op (OV.step gno (Step.pick_f rfl rfl) rfl ?_)
      refine RV.op (OV.step gno (Step.move rfl) rfl ?_)
      refine RV.op (OV.step (gyes rfl) (Step.move rfl) rfl ?_)
      refine RV.op (OV.split (gyes rfl) (Step.lss rfl rfl) rfl (fun h1 => ?_) (fun h1 => ?_))
      · -- True
        refine RV.op (OV.step gno (Step.pick_f rfl rfl) rfl ?_)
        refine RV.op (OV.step gno (Step.move rfl) rfl ?_)
        refine RV.op (OV.skip rfl rfl ?_)
        refine RV.op (OV.skip rfl rfl ?_)
        refine RV.op (OV.step gno (Step.pick_t rfl rfl) rfl ?_)
        refine RV.nil ?_
        refine KV.then_n ?_
        refine KV.env [(0, _), (1, _), (3, _), (6, _), (26, _)] ⟨rfl, rfl, rfl, rfl, rfl, trivial⟩ ?_
        refine CV.cond_t rfl ?_
        refine CV.seq ?_
        -- region 2 iospace.go:106
        refine CV.region ?_
        refine RV.op (OV.step gno (Step.assign rfl) rfl ?_)
        refine RV.nil ?_
        refine KV.then_n ?_
        refine KV.env [(8, _)] ⟨rfl, trivial⟩ ?_
        refine CV.ret ?_
        refine KV.then_ret ?_
        -- return at r2
        refine KV.sel [0, 0, 0, 0, 0] [_, _, _, _, _] rfl ?_
        have hbad : ¬ ((0 ≤ z ∧ z < 3) ∧ okR p0 q0 ∧ 1 ≤ n ∧ n ≤ 64) := by first | exact fun k => hz k.1 | exact fun k => hr k.2.1 | (intro k; omega)
        exact KV.ret1 rfl rfl _ (fun _ h => h) ⟨fun _ => ⟨rfl, rfl⟩, fun h => absurd h hbad⟩
      · -- False
        refine RV.op (OV.step gno (Step.pick_f rfl rfl) rfl ?_)
        refine RV.op (OV.step gno (Step.move rfl) rfl ?_)
        refine RV.op (OV.step (gyes rfl) (Step.move rfl) rfl ?_)
        refine RV.op (OV.split (gyes rfl) (Step.gtr rfl rfl) rfl (fun h2 => ?_) (fun h2 => ?_))
        · -- True
          refine RV.op (OV.step gno (Step.pick_f rfl rfl) rfl ?_)
          refine RV.nil ?_
          refine KV.then_n ?_
          refine KV.env [(0, _), (1, _), (3, _), (6, _), (26, _)] ⟨rfl, rfl, rfl, rfl, rfl, trivial⟩ ?_
          refine CV.cond_t rfl ?_
          refine CV.seq ?_
          -- region 2 iospace.go:106
          refine CV.region ?_
          refine RV.op (OV.step gno (Step.assign rfl) rfl ?_)
          refine RV.nil ?_
          refine KV.then_n ?_
          refine KV.env [(8, _)] ⟨rfl, trivial⟩ ?_
          refine CV.ret ?_
          refine KV.then_ret ?_
          -- return at r2
          refine KV.sel [0, 0, 0, 0, 0] [_, _, _, _, _] rfl ?_
          have hbad : ¬ ((0 ≤ z ∧ z < 3) ∧ okR p0 q0 ∧ 1 ≤ n ∧ n ≤ 64) := by first | exact fun k => hz k.1 | exact fun k => hr k.2.1 | (intro k; omega)
          exact KV.ret1 rfl rfl _ (fun _ h => h) ⟨fun _ => ⟨rfl, rfl⟩, fun h => absurd h hbad⟩
        · -- False
          refine RV.op (OV.step gno (Step.pick_f rfl rfl) rfl ?_)
          refine RV.nil ?_
          refine KV.then_n ?_
          refine KV.env [(0, _), (1, _), (3, _), (6, _), (26, _)] ⟨rfl, rfl, rfl, rfl, rfl, trivial⟩ ?_
          refine CV.cond_f rfl ?_
          refine CV.skip ?_
          refine KV.then_n ?_
          refine KV.env [(0, _), (1, _), (3, _), (6, _)] ⟨rfl, rfl, rfl, rfl, trivial⟩ ?_
          refine CV.seq ?_
          -- region 3 iospace.go:108
          refine CV.region ?_
          refine RV.op (OV.step gno (Step.assign rfl) rfl ?_)
          refine RV.nil ?_
          refine KV.then_n ?_
          refine KV.env [(0, _), (1, _), (3, _), (6, _), (9, _)] ⟨rfl, rfl, rfl, rfl, rfl, trivial⟩ ?_
          refine CV.seq ?_
          refine CV.seq ?_
          -- region 4 iospace.go:109
          refine CV.region ?_
          refine RV.op (OV.step gno (Step.assign rfl) rfl ?_)
          refine RV.nil ?_
          refine KV.then_n ?_
          refine KV.env [(0, _), (1, _), (3, _), (6, _), (9, _), (10, _)] ⟨rfl, rfl, rfl, rfl, rfl, rfl, trivial⟩ ?_
          refine CV.block ?_
          -- loop L5; live [0, 1, 3, 6, 9, 10]
          refine KV.sel [0, 0, 0, 0, 0, 0] [_, _, _, _, _, _] rfl ?_
          refine CV.loopI (fun (j : Nat) => j ≤ s.fl.length) (fun (j : Nat) => s.fl.length - j) (fun (j : Nat) => [(0, .pointer (some ⟨b, 0, none⟩)), (1, .int .i64 z), (3, .int .i64 n), (6, .pointer (some ⟨b0_0, 0, none⟩)), (9, .int .i64 (lvC s.fl j)), (10, .int .i64 j)]) (fun (j : Nat) => Hp I w (rbL b s ++ [Blk b0_0 (.cells #[.int .u64 p0, .int .u64 q0] 32 (0, 0))])) (0) (Nat.zero_le _) ⟨rfl, rfl, rfl, rfl, rfl, rfl, trivial⟩ (fun _ h => h) ?_
          intro j hinv
          refine CV.seq ?_
          refine CV.seq ?_
          -- region 5 iospace.go:109
          refine CV.region ?_
          refine RV.op (OV.step gno (Step.move rfl) rfl ?_)
          refine RV.op (OV.step gno (Step.move rfl) rfl ?_)
          refine RV.op (OV.step gno (Step.nilCheck rfl) rfl ?_)
          refine RV.op (OV.step gno (Step.fieldAddr rfl (F56_2 _ _)) rfl ?_)
          refine RV.op (OV.step gno (Step.load Try.underlying53 rfl rfl (fun w h => h.cell 0 rfl (rbC_f hw))) rfl ?_)
          refine RV.op (OV.step gno (Step.lenSl Try.underlying53 rfl) rfl ?_)
          refine RV.op (OV.split gno (Step.lss rfl rfl) rfl (fun hj => ?_) (fun hj => ?_))
          · -- True
            refine RV.nil ?_
            refine KV.then_n ?_
            refine KV.env [(0, _), (1, _), (3, _), (6, _), (9, _), (10, _), (33, _)] ⟨rfl, rfl, rfl, rfl, rfl, rfl, rfl, trivial⟩ ?_
            refine CV.cond_t rfl ?_
            refine CV.skip ?_
            refine KV.then_n ?_
            refine KV.env [(0, _), (1, _), (3, _), (6, _), (9, _), (10, _)] ⟨rfl, rfl, rfl, rfl, rfl, rfl, trivial⟩ ?_
            refine CV.seq ?_
            refine CV.block ?_
            refine CV.seq ?_
            -- region 7 iospace.go:110
            refine CV.region ?_
            refine RV.op (OV.step gno (Step.move rfl) rfl ?_)
            refine RV.op (OV.step gno (Step.nilCheck rfl) rfl ?_)
            refine RV.op (OV.step gno (Step.fieldAddr rfl (F56_2 _ _)) rfl ?_)
            refine RV.op (OV.step gno (Step.load Try.underlying53 rfl rfl (fun w h => h.cell 0 rfl (rbC_f hw))) rfl ?_)
            refine RV.op (OV.step gno (Step.move rfl) rfl ?_)
            refine RV.op (OV.step gno (Step.idx Try.underlying53 I97 (fun w h => h.os 3 rfl) rfl rfl (rfl) _ rfl (by omega)) rfl ?_)
            refine RV.op (OV.step gno (Step.fieldAddr rfl (F97_2 _ _)) rfl ?_)
            refine RV.op (OV.step gno (Step.load Try.underlying3 rfl rfl (fun w h => (h.os 3 rfl).cell (j := 3) (by omega) rfl)) rfl ?_)
            refine RV.op (OV.split gno (Step.gtr rfl rfl) rfl (fun hc => ?_) (fun hc => ?_))
            · -- True
              refine RV.nil ?_
              refine KV.then_n ?_
              refine KV.env [(0, _), (1, _), (3, _), (6, _), (9, _), (10, _), (44, _)] ⟨rfl, rfl, rfl, rfl, rfl, rfl, rfl, trivial⟩ ?_
              refine CV.cond_t rfl ?_
              -- region 8 iospace.go:111
              have hle := lvC_le s.fl j
              refine CV.region ?_
              refine RV.op (OV.step gno (Step.move rfl) rfl ?_)
              (first | refine RV.op (OV.step gno (Step.add rfl rfl (wI64 (by omega) (by omega))) rfl ?_) | refine RV.op (OV.step gno (Step.add rfl rfl rfl) rfl ?_))
              refine RV.op (OV.step gno (Step.assign rfl) rfl ?_)
              refine RV.nil ?_
              refine KV.block_n ?_
              refine KV.then_n ?_
              refine KV.env [(0, _), (1, _), (3, _), (6, _), (9, _), (10, _)] ⟨rfl, rfl, rfl, rfl, rfl, rfl, trivial⟩ ?_
              -- region 6 iospace.go:109
              refine CV.region ?_
              refine RV.op (OV.step gno (Step.move rfl) rfl ?_)
              (first | refine RV.op (OV.step gno (Step.add rfl rfl (wI64 (by omega) (by omega))) rfl ?_) | refine RV.op (OV.step gno (Step.add rfl rfl rfl) rfl ?_))
              refine RV.op (OV.step gno (Step.assign rfl) rfl ?_)
              refine RV.nil ?_
              refine KV.then_n ?_
              refine KV.env [(0, _), (1, _), (3, _), (6, _), (9, _), (10, _)] ⟨rfl, rfl, rfl, rfl, rfl, rfl, trivial⟩ ?_
              refine KV.sel [0, 0, 0, 0, 0, 0] [_, _, _, _, _, _] rfl ?_
              exact KV.loopI (z := j) (j + 1) (by omega) (by omega) ⟨rfl, rfl, rfl, rfl, (by first | exact congrArg (fun x => some (Value.int .i64 x)) (lvC_t hc) | exact congrArg (fun x => some (Value.int .i64 x)) (lvC_f hc)), rfl, trivial⟩ (fun _ h => h)
            · -- False
              refine RV.nil ?_
              refine KV.then_n ?_
              refine KV.env [(0, _), (1, _), (3, _), (6, _), (9, _), (10, _), (44, _)] ⟨rfl, rfl, rfl, rfl, rfl, rfl, rfl, trivial⟩ ?_
              refine CV.cond_f rfl ?_
              refine CV.skip ?_
              refine KV.block_n ?_
              refine KV.then_n ?_
              refine KV.env [(0, _), (1, _), (3, _), (6, _), (9, _), (10, _)] ⟨rfl, rfl, rfl, rfl, rfl, rfl, trivial⟩ ?_
              -- region 6 iospace.go:109
              refine CV.region ?_
              refine RV.op (OV.step gno (Step.move rfl) rfl ?_)
              (first | refine RV.op (OV.step gno (Step.add rfl rfl (wI64 (by omega) (by omega))) rfl ?_) | refine RV.op (OV.step gno (Step.add rfl rfl rfl) rfl ?_))
              refine RV.op (OV.step gno (Step.assign rfl) rfl ?_)
              refine RV.nil ?_
              refine KV.then_n ?_
              refine KV.env [(0, _), (1, _), (3, _), (6, _), (9, _), (10, _)] ⟨rfl, rfl, rfl, rfl, rfl, rfl, trivial⟩ ?_
              refine KV.sel [0, 0, 0, 0, 0, 0] [_, _, _, _, _, _] rfl ?_
              exact KV.loopI (z := j) (j + 1) (by omega) (by omega) ⟨rfl, rfl, rfl, rfl, (by first | exact congrArg (fun x => some (Value.int .i64 x)) (lvC_t hc) | exact congrArg (fun x => some (Value.int .i64 x)) (lvC_f hc)), rfl, trivial⟩ (fun _ h => h)
          · -- False
            obtain rfl : s.fl.length = j := by omega
            refine RV.nil ?_
            refine KV.then_n ?_
            refine KV.env [(0, _), (1, _), (3, _), (6, _), (9, _), (10, _), (33, _)] ⟨rfl, rfl, rfl, rfl, rfl, rfl, rfl, trivial⟩ ?_
            refine CV.cond_f rfl ?_
            refine CV.exit ?_
            refine KV.then_exit ?_
            refine KV.then_exit ?_
            refine KV.block_hit ?_
            refine KV.then_n ?_
            refine KV.env [(0, _), (1, _), (3, _), (6, _), (9, _)] ⟨rfl, rfl, rfl, rfl, rfl, trivial⟩ ?_
            refine CV.seq ?_
            refine CV.seq ?_
            -- region 9 iospace.go:114
            refine CV.region ?_
            refine RV.op (OV.step gno (Step.move rfl) rfl ?_)
            refine RV.op (OV.split gno (Step.geq rfl rfl) rfl (fun hq => ?_) (fun hq => ?_))
            · -- True
              refine RV.nil ?_
              refine KV.then_n ?_
              refine KV.env [(0, _), (1, _), (3, _), (6, _), (48, _)] ⟨rfl, rfl, rfl, rfl, rfl, trivial⟩ ?_
              refine CV.cond_t rfl ?_
              refine CV.seq ?_
              -- region 10 iospace.go:115
              refine CV.region ?_
              refine RV.op (OV.step gno (Step.assign rfl) rfl ?_)
              refine RV.nil ?_
              refine KV.then_n ?_
              refine KV.env [(8, _)] ⟨rfl, trivial⟩ ?_
              refine CV.ret ?_
              refine KV.then_ret ?_
              -- return at r10
              refine KV.sel [0, 0, 0, 0, 0] [_, _, _, _, _] rfl ?_
              have hgd : ((0 ≤ z ∧ z < 3) ∧ okR p0 q0 ∧ 1 ≤ n ∧ n ≤ 64) := ⟨hz, hr, by omega, by omega⟩
              exact KV.ret1 rfl rfl _ (fun _ h => h) ⟨fun h => absurd hgd h, fun _ => ⟨fun _ => ⟨rfl, rfl⟩, fun h => absurd (by omega) h⟩⟩
            · -- False
              refine RV.nil ?_
              refine KV.then_n ?_
              refine KV.env [(0, _), (1, _), (3, _), (6, _), (48, _)] ⟨rfl, rfl, rfl, rfl, rfl, trivial⟩ ?_
              refine CV.cond_f rfl ?_
              refine CV.skip ?_
              refine KV.then_n ?_
              refine KV.env [(0, _), (1, _), (3, _), (6, _)] ⟨rfl, rfl, rfl, rfl, trivial⟩ ?_
              refine CV.seq ?_
              -- region 11 iospace.go:117
              refine CV.any (Hp I w [Blk b0_0 (.cells #[.int .u64 p0, .int .u64 q0] 32 (0, 0))]) (by kernel_rfl) (fun _ h => h.drew) 14 rfl ?_
              refine AV.take 0 #[true, false, false, false, false, false, false, false, false, false, false, false, false, false] rfl (by kernel_rfl) (by kernel_rfl) (by kernel_rfl) (fun _ _ _ h => h) gno (Step.move rfl) rfl (fun _ h => h.sel [5] rfl) (by kernel_rfl) ?_
              refine AV.take 1 #[true, true, false, false, false, false, false, false, false, false, false, false, false, false] rfl (by kernel_rfl) (by kernel_rfl) (by kernel_rfl) (fun _ _ _ h => h) gno (Step.move rfl) rfl (fun _ h => h.sel [5] rfl) (by kernel_rfl) ?_
              refine AV.take 2 #[true, true, true, false, false, false, false, false, false, false, false, false, false, false] rfl (by kernel_rfl) (by kernel_rfl) (by kernel_rfl) (fun _ _ _ h => h) gno (Step.nilCheck rfl) rfl (fun _ h => h.sel [5] rfl) (by kernel_rfl) ?_
              refine AV.take 3 #[true, true, true, true, false, false, false, false, false, false, false, false, false, false] rfl (by kernel_rfl) (by kernel_rfl) (by kernel_rfl) (fun _ _ _ h => h) gno (Step.fieldAddr rfl (F56_2 _ _)) rfl (fun _ h => h.sel [5] rfl) (by kernel_rfl) ?_
              refine AV.take 5 #[true, true, true, true, false, true, false, false, false, false, false, false, false, false] rfl (by kernel_rfl) (by kernel_rfl) (by kernel_rfl) (fun _ _ _ h => h) gno (Step.move rfl) rfl (fun _ h => h.sel [5] rfl) (by kernel_rfl) ?_
              refine AV.take 6 #[true, true, true, true, false, true, true, false, false, false, false, false, false, false] rfl (by kernel_rfl) (by kernel_rfl) (by kernel_rfl) (fun _ _ _ h => h) gno (Step.loadN _ Try.underlying32 rfl I32 rfl rfl (fun w h => h.cells 0 rfl)) rfl (fun _ h => h.sel [5] rfl) (by kernel_rfl) ?_
              refine AV.take 7 #[true, true, true, true, false, true, true, true, false, false, false, false, false, false] rfl (by kernel_rfl) (by kernel_rfl) (by kernel_rfl) (fun _ _ _ h => h) gno (Step.move rfl) rfl (fun _ h => h.sel [5] rfl) (by kernel_rfl) ?_
              refine AV.take 8 #[true, true, true, true, false, true, true, true, true, false, false, false, false, false] rfl (by kernel_rfl) (by kernel_rfl) (by kernel_rfl) (fun _ _ _ h => h) gno (Step.build rfl (Bd97_0_1_2 _ _ _ _)) rfl (fun _ h => h.sel [5] rfl) (by kernel_rfl) ?_
              refine AV.all [4, 9] (by kernel_rfl) (by decide) ?_
              refine ⟨⟨_, rfl, ?_⟩, ⟨⟨_, rfl, ?_⟩, trivial⟩⟩
              · -- 4 comes up
                refine OV.step gno (Step.load Try.underlying53 rfl rfl (fun w h => h.cell 0 rfl (rbC_f hw))) rfl ?_
                refine AV.next #[true, true, true, true, true, true, true, true, true, false, false, false, false, false] (by kernel_rfl) (fun _ h => h.sel [5] rfl) ?_
                refine AV.all [9] (by kernel_rfl) (by decide) ?_
                refine ⟨⟨_, rfl, ?_⟩, trivial⟩
                · -- 9 comes up
                  refine OV.buildSlice (K := fltK) ([⟨z, p0, q0, n⟩]) rfl (Bs53_1_0 _ _ _ _) rfl rfl (by omega) gno rfl (fun b11_9 => ?_)
                  refine AV.next #[true, true, true, true, true, true, true, true, true, true, false, false, false, false] (by kernel_rfl) (fun _ h => h.sel [5] rfl) ?_
                  refine AV.all [10] (by kernel_rfl) (by decide) ?_
                  refine ⟨⟨_, rfl, ?_⟩, trivial⟩
                  · -- 10 comes up
                    refine OV.append 3 Try.underlying53 I97 rfl rfl rfl rfl rfl rfl (fun w h => h.os 6 rfl) (by simp only [List.length_cons, List.length_nil]; omega) (by simp only [List.length_cons, List.length_nil]; omega) gno rfl (fun A2 c2 => ?_)
                    refine AV.next #[true, true, true, true, true, true, true, true, true, true, true, false, false, false] (by kernel_rfl) (fun _ h => h.sel [5] rfl) ?_
                    refine AV.take 11 #[true, true, true, true, true, true, true, true, true, true, true, true, false, false] rfl (by kernel_rfl) (by kernel_rfl) (by kernel_rfl) (fun _ _ _ h => h) gno (Step.nilCheck rfl) rfl (fun _ h => h.sel [5] rfl) (by kernel_rfl) ?_
                    refine AV.take 12 #[true, true, true, true, true, true, true, true, true, true, true, true, true, false] rfl (by kernel_rfl) (by kernel_rfl) (by kernel_rfl) (fun _ _ _ h => h) gno (Step.fieldAddr rfl (F56_2 _ _)) rfl (fun _ h => h.sel [5] rfl) (by kernel_rfl) ?_
                    refine AV.all [13] (by kernel_rfl) (by decide) ?_
                    refine ⟨⟨_, rfl, ?_⟩, trivial⟩
                    · -- 13 comes up
                      refine OV.store 0 [_] (rbC (rflt s ⟨z, p0, q0, n⟩ A2 c2)).toArray I53 rfl rfl rfl rfl rfl (by show _ + 1 ≤ (rbC _).toArray.size; rw [List.size_toArray, rbC_len hw]; omega) (by simp [Value.oneCell']) (rset_of hw (by omega) (rset_f hw A2 c2 (s.fl ++ [⟨z, p0, q0, n⟩]))) gno ?_
                      refine AV.next #[true, true, true, true, true, true, true, true, true, true, true, true, true, true] (by kernel_rfl) (fun _ h => h.sel [5] rfl) ?_
                      refine AV.done (by kernel_rfl) ?_
                      refine KV.then_n ?_
                      refine KV.env [] trivial ?_
                      refine CV.seq ?_
                      -- region 12 iospace.go:118
                      refine CV.region ?_
                      refine RV.op (OV.step gno (Step.assign rfl) rfl ?_)
                      refine RV.nil ?_
                      refine KV.then_n ?_
                      refine KV.env [(8, _)] ⟨rfl, trivial⟩ ?_
                      refine CV.ret ?_
                      -- return at r12
                      refine KV.sel [0, 0, 0, 0, 0] [_, _, _, _, _] rfl ?_
                      have hgd : ((0 ≤ z ∧ z < 3) ∧ okR p0 q0 ∧ 1 ≤ n ∧ n ≤ 64) := ⟨hz, hr, by omega, by omega⟩
                      exact KV.ret1 rfl rfl _ (fun _ h => h) ⟨fun h => absurd hgd h, fun _ => ⟨fun h => absurd h (by omega), fun _ => ⟨rfl, _, _, rfl⟩⟩⟩
              · -- 9 comes up
                refine OV.buildSlice (K := fltK) ([⟨z, p0, q0, n⟩]) rfl (Bs53_1_0 _ _ _ _) rfl rfl (by omega) gno rfl (fun b11_9 => ?_)
                refine AV.next #[true, true, true, true, false, true, true, true, true, true, false, false, false, false] (by kernel_rfl) (fun _ h => h.sel [5] rfl) ?_
                refine AV.all [4] (by kernel_rfl) (by decide) ?_
                refine ⟨⟨_, rfl, ?_⟩, trivial⟩
                · -- 4 comes up
                  refine OV.step gno (Step.load Try.underlying53 rfl rfl (fun w h => h.cell 0 rfl (rbC_f hw))) rfl ?_
                  refine AV.next #[true, true, true, true, true, true, true, true, true, true, false, false, false, false] (by kernel_rfl) (fun _ h => h.sel [5] rfl) ?_
                  refine AV.all [10] (by kernel_rfl) (by decide) ?_
                  refine ⟨⟨_, rfl, ?_⟩, trivial⟩
                  · -- 10 comes up
                    refine OV.append 3 Try.underlying53 I97 rfl rfl rfl rfl rfl rfl (fun w h => h.os 6 rfl) (by simp only [List.length_cons, List.length_nil]; omega) (by simp only [List.length_cons, List.length_nil]; omega) gno rfl (fun A2 c2 => ?_)
                    refine AV.next #[true, true, true, true, true, true, true, true, true, true, true, false, false, false] (by kernel_rfl) (fun _ h => h.sel [5] rfl) ?_
                    refine AV.take 11 #[true, true, true, true, true, true, true, true, true, true, true, true, false, false] rfl (by kernel_rfl) (by kernel_rfl) (by kernel_rfl) (fun _ _ _ h => h) gno (Step.nilCheck rfl) rfl (fun _ h => h.sel [5] rfl) (by kernel_rfl) ?_
                    refine AV.take 12 #[true, true, true, true, true, true, true, true, true, true, true, true, true, false] rfl (by kernel_rfl) (by kernel_rfl) (by kernel_rfl) (fun _ _ _ h => h) gno (Step.fieldAddr rfl (F56_2 _ _)) rfl (fun _ h => h.sel [5] rfl) (by kernel_rfl) ?_
                    refine AV.all [13] (by kernel_rfl) (by decide) ?_
                    refine ⟨⟨_, rfl, ?_⟩, trivial⟩
                    · -- 13 comes up
                      refine OV.store 0 [_] (rbC (rflt s ⟨z, p0, q0, n⟩ A2 c2)).toArray I53 rfl rfl rfl rfl rfl (by show _ + 1 ≤ (rbC _).toArray.size; rw [List.size_toArray, rbC_len hw]; omega) (by simp [Value.oneCell']) (rset_of hw (by omega) (rset_f hw A2 c2 (s.fl ++ [⟨z, p0, q0, n⟩]))) gno ?_
                      refine AV.next #[true, true, true, true, true, true, true, true, true, true, true, true, true, true] (by kernel_rfl) (fun _ h => h.sel [5] rfl) ?_
                      refine AV.done (by kernel_rfl) ?_
                      refine KV.then_n ?_
                      refine KV.env [] trivial ?_
                      refine CV.seq ?_
                      -- region 12 iospace.go:118
                      refine CV.region ?_
                      refine RV.op (OV.step gno (Step.assign rfl) rfl ?_)
                      refine RV.nil ?_
                      refine KV.then_n ?_
                      refine KV.env [(8, _)] ⟨rfl, trivial⟩ ?_
                      refine CV.ret ?_
                      -- return at r12
                      refine KV.sel [0, 0, 0, 0, 0] [_, _, _, _, _] rfl ?_
                      have hgd : ((0 ≤ z ∧ z < 3) ∧ okR p0 q0 ∧ 1 ≤ n ∧ n ≤ 64) := ⟨hz, hr, by omega, by omega⟩
                      exact KV.ret1 rfl rfl _ (fun _ h => h) ⟨fun h => absurd hgd h, fun _ => ⟨fun h => absurd h (by omega), fun _ => ⟨rfl, _, _, rfl⟩⟩⟩
    · rw [decide_eq_false hr]
      refine RV.op (OV.step (gyes rfl) (Step.not rfl) rfl ?_)
      refine RV.op (OV.step gno (Step.pick_f rfl rfl) rfl ?_)
      refine RV.op (OV.step gno (Step.move rfl) rfl ?_)
      refine RV.op (OV.skip rfl rfl ?_)
      refine RV.op (OV.skip rfl rfl ?_)
      refine RV.op (OV.step gno (Step.pick_t rfl rfl) rfl ?_)
      refine RV.op (OV.step gno (Step.move rfl) rfl ?_)
      refine RV.op (OV.skip rfl rfl ?_)
      refine RV.op (OV.skip rfl rfl ?_)
      refine RV.op (OV.step gno (Step.pick_t rfl rfl) rfl ?_)
      refine RV.nil ?_
      refine KV.then_n ?_
      refine KV.env [(0, _), (1, _), (3, _), (6, _), (26, _)] ⟨rfl, rfl, rfl, rfl, rfl, trivial⟩ ?_
      refine CV.cond_t rfl ?_
      refine CV.seq ?_
      -- region 2 iospace.go:106
      refine CV.region ?_
      refine RV.op (OV.step gno (Step.assign rfl) rfl ?_)
      refine RV.nil ?_
      refine KV.then_n ?_
      refine KV.env [(8, _)] ⟨rfl, trivial⟩ ?_
      refine CV.ret ?_
      refine KV.then_ret ?_
      -- return at r2
      refine KV.sel [0, 0, 0, 0, 0] [_, _, _, _, _] rfl ?_
      have hbad : ¬ ((0 ≤ z ∧ z < 3) ∧ okR p0 q0 ∧ 1 ≤ n ∧ n ≤ 64) := by first | exact fun k => hz k.1 | exact fun k => hr k.2.1 | (intro k; omega)
      exact KV.ret1 rfl rfl _ (fun _ h => h) ⟨fun _ => ⟨rfl, rfl⟩, fun h => absurd h hbad⟩
  · rw [decide_eq_false hz]
    refine RV.op (OV.step gno (Step.not rfl) rfl ?_)
    refine RV.op (OV.step gno (Step.move rfl) rfl ?_)
    refine RV.op (OV.skip rfl rfl ?_)
    refine RV.op (OV.skip rfl rfl ?_)
    refine RV.op (OV.skip rfl rfl ?_)
    refine RV.op (OV.step gno (Step.pick_t rfl rfl) rfl ?_)
    refine RV.op (OV.step gno (Step.move rfl) rfl ?_)
    refine RV.op (OV.skip rfl rfl ?_)
    refine RV.op (OV.skip rfl rfl ?_)
    refine RV.op (OV.step gno (Step.pick_t rfl rfl) rfl ?_)
    refine RV.op (OV.step gno (Step.move rfl) rfl ?_)
    refine RV.op (OV.skip rfl rfl ?_)
    refine RV.op (OV.skip rfl rfl ?_)
    refine RV.op (OV.step gno (Step.pick_t rfl rfl) rfl ?_)
    refine RV.nil ?_
    refine KV.then_n ?_
    refine KV.env [(0, _), (1, _), (3, _), (6, _), (26, _)] ⟨rfl, rfl, rfl, rfl, rfl, trivial⟩ ?_
    refine CV.cond_t rfl ?_
    refine CV.seq ?_
    -- region 2 iospace.go:106
    refine CV.region ?_
    refine RV.op (OV.step gno (Step.assign rfl) rfl ?_)
    refine RV.nil ?_
    refine KV.then_n ?_
    refine KV.env [(8, _)] ⟨rfl, trivial⟩ ?_
    refine CV.ret ?_
    refine KV.then_ret ?_
    -- return at r2
    refine KV.sel [0, 0, 0, 0, 0] [_, _, _, _, _] rfl ?_
    have hbad : ¬ ((0 ≤ z ∧ z < 3) ∧ okR p0 q0 ∧ 1 ≤ n ∧ n ≤ 64) := by first | exact fun k => hz k.1 | exact fun k => hr k.2.1 | (intro k; omega)
    exact KV.ret1 rfl rfl _ (fun _ h => h) ⟨fun _ => ⟨rfl, rfl⟩, fun h => absurd h hbad⟩
end Go.Proofs.Ythdpojggdodpfaa
