/-
  RailsOperationsAlternate: for every input the call returns true, and the arguments read afterwards as before. No condition.
-/
import Derived.Test.YtcmalbkflbfidaaRows
import Derived.Test.YtcmalbkflbfidaaSv7
import Derived.Test.YtcmalbkflbfidaaW16
import Derived.ProofKit
import Derived.OpenShut
import Derived.ChangeOld
import Derived.Below
set_option linter.unusedSimpArgs false
set_option linter.unusedVariables false
namespace Go.Proofs.Ytcmalbkflbfidaa.railsOperationsAlternate
open Go.ChangeShapes Go.WideShapes Go.ChangeAt Go.RowKit Go.Sv Go.Rails

theorem own : ownKnob Try.prog.godebug = none := by kernel_rfl
theorem laidOut : laidOutB Try.prog = true := by kernel_rfl
set_option maxRecDepth 100000 in
set_option maxHeartbeats 1000000 in
theorem lifted (os : Os) (started : os.Started) (H : Type) (enc : TypeId × Value → H) :
    ReturnsInHanded {} Try.checked os 4 .any (Rows.railsOperationsAlternateSpec.pre6 enc Try.prog Try.f4 Rows.railsOperationsAlternateRow.domain false) (Rows.railsOperationsAlternateSpec.post enc Try.prog Try.f4 false true false false) := by
  refine returnsInHanded_of_change (C := Try.checked) own started (by kernel_rfl) Try.func4
    (ChangeSpec.witness6 (enc := enc) (C := Try.checked) false ⟨#[], #[.slice none 0 0, .slice none 0 0], []⟩ 8 (by kernel_rfl) (by kernel_rfl) (by kernel_rfl) (by kernel_rfl)) ?_
  intro W base args ds gs before hval0 hW hcnd _
  have hval : ∀ (j : Nat) t v, Try.f4.params[j]? = some t → args[j]? = some v → Value.okWide Try.prog W .any base t v := hval0
  have hW' := hW
  obtain ⟨p, q, hA0, hV, rfl, hfz, hnd⟩ := hW
  have hA : DataW.TrodAll enc Try.prog W 0 (fun _ => true) true Try.f4.params.toList args.toList ds p := hA0
  rw [Try.params4] at hA hval
  obtain ⟨v0, vs0, d0, ds0, p0, q0, hargs, rfl, rfl, h0, t0⟩ := trodAll_cons hA
  obtain ⟨v1, vs1, d1, ds1, p1, q1, rfl, rfl, rfl, h1, t1⟩ := trodAll_cons t0
  obtain ⟨rfl, rfl, rfl⟩ := trodAll_nil t1
  obtain rfl : args = #[v0, v1] := by cases args; simp_all
  obtain ⟨rfl, rfl⟩ := trodVars_none hV
  obtain ⟨a0, len0, c0, rfl⟩ := okWide_slice Try.underlying22 (hval 0 22 v0 rfl rfl)
  have k0 := h0
  have lt0 : ∀ x ∈ p0, x.block < W.heap.size := by obtain ⟨m, hm⟩ := k0; exact DataW.trod_lt m _ _ _ hm
  obtain ⟨ys0, l0, r0, ok0⟩ : ∃ ys : List _, ys.length = len0 ∧ RS W railK a0 ys ∧ ∀ i, i < len0 → okRail (ys.getD i railK.d) := by
    obtain ⟨fuel, hf⟩ := h0
    rcases open_slice_fields Try.underlying22 Try.underlying35 (by kernel_rfl) (by kernel_rfl) hf with ⟨hcs, _⟩ | ⟨x, l, c, m, hcs, hl, hm, hmm, hi⟩
    · simp [Value.cells] at hcs
      obtain ⟨rfl, rfl, rfl⟩ := hcs
      exact ⟨[], rfl, .inl rfl, fun _ h => absurd h (Nat.not_lt_zero _)⟩
    · simp [Value.cells] at hcs
      obtain ⟨rfl, rfl, rfl⟩ := hcs
      simp only [if_true] at hmm
      subst hmm
      refine RS.ofCells railK okRail fun i hil => ?_
      obtain ⟨n, hj⟩ := hi i (Nat.lt_of_lt_of_le hil hl)
      obtain ⟨u0, y0, e0, g0⟩ := hj 0 _ rfl
      obtain ⟨f0, q0, _, wf0⟩ := DataW.trod_int Try.underlying3 g0
      simp at q0; subst q0
      obtain ⟨u1, y1, e1, g1⟩ := hj 1 _ rfl
      obtain ⟨f1, q1, _, wf1⟩ := DataW.trod_int Try.underlying33 g1
      simp at q1; subst q1
      obtain ⟨u2, y2, e2, g2⟩ := hj 2 _ rfl
      obtain ⟨f2, q2, _, wf2⟩ := DataW.trod_int Try.underlying33 g2
      simp at q2; subst q2
      refine ⟨⟨f0, f1, f2⟩, ?_, ?_⟩
      · exact ⟨(by have := bounds_i64 wf0; omega), (by have := bounds_u64 wf1; omega), (by have := bounds_u64 wf2; omega)⟩
      · intro j v hv
        match j, hv with
        | 0, hv => cases hv; exact e0
        | 1, hv => cases hv; exact e1
        | 2, hv => cases hv; exact e2
  obtain ⟨a1, len1, c1, rfl⟩ := okWide_slice Try.underlying37 (hval 1 37 v1 rfl rfl)
  have k1 := h1
  have lt1 : ∀ x ∈ p1, x.block < W.heap.size := by obtain ⟨m, hm⟩ := k1; exact DataW.trod_lt m _ _ _ hm
  obtain ⟨ys1, l1, r1, ok1⟩ : ∃ ys : List _, ys.length = len1 ∧ RS W callK a1 ys ∧ ∀ i, i < len1 → okCall (ys.getD i callK.d) := by
    obtain ⟨fuel, hf⟩ := h1
    rcases open_slice_fields Try.underlying37 Try.underlying48 (by kernel_rfl) (by kernel_rfl) hf with ⟨hcs, _⟩ | ⟨x, l, c, m, hcs, hl, hm, hmm, hi⟩
    · simp [Value.cells] at hcs
      obtain ⟨rfl, rfl, rfl⟩ := hcs
      exact ⟨[], rfl, .inl rfl, fun _ h => absurd h (Nat.not_lt_zero _)⟩
    · simp [Value.cells] at hcs
      obtain ⟨rfl, rfl, rfl⟩ := hcs
      simp only [if_true] at hmm
      subst hmm
      refine RS.ofCells callK okCall fun i hil => ?_
      obtain ⟨n, hj⟩ := hi i (Nat.lt_of_lt_of_le hil hl)
      obtain ⟨u0, y0, e0, g0⟩ := hj 0 _ rfl
      obtain ⟨f0, q0, _⟩ := DataW.trod_bool Try.underlying4 g0
      simp at q0; subst q0
      obtain ⟨u1, y1, e1, g1⟩ := hj 1 _ rfl
      obtain ⟨f1, q1, _, wf1⟩ := DataW.trod_int Try.underlying3 g1
      simp at q1; subst q1
      obtain ⟨u2, y2, e2, g2⟩ := hj 2 _ rfl
      obtain ⟨f2, q2, _, wf2⟩ := DataW.trod_int Try.underlying33 g2
      simp at q2; subst q2
      obtain ⟨u3, y3, e3, g3⟩ := hj 3 _ rfl
      obtain ⟨f3, q3, _⟩ := DataW.trod_bool Try.underlying4 g3
      simp at q3; subst q3
      refine ⟨⟨f0, f1, f2, f3⟩, ?_, ?_⟩
      · exact ⟨(by have := bounds_i64 wf1; omega), (by have := bounds_u64 wf2; omega)⟩
      · intro j v hv
        match j, hv with
        | 0, hv => cases hv; exact e0
        | 1, hv => cases hv; exact e1
        | 2, hv => cases hv; exact e2
        | 3, hv => cases hv; exact e3
  clear hA0 hval0
  refine (Fx.top (alternate_fn (c := c0) (d := c1) r0 l0.symm (by rw [l0]; exact ok0) r1 l1.symm)).mono fun e W' ⟨he, bel⟩ => ?_
  subst he
  exact ⟨_, rfl, _, _, _, [], _, [], hW', trodAll_mk1 (shut_bool Try.underlying4 _), (trodAll_cons_mk (Below.trod laidOut (by kernel_rfl) (of_decide_eq_true (by kernel_rfl)) k0 bel lt0) (trodAll_cons_mk (Below.trod laidOut (by kernel_rfl) (of_decide_eq_true (by kernel_rfl)) k1 bel lt1) trodAll_mk0)), rfl, bel.frame _, fun h => by cases h⟩
theorem proved : Rows.RailsOperationsAlternateSaid :=
  OpenClaim.holds_of_wide 4 Try.f4 rfl rfl rfl rfl rfl rfl rfl ⟨rfl, rfl, rfl, rfl, rfl⟩ rfl rfl rfl rfl rfl (by kernel_rfl) Try.func4 (by kernel_rfl)
    (of_decide_eq_true (by kernel_rfl)) (by unfold Func.isWrapper; first | (rw [if_pos (by decide +kernel)]; kernel_rfl) | (rw [if_neg (by decide +kernel)]; exact ⟨rfl, rfl⟩))
    (fun os started H enc _ => lifted os started H enc)
#print axioms proved
end Go.Proofs.Ytcmalbkflbfidaa.railsOperationsAlternate
