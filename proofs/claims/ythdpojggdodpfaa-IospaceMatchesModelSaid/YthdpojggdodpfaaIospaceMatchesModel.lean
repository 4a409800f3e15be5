/-
  IospaceMatchesModel: for every input the call returns true, and the arguments read afterwards as before. No condition.
-/
import Derived.Test.YthdpojggdodpfaaRows
import Derived.Test.YthdpojggdodpfaaSvB
import Derived.Test.YthdpojggdodpfaaW23
import Derived.ProofKit
import Derived.OpenShut
import Derived.ChangeOld
import Derived.Below
set_option linter.unusedSimpArgs false
set_option linter.unusedVariables false
namespace Go.Proofs.Ythdpojggdodpfaa.iospaceMatchesModel
open Go.ChangeShapes Go.WideShapes Go.ChangeAt Go.RowKit Go.Sv Go.Ios

theorem own : ownKnob Try.prog.godebug = none := by kernel_rfl
theorem laidOut : laidOutB Try.prog = true := by kernel_rfl
set_option maxRecDepth 100000 in
set_option maxHeartbeats 1000000 in
theorem lifted (os : Os) (started : os.Started) (H : Type) (enc : TypeId × Value → H) :
    ReturnsInHanded {} Try.checked os 6 .any (Rows.iospaceMatchesModelSpec.pre6 enc Try.prog Try.f6 Rows.iospaceMatchesModelRow.domain false) (Rows.iospaceMatchesModelSpec.post enc Try.prog Try.f6 false true false false) := by
  refine returnsInHanded_of_change (C := Try.checked) own started (by kernel_rfl) Try.func6
    (ChangeSpec.witness6 (enc := enc) (C := Try.checked) false ⟨#[], #[.slice none 0 0], []⟩ 8 (by kernel_rfl) (by kernel_rfl) (by kernel_rfl) (by kernel_rfl)) ?_
  intro W base args ds gs before hval0 hW hcnd _
  have hval : ∀ (j : Nat) t v, Try.f6.params[j]? = some t → args[j]? = some v → Value.okWide Try.prog W .any base t v := hval0
  have hW' := hW
  obtain ⟨p, q, hA0, hV, rfl, hfz, hnd⟩ := hW
  have hA : DataW.TrodAll enc Try.prog W 0 (fun _ => true) true Try.f6.params.toList args.toList ds p := hA0
  rw [Try.params6] at hA hval
  obtain ⟨v0, vs0, d0, ds0, p0, q0, hargs, rfl, rfl, h0, t0⟩ := trodAll_cons hA
  obtain ⟨rfl, rfl, rfl⟩ := trodAll_nil t0
  obtain rfl : args = #[v0] := by cases args; simp_all
  obtain ⟨rfl, rfl⟩ := trodVars_none hV
  obtain ⟨a0, len0, c0, rfl⟩ := okWide_slice Try.underlying40 (hval 0 40 v0 rfl rfl)
  have k0 := h0
  have lt0 : ∀ x ∈ p0, x.block < W.heap.size := by obtain ⟨m, hm⟩ := k0; exact DataW.trod_lt m _ _ _ hm
  obtain ⟨ys0, l0, r0, ok0⟩ : ∃ ys : List _, ys.length = len0 ∧ RS W opK a0 ys ∧ ∀ i, i < len0 → okO (ys.getD i opK.d) := by
    obtain ⟨fuel, hf⟩ := h0
    rcases open_slice_fields Try.underlying40 Try.underlying43 (by kernel_rfl) (by kernel_rfl) hf with ⟨hcs, _⟩ | ⟨x, l, c, m, hcs, hl, hm, hmm, hi⟩
    · simp [Value.cells] at hcs
      obtain ⟨rfl, rfl, rfl⟩ := hcs
      exact ⟨[], rfl, .inl rfl, fun _ h => absurd h (Nat.not_lt_zero _)⟩
    · simp [Value.cells] at hcs
      obtain ⟨rfl, rfl, rfl⟩ := hcs
      simp only [if_true] at hmm
      subst hmm
      refine RS.ofCells opK okO fun i hil => ?_
      obtain ⟨n, hj⟩ := hi i (Nat.lt_of_lt_of_le hil hl)
      obtain ⟨u0, y0, e0, g0⟩ := hj 0 _ rfl
      obtain ⟨f0, q0, _, wf0⟩ := DataW.trod_int Try.underlying3 g0
      simp at q0; subst q0
      obtain ⟨u1, y1, e1, g1⟩ := hj 1 _ rfl
      obtain ⟨f1, q1, _, wf1⟩ := DataW.trod_int Try.underlying3 g1
      simp at q1; subst q1
      obtain ⟨u2, y2, e2, g2⟩ := hj 2 _ rfl
      obtain ⟨f2, q2, _, wf2⟩ := DataW.trod_int Try.underlying22 g2
      simp at q2; subst q2
      obtain ⟨u3, y3, e3, g3⟩ := hj 3 _ rfl
      obtain ⟨f3, q3, _, wf3⟩ := DataW.trod_int Try.underlying22 g3
      simp at q3; subst q3
      obtain ⟨u4, y4, e4, g4⟩ := hj 4 _ rfl
      obtain ⟨f4, q4, _, wf4⟩ := DataW.trod_int Try.underlying3 g4
      simp at q4; subst q4
      obtain ⟨u5, y5, e5, g5⟩ := hj 5 _ rfl
      obtain ⟨f5, q5, _, wf5⟩ := DataW.trod_int Try.underlying3 g5
      simp at q5; subst q5
      obtain ⟨u6, y6, e6, g6⟩ := hj 6 _ rfl
      obtain ⟨f6, q6, _⟩ := DataW.trod_bool Try.underlying4 g6
      simp at q6; subst q6
      obtain ⟨u7, y7, e7, g7⟩ := hj 7 _ rfl
      obtain ⟨f7, q7, _, wf7⟩ := DataW.trod_int Try.underlying22 g7
      simp at q7; subst q7
      obtain ⟨u8, y8, e8, g8⟩ := hj 8 _ rfl
      obtain ⟨f8, q8, _⟩ := DataW.trod_bool Try.underlying4 g8
      simp at q8; subst q8
      refine ⟨⟨f0, f1, f2, f3, f4, f5, f6, f7, f8⟩, ?_, ?_⟩
      · exact (by have h1 := bounds_u64 wf2; have h2 := bounds_u64 wf3; have h3 := bounds_u64 wf7; exact ⟨⟨by show 0 ≤ f2; omega, by show f2 ≤ 18446744073709551615; omega⟩, ⟨by show 0 ≤ f3; omega, by show f3 ≤ 18446744073709551615; omega⟩, ⟨by show 0 ≤ f7; omega, by show f7 ≤ 18446744073709551615; omega⟩⟩)
      · intro j v hv
        match j, hv with
        | 0, hv => cases hv; exact e0
        | 1, hv => cases hv; exact e1
        | 2, hv => cases hv; exact e2
        | 3, hv => cases hv; exact e3
        | 4, hv => cases hv; exact e4
        | 5, hv => cases hv; exact e5
        | 6, hv => cases hv; exact e6
        | 7, hv => cases hv; exact e7
        | 8, hv => cases hv; exact e8
  clear hA0 hval0
  refine (Fx.top (matches_fn (d := c0) r0 l0.symm (okO_of (by rw [l0]; exact ok0)))).mono fun e W' ⟨he, bel⟩ => ?_
  subst he
  exact ⟨_, rfl, _, _, _, [], _, [], hW', trodAll_mk1 (shut_bool Try.underlying4 _), (trodAll_cons_mk (Below.trod laidOut (by kernel_rfl) (of_decide_eq_true (by kernel_rfl)) k0 bel lt0) trodAll_mk0), rfl, bel.frame _, fun h => by cases h⟩
theorem proved : Rows.IospaceMatchesModelSaid :=
  OpenClaim.holds_of_wide 6 Try.f6 rfl rfl rfl rfl rfl rfl rfl ⟨rfl, rfl, rfl, rfl, rfl⟩ rfl rfl rfl rfl rfl (by kernel_rfl) Try.func6 (by kernel_rfl)
    (of_decide_eq_true (by kernel_rfl)) (by unfold Func.isWrapper; first | (rw [if_pos (by decide +kernel)]; kernel_rfl) | (rw [if_neg (by decide +kernel)]; exact ⟨rfl, rfl⟩))
    (fun os started H enc _ => lifted os started H enc)
#print axioms proved
end Go.Proofs.Ythdpojggdodpfaa.iospaceMatchesModel
