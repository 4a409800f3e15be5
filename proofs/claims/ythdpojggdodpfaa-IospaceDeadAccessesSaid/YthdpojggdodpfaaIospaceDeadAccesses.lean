/-
  IospaceDeadAccesses: for every input the call returns true, and the arguments read afterwards as before. No condition.
-/
import Derived.Test.YthdpojggdodpfaaRows
import Derived.Test.YthdpojggdodpfaaSvB
import Derived.Test.YthdpojggdodpfaaW24
import Derived.ProofKit
import Derived.OpenShut
import Derived.ChangeOld
import Derived.Below
set_option linter.unusedSimpArgs false
set_option linter.unusedVariables false
namespace Go.Proofs.Ythdpojggdodpfaa.iospaceDeadAccesses
open Go.ChangeShapes Go.WideShapes Go.ChangeAt Go.RowKit Go.Sv Go.Ios

theorem own : ownKnob Try.prog.godebug = none := by kernel_rfl
theorem laidOut : laidOutB Try.prog = true := by kernel_rfl
set_option maxRecDepth 100000 in
set_option maxHeartbeats 1000000 in
theorem lifted (os : Os) (started : os.Started) (H : Type) (enc : TypeId × Value → H) :
    ReturnsInHanded {} Try.checked os 7 .any (Rows.iospaceDeadAccessesSpec.pre6 enc Try.prog Try.f7 Rows.iospaceDeadAccessesRow.domain false) (Rows.iospaceDeadAccessesSpec.post enc Try.prog Try.f7 false true false false) := by
  refine returnsInHanded_of_change (C := Try.checked) own started (by kernel_rfl) Try.func7
    (ChangeSpec.witness6 (enc := enc) (C := Try.checked) false ⟨#[], #[.slice none 0 0, .agg #[.int .i64 0, .int .i64 0, .int .u64 0, .int .u64 0, .int .i64 0, .int .i64 0, .bool false, .int .u64 0, .bool false]], []⟩ 8 (by kernel_rfl) (by kernel_rfl) (by kernel_rfl) (by kernel_rfl)) ?_
  intro W base args ds gs before hval0 hW hcnd _
  have hval : ∀ (j : Nat) t v, Try.f7.params[j]? = some t → args[j]? = some v → Value.okWide Try.prog W .any base t v := hval0
  have hW' := hW
  obtain ⟨p, q, hA0, hV, rfl, hfz, hnd⟩ := hW
  have hA : DataW.TrodAll enc Try.prog W 0 (fun _ => true) true Try.f7.params.toList args.toList ds p := hA0
  rw [Try.params7] at hA hval
  obtain ⟨v0, vs0, d0, ds0, p0, q0, hargs, rfl, rfl, h0, t0⟩ := trodAll_cons hA
  obtain ⟨v1, vs1, d1, ds1, p1, q1, rfl, rfl, rfl, h1, t1⟩ := trodAll_cons t0
  obtain ⟨rfl, rfl, rfl⟩ := trodAll_nil t1
  obtain rfl : args = #[v0, v1] := by cases args; simp_all
  obtain ⟨rfl, rfl⟩ := trodVars_none hV
  obtain ⟨a0, len0, c0, rfl⟩ := okWide_slice Try.underlying40 (hval 0 40 v0 rfl rfl)
  have k0 := h0
  have lt0 : ∀ x ∈ p0, x.block < W.heap.size := by obtain ⟨m, hm⟩ := k0; exact DataW.trod_lt m _ _ _ hm
  obtain ⟨ys0, l0, r0, ok0⟩ : ∃ ys : List _, ys.length = len0 ∧ RS W opK a0 ys ∧ ∀ i, i < len0 → okO (ys.getD i opK.d) := by
    obtain ⟨fuel, hf⟩ := h0
    rcases open_slice_fields Try.underlying40 Try.underlying43 (by kernel_rfl) (by kernel_rfl) hf with ⟨hcs, _⟩ | ⟨x, l, c, m, hcs, hl, hm, hmm, hi⟩
    · simp [Value.cells] at hcs
      obtain ⟨rfl, rfl, rfl⟩ := hcs
      exact ⟨[], rfl, .inl rfl, fun _ h => absurd h (Nat.not_lt_zero _)⟩
    · simp [Value.cells] at hcs
      obtain ⟨rfl, rfl, rfl⟩ := hcs
      simp only [if_true] at hmm
      subst hmm
      refine RS.ofCells opK okO fun i hil => ?_
      obtain ⟨n, hj⟩ := hi i (Nat.lt_of_lt_of_le hil hl)
      obtain ⟨u0, y0, e0, g0⟩ := hj 0 _ rfl
      obtain ⟨f0, q0, _, wf0⟩ := DataW.trod_int Try.underlying3 g0
      simp at q0; subst q0
      obtain ⟨u1, y1, e1, g1⟩ := hj 1 _ rfl
      obtain ⟨f1, q1, _, wf1⟩ := DataW.trod_int Try.underlying3 g1
      simp at q1; subst q1
      obtain ⟨u2, y2, e2, g2⟩ := hj 2 _ rfl
      obtain ⟨f2, q2, _, wf2⟩ := DataW.trod_int Try.underlying22 g2
      simp at q2; subst q2
      obtain ⟨u3, y3, e3, g3⟩ := hj 3 _ rfl
      obtain ⟨f3, q3, _, wf3⟩ := DataW.trod_int Try.underlying22 g3
      simp at q3; subst q3
      obtain ⟨u4, y4, e4, g4⟩ := hj 4 _ rfl
      obtain ⟨f4, q4, _, wf4⟩ := DataW.trod_int Try.underlying3 g4
      simp at q4; subst q4
      obtain ⟨u5, y5, e5, g5⟩ := hj 5 _ rfl
      obtain ⟨f5, q5, _, wf5⟩ := DataW.trod_int Try.underlying3 g5
      simp at q5; subst q5
      obtain ⟨u6, y6, e6, g6⟩ := hj 6 _ rfl
      obtain ⟨f6, q6, _⟩ := DataW.trod_bool Try.underlying4 g6
      simp at q6; subst q6
      obtain ⟨u7, y7, e7, g7⟩ := hj 7 _ rfl
      obtain ⟨f7, q7, _, wf7⟩ := DataW.trod_int Try.underlying22 g7
      simp at q7; subst q7
      obtain ⟨u8, y8, e8, g8⟩ := hj 8 _ rfl
      obtain ⟨f8, q8, _⟩ := DataW.trod_bool Try.underlying4 g8
      simp at q8; subst q8
      refine ⟨⟨f0, f1, f2, f3, f4, f5, f6, f7, f8⟩, ?_, ?_⟩
      · exact (by have h1 := bounds_u64 wf2; have h2 := bounds_u64 wf3; have h3 := bounds_u64 wf7; exact ⟨⟨by show 0 ≤ f2; omega, by show f2 ≤ 18446744073709551615; omega⟩, ⟨by show 0 ≤ f3; omega, by show f3 ≤ 18446744073709551615; omega⟩, ⟨by show 0 ≤ f7; omega, by show f7 ≤ 18446744073709551615; omega⟩⟩)
      · intro j v hv
        match j, hv with
        | 0, hv => cases hv; exact e0
        | 1, hv => cases hv; exact e1
        | 2, hv => cases hv; exact e2
        | 3, hv => cases hv; exact e3
        | 4, hv => cases hv; exact e4
        | 5, hv => cases hv; exact e5
        | 6, hv => cases hv; exact e6
        | 7, hv => cases hv; exact e7
        | 8, hv => cases hv; exact e8
  have k1 := h1
  have lt1 : ∀ x ∈ p1, x.block < W.heap.size := by obtain ⟨m, hm⟩ := k1; exact DataW.trod_lt m _ _ _ hm
  obtain ⟨cs1, rfl, hl1, n1, hj1⟩ := open_struct Try.underlying43 (by kernel_rfl) (by kernel_rfl) (hval 1 43 v1 rfl rfl) h1
  obtain ⟨s1_0, s1_1, s1_2, s1_3, s1_4, s1_5, s1_6, s1_7, s1_8, rfl⟩ := list9 (hl1.trans rfl)
  obtain ⟨u1_0, y1_0, e1_0, g1_0⟩ := hj1 0 _ rfl
  simp at e1_0; subst e1_0
  obtain ⟨f1_0, q1_0, _, wf1_0⟩ := DataW.trod_int Try.underlying3 g1_0
  simp at q1_0; subst q1_0
  obtain ⟨u1_1, y1_1, e1_1, g1_1⟩ := hj1 1 _ rfl
  simp at e1_1; subst e1_1
  obtain ⟨f1_1, q1_1, _, wf1_1⟩ := DataW.trod_int Try.underlying3 g1_1
  simp at q1_1; subst q1_1
  obtain ⟨u1_2, y1_2, e1_2, g1_2⟩ := hj1 2 _ rfl
  simp at e1_2; subst e1_2
  obtain ⟨f1_2, q1_2, _, wf1_2⟩ := DataW.trod_int Try.underlying22 g1_2
  simp at q1_2; subst q1_2
  obtain ⟨u1_3, y1_3, e1_3, g1_3⟩ := hj1 3 _ rfl
  simp at e1_3; subst e1_3
  obtain ⟨f1_3, q1_3, _, wf1_3⟩ := DataW.trod_int Try.underlying22 g1_3
  simp at q1_3; subst q1_3
  obtain ⟨u1_4, y1_4, e1_4, g1_4⟩ := hj1 4 _ rfl
  simp at e1_4; subst e1_4
  obtain ⟨f1_4, q1_4, _, wf1_4⟩ := DataW.trod_int Try.underlying3 g1_4
  simp at q1_4; subst q1_4
  obtain ⟨u1_5, y1_5, e1_5, g1_5⟩ := hj1 5 _ rfl
  simp at e1_5; subst e1_5
  obtain ⟨f1_5, q1_5, _, wf1_5⟩ := DataW.trod_int Try.underlying3 g1_5
  simp at q1_5; subst q1_5
  obtain ⟨u1_6, y1_6, e1_6, g1_6⟩ := hj1 6 _ rfl
  simp at e1_6; subst e1_6
  obtain ⟨f1_6, q1_6, _⟩ := DataW.trod_bool Try.underlying4 g1_6
  simp at q1_6; subst q1_6
  obtain ⟨u1_7, y1_7, e1_7, g1_7⟩ := hj1 7 _ rfl
  simp at e1_7; subst e1_7
  obtain ⟨f1_7, q1_7, _, wf1_7⟩ := DataW.trod_int Try.underlying22 g1_7
  simp at q1_7; subst q1_7
  obtain ⟨u1_8, y1_8, e1_8, g1_8⟩ := hj1 8 _ rfl
  simp at e1_8; subst e1_8
  obtain ⟨f1_8, q1_8, _⟩ := DataW.trod_bool Try.underlying4 g1_8
  simp at q1_8; subst q1_8
  clear hA0 hval0
  refine (Fx.top (dead_fn (d := c0) r0 l0.symm (okO_of (by rw [l0]; exact ok0)) ⟨f1_0, f1_1, f1_2, f1_3, f1_4, f1_5, f1_6, f1_7, f1_8⟩ (by have h1 := bounds_u64 wf1_2; have h2 := bounds_u64 wf1_3; have h3 := bounds_u64 wf1_7; exact ⟨⟨by show 0 ≤ f1_2; omega, by show f1_2 ≤ 18446744073709551615; omega⟩, ⟨by show 0 ≤ f1_3; omega, by show f1_3 ≤ 18446744073709551615; omega⟩, ⟨by show 0 ≤ f1_7; omega, by show f1_7 ≤ 18446744073709551615; omega⟩⟩))).mono fun e W' ⟨he, bel⟩ => ?_
  subst he
  exact ⟨_, rfl, _, _, _, [], _, [], hW', trodAll_mk1 (shut_bool Try.underlying4 _), (trodAll_cons_mk (Below.trod laidOut (by kernel_rfl) (of_decide_eq_true (by kernel_rfl)) k0 bel lt0) (trodAll_cons_mk (Below.trod laidOut (by kernel_rfl) (of_decide_eq_true (by kernel_rfl)) k1 bel lt1) trodAll_mk0)), rfl, bel.frame _, fun h => by cases h⟩
theorem proved : Rows.IospaceDeadAccessesSaid :=
  OpenClaim.holds_of_wide 7 Try.f7 rfl rfl rfl rfl rfl rfl rfl ⟨rfl, rfl, rfl, rfl, rfl⟩ rfl rfl rfl rfl rfl (by kernel_rfl) Try.func7 (by kernel_rfl)
    (of_decide_eq_true (by kernel_rfl)) (by unfold Func.isWrapper; first | (rw [if_pos (by decide +kernel)]; kernel_rfl) | (rw [if_neg (by decide +kernel)]; exact ⟨rfl, rfl⟩))
    (fun os started H enc _ => lifted os started H enc)
#print axioms proved
end Go.Proofs.Ythdpojggdodpfaa.iospaceDeadAccesses
