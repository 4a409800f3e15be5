/-
  PerfSafeAgrees: for every input the call returns true, and the arguments read afterwards as before. No condition.
-/
import Derived.Test.YtaafpnoffdcbnaaRows
import Derived.Test.YtaafpnoffdcbnaaSv11
import Derived.Test.YtaafpnoffdcbnaaW9
import Derived.ProofKit
import Derived.OpenShut
import Derived.ChangeOld
import Derived.Below
set_option linter.unusedSimpArgs false
set_option linter.unusedVariables false
namespace Go.Proofs.Ytaafpnoffdcbnaa.perfSafeAgrees
open Go.ChangeShapes Go.WideShapes Go.ChangeAt Go.RowKit Go.Sv Go.Perf

theorem own : ownKnob Try.prog.godebug = none := by kernel_rfl
theorem laidOut : laidOutB Try.prog = true := by kernel_rfl
set_option maxRecDepth 100000 in
set_option maxHeartbeats 1000000 in
theorem lifted (os : Os) (started : os.Started) (H : Type) (enc : TypeId × Value → H) :
    ReturnsInHanded {} Try.checked os 6 .any (Rows.perfSafeAgreesSpec.pre6 enc Try.prog Try.f6 Rows.perfSafeAgreesRow.domain false) (Rows.perfSafeAgreesSpec.post enc Try.prog Try.f6 false true false false) := by
  refine returnsInHanded_of_change (C := Try.checked) own started (by kernel_rfl) Try.func6
    (ChangeSpec.witness6 (enc := enc) (C := Try.checked) false ⟨#[], #[.slice none 0 0, .int .i64 0, .slice none 0 0], []⟩ 8 (by kernel_rfl) (by kernel_rfl) (by kernel_rfl) (by kernel_rfl)) ?_
  intro W base args ds gs before hval0 hW hcnd _
  have hval : ∀ (j : Nat) t v, Try.f6.params[j]? = some t → args[j]? = some v → Value.okWide Try.prog W .any base t v := hval0
  have hW' := hW
  obtain ⟨p, q, hA0, hV, rfl, hfz, hnd⟩ := hW
  have hA : DataW.TrodAll enc Try.prog W 0 (fun _ => true) true Try.f6.params.toList args.toList ds p := hA0
  rw [Try.params6] at hA hval
  obtain ⟨v0, vs0, d0, ds0, p0, q0, hargs, rfl, rfl, h0, t0⟩ := trodAll_cons hA
  obtain ⟨v1, vs1, d1, ds1, p1, q1, rfl, rfl, rfl, h1, t1⟩ := trodAll_cons t0
  obtain ⟨v2, vs2, d2, ds2, p2, q2, rfl, rfl, rfl, h2, t2⟩ := trodAll_cons t1
  obtain ⟨rfl, rfl, rfl⟩ := trodAll_nil t2
  obtain rfl : args = #[v0, v1, v2] := by cases args; simp_all
  obtain ⟨rfl, rfl⟩ := trodVars_none hV
  obtain ⟨a0, len0, c0, rfl⟩ := okWide_slice Try.underlying22 (hval 0 22 v0 rfl rfl)
  have k0 := h0
  have lt0 : ∀ x ∈ p0, x.block < W.heap.size := by obtain ⟨m, hm⟩ := k0; exact DataW.trod_lt m _ _ _ hm
  obtain ⟨ys0, l0, r0, ok0⟩ : ∃ ys : List _, ys.length = len0 ∧ RS W ptK a0 ys ∧ ∀ i, i < len0 → fitP (ys.getD i ptK.d) := by
    obtain ⟨fuel, hf⟩ := h0
    rcases open_slice_fields Try.underlying22 Try.underlying25 (by kernel_rfl) (by kernel_rfl) hf with ⟨hcs, _⟩ | ⟨x, l, c, m, hcs, hl, hm, hmm, hi⟩
    · simp [Value.cells] at hcs
      obtain ⟨rfl, rfl, rfl⟩ := hcs
      exact ⟨[], rfl, .inl rfl, fun _ h => absurd h (Nat.not_lt_zero _)⟩
    · simp [Value.cells] at hcs
      obtain ⟨rfl, rfl, rfl⟩ := hcs
      simp only [if_true] at hmm
      subst hmm
      refine RS.ofCells ptK fitP fun i hil => ?_
      obtain ⟨n, hj⟩ := hi i (Nat.lt_of_lt_of_le hil hl)
      obtain ⟨u0, y0, e0, g0⟩ := hj 0 _ rfl
      obtain ⟨f0, q0, _, wf0⟩ := DataW.trod_int Try.underlying23 g0
      simp at q0; subst q0
      obtain ⟨u1, y1, e1, g1⟩ := hj 1 _ rfl
      obtain ⟨f1, q1, _, wf1⟩ := DataW.trod_int Try.underlying23 g1
      simp at q1; subst q1
      obtain ⟨u2, y2, e2, g2⟩ := hj 2 _ rfl
      obtain ⟨f2, q2, _, wf2⟩ := DataW.trod_int Try.underlying23 g2
      simp at q2; subst q2
      refine ⟨⟨f0, f1, f2⟩, ?_, ?_⟩
      · exact ⟨(by have := bounds_u64 wf0; omega), (by have := bounds_u64 wf1; omega), (by have := bounds_u64 wf2; omega)⟩
      · intro j v hv
        match j, hv with
        | 0, hv => cases hv; exact e0
        | 1, hv => cases hv; exact e1
        | 2, hv => cases hv; exact e2
  obtain ⟨x1, rfl, rfl, rfl, w1⟩ := open_int Try.underlying3 (hval 1 3 v1 rfl rfl) h1
  obtain ⟨a2, len2, c2, rfl⟩ := okWide_slice Try.underlying35 (hval 2 35 v2 rfl rfl)
  have k2 := h2
  have lt2 : ∀ x ∈ p2, x.block < W.heap.size := by obtain ⟨m, hm⟩ := k2; exact DataW.trod_lt m _ _ _ hm
  obtain ⟨ys2, l2, r2, ok2⟩ : ∃ ys : List _, ys.length = len2 ∧ RS W popK a2 ys ∧ ∀ i, i < len2 → okO (ys.getD i popK.d) := by
    obtain ⟨fuel, hf⟩ := h2
    rcases open_slice_fields Try.underlying35 Try.underlying40 (by kernel_rfl) (by kernel_rfl) hf with ⟨hcs, _⟩ | ⟨x, l, c, m, hcs, hl, hm, hmm, hi⟩
    · simp [Value.cells] at hcs
      obtain ⟨rfl, rfl, rfl⟩ := hcs
      exact ⟨[], rfl, .inl rfl, fun _ h => absurd h (Nat.not_lt_zero _)⟩
    · simp [Value.cells] at hcs
      obtain ⟨rfl, rfl, rfl⟩ := hcs
      simp only [if_true] at hmm
      subst hmm
      refine RS.ofCells popK okO fun i hil => ?_
      obtain ⟨n, hj⟩ := hi i (Nat.lt_of_lt_of_le hil hl)
      obtain ⟨u0, y0, e0, g0⟩ := hj 0 _ rfl
      obtain ⟨f0, q0, _⟩ := DataW.trod_bool Try.underlying4 g0
      simp at q0; subst q0
      obtain ⟨u1, y1, e1, g1⟩ := hj 1 _ rfl
      obtain ⟨f1, q1, _, wf1⟩ := DataW.trod_int Try.underlying23 g1
      simp at q1; subst q1
      refine ⟨⟨f0, f1⟩, ?_, ?_⟩
      · exact (by have := bounds_u64 wf1; exact ⟨by show 0 ≤ f1; omega, by show f1 ≤ 18446744073709551615; omega⟩)
      · intro j v hv
        match j, hv with
        | 0, hv => cases hv; exact e0
        | 1, hv => cases hv; exact e1
  clear hA0 hval0
  refine (Fx.top (safeAgrees_fn (c := c0) (d := c2) r0 l0.symm (fitT_of (by rw [l0]; exact ok0)) r2 l2.symm (okO_of (by rw [l2]; exact ok2)) x1)).mono fun e W' ⟨he, bel⟩ => ?_
  subst he
  exact ⟨_, rfl, _, _, _, [], _, [], hW', trodAll_mk1 (shut_bool Try.underlying4 _), (trodAll_cons_mk (Below.trod laidOut (by kernel_rfl) (of_decide_eq_true (by kernel_rfl)) k0 bel lt0) (trodAll_cons_mk (shut_int Try.underlying3 w1) (trodAll_cons_mk (Below.trod laidOut (by kernel_rfl) (of_decide_eq_true (by kernel_rfl)) k2 bel lt2) trodAll_mk0))), rfl, bel.frame _, fun h => by cases h⟩
theorem proved : Rows.PerfSafeAgreesSaid :=
  OpenClaim.holds_of_wide 6 Try.f6 rfl rfl rfl rfl rfl rfl rfl ⟨rfl, rfl, rfl, rfl, rfl⟩ rfl rfl rfl rfl rfl (by kernel_rfl) Try.func6 (by kernel_rfl)
    (of_decide_eq_true (by kernel_rfl)) (by unfold Func.isWrapper; first | (rw [if_pos (by decide +kernel)]; kernel_rfl) | (rw [if_neg (by decide +kernel)]; exact ⟨rfl, rfl⟩))
    (fun os started H enc _ => lifted os started H enc)
#print axioms proved
end Go.Proofs.Ytaafpnoffdcbnaa.perfSafeAgrees
