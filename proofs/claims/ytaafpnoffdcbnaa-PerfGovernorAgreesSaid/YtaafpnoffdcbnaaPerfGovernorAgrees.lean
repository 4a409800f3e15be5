/-
  PerfGovernorAgrees: for every input the call returns true, and the arguments read afterwards as before. No condition.
-/
import Derived.Test.YtaafpnoffdcbnaaRows
import Derived.Test.YtaafpnoffdcbnaaSv11
import Derived.Test.YtaafpnoffdcbnaaW13
import Derived.ProofKit
import Derived.OpenShut
import Derived.ChangeOld
import Derived.Below
set_option linter.unusedSimpArgs false
set_option linter.unusedVariables false
namespace Go.Proofs.Ytaafpnoffdcbnaa.perfGovernorAgrees
open Go.ChangeShapes Go.WideShapes Go.ChangeAt Go.RowKit Go.Sv Go.Perf

theorem own : ownKnob Try.prog.godebug = none := by kernel_rfl
theorem laidOut : laidOutB Try.prog = true := by kernel_rfl
set_option maxRecDepth 100000 in
set_option maxHeartbeats 1000000 in
theorem lifted (os : Os) (started : os.Started) (H : Type) (enc : TypeId × Value → H) :
    ReturnsInHanded {} Try.checked os 10 .any (Rows.perfGovernorAgreesSpec.pre6 enc Try.prog Try.f10 Rows.perfGovernorAgreesRow.domain false) (Rows.perfGovernorAgreesSpec.post enc Try.prog Try.f10 false true false false) := by
  refine returnsInHanded_of_change (C := Try.checked) own started (by kernel_rfl) Try.func10
    (ChangeSpec.witness6 (enc := enc) (C := Try.checked) false ⟨#[], #[.slice none 0 0, .agg #[.int .i64 0, .int .i64 0, .int .i64 0], .slice none 0 0], []⟩ 8 (by kernel_rfl) (by kernel_rfl) (by kernel_rfl) (by kernel_rfl)) ?_
  intro W base args ds gs before hval0 hW hcnd _
  have hval : ∀ (j : Nat) t v, Try.f10.params[j]? = some t → args[j]? = some v → Value.okWide Try.prog W .any base t v := hval0
  have hW' := hW
  obtain ⟨p, q, hA0, hV, rfl, hfz, hnd⟩ := hW
  have hA : DataW.TrodAll enc Try.prog W 0 (fun _ => true) true Try.f10.params.toList args.toList ds p := hA0
  rw [Try.params10] at hA hval
  obtain ⟨v0, vs0, d0, ds0, p0, q0, hargs, rfl, rfl, h0, t0⟩ := trodAll_cons hA
  obtain ⟨v1, vs1, d1, ds1, p1, q1, rfl, rfl, rfl, h1, t1⟩ := trodAll_cons t0
  obtain ⟨v2, vs2, d2, ds2, p2, q2, rfl, rfl, rfl, h2, t2⟩ := trodAll_cons t1
  obtain ⟨rfl, rfl, rfl⟩ := trodAll_nil t2
  obtain rfl : args = #[v0, v1, v2] := by cases args; simp_all
  obtain ⟨rfl, rfl⟩ := trodVars_none hV
  obtain ⟨a0, len0, c0, rfl⟩ := okWide_slice Try.underlying22 (hval 0 22 v0 rfl rfl)
  have k0 := h0
  have lt0 : ∀ x ∈ p0, x.block < W.heap.size := by obtain ⟨m, hm⟩ := k0; exact DataW.trod_lt m _ _ _ hm
  obtain ⟨ys0, l0, r0, ok0⟩ : ∃ ys : List _, ys.length = len0 ∧ RS W ptK a0 ys ∧ ∀ i, i < len0 → fitP (ys.getD i ptK.d) := by
    obtain ⟨fuel, hf⟩ := h0
    rcases open_slice_fields Try.underlying22 Try.underlying25 (by kernel_rfl) (by kernel_rfl) hf with ⟨hcs, _⟩ | ⟨x, l, c, m, hcs, hl, hm, hmm, hi⟩
    · simp [Value.cells] at hcs
      obtain ⟨rfl, rfl, rfl⟩ := hcs
      exact ⟨[], rfl, .inl rfl, fun _ h => absurd h (Nat.not_lt_zero _)⟩
    · simp [Value.cells] at hcs
      obtain ⟨rfl, rfl, rfl⟩ := hcs
      simp only [if_true] at hmm
      subst hmm
      refine RS.ofCells ptK fitP fun i hil => ?_
      obtain ⟨n, hj⟩ := hi i (Nat.lt_of_lt_of_le hil hl)
      obtain ⟨u0, y0, e0, g0⟩ := hj 0 _ rfl
      obtain ⟨f0, q0, _, wf0⟩ := DataW.trod_int Try.underlying23 g0
      simp at q0; subst q0
      obtain ⟨u1, y1, e1, g1⟩ := hj 1 _ rfl
      obtain ⟨f1, q1, _, wf1⟩ := DataW.trod_int Try.underlying23 g1
      simp at q1; subst q1
      obtain ⟨u2, y2, e2, g2⟩ := hj 2 _ rfl
      obtain ⟨f2, q2, _, wf2⟩ := DataW.trod_int Try.underlying23 g2
      simp at q2; subst q2
      refine ⟨⟨f0, f1, f2⟩, ?_, ?_⟩
      · exact ⟨(by have := bounds_u64 wf0; omega), (by have := bounds_u64 wf1; omega), (by have := bounds_u64 wf2; omega)⟩
      · intro j v hv
        match j, hv with
        | 0, hv => cases hv; exact e0
        | 1, hv => cases hv; exact e1
        | 2, hv => cases hv; exact e2
  have k1 := h1
  have lt1 : ∀ x ∈ p1, x.block < W.heap.size := by obtain ⟨m, hm⟩ := k1; exact DataW.trod_lt m _ _ _ hm
  obtain ⟨cs1, rfl, hl1, n1, hj1⟩ := open_struct Try.underlying45 (by kernel_rfl) (by kernel_rfl) (hval 1 45 v1 rfl rfl) h1
  obtain ⟨s1_0, s1_1, s1_2, rfl⟩ := list3 (hl1.trans rfl)
  obtain ⟨u1_0, y1_0, e1_0, g1_0⟩ := hj1 0 _ rfl
  simp at e1_0; subst e1_0
  obtain ⟨f1_0, q1_0, _, wf1_0⟩ := DataW.trod_int Try.underlying3 g1_0
  simp at q1_0; subst q1_0
  obtain ⟨u1_1, y1_1, e1_1, g1_1⟩ := hj1 1 _ rfl
  simp at e1_1; subst e1_1
  obtain ⟨f1_1, q1_1, _, wf1_1⟩ := DataW.trod_int Try.underlying3 g1_1
  simp at q1_1; subst q1_1
  obtain ⟨u1_2, y1_2, e1_2, g1_2⟩ := hj1 2 _ rfl
  simp at e1_2; subst e1_2
  obtain ⟨f1_2, q1_2, _, wf1_2⟩ := DataW.trod_int Try.underlying3 g1_2
  simp at q1_2; subst q1_2
  obtain ⟨a2, len2, c2, rfl⟩ := okWide_slice Try.underlying52 (hval 2 52 v2 rfl rfl)
  have k2 := h2
  have lt2 : ∀ x ∈ p2, x.block < W.heap.size := by obtain ⟨m, hm⟩ := k2; exact DataW.trod_lt m _ _ _ hm
  obtain ⟨ys2, l2, r2, ok2⟩ : ∃ ys : List _, ys.length = len2 ∧ RS W (intK .i64) a2 ys ∧ ∀ i, i < len2 → okI (ys.getD i (intK .i64).d) := by
    obtain ⟨fuel, hf⟩ := h2
    rcases open_ints Try.underlying52 Try.underlying3 (by kernel_rfl) hf with ⟨hcs, _⟩ | ⟨x, l, c, zs, hcs, _, hl, hm, hlen, _, hi, hwf⟩
    · simp [Value.cells] at hcs
      obtain ⟨rfl, rfl, rfl⟩ := hcs
      exact ⟨[], rfl, .inl rfl, fun _ h => absurd h (Nat.not_lt_zero _)⟩
    · simp [Value.cells] at hcs
      obtain ⟨rfl, rfl, rfl⟩ := hcs
      simp only [if_true] at hlen
      refine RS.ofCells (intK .i64) okI fun i hil => ⟨zs.getD i 0, ?_, ?_⟩
      · have hz : zs.getD i 0 ∈ zs := by simp [List.getD, show i < zs.length by omega]
        have := bounds_i64 (hwf _ hz)
        unfold okI; omega
      · intro j v hv
        match j, hv with
        | 0, hv => cases hv; have hcell := hi i (by omega); rw [show i * (intK .i64).sz + 0 = i from Nat.mul_one i]; exact hcell
  clear hA0 hval0
  refine (Fx.top (govAgrees_fn (c := c0) (d := c2) r0 l0.symm (fitT_of (by rw [l0]; exact ok0)) f1_0 f1_1 f1_2 r2 l2.symm)).mono fun e W' ⟨he, bel⟩ => ?_
  subst he
  exact ⟨_, rfl, _, _, _, [], _, [], hW', trodAll_mk1 (shut_bool Try.underlying4 _), (trodAll_cons_mk (Below.trod laidOut (by kernel_rfl) (of_decide_eq_true (by kernel_rfl)) k0 bel lt0) (trodAll_cons_mk (Below.trod laidOut (by kernel_rfl) (of_decide_eq_true (by kernel_rfl)) k1 bel lt1) (trodAll_cons_mk (Below.trod laidOut (by kernel_rfl) (of_decide_eq_true (by kernel_rfl)) k2 bel lt2) trodAll_mk0))), rfl, bel.frame _, fun h => by cases h⟩
theorem proved : Rows.PerfGovernorAgreesSaid :=
  OpenClaim.holds_of_wide 10 Try.f10 rfl rfl rfl rfl rfl rfl rfl ⟨rfl, rfl, rfl, rfl, rfl⟩ rfl rfl rfl rfl rfl (by kernel_rfl) Try.func10 (by kernel_rfl)
    (of_decide_eq_true (by kernel_rfl)) (by unfold Func.isWrapper; first | (rw [if_pos (by decide +kernel)]; kernel_rfl) | (rw [if_neg (by decide +kernel)]; exact ⟨rfl, rfl⟩))
    (fun os started H enc _ => lifted os started H enc)
#print axioms proved
end Go.Proofs.Ytaafpnoffdcbnaa.perfGovernorAgrees
