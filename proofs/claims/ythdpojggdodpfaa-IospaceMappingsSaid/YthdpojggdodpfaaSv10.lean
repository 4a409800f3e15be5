/-
  Results that lie in memory.
-/
import Derived.Test.YthdpojggdodpfaaSv9
import Derived.Laws.ResultCell
set_option linter.unusedSimpArgs false
set_option linter.unusedVariables false
namespace Go.Sv
theorem loadVar_run {P : Program} {t : TypeId} {D : TypeDesc} {b o : Nat} {ze : Value} {sz by_ : Nat} {w : World} (vs : List Value) (hu : P.underlying t = some D) (hD : aggD D = true) (hi : TI P t ze sz by_) (hsz : vs.length = sz)
    (hc : ∀ j v, vs[j]? = some v → w.cell? ⟨b, o + j, none⟩ = some v) : (loadVar t ⟨b, o, none⟩).run P w = .ok (.agg vs.toArray) w := by
  have hag : (isAgg t).run P w = .ok true w := by
    simp only [isAgg, Sem.run_bind, run_underlying hu, Result.andThen_ok]
    cases D <;> first | rfl | (simp [aggD] at hD)
  have hl := run_loadCells_list (P := P) w ⟨b, o, none⟩ vs (fun j v hv => by
    have := hc j v hv
    by_cases hj : j = 0
    · subst hj; simpa [Addr.add] using this
    · simpa [Addr.add, hj] using this)
  rw [hsz] at hl
  simp only [loadVar, Sem.run_bind, Sem.run_pure, Result.andThen_ok, hag, if_true, hi.sizeOf, hl]
theorem results_cell1 {fn : Func} {p : Tmp} {ty : TypeId} (h : fn.results = #[.cell p ty]) (tmps : Array Value) (P : Program) (w : World) :
    (results fn tmps).run P w = ((asAddr (tmps.getD p undef)).run P w).andThen fun a w₁ => ((loadVar ty a).run P w₁).andThen fun v w₂ => .ok v w₂ := by
  simp only [results, h]
  simp [Sem.run_bind, Result.andThen]
  cases (asAddr (tmps[p]?.getD undef)).run P w with
  | ok a w1 => simp only []; cases (loadVar ty a).run P w1 <;> rfl
  | halt _ _ => rfl
section
variable {P : Program} {N : Nat} {fn : Func} {I : Ids} {L L' : List Assn} {E : Env} {v v1 v2 : Value} {t t1 t2 : Tmp} {w : World} {post : Value → List Assn → Prop}
theorem KV.retC1 {ty : TypeId} {D : TypeDesc} {b o : Nat} {ze : Value} {sz by_ : Nat} (vs : List Value) (hr : fn.results = #[.cell t ty]) (hv : get E t = some (.pointer (some ⟨b, o, none⟩))) (hu : P.underlying ty = some D) (hD : aggD D = true) (hi : TI P ty ze sz by_) (hsz : vs.length = sz)
    (hc : ∀ w', Hp I w L w' → ∀ j v, vs[j]? = some v → w'.cell? ⟨b, o + j, none⟩ = some v) (L') (hent : ∀ w', Hp I w L w' → Hp I w L' w') (hp : post (.agg vs.toArray) L') :
    KV N (bodyPost P fn (fun e w' => ∃ v L', e = .returned v ∧ post v L' ∧ Hp I w L' w') .ret) E (Hp I w L) := fun a w' hf hs =>
  ⟨hf.defers, _, by
    rw [results_cell1 hr]
    have h1 : a.tmps.getD t undef = .pointer (some ⟨b, o, none⟩) := by simp [hf.slot t _ hv]
    have h2 : (asAddr (.pointer (some ⟨b, o, none⟩))).run P w' = .ok ⟨b, o, none⟩ w' := by simp [asAddr]
    rw [h1, h2, Result.andThen_ok, loadVar_run vs hu hD hi hsz (hc w' hs), Result.andThen_ok], _, L', rfl, hp, hent w' hs⟩
theorem KV.retC2 {ty : TypeId} {D : TypeDesc} {b o : Nat} {ze : Value} {sz by_ : Nat} (vs : List Value) (hr : fn.results = #[.cell t ty, .tmp t2]) (hv : get E t = some (.pointer (some ⟨b, o, none⟩))) (hv2 : get E t2 = some v2) (hu : P.underlying ty = some D) (hD : aggD D = true) (hi : TI P ty ze sz by_) (hsz : vs.length = sz)
    (hc : ∀ w', Hp I w L w' → ∀ j v, vs[j]? = some v → w'.cell? ⟨b, o + j, none⟩ = some v) (L') (hent : ∀ w', Hp I w L w' → Hp I w L' w') (hp : post (.tuple #[.agg vs.toArray, v2]) L') :
    KV N (bodyPost P fn (fun e w' => ∃ v L', e = .returned v ∧ post v L' ∧ Hp I w L' w') .ret) E (Hp I w L) := fun a w' hf hs =>
  ⟨hf.defers, _, by
    rw [results_cell_tmp hr]
    have h1 : a.tmps.getD t undef = .pointer (some ⟨b, o, none⟩) := by simp [hf.slot t _ hv]
    have h3 : a.tmps.getD t2 undef = v2 := by simp [hf.slot t2 _ hv2]
    have h2 : (asAddr (.pointer (some ⟨b, o, none⟩))).run P w' = .ok ⟨b, o, none⟩ w' := by simp [asAddr]
    rw [h1, h2, h3, Result.andThen_ok, loadVar_run vs hu hD hi hsz (hc w' hs), Result.andThen_ok], _, L', rfl, hp, hent w' hs⟩
end
end Go.Sv
