/-
  Going to sleep: what becomes of the freezing at a time (plain).
-/
import Derived.Test.YtdfkpdcpegcieaaGreatDoorObA
set_option linter.unusedSimpArgs false
set_option linter.unusedVariables false
namespace Go.Ctl
open Go.Sv Go.Perf
theorem ad_cases (es : List Int) (dl now : Int) : (allLe es (min now dl) es.length = true ∧ adB es dl now = true ∧ adE es dl now = 0 ∧ adS es dl now = 2) ∨ ((¬ allLe es (min now dl) es.length = true ∧ dl ≤ now) ∧ adB es dl now = false ∧ adE es dl now = 14 ∧ adS es dl now = 0) ∨
    ((¬ allLe es (min now dl) es.length = true ∧ ¬ dl ≤ now) ∧ adB es dl now = false ∧ adE es dl now = 0 ∧ adS es dl now = 1) := by
  unfold adB adE adS
  by_cases h : allLe es (min now dl) es.length = true
  · exact .inl ⟨h, h, if_pos h, if_pos h⟩
  · have h2 : allLe es (min now dl) es.length = false := by simpa using h
    by_cases hd : dl ≤ now
    · exact .inr (.inl ⟨⟨h, hd⟩, h2, by rw [if_neg h, if_pos hd], by rw [if_neg h, if_pos hd]⟩)
    · exact .inr (.inr ⟨⟨h, hd⟩, h2, by rw [if_neg h, if_neg hd], by rw [if_neg h, if_neg hd]⟩)
end Go.Ctl
