/-
  Finding a number in a list; when an instance stops waiting; kept transitions.
-/
import Derived.Test.YtplmfekhdaefaaaDoorDm18
set_option linter.unusedSimpArgs false
set_option linter.unusedVariables false
namespace Go.Drv
open Go.Sv
theorem AI.stop {d : Dv} {k : Nat} {s : IS} {ops : List Ro} {wt : Bool} (h : AI d k s ops wt) (hk : d.ts.length < k) : wt = false := by
  cases hw : wt with
  | false => rfl
  | true =>
    have h1 := h.ri.c (h.w.trans hw)
    have h2 := (h.o hw).1
    omega
theorem AI.mem {d : Dv} {k : Nat} {s : IS} {ops : List Ro} {wt : Bool} (h : AI d k s ops wt) : s.st ∈ outR (rchM d) d.ss.length := by
  have h1 := h.ri.n
  exact outR_mem.2 ⟨s.st.toNat, (Int.toNat_of_nonneg h1.1).symm, by omega, h.ri.r⟩
def fndI (l : List Int) (x : Int) (k : Nat) : Bool := (List.range k).any (fun i => decide (l.getD i 0 = x))
theorem fndI_s (l : List Int) (x : Int) (k : Nat) : fndI l x (k + 1) = (fndI l x k || decide (l.getD k 0 = x)) := by
  unfold fndI
  rw [List.range_succ, List.any_append]; simp
theorem fndI_1 {l : List Int} {x : Int} {k : Nat} (h : fndI l x k = true) : fndI l x (k + 1) = true := by rw [fndI_s, h]; rfl
theorem fndI_2 {l : List Int} {x : Int} {k : Nat} (h : fndI l x k = false) : fndI l x (k + 1) = decide (l.getD k (intK .i64).d = x) := by rw [fndI_s, h, Bool.false_or]; rfl
theorem fndI_iff {l : List Int} {x : Int} : fndI l x l.length = true ↔ x ∈ l := by
  unfold fndI
  rw [List.any_eq_true]
  constructor
  · rintro ⟨i, hi, h⟩
    have hl := List.mem_range.1 hi
    rw [← of_decide_eq_true h]
    simp [List.getD, hl]
  · intro h
    obtain ⟨i, hi, rfl⟩ := List.getElem_of_mem h
    exact ⟨i, List.mem_range.2 hi, decide_eq_true (by simp [List.getD, hi])⟩
/-! ### Kept transitions -/
def kpt (d : Dv) (t : Tr) : Bool := decide (t.frm ∈ outR (rchM d) d.ss.length)
theorem kpt_of {d : Dv} (t : Tr) (h0 : 0 ≤ t.frm) (h : (rchM d).getD t.frm.toNat false = true) : kpt d t = true := by
  refine decide_eq_true (outR_mem.2 ⟨t.frm.toNat, (Int.toNat_of_nonneg h0).symm, ?_, h⟩)
  rw [← rch_len d]
  rcases Nat.lt_or_ge t.frm.toNat (rchM d).length with h' | h'
  · exact h'
  · simp [List.getD, List.getElem?_eq_none h'] at h
theorem kpt_fnd {d : Dv} {t : Tr} : fndI (outR (rchM d) d.ss.length) t.frm (outR (rchM d) d.ss.length).length = kpt d t := by
  cases h : kpt d t with
  | true => exact fndI_iff.2 (of_decide_eq_true h)
  | false =>
    cases h2 : fndI (outR (rchM d) d.ss.length) t.frm (outR (rchM d) d.ss.length).length with
    | false => rfl
    | true => exact absurd (fndI_iff.1 h2) (of_decide_eq_false h)
end Go.Drv
