/-
  Plain laws of transitions: they are safe, lead to the target, and are not safe the other way round.
-/
import Derived.Test.YtaafpnoffdcbnaaMdl3
set_option linter.unusedSimpArgs false
set_option linter.unusedVariables false
set_option linter.unusedSectionVars false
namespace Go.Perf
open Go.Sv
theorem modN (v : Int) {n : Nat} (h : 0 < n) : ∃ p : Nat, modM v n = p ∧ p < n := by
  have := modM_lt v h
  obtain ⟨p, hp⟩ := Int.eq_ofNat_of_zero_le this.1
  exact ⟨p, hp, by omega⟩
theorem transM_len (ys : List Pt) (a b : Int) : (transM ys a b).1.length ≤ 2 := by
  unfold transM
  repeat' split
  all_goals simp
def fK (l : List POp) (f : Int) : Nat → Int
  | 0 => f
  | j + 1 => fAt (l.getD j popK.d) (fK l f j)
def vK (l : List POp) (v : Int) : Nat → Int
  | 0 => v
  | j + 1 => vAt (l.getD j popK.d) (vK l v j)
section
variable {ys : List Pt} (h : okT ys) {p q : Nat} (hp : p < ys.length) (hq : q < ys.length)
include h hp hq
theorem tr_cases : (transM ys p q = ([], 0) ∧ p = q) ∨ (transM ys p q = ([⟨false, (pt ys q).f⟩], 0) ∧ (pt ys p).v = (pt ys q).v) ∨
    (transM ys p q = ([⟨true, (pt ys q).v⟩, ⟨false, (pt ys q).f⟩], 0) ∧ p < q ∧ (pt ys p).v < (pt ys q).v) ∨
    (transM ys p q = ([⟨false, (pt ys q).f⟩, ⟨true, (pt ys q).v⟩], 0) ∧ q < p ∧ (pt ys q).v < (pt ys p).v) := by
  have hc : chkM ys = 0 := if_pos h
  have hi : isI ys p ∧ isI ys q := by unfold isI; omega
  by_cases e : (p : Int) = q
  · exact .inl ⟨transM_same hc hi e, by omega⟩
  · by_cases hv : (pt ys p).v = (pt ys q).v
    · exact .inr (.inl ⟨transM_v hc hi e hv, hv⟩)
    · by_cases hlt : (p : Int) < q
      · have := (h.rise (show p < q by omega) hq).2
        exact .inr (.inr (.inl ⟨transM_up hc hi e hv hlt, by omega, by omega⟩))
      · have := (h.rise (show q < p by omega) hp).2
        exact .inr (.inr (.inr ⟨transM_dn hc hi e hv hlt, by omega, by omega⟩))
theorem tr_err : (transM ys p q).2 = 0 := by
  rcases tr_cases h hp hq with ⟨e, _⟩ | ⟨e, _⟩ | ⟨e, _⟩ | ⟨e, _⟩ <;> rw [e]
theorem idx_self : idxM ys (pt ys q).f = q := idxM_some (fun i hi e => by have := h.inj (by omega) hq e; omega) rfl hq
theorem sP_f {l : List POp} {k v : Int} (hv : (pt ys q).v ≤ v) : sP ys (⟨false, (pt ys q).f⟩ :: l) k v = sP ys l q v := by
  have e : pAt ys ⟨false, (pt ys q).f⟩ k = q := by simp only [pAt]; exact idx_self h hp hq
  have e2 : vAt ⟨false, (pt ys q).f⟩ v = v := rfl
  rw [sP, e, e2, if_neg]
  unfold badS; rw [Int.toNat_natCast]; omega
omit hq in
theorem sP_v {l : List POp} {v x : Int} (hv : (pt ys p).v ≤ x) : sP ys (⟨true, x⟩ :: l) p v = sP ys l p x := by
  have e : pAt ys ⟨true, x⟩ p = p := rfl
  have e2 : vAt ⟨true, x⟩ v = x := rfl
  rw [sP, e, e2, if_neg]
  unfold badS; rw [Int.toNat_natCast]; omega
/-- Performed from point p with its voltage, the transition is safe and the rest goes on at q with its voltage. -/
theorem tr_run (l : List POp) : sP ys ((transM ys p q).1 ++ l) p (pt ys p).v = sP ys l q (pt ys q).v := by
  rcases tr_cases h hp hq with ⟨e, rfl⟩ | ⟨e, hv⟩ | ⟨e, hlt, hv⟩ | ⟨e, hlt, hv⟩ <;> rw [e]
  · rfl
  · show sP ys (⟨false, (pt ys q).f⟩ :: l) p (pt ys p).v = _
    rw [sP_f h hp hq (by omega), hv]
  · show sP ys (⟨true, (pt ys q).v⟩ :: ⟨false, (pt ys q).f⟩ :: l) p (pt ys p).v = _
    rw [sP_v h hp (by omega), sP_f h hp hq (Int.le_refl _)]
  · show sP ys (⟨false, (pt ys q).f⟩ :: ⟨true, (pt ys q).v⟩ :: l) p (pt ys p).v = _
    rw [sP_f h hp hq (by omega), sP_v h hq (Int.le_refl _)]
theorem tr_safe : safeM ys p (transM ys p q).1 = true := by
  rw [safeM, if_pos ⟨h, by unfold isI; omega⟩, Int.toNat_natCast]
  have := tr_run h hp hq []
  rw [List.append_nil] at this
  rw [this]; rfl
theorem tr_end : fK (transM ys p q).1 (pt ys p).f (transM ys p q).1.length = (pt ys q).f ∧ vK (transM ys p q).1 (pt ys p).v (transM ys p q).1.length = (pt ys q).v := by
  rcases tr_cases h hp hq with ⟨e, rfl⟩ | ⟨e, hv⟩ | ⟨e, hlt, hv⟩ | ⟨e, hlt, hv⟩ <;> rw [e]
  · exact ⟨rfl, rfl⟩
  · exact ⟨rfl, hv⟩
  · exact ⟨rfl, rfl⟩
  · exact ⟨rfl, rfl⟩
theorem tr_other (hl : (transM ys p q).1.length = 2) : safeM ys p [(transM ys p q).1.getD 1 popK.d, (transM ys p q).1.getD 0 popK.d] = false := by
  rw [safeM, if_pos ⟨h, by unfold isI; omega⟩, Int.toNat_natCast]
  rcases tr_cases h hp hq with ⟨e, rfl⟩ | ⟨e, hv⟩ | ⟨e, hlt, hv⟩ | ⟨e, hlt, hv⟩ <;> rw [e] at hl ⊢
  · simp at hl
  · simp at hl
  · show sP ys [⟨false, (pt ys q).f⟩, ⟨true, (pt ys q).v⟩] p (pt ys p).v = false
    have e1 : pAt ys ⟨false, (pt ys q).f⟩ p = q := by simp only [pAt]; exact idx_self h hp hq
    have e2 : vAt ⟨false, (pt ys q).f⟩ (pt ys p).v = (pt ys p).v := rfl
    rw [sP, e1, e2, if_pos]
    unfold badS; rw [Int.toNat_natCast]; omega
  · show sP ys [⟨true, (pt ys q).v⟩, ⟨false, (pt ys q).f⟩] p (pt ys p).v = false
    have e1 : pAt ys ⟨true, (pt ys q).v⟩ p = p := rfl
    have e2 : vAt ⟨true, (pt ys q).v⟩ (pt ys p).v = (pt ys q).v := rfl
    rw [sP, e1, e2, if_pos]
    unfold badS; rw [Int.toNat_natCast]; omega
end
/-! ### Find -/
theorem findN_cases (ys : List Pt) (x : Int) (k : Nat) : (findN ys x k = none ∧ ∀ i, i < k → ¬ x ≤ (pt ys i).f) ∨ ∃ j, findN ys x k = some j ∧ j < k ∧ x ≤ (pt ys j).f ∧ ∀ i, i < j → ¬ x ≤ (pt ys i).f := by
  induction k with
  | zero => exact .inl ⟨rfl, fun i hi => by omega⟩
  | succ k ih =>
    rcases ih with ⟨h1, h2⟩ | ⟨j, h1, h2, h3⟩
    · by_cases hk : x ≤ (pt ys k).f
      · exact .inr ⟨k, by rw [findN, h1]; simp only []; rw [if_pos hk], by omega, hk, h2⟩
      · refine .inl ⟨by rw [findN, h1]; simp only []; rw [if_neg hk], fun i hi => ?_⟩
        by_cases e : i = k
        · subst e; exact hk
        · exact h2 i (by omega)
    · exact .inr ⟨j, by rw [findN, h1], by omega, h3⟩
theorem find_cases {ys : List Pt} (h : okT ys) (x : Int) : (findM ys x = (0, 6) ∧ ∀ i, i < ys.length → ¬ x ≤ (pt ys i).f) ∨ ∃ j : Nat, findM ys x = ((j : Int), 0) ∧ j < ys.length ∧ x ≤ (pt ys j).f ∧ ∀ i, i < j → ¬ x ≤ (pt ys i).f := by
  rcases findN_cases ys x ys.length with ⟨h1, h2⟩ | ⟨j, h1, h2⟩
  · exact .inl ⟨by rw [findM, if_pos h, h1], h2⟩
  · exact .inr ⟨j, by rw [findM, if_pos h, h1], h2⟩
/-! ### Operations with values of the table -/
def someO (T : List Pt) (o : POp) : POp := ⟨o.volt, if o.volt then (pt T (o.val.tmod T.length).toNat).v + o.val.tmod 2 else (pt T (o.val.tmod T.length).toNat).f⟩
def someOps (T : List Pt) (l : List POp) (j : Nat) : List POp := (l.take j).map (someO T)
theorem someOps_len (T : List Pt) (l : List POp) {j : Nat} (h : j ≤ l.length) : (someOps T l j).length = j := by simp [someOps, h]
theorem someOps_succ (T : List Pt) (l : List POp) {j : Nat} (h : j < l.length) : someOps T l (j + 1) = someOps T l j ++ [someO T (l.getD j popK.d)] := by
  rw [someOps, someOps, List.take_add_one, List.map_append, List.getElem?_eq_getElem h]
  simp [List.getD, h]
end Go.Perf
namespace Go.Perf
open Go.Sv
theorem someO_eq {T : List Pt} {o : POp} {q : Nat} (h : o.val.tmod T.length = q) : someO T o = ⟨o.volt, if o.volt then (pt T q).v + o.val.tmod 2 else (pt T q).f⟩ := by
  rw [someO, h, Int.toNat_natCast]
theorem fitT_table {raw : List Pt} (h : fitT raw) : fitT (tableM raw) := by
  refine fitT_of fun i hi => ?_
  rw [table_length] at hi
  have := tabN_pos raw
  have hb := tabE_bd h i
  rw [tableM, tabM_get raw hi]
  unfold fitP
  omega
end Go.Perf
namespace Go.Perf
open Go.Sv
theorem fK_f {l : List POp} {f : Int} {j : Nat} (h : (!(l.getD j popK.d).volt) = true) : (l.getD j popK.d).val = fK l f (j + 1) := by
  rw [fK, fAt, if_neg (by rw [not_tru h]; decide)]
theorem fK_v {l : List POp} {f : Int} {j : Nat} (h : (!(l.getD j popK.d).volt) = false) : fK l f j = fK l f (j + 1) := by
  rw [fK, fAt, if_pos (not_fls h)]
end Go.Perf
