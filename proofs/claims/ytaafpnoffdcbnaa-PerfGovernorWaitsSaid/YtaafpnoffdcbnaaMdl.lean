/-
  Plain models of the operating points.
-/
import Derived.Test.YtaafpnoffdcbnaaSv9
set_option linter.unusedSimpArgs false
set_option linter.unusedVariables false
namespace Go.Perf
open Go.Sv
structure Pt where
  f : Int
  v : Int
  p : Int
structure POp where
  volt : Bool
  val : Int
  deriving DecidableEq
def ptK : Enc Pt where
  f r := [.int .u64 r.f, .int .u64 r.v, .int .u64 r.p]
  sz := 3
  d := ⟨0, 0, 0⟩
  len _ := rfl
  pos := by decide
  one r v hv := by simp at hv; rcases hv with rfl | rfl | rfl <;> rfl
def popK : Enc POp where
  f r := [.bool r.volt, .int .u64 r.val]
  sz := 2
  d := ⟨false, 0⟩
  len _ := rfl
  pos := by decide
  one r v hv := by simp at hv; rcases hv with rfl | rfl <;> rfl
def intK (k : IntKind) : Enc Int where
  f n := [.int k n]
  sz := 1
  d := 0
  len _ := rfl
  pos := by decide
  one r v hv := by simp at hv; subst hv; rfl
abbrev pt (ys : List Pt) (i : Nat) : Pt := ys.getD i ptK.d
/-- The numbers of a point fit. -/
def fitP (y : Pt) : Prop := (0 ≤ y.f ∧ y.f ≤ 18446744073709551615) ∧ (0 ≤ y.v ∧ y.v ≤ 18446744073709551615) ∧ (0 ≤ y.p ∧ y.p ≤ 18446744073709551615)
def bigP (y : Pt) : Prop := y.f < 1 ∨ 1099511627776 < y.f ∨ 1099511627776 < y.v ∨ 1099511627776 < y.p
def lowP (y b : Pt) : Prop := y.f ≤ b.f ∨ y.v < b.v ∨ y.p < b.p
def badAt (ys : List Pt) (i : Nat) : Prop := bigP (pt ys i) ∨ (0 < i ∧ lowP (pt ys i) (pt ys (i - 1)))
def okT (ys : List Pt) : Prop := (1 ≤ ys.length ∧ ys.length ≤ 16) ∧ ∀ i, i < ys.length → ¬ badAt ys i
instance (y : Pt) : Decidable (bigP y) := inferInstanceAs (Decidable (_ ∨ _ ∨ _ ∨ _))
instance (y b : Pt) : Decidable (lowP y b) := inferInstanceAs (Decidable (_ ∨ _ ∨ _))
instance (ys : List Pt) (i : Nat) : Decidable (badAt ys i) := inferInstanceAs (Decidable (_ ∨ (_ ∧ _)))
instance (ys : List Pt) : Decidable (okT ys) := inferInstanceAs (Decidable (_ ∧ ∀ i, i < ys.length → ¬ badAt ys i))
def chkM (ys : List Pt) : Int := if okT ys then 0 else 1
theorem chkM_short {ys : List Pt} (h : ¬ (1 ≤ ys.length ∧ ys.length ≤ 16)) : chkM ys = 1 := if_neg fun k => h k.1
theorem chkM_bad {ys : List Pt} {i : Nat} (h : i < ys.length) (hb : badAt ys i) : chkM ys = 1 := if_neg fun k => k.2 i h hb
theorem chkM_ok {ys : List Pt} (h : 1 ≤ ys.length ∧ ys.length ≤ 16) (hb : ∀ i, i < ys.length → ¬ badAt ys i) : chkM ys = 0 := if_pos ⟨h, hb⟩
theorem okT_of {ys : List Pt} (h : chkM ys = 0) : okT ys := by
  unfold chkM at h
  by_cases k : okT ys
  · exact k
  · rw [if_neg k] at h; cases h
theorem not_okT_of {ys : List Pt} (h : ¬ chkM ys = 0) : ¬ okT ys := fun k => h (if_pos k)
/-! ### Find -/
def findN (ys : List Pt) (x : Int) : Nat → Option Nat
  | 0 => none
  | k + 1 => match findN ys x k with
    | some i => some i
    | none => if x ≤ (pt ys k).f then some k else none
def findM (ys : List Pt) (x : Int) : Int × Int := if okT ys then (match findN ys x ys.length with | some i => ((i : Int), 0) | none => (0, 6)) else (0, 1)
theorem findN_none {ys : List Pt} {x : Int} : ∀ {k : Nat}, (∀ i, i < k → ¬ x ≤ (pt ys i).f) → findN ys x k = none
  | 0, _ => rfl
  | k + 1, h => by rw [findN, findN_none fun i hi => h i (by omega)]; simp only []; rw [if_neg (h k (by omega))]
theorem findN_some {ys : List Pt} {x : Int} {j : Nat} (h : ∀ i, i < j → ¬ x ≤ (pt ys i).f) (hj : x ≤ (pt ys j).f) : ∀ {k : Nat}, j < k → findN ys x k = some j
  | 0, hk => by omega
  | k + 1, hk => by
    by_cases e : j = k
    · subst e; rw [findN, findN_none h]; simp only []; rw [if_pos hj]
    · rw [findN, findN_some h hj (show j < k by omega)]
theorem findM_bad {ys : List Pt} {x : Int} (h : ¬ chkM ys = 0) : findM ys x = (0, chkM ys) := by
  rw [findM, if_neg (not_okT_of h), chkM, if_neg (not_okT_of h)]
theorem findM_some {ys : List Pt} {x : Int} {j : Nat} (hc : chkM ys = 0) (h : ∀ i, i < j → ¬ x ≤ (pt ys i).f) (hj : x ≤ (pt ys j).f) (hl : j < ys.length) : findM ys x = ((j : Int), 0) := by
  rw [findM, if_pos (okT_of hc), findN_some h hj hl]
theorem findM_none {ys : List Pt} {x : Int} (hc : chkM ys = 0) (h : ∀ i, i < ys.length → ¬ x ≤ (pt ys i).f) : findM ys x = (0, 6) := by
  rw [findM, if_pos (okT_of hc), findN_none h]
/-! ### Transition -/
def isI (ys : List Pt) (i : Int) : Prop := 0 ≤ i ∧ i < ys.length
instance (ys : List Pt) (i : Int) : Decidable (isI ys i) := inferInstanceAs (Decidable (_ ∧ _))
def transM (ys : List Pt) (a b : Int) : List POp × Int :=
  if okT ys then
    if isI ys a ∧ isI ys b then
      if a = b then ([], 0)
      else if (pt ys a.toNat).v = (pt ys b.toNat).v then ([⟨false, (pt ys b.toNat).f⟩], 0)
      else if a < b then ([⟨true, (pt ys b.toNat).v⟩, ⟨false, (pt ys b.toNat).f⟩], 0)
      else ([⟨false, (pt ys b.toNat).f⟩, ⟨true, (pt ys b.toNat).v⟩], 0)
    else ([], 1)
  else ([], 1)
/-! ### Safe -/
def idxN (ys : List Pt) (x : Int) : Nat → Option Nat
  | 0 => none
  | k + 1 => match idxN ys x k with
    | some i => some i
    | none => if (pt ys k).f = x then some k else none
def idxM (ys : List Pt) (x : Int) : Int := match idxN ys x ys.length with | some i => (i : Int) | none => -1
theorem idxN_none {ys : List Pt} {x : Int} : ∀ {k : Nat}, (∀ i, i < k → ¬ (pt ys i).f = x) → idxN ys x k = none
  | 0, _ => rfl
  | k + 1, h => by rw [idxN, idxN_none fun i hi => h i (by omega)]; simp only []; rw [if_neg (h k (by omega))]
theorem idxN_some {ys : List Pt} {x : Int} {j : Nat} (h : ∀ i, i < j → ¬ (pt ys i).f = x) (hj : (pt ys j).f = x) : ∀ {k : Nat}, j < k → idxN ys x k = some j
  | 0, hk => by omega
  | k + 1, hk => by
    by_cases e : j = k
    · subst e; rw [idxN, idxN_none h]; simp only []; rw [if_pos hj]
    · rw [idxN, idxN_some h hj (show j < k by omega)]
theorem idxM_some {ys : List Pt} {x : Int} {j : Nat} (h : ∀ i, i < j → ¬ (pt ys i).f = x) (hj : (pt ys j).f = x) (hl : j < ys.length) : idxM ys x = j := by
  rw [idxM, idxN_some h hj hl]
theorem idxM_none {ys : List Pt} {x : Int} (h : ∀ i, i < ys.length → ¬ (pt ys i).f = x) : idxM ys x = -1 := by
  rw [idxM, idxN_none h]
theorem idxM_cases (ys : List Pt) (x : Int) : (idxM ys x = -1 ∧ ∀ i, i < ys.length → ¬ (pt ys i).f = x) ∨ ∃ j : Nat, idxM ys x = j ∧ j < ys.length ∧ (pt ys j).f = x := by
  have key : ∀ k, (idxN ys x k = none ∧ ∀ i, i < k → ¬ (pt ys i).f = x) ∨ ∃ j : Nat, idxN ys x k = some j ∧ j < k ∧ (pt ys j).f = x := by
    intro k
    induction k with
    | zero => exact .inl ⟨rfl, fun i hi => by omega⟩
    | succ k ih =>
      rcases ih with ⟨h1, h2⟩ | ⟨j, h1, h2, h3⟩
      · by_cases hk : (pt ys k).f = x
        · exact .inr ⟨k, by rw [idxN, h1]; simp only []; rw [if_pos hk], by omega, hk⟩
        · refine .inl ⟨by rw [idxN, h1]; simp only []; rw [if_neg hk], fun i hi => ?_⟩
          by_cases e : i = k
          · subst e; exact hk
          · exact h2 i (by omega)
      · exact .inr ⟨j, by rw [idxN, h1], by omega, h3⟩
  rcases key ys.length with ⟨h1, h2⟩ | ⟨j, h1, h2, h3⟩
  · exact .inl ⟨by rw [idxM, h1], h2⟩
  · exact .inr ⟨j, by rw [idxM, h1], h2, h3⟩
/-- The point and the voltage after an operation. -/
def pAt (ys : List Pt) (o : POp) (k : Int) : Int := if o.volt then k else idxM ys o.val
def vAt (o : POp) (v : Int) : Int := if o.volt then o.val else v
def fAt (o : POp) (f : Int) : Int := if o.volt then f else o.val
def badS (ys : List Pt) (k v : Int) : Prop := k < 0 ∨ v < (pt ys k.toNat).v
instance (ys : List Pt) (k v : Int) : Decidable (badS ys k v) := inferInstanceAs (Decidable (_ ∨ _))
def sP (ys : List Pt) : List POp → Int → Int → Bool
  | [], _, _ => true
  | o :: r, k, v => if badS ys (pAt ys o k) (vAt o v) then false else sP ys r (pAt ys o k) (vAt o v)
def okAt (ys : List Pt) (f v : Int) (n : Nat) : Bool := decide (∃ k, k < n ∧ (pt ys k).f = f ∧ (pt ys k).v ≤ v)
def sR (ys : List Pt) : List POp → Int → Int → Bool
  | [], _, _ => true
  | o :: r, f, v => if okAt ys (fAt o f) (vAt o v) ys.length then sR ys r (fAt o f) (vAt o v) else false
def safeM (ys : List Pt) (a : Int) (l : List POp) : Bool := if okT ys ∧ isI ys a then sP ys l a (pt ys a.toNat).v else false
def safeR (ys : List Pt) (a : Int) (l : List POp) : Bool := if okT ys ∧ isI ys a then sR ys l (pt ys a.toNat).f (pt ys a.toNat).v else false
theorem drop_cons {α : Type} {l : List α} {j : Nat} (d : α) (h : j < l.length) : l.drop j = l.getD j d :: l.drop (j + 1) := by
  rw [List.drop_eq_getElem_cons h]; simp [List.getD, h]
theorem okAt_zero (ys : List Pt) (f v : Int) : okAt ys f v 0 = false := by simp [okAt]
theorem okAt_succ (ys : List Pt) (f v : Int) (n : Nat) : okAt ys f v (n + 1) = (okAt ys f v n || decide ((pt ys n).f = f ∧ (pt ys n).v ≤ v)) := by
  rw [Bool.eq_iff_iff]
  simp only [okAt, decide_eq_true_eq, Bool.or_eq_true]
  constructor
  · rintro ⟨k, h1, h2⟩
    by_cases e : k = n
    · subst e; exact .inr h2
    · exact .inl ⟨k, by omega, h2⟩
  · rintro (⟨k, h1, h2⟩ | h)
    · exact ⟨k, by omega, h2⟩
    · exact ⟨n, by omega, h⟩
/-- Frequencies of a valid table rise. -/
theorem okT.rise {ys : List Pt} (h : okT ys) : ∀ {j i : Nat}, i < j → j < ys.length → (pt ys i).f < (pt ys j).f ∧ (pt ys i).v ≤ (pt ys j).v := by
  intro j
  induction j with
  | zero => intro i hi; omega
  | succ j ih =>
    intro i hi hj
    have hb := h.2 (j + 1) hj
    simp only [badAt, lowP, Nat.add_sub_cancel] at hb
    have h1 : (pt ys j).f < (pt ys (j + 1)).f ∧ (pt ys j).v ≤ (pt ys (j + 1)).v := by omega
    by_cases e : i = j
    · subst e; exact h1
    · have := ih (i := i) (by omega) (by omega); omega
theorem okT.inj {ys : List Pt} (h : okT ys) {i j : Nat} (hi : i < ys.length) (hj : j < ys.length) (e : (pt ys i).f = (pt ys j).f) : i = j := by
  rcases Nat.lt_trichotomy i j with h1 | h1 | h1
  · have := (h.rise h1 hj).1; omega
  · exact h1
  · have := (h.rise h1 hi).1; omega
theorem okT.big {ys : List Pt} (h : okT ys) {i : Nat} (hi : i < ys.length) : 1 ≤ (pt ys i).f ∧ (pt ys i).f ≤ 1099511627776 ∧ (pt ys i).v ≤ 1099511627776 ∧ (pt ys i).p ≤ 1099511627776 := by
  have hb := h.2 i hi
  simp only [badAt, bigP] at hb
  omega
theorem sP_eq {ys : List Pt} (h : okT ys) : ∀ (l : List POp) (k : Nat) (v : Int), k < ys.length → sP ys l k v = sR ys l (pt ys k).f v
  | [], _, _, _ => rfl
  | o :: r, k, v, hk => by
    rw [sP, sR]
    rcases o with ⟨b, x⟩
    cases b with
    | true =>
      simp only [pAt, vAt, fAt, if_true]
      have e : okAt ys (pt ys k).f x ys.length = true ↔ ¬ badS ys k x := by
        simp only [okAt, decide_eq_true_eq, badS, Int.toNat_natCast]
        constructor
        · rintro ⟨j, h1, h2, h3⟩
          have := h.inj h1 hk h2
          subst this; omega
        · intro hb; exact ⟨k, hk, rfl, by omega⟩
      by_cases hb : badS ys k x
      · rw [if_pos hb, if_neg fun c => (e.1 c) hb]
      · rw [if_neg hb, if_pos (e.2 hb)]; exact sP_eq h r k x hk
    | false =>
      simp only [pAt, vAt, fAt, Bool.false_eq_true, if_false]
      rcases idxM_cases ys x with ⟨h1, h2⟩ | ⟨j, h1, h2, h3⟩
      · rw [h1, if_pos (show badS ys (-1) v from .inl (by decide)), if_neg]
        simp only [okAt, decide_eq_true_eq]
        rintro ⟨k, q1, q2, _⟩
        exact h2 k q1 q2
      · rw [h1]
        have e : okAt ys x v ys.length = true ↔ ¬ badS ys j v := by
          simp only [okAt, decide_eq_true_eq, badS, Int.toNat_natCast]
          constructor
          · rintro ⟨i, q1, q2, q3⟩
            have := h.inj q1 h2 (q2.trans h3.symm)
            subst this; omega
          · intro hb; exact ⟨j, h2, h3, by omega⟩
        by_cases hb : badS ys j v
        · rw [if_pos hb, if_neg fun c => (e.1 c) hb]
        · rw [if_neg hb, if_pos (e.2 hb), sP_eq h r j v h2, h3]
theorem safe_eq (ys : List Pt) (a : Int) (l : List POp) : safeM ys a l = safeR ys a l := by
  unfold safeM safeR
  by_cases h : okT ys ∧ isI ys a
  · rw [if_pos h, if_pos h]
    obtain ⟨k, rfl⟩ := Int.eq_ofNat_of_zero_le h.2.1
    have := h.2.2
    exact sP_eq h.1 l k _ (by omega)
  · rw [if_neg h, if_neg h]
end Go.Perf
