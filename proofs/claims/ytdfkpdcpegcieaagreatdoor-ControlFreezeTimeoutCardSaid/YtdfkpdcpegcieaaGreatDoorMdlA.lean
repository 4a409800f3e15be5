/-
  Texts joined: Mdl, Mdl2, Mdl3.
-/
import Derived.Test.YtdfkpdcpegcieaaGreatDoorSvB
set_option linter.unusedSimpArgs false
set_option linter.unusedVariables false
namespace Go.Perf
open Go.Sv
structure Pt where
  f : Int
  v : Int
  p : Int
structure POp where
  volt : Bool
  val : Int
  deriving DecidableEq
def ptK : Enc Pt where
  f r := [.int .u64 r.f, .int .u64 r.v, .int .u64 r.p]
  sz := 3
  d := ⟨0, 0, 0⟩
  len _ := rfl
  pos := by decide
  one r v hv := by simp at hv; rcases hv with rfl | rfl | rfl <;> rfl
def popK : Enc POp where
  f r := [.bool r.volt, .int .u64 r.val]
  sz := 2
  d := ⟨false, 0⟩
  len _ := rfl
  pos := by decide
  one r v hv := by simp at hv; rcases hv with rfl | rfl <;> rfl
def intK (k : IntKind) : Enc Int where
  f n := [.int k n]
  sz := 1
  d := 0
  len _ := rfl
  pos := by decide
  one r v hv := by simp at hv; subst hv; rfl
abbrev pt (ys : List Pt) (i : Nat) : Pt := ys.getD i ptK.d
/-- The numbers of a point fit. -/
def fitP (y : Pt) : Prop := (0 ≤ y.f ∧ y.f ≤ 18446744073709551615) ∧ (0 ≤ y.v ∧ y.v ≤ 18446744073709551615) ∧ (0 ≤ y.p ∧ y.p ≤ 18446744073709551615)
def bigP (y : Pt) : Prop := y.f < 1 ∨ 1099511627776 < y.f ∨ 1099511627776 < y.v ∨ 1099511627776 < y.p
def lowP (y b : Pt) : Prop := y.f ≤ b.f ∨ y.v < b.v ∨ y.p < b.p
def badAt (ys : List Pt) (i : Nat) : Prop := bigP (pt ys i) ∨ (0 < i ∧ lowP (pt ys i) (pt ys (i - 1)))
def okT (ys : List Pt) : Prop := (1 ≤ ys.length ∧ ys.length ≤ 16) ∧ ∀ i, i < ys.length → ¬ badAt ys i
instance (y : Pt) : Decidable (bigP y) := inferInstanceAs (Decidable (_ ∨ _ ∨ _ ∨ _))
instance (y b : Pt) : Decidable (lowP y b) := inferInstanceAs (Decidable (_ ∨ _ ∨ _))
instance (ys : List Pt) (i : Nat) : Decidable (badAt ys i) := inferInstanceAs (Decidable (_ ∨ (_ ∧ _)))
instance (ys : List Pt) : Decidable (okT ys) := inferInstanceAs (Decidable (_ ∧ ∀ i, i < ys.length → ¬ badAt ys i))
def chkM (ys : List Pt) : Int := if okT ys then 0 else 1
theorem chkM_short {ys : List Pt} (h : ¬ (1 ≤ ys.length ∧ ys.length ≤ 16)) : chkM ys = 1 := if_neg fun k => h k.1
theorem chkM_bad {ys : List Pt} {i : Nat} (h : i < ys.length) (hb : badAt ys i) : chkM ys = 1 := if_neg fun k => k.2 i h hb
theorem chkM_ok {ys : List Pt} (h : 1 ≤ ys.length ∧ ys.length ≤ 16) (hb : ∀ i, i < ys.length → ¬ badAt ys i) : chkM ys = 0 := if_pos ⟨h, hb⟩
theorem okT_of {ys : List Pt} (h : chkM ys = 0) : okT ys := by
  unfold chkM at h
  by_cases k : okT ys
  · exact k
  · rw [if_neg k] at h; cases h
theorem not_okT_of {ys : List Pt} (h : ¬ chkM ys = 0) : ¬ okT ys := fun k => h (if_pos k)
/-! ### Find -/
def findN (ys : List Pt) (x : Int) : Nat → Option Nat
  | 0 => none
  | k + 1 => match findN ys x k with
    | some i => some i
    | none => if x ≤ (pt ys k).f then some k else none
def findM (ys : List Pt) (x : Int) : Int × Int := if okT ys then (match findN ys x ys.length with | some i => ((i : Int), 0) | none => (0, 6)) else (0, 1)
theorem findN_none {ys : List Pt} {x : Int} : ∀ {k : Nat}, (∀ i, i < k → ¬ x ≤ (pt ys i).f) → findN ys x k = none
  | 0, _ => rfl
  | k + 1, h => by rw [findN, findN_none fun i hi => h i (by omega)]; simp only []; rw [if_neg (h k (by omega))]
theorem findN_some {ys : List Pt} {x : Int} {j : Nat} (h : ∀ i, i < j → ¬ x ≤ (pt ys i).f) (hj : x ≤ (pt ys j).f) : ∀ {k : Nat}, j < k → findN ys x k = some j
  | 0, hk => by omega
  | k + 1, hk => by
    by_cases e : j = k
    · subst e; rw [findN, findN_none h]; simp only []; rw [if_pos hj]
    · rw [findN, findN_some h hj (show j < k by omega)]
theorem findM_bad {ys : List Pt} {x : Int} (h : ¬ chkM ys = 0) : findM ys x = (0, chkM ys) := by
  rw [findM, if_neg (not_okT_of h), chkM, if_neg (not_okT_of h)]
theorem findM_some {ys : List Pt} {x : Int} {j : Nat} (hc : chkM ys = 0) (h : ∀ i, i < j → ¬ x ≤ (pt ys i).f) (hj : x ≤ (pt ys j).f) (hl : j < ys.length) : findM ys x = ((j : Int), 0) := by
  rw [findM, if_pos (okT_of hc), findN_some h hj hl]
theorem findM_none {ys : List Pt} {x : Int} (hc : chkM ys = 0) (h : ∀ i, i < ys.length → ¬ x ≤ (pt ys i).f) : findM ys x = (0, 6) := by
  rw [findM, if_pos (okT_of hc), findN_none h]
/-! ### Transition -/
def isI (ys : List Pt) (i : Int) : Prop := 0 ≤ i ∧ i < ys.length
instance (ys : List Pt) (i : Int) : Decidable (isI ys i) := inferInstanceAs (Decidable (_ ∧ _))
def transM (ys : List Pt) (a b : Int) : List POp × Int :=
  if okT ys then
    if isI ys a ∧ isI ys b then
      if a = b then ([], 0)
      else if (pt ys a.toNat).v = (pt ys b.toNat).v then ([⟨false, (pt ys b.toNat).f⟩], 0)
      else if a < b then ([⟨true, (pt ys b.toNat).v⟩, ⟨false, (pt ys b.toNat).f⟩], 0)
      else ([⟨false, (pt ys b.toNat).f⟩, ⟨true, (pt ys b.toNat).v⟩], 0)
    else ([], 1)
  else ([], 1)
/-! ### Safe -/
def idxN (ys : List Pt) (x : Int) : Nat → Option Nat
  | 0 => none
  | k + 1 => match idxN ys x k with
    | some i => some i
    | none => if (pt ys k).f = x then some k else none
def idxM (ys : List Pt) (x : Int) : Int := match idxN ys x ys.length with | some i => (i : Int) | none => -1
theorem idxN_none {ys : List Pt} {x : Int} : ∀ {k : Nat}, (∀ i, i < k → ¬ (pt ys i).f = x) → idxN ys x k = none
  | 0, _ => rfl
  | k + 1, h => by rw [idxN, idxN_none fun i hi => h i (by omega)]; simp only []; rw [if_neg (h k (by omega))]
theorem idxN_some {ys : List Pt} {x : Int} {j : Nat} (h : ∀ i, i < j → ¬ (pt ys i).f = x) (hj : (pt ys j).f = x) : ∀ {k : Nat}, j < k → idxN ys x k = some j
  | 0, hk => by omega
  | k + 1, hk => by
    by_cases e : j = k
    · subst e; rw [idxN, idxN_none h]; simp only []; rw [if_pos hj]
    · rw [idxN, idxN_some h hj (show j < k by omega)]
theorem idxM_some {ys : List Pt} {x : Int} {j : Nat} (h : ∀ i, i < j → ¬ (pt ys i).f = x) (hj : (pt ys j).f = x) (hl : j < ys.length) : idxM ys x = j := by
  rw [idxM, idxN_some h hj hl]
theorem idxM_none {ys : List Pt} {x : Int} (h : ∀ i, i < ys.length → ¬ (pt ys i).f = x) : idxM ys x = -1 := by
  rw [idxM, idxN_none h]
theorem idxM_cases (ys : List Pt) (x : Int) : (idxM ys x = -1 ∧ ∀ i, i < ys.length → ¬ (pt ys i).f = x) ∨ ∃ j : Nat, idxM ys x = j ∧ j < ys.length ∧ (pt ys j).f = x := by
  have key : ∀ k, (idxN ys x k = none ∧ ∀ i, i < k → ¬ (pt ys i).f = x) ∨ ∃ j : Nat, idxN ys x k = some j ∧ j < k ∧ (pt ys j).f = x := by
    intro k
    induction k with
    | zero => exact .inl ⟨rfl, fun i hi => by omega⟩
    | succ k ih =>
      rcases ih with ⟨h1, h2⟩ | ⟨j, h1, h2, h3⟩
      · by_cases hk : (pt ys k).f = x
        · exact .inr ⟨k, by rw [idxN, h1]; simp only []; rw [if_pos hk], by omega, hk⟩
        · refine .inl ⟨by rw [idxN, h1]; simp only []; rw [if_neg hk], fun i hi => ?_⟩
          by_cases e : i = k
          · subst e; exact hk
          · exact h2 i (by omega)
      · exact .inr ⟨j, by rw [idxN, h1], by omega, h3⟩
  rcases key ys.length with ⟨h1, h2⟩ | ⟨j, h1, h2, h3⟩
  · exact .inl ⟨by rw [idxM, h1], h2⟩
  · exact .inr ⟨j, by rw [idxM, h1], h2, h3⟩
/-- The point and the voltage after an operation. -/
def pAt (ys : List Pt) (o : POp) (k : Int) : Int := if o.volt then k else idxM ys o.val
def vAt (o : POp) (v : Int) : Int := if o.volt then o.val else v
def fAt (o : POp) (f : Int) : Int := if o.volt then f else o.val
def badS (ys : List Pt) (k v : Int) : Prop := k < 0 ∨ v < (pt ys k.toNat).v
instance (ys : List Pt) (k v : Int) : Decidable (badS ys k v) := inferInstanceAs (Decidable (_ ∨ _))
def sP (ys : List Pt) : List POp → Int → Int → Bool
  | [], _, _ => true
  | o :: r, k, v => if badS ys (pAt ys o k) (vAt o v) then false else sP ys r (pAt ys o k) (vAt o v)
def okAt (ys : List Pt) (f v : Int) (n : Nat) : Bool := decide (∃ k, k < n ∧ (pt ys k).f = f ∧ (pt ys k).v ≤ v)
def sR (ys : List Pt) : List POp → Int → Int → Bool
  | [], _, _ => true
  | o :: r, f, v => if okAt ys (fAt o f) (vAt o v) ys.length then sR ys r (fAt o f) (vAt o v) else false
def safeM (ys : List Pt) (a : Int) (l : List POp) : Bool := if okT ys ∧ isI ys a then sP ys l a (pt ys a.toNat).v else false
def safeR (ys : List Pt) (a : Int) (l : List POp) : Bool := if okT ys ∧ isI ys a then sR ys l (pt ys a.toNat).f (pt ys a.toNat).v else false
theorem drop_cons {α : Type} {l : List α} {j : Nat} (d : α) (h : j < l.length) : l.drop j = l.getD j d :: l.drop (j + 1) := by
  rw [List.drop_eq_getElem_cons h]; simp [List.getD, h]
theorem okAt_zero (ys : List Pt) (f v : Int) : okAt ys f v 0 = false := by simp [okAt]
theorem okAt_succ (ys : List Pt) (f v : Int) (n : Nat) : okAt ys f v (n + 1) = (okAt ys f v n || decide ((pt ys n).f = f ∧ (pt ys n).v ≤ v)) := by
  rw [Bool.eq_iff_iff]
  simp only [okAt, decide_eq_true_eq, Bool.or_eq_true]
  constructor
  · rintro ⟨k, h1, h2⟩
    by_cases e : k = n
    · subst e; exact .inr h2
    · exact .inl ⟨k, by omega, h2⟩
  · rintro (⟨k, h1, h2⟩ | h)
    · exact ⟨k, by omega, h2⟩
    · exact ⟨n, by omega, h⟩
/-- Frequencies of a valid table rise. -/
theorem okT.rise {ys : List Pt} (h : okT ys) : ∀ {j i : Nat}, i < j → j < ys.length → (pt ys i).f < (pt ys j).f ∧ (pt ys i).v ≤ (pt ys j).v := by
  intro j
  induction j with
  | zero => intro i hi; omega
  | succ j ih =>
    intro i hi hj
    have hb := h.2 (j + 1) hj
    simp only [badAt, lowP, Nat.add_sub_cancel] at hb
    have h1 : (pt ys j).f < (pt ys (j + 1)).f ∧ (pt ys j).v ≤ (pt ys (j + 1)).v := by omega
    by_cases e : i = j
    · subst e; exact h1
    · have := ih (i := i) (by omega) (by omega); omega
theorem okT.inj {ys : List Pt} (h : okT ys) {i j : Nat} (hi : i < ys.length) (hj : j < ys.length) (e : (pt ys i).f = (pt ys j).f) : i = j := by
  rcases Nat.lt_trichotomy i j with h1 | h1 | h1
  · have := (h.rise h1 hj).1; omega
  · exact h1
  · have := (h.rise h1 hi).1; omega
theorem okT.big {ys : List Pt} (h : okT ys) {i : Nat} (hi : i < ys.length) : 1 ≤ (pt ys i).f ∧ (pt ys i).f ≤ 1099511627776 ∧ (pt ys i).v ≤ 1099511627776 ∧ (pt ys i).p ≤ 1099511627776 := by
  have hb := h.2 i hi
  simp only [badAt, bigP] at hb
  omega
theorem sP_eq {ys : List Pt} (h : okT ys) : ∀ (l : List POp) (k : Nat) (v : Int), k < ys.length → sP ys l k v = sR ys l (pt ys k).f v
  | [], _, _, _ => rfl
  | o :: r, k, v, hk => by
    rw [sP, sR]
    rcases o with ⟨b, x⟩
    cases b with
    | true =>
      simp only [pAt, vAt, fAt, if_true]
      have e : okAt ys (pt ys k).f x ys.length = true ↔ ¬ badS ys k x := by
        simp only [okAt, decide_eq_true_eq, badS, Int.toNat_natCast]
        constructor
        · rintro ⟨j, h1, h2, h3⟩
          have := h.inj h1 hk h2
          subst this; omega
        · intro hb; exact ⟨k, hk, rfl, by omega⟩
      by_cases hb : badS ys k x
      · rw [if_pos hb, if_neg fun c => (e.1 c) hb]
      · rw [if_neg hb, if_pos (e.2 hb)]; exact sP_eq h r k x hk
    | false =>
      simp only [pAt, vAt, fAt, Bool.false_eq_true, if_false]
      rcases idxM_cases ys x with ⟨h1, h2⟩ | ⟨j, h1, h2, h3⟩
      · rw [h1, if_pos (show badS ys (-1) v from .inl (by decide)), if_neg]
        simp only [okAt, decide_eq_true_eq]
        rintro ⟨k, q1, q2, _⟩
        exact h2 k q1 q2
      · rw [h1]
        have e : okAt ys x v ys.length = true ↔ ¬ badS ys j v := by
          simp only [okAt, decide_eq_true_eq, badS, Int.toNat_natCast]
          constructor
          · rintro ⟨i, q1, q2, q3⟩
            have := h.inj q1 h2 (q2.trans h3.symm)
            subst this; omega
          · intro hb; exact ⟨j, h2, h3, by omega⟩
        by_cases hb : badS ys j v
        · rw [if_pos hb, if_neg fun c => (e.1 c) hb]
        · rw [if_neg hb, if_pos (e.2 hb), sP_eq h r j v h2, h3]
theorem safe_eq (ys : List Pt) (a : Int) (l : List POp) : safeM ys a l = safeR ys a l := by
  unfold safeM safeR
  by_cases h : okT ys ∧ isI ys a
  · rw [if_pos h, if_pos h]
    obtain ⟨k, rfl⟩ := Int.eq_ofNat_of_zero_le h.2.1
    have := h.2.2
    exact sP_eq h.1 l k _ (by omega)
  · rw [if_neg h, if_neg h]
end Go.Perf
set_option linter.unusedSimpArgs false
set_option linter.unusedVariables false
namespace Go.Perf
open Go.Sv
def modM (v : Int) (n : Nat) : Int := (IntKind.u64.wrap v) % n
theorem modM_lt (v : Int) {n : Nat} (h : 0 < n) : 0 ≤ modM v n ∧ modM v n < n := ⟨Int.emod_nonneg _ (by omega), Int.emod_lt_of_pos _ (by omega)⟩
theorem u64_nonneg (v : Int) : 0 ≤ IntKind.u64.wrap v := by rw [IntKind.wrap_u64]; omega
theorem modM_t (v : Int) {n : Nat} (h : 0 < n) : (IntKind.u64.wrap v).tmod n = modM v n := by
  rw [modM, Int.tmod_eq_emod_of_nonneg (u64_nonneg v)]
theorem modT (v : Int) {n : Nat} (h : 0 < n) : 0 ≤ (IntKind.u64.wrap v).tmod n ∧ (IntKind.u64.wrap v).tmod n < n := by
  rw [modM_t v h]; exact modM_lt v h
end Go.Perf
namespace Go.Perf
open Go.Sv
theorem transM_bad {ys : List Pt} {a b : Int} (h : ¬ chkM ys = 0) : transM ys a b = ([], chkM ys) := by
  rw [transM, if_neg (not_okT_of h), chkM, if_neg (not_okT_of h)]
theorem transM_no {ys : List Pt} {a b : Int} (hc : chkM ys = 0) (h : ¬ (isI ys a ∧ isI ys b)) : transM ys a b = ([], 1) := by
  rw [transM, if_pos (okT_of hc), if_neg h]
theorem transM_same {ys : List Pt} {a b : Int} (hc : chkM ys = 0) (h : isI ys a ∧ isI ys b) (e : a = b) : transM ys a b = ([], 0) := by
  rw [transM, if_pos (okT_of hc), if_pos h, if_pos e]
theorem transM_v {ys : List Pt} {p q : Nat} (hc : chkM ys = 0) (h : isI ys p ∧ isI ys q) (e : ¬ (p : Int) = q) (hv : (pt ys p).v = (pt ys q).v) : transM ys p q = ([⟨false, (pt ys q).f⟩], 0) := by
  rw [transM, if_pos (okT_of hc), if_pos h, if_neg e, if_pos (by simpa using hv)]; rfl
theorem transM_up {ys : List Pt} {p q : Nat} (hc : chkM ys = 0) (h : isI ys p ∧ isI ys q) (e : ¬ (p : Int) = q) (hv : ¬ (pt ys p).v = (pt ys q).v) (hlt : (p : Int) < q) : transM ys p q = ([⟨true, (pt ys q).v⟩, ⟨false, (pt ys q).f⟩], 0) := by
  rw [transM, if_pos (okT_of hc), if_pos h, if_neg e, if_neg (by simpa using hv), if_pos hlt]; rfl
theorem transM_dn {ys : List Pt} {p q : Nat} (hc : chkM ys = 0) (h : isI ys p ∧ isI ys q) (e : ¬ (p : Int) = q) (hv : ¬ (pt ys p).v = (pt ys q).v) (hlt : ¬ (p : Int) < q) : transM ys p q = ([⟨false, (pt ys q).f⟩, ⟨true, (pt ys q).v⟩], 0) := by
  rw [transM, if_pos (okT_of hc), if_pos h, if_neg e, if_neg (by simpa using hv), if_neg hlt]; rfl
theorem pop_eq {x y : POp} (h : x.volt = y.volt ∧ x.val = y.val) : x = y := by cases x; cases y; simp_all
theorem ext_getD {α : Type} {d : α} {xs ys : List α} (hl : xs.length = ys.length) (h : ∀ i, i < xs.length → xs.getD i d = ys.getD i d) : xs = ys := by
  apply List.ext_getElem hl
  intro i h1 h2
  have := h i h1
  simpa [List.getD, h1, h2] using this
theorem pAt_cases {ys : List Pt} (o : POp) {k : Nat} (hk : k < ys.length) : pAt ys o k = -1 ∨ ∃ k2 : Nat, pAt ys o k = k2 ∧ k2 < ys.length := by
  unfold pAt
  split
  · exact .inr ⟨k, rfl, hk⟩
  · rcases idxM_cases ys o.val with ⟨h, _⟩ | ⟨j, h, h2, _⟩
    · exact .inl h
    · exact .inr ⟨j, h, h2⟩
theorem sP_stop {ys : List Pt} {l : List POp} {j : Nat} {k v : Int} (h : j < l.length) (hb : badS ys (pAt ys (l.getD j popK.d) k) (vAt (l.getD j popK.d) v)) : sP ys (l.drop j) k v = false := by
  rw [drop_cons popK.d h, sP, if_pos hb]
theorem sP_step {ys : List Pt} {l : List POp} {j : Nat} {k v : Int} (h : j < l.length) (hb : ¬ badS ys (pAt ys (l.getD j popK.d) k) (vAt (l.getD j popK.d) v)) :
    sP ys (l.drop j) k v = sP ys (l.drop (j + 1)) (pAt ys (l.getD j popK.d) k) (vAt (l.getD j popK.d) v) := by
  rw [drop_cons popK.d h, sP, if_neg hb]
theorem sP_end {ys : List Pt} {l : List POp} {j : Nat} {k v : Int} (h : ¬ j < l.length) : sP ys (l.drop j) k v = true := by
  rw [List.drop_of_length_le (by omega)]; rfl
theorem sR_stop {ys : List Pt} {l : List POp} {j : Nat} {f v : Int} (h : j < l.length) (hb : okAt ys (fAt (l.getD j popK.d) f) (vAt (l.getD j popK.d) v) ys.length = false) : sR ys (l.drop j) f v = false := by
  rw [drop_cons popK.d h, sR, hb]; rfl
theorem sR_step {ys : List Pt} {l : List POp} {j : Nat} {f v : Int} (h : j < l.length) (hb : okAt ys (fAt (l.getD j popK.d) f) (vAt (l.getD j popK.d) v) ys.length = true) :
    sR ys (l.drop j) f v = sR ys (l.drop (j + 1)) (fAt (l.getD j popK.d) f) (vAt (l.getD j popK.d) v) := by
  rw [drop_cons popK.d h, sR, if_pos hb]
theorem sR_end {ys : List Pt} {l : List POp} {j : Nat} {f v : Int} (h : ¬ j < l.length) : sR ys (l.drop j) f v = true := by
  rw [List.drop_of_length_le (by omega)]; rfl
theorem safeM_no {ys : List Pt} {a : Int} {l : List POp} (h : ¬ (chkM ys = 0 ∧ isI ys a)) : safeM ys a l = false := if_neg fun k => h ⟨if_pos k.1, k.2⟩
theorem safeR_no {ys : List Pt} {a : Int} {l : List POp} (h : ¬ (chkM ys = 0 ∧ isI ys a)) : safeR ys a l = false := if_neg fun k => h ⟨if_pos k.1, k.2⟩
theorem safeM_yes {ys : List Pt} {a : Nat} {l : List POp} (hc : chkM ys = 0) (h : isI ys a) : safeM ys a l = sP ys (l.drop 0) a (pt ys a).v := by rw [safeM, if_pos ⟨okT_of hc, h⟩]; rfl
theorem safeR_yes {ys : List Pt} {a : Nat} {l : List POp} (hc : chkM ys = 0) (h : isI ys a) : safeR ys a l = sR ys (l.drop 0) (pt ys a).f (pt ys a).v := by rw [safeR, if_pos ⟨okT_of hc, h⟩]; rfl
/-! ### Tables made valid -/
def tab0 (raw : List Pt) : Pt := if 0 < raw.length then ⟨1 + (pt raw 0).f.tmod 100, (pt raw 0).v.tmod 100, (pt raw 0).p.tmod 100⟩ else ⟨1, 5, 0⟩
def nextP (p y : Pt) : Pt := ⟨p.f + 1 + y.f.tmod 100, p.v + y.v.tmod 4, p.p + y.p.tmod 30⟩
def tabE (raw : List Pt) : Nat → Pt
  | 0 => tab0 raw
  | k + 1 => nextP (tabE raw k) (pt raw (k + 1))
def tabM (raw : List Pt) (k : Nat) : List Pt := (List.range k).map (tabE raw)
def tabN (raw : List Pt) : Nat := max 1 (min raw.length 8)
def tableM (raw : List Pt) : List Pt := tabM raw (tabN raw)
theorem tabM_length (raw : List Pt) (k : Nat) : (tabM raw k).length = k := by simp [tabM]
theorem tabM_get (raw : List Pt) {k i : Nat} (h : i < k) : pt (tabM raw k) i = tabE raw i := by simp [pt, tabM, List.getD, h]
theorem tabM_succ (raw : List Pt) (k : Nat) : tabM raw (k + 1) = tabM raw k ++ [tabE raw k] := by simp [tabM, List.range_succ]
theorem table_length (raw : List Pt) : (tableM raw).length = tabN raw := tabM_length _ _
theorem tabN_pos (raw : List Pt) : 1 ≤ tabN raw ∧ tabN raw ≤ 8 := by unfold tabN; omega
def fitT (raw : List Pt) : Prop := ∀ i, fitP (pt raw i)
theorem fitT_of {raw : List Pt} (h : ∀ i, i < raw.length → fitP (pt raw i)) : fitT raw := fun i => by
  by_cases hi : i < raw.length
  · exact h i hi
  · have : pt raw i = ptK.d := by simp [pt, List.getD, List.getElem?_eq_none (Nat.le_of_not_lt hi)]
    rw [this]; unfold fitP ptK; simp
theorem tmB (x : Int) (n : Int) (hx : 0 ≤ x) (hn : 0 < n) : 0 ≤ x.tmod n ∧ x.tmod n < n := ⟨Int.tmod_nonneg _ hx, Int.tmod_lt_of_pos _ hn⟩
theorem tab0_bd {raw : List Pt} (h : fitT raw) : (1 ≤ (tab0 raw).f ∧ (tab0 raw).f ≤ 100) ∧ (0 ≤ (tab0 raw).v ∧ (tab0 raw).v ≤ 100) ∧ (0 ≤ (tab0 raw).p ∧ (tab0 raw).p ≤ 100) := by
  have h0 := h 0
  unfold fitP at h0
  have a1 := tmB (pt raw 0).f 100 (by omega) (by omega)
  have a2 := tmB (pt raw 0).v 100 (by omega) (by omega)
  have a3 := tmB (pt raw 0).p 100 (by omega) (by omega)
  unfold tab0
  split
  · simp only []; omega
  · simp
theorem tabE_bd {raw : List Pt} (h : fitT raw) : ∀ k : Nat, (1 + (k : Int) ≤ (tabE raw k).f ∧ (tabE raw k).f ≤ 100 + 100 * k) ∧ (0 ≤ (tabE raw k).v ∧ (tabE raw k).v ≤ 100 + 4 * k) ∧ (0 ≤ (tabE raw k).p ∧ (tabE raw k).p ≤ 100 + 30 * k)
  | 0 => by have := tab0_bd h; simp only [tabE]; omega
  | k + 1 => by
    have ih := tabE_bd h k
    have h0 := h (k + 1)
    unfold fitP at h0
    have a1 := tmB (pt raw (k + 1)).f 100 (by omega) (by omega)
    have a2 := tmB (pt raw (k + 1)).v 4 (by omega) (by omega)
    have a3 := tmB (pt raw (k + 1)).p 30 (by omega) (by omega)
    simp only [tabE, nextP]
    omega
theorem table_ok {raw : List Pt} (h : fitT raw) : okT (tableM raw) := by
  have hn := tabN_pos raw
  refine ⟨by rw [table_length]; omega, fun i hi => ?_⟩
  rw [table_length] at hi
  unfold badAt bigP lowP
  rw [tableM, tabM_get raw hi]
  have hb := tabE_bd h i
  rcases i with _ | i
  · simp only [Nat.lt_irrefl, false_and, or_false]; omega
  · rw [Nat.add_sub_cancel, tabM_get raw (show i < tabN raw by omega)]
    have h0 := h (i + 1)
    unfold fitP at h0
    have a1 := tmB (pt raw (i + 1)).f 100 (by omega) (by omega)
    have a2 := tmB (pt raw (i + 1)).v 4 (by omega) (by omega)
    have a3 := tmB (pt raw (i + 1)).p 30 (by omega) (by omega)
    have e : tabE raw (i + 1) = nextP (tabE raw i) (pt raw (i + 1)) := rfl
    have e1 : (tabE raw (i + 1)).f = (tabE raw i).f + 1 + (pt raw (i + 1)).f.tmod 100 := rfl
    have e2 : (tabE raw (i + 1)).v = (tabE raw i).v + (pt raw (i + 1)).v.tmod 4 := rfl
    have e3 : (tabE raw (i + 1)).p = (tabE raw i).p + (pt raw (i + 1)).p.tmod 30 := rfl
    omega
theorem table_chk {raw : List Pt} (h : fitT raw) : chkM (tableM raw) = 0 := if_pos (table_ok h)
end Go.Perf
namespace Go.Perf
open Go.Sv
theorem tabApp (raw : List Pt) {j : Nat} (h : 1 ≤ j) : tabE raw j = ⟨(tabE raw (j - 1)).f + 1 + (pt raw j).f.tmod 100, (tabE raw (j - 1)).v + (pt raw j).v.tmod 4, (tabE raw (j - 1)).p + (pt raw j).p.tmod 30⟩ := by
  obtain ⟨i, rfl⟩ : ∃ i, j = i + 1 := ⟨j - 1, by omega⟩
  rfl
theorem tab1 (raw : List Pt) : tabM raw 1 = [tab0 raw] := rfl
theorem tab0_pos {raw : List Pt} (h : 0 < raw.length) : tab0 raw = ⟨1 + (pt raw 0).f.tmod 100, (pt raw 0).v.tmod 100, (pt raw 0).p.tmod 100⟩ := if_pos h
theorem tab0_neg {raw : List Pt} (h : ¬ 0 < raw.length) : tab0 raw = ⟨1, 5, 0⟩ := if_neg h
end Go.Perf
namespace Go.Perf
open Go.Sv
section
variable {ys : List Pt} {f v : Int} {k : Nat}
theorem okN1 (h : okAt ys f v k = true) : true = okAt ys f v (k + 1) := by rw [okAt_succ, h]; rfl
theorem okN2 (h : okAt ys f v k = false) (h1 : (pt ys k).f = f) (h2 : (pt ys k).v ≤ v) : true = okAt ys f v (k + 1) := by rw [okAt_succ, h, decide_eq_true ⟨h1, h2⟩]; rfl
theorem okN3 (h : okAt ys f v k = false) (h1 : ¬ (pt ys k).f = f) : false = okAt ys f v (k + 1) := by rw [okAt_succ, h, decide_eq_false fun c => h1 c.1]; rfl
theorem okN4 (h : okAt ys f v k = false) (h1 : ¬ (pt ys k).v ≤ v) : false = okAt ys f v (k + 1) := by rw [okAt_succ, h, decide_eq_false fun c => h1 c.2]; rfl
end
theorem not_tru {b : Bool} (h : (!b) = true) : b = false := by cases b <;> simp_all
theorem not_fls {b : Bool} (h : (!b) = false) : b = true := by cases b <;> simp_all
end Go.Perf
set_option linter.unusedSimpArgs false
set_option linter.unusedVariables false
namespace Go.Perf
open Go.Sv
structure Gov where
  ys : List Pt
  up : Int
  dn : Int
  sm : Int
  lo : Nat
  hi : Nat
  cu : Nat
  n : Int
def gobj (t : TypeId) (b : Nat) (A : Option Addr) (c : Nat) (g : Gov) : List Assn :=
  [Blk b (.cells #[.slice A g.ys.length c, .int .i64 g.up, .int .i64 g.dn, .int .i64 g.sm, .int .i64 g.lo, .int .i64 g.hi, .int .i64 g.cu, .int .i64 g.n] t (0, 0)), OS 61 ptK A c g.ys]
structure Gov.ok (g : Gov) : Prop where
  t : okT g.ys
  u1 : 1 ≤ g.up
  u2 : g.up ≤ 100
  d1 : 0 ≤ g.dn
  d2 : g.dn < g.up
  s1 : 1 ≤ g.sm
  s2 : g.sm ≤ 1000
  l1 : g.lo ≤ g.cu
  l2 : g.cu ≤ g.hi
  l3 : g.hi < g.ys.length
  n1 : 0 ≤ g.n
  n2 : g.n < g.sm
def badPr (u d s : Int) : Prop := u < 1 ∨ 100 < u ∨ d < 0 ∨ u ≤ d ∨ s < 1 ∨ 1000 < s
instance (u d s : Int) : Decidable (badPr u d s) := inferInstanceAs (Decidable (_ ∨ _ ∨ _ ∨ _ ∨ _ ∨ _))
def newE (ys : List Pt) (u d s : Int) : Int := if chkM ys = 0 then (if badPr u d s then 1 else 0) else 1
theorem newE_chk {ys : List Pt} {u d s : Int} (h : ¬ chkM ys = 0) : newE ys u d s = chkM ys := by rw [newE, if_neg h, chkM, if_neg (not_okT_of h)]
theorem newE_bad {ys : List Pt} {u d s : Int} (h : chkM ys = 0) (hb : badPr u d s) : newE ys u d s = 1 := by rw [newE, if_pos h, if_pos hb]
theorem newE_ok {ys : List Pt} {u d s : Int} (h : chkM ys = 0) (hb : ¬ badPr u d s) : newE ys u d s = 0 := by rw [newE, if_pos h, if_neg hb]
def gov0 (ys : List Pt) (u d s : Int) : Gov := ⟨ys, u, d, s, 0, ys.length - 1, 0, 0⟩
theorem gov0_ok {ys : List Pt} {u d s : Int} (h : newE ys u d s = 0) : (gov0 ys u d s).ok := by
  unfold newE at h
  by_cases hc : chkM ys = 0
  · rw [if_pos hc] at h
    by_cases hb : badPr u d s
    · rw [if_pos hb] at h; cases h
    · have ht := okT_of hc
      unfold badPr at hb
      exact ⟨ht, by simp only [gov0]; omega, by simp only [gov0]; omega, by simp only [gov0]; omega, by simp only [gov0]; omega, by simp only [gov0]; omega, by simp only [gov0]; omega, Nat.le_refl _, Nat.zero_le _, by simp only [gov0]; have := ht.1; omega, Int.le_refl _, by simp only [gov0]; omega⟩
  · rw [if_neg hc] at h; cases h
/-! ### Limit -/
def badL (g : Gov) (l h : Int) : Prop := l < 0 ∨ h < l ∨ (g.ys.length : Int) ≤ h
instance (g : Gov) (l h : Int) : Decidable (badL g l h) := inferInstanceAs (Decidable (_ ∨ _ ∨ _))
def limG (g : Gov) (l h : Int) : Gov := if badL g l h then g else { g with lo := l.toNat, hi := h.toNat, cu := min (max g.cu l.toNat) h.toNat, n := 0 }
def limE (g : Gov) (l h : Int) : Int := if badL g l h then 1 else 0
theorem limG_ok {g : Gov} (hg : g.ok) (l h : Int) : (limG g l h).ok := by
  unfold limG
  split
  · exact hg
  · rename_i hb
    unfold badL at hb
    have h1 := hg.s1
    exact ⟨hg.t, hg.u1, hg.u2, hg.d1, hg.d2, hg.s1, hg.s2, by simp only []; omega, by simp only []; omega, by simp only []; omega, Int.le_refl _, by simp only []; omega⟩
/-! ### Sample -/
def firstN (p : Nat → Bool) : Nat → Nat
  | 0 => 0
  | k + 1 => if firstN p k < k then firstN p k else if p k then k else k + 1
theorem firstN_none {p : Nat → Bool} : ∀ {k : Nat}, (∀ j, j < k → p j = false) → firstN p k = k
  | 0, _ => rfl
  | k + 1, h => by rw [firstN, firstN_none fun j hj => h j (by omega), if_neg (Nat.lt_irrefl _), h k (by omega)]; rfl
theorem firstN_at {p : Nat → Bool} {i : Nat} (h : ∀ j, j < i → p j = false) (hp : p i = true) : ∀ {k : Nat}, i < k → firstN p k = i
  | 0, hk => by omega
  | k + 1, hk => by
    by_cases e : i = k
    · subst e; rw [firstN, firstN_none h, if_neg (Nat.lt_irrefl _), hp]; rfl
    · rw [firstN, firstN_at h hp (show i < k by omega), if_pos (by omega)]
abbrev Gov.f (g : Gov) (i : Nat) : Int := (pt g.ys i).f
/-- Point p bears the work of load x. -/
def good (g : Gov) (x : Int) (p : Nat) : Prop := x * g.f g.cu ≤ g.up * g.f p
instance (g : Gov) (x : Int) (p : Nat) : Decidable (good g x p) := inferInstanceAs (Decidable (_ ≤ _))
def sufM (g : Gov) (x : Int) : Nat := g.lo + firstN (fun i => decide (good g x (g.lo + i))) (g.hi - g.lo)
theorem sufM_at {g : Gov} {x : Int} {p : Nat} (h1 : g.lo ≤ p) (h2 : p < g.hi) (h : ∀ i, g.lo ≤ i → i < p → ¬ good g x i) (hp : good g x p) : sufM g x = p := by
  have e : firstN (fun i => decide (good g x (g.lo + i))) (g.hi - g.lo) = p - g.lo := by
    refine firstN_at (fun j hj => decide_eq_false (h _ (by omega) (by omega))) (decide_eq_true ?_) (by omega)
    rw [show g.lo + (p - g.lo) = p from by omega]; exact hp
  rw [sufM, e]; omega
theorem sufM_end {g : Gov} {x : Int} (hl : g.lo ≤ g.hi) (h : ∀ i, g.lo ≤ i → i < g.hi → ¬ good g x i) : sufM g x = g.hi := by
  have e : firstN (fun i => decide (good g x (g.lo + i))) (g.hi - g.lo) = g.hi - g.lo := firstN_none fun j hj => decide_eq_false (h _ (by omega) (by omega))
  rw [sufM, e]; omega
theorem mulB {a f : Int} (h1 : 0 ≤ a) (h2 : a ≤ 100) (h3 : 0 ≤ f) (h4 : f ≤ 1099511627776) : 0 ≤ a * f ∧ a * f ≤ 109951162777600 := by
  have h5 : a * f ≤ 100 * f := Int.mul_le_mul_of_nonneg_right h2 h3
  exact ⟨Int.mul_nonneg h1 h3, by omega⟩
theorem good_mono {g : Gov} (hg : g.ok) {x : Int} {p q : Nat} (hpq : p ≤ q) (hq : q < g.ys.length) (h : good g x p) : good g x q := by
  unfold good at *
  have hf : g.f p ≤ g.f q := by
    by_cases e : p = q
    · subst e; exact Int.le_refl _
    · exact Int.le_of_lt (hg.t.rise (show p < q by omega) hq).1
  exact Int.le_trans h (Int.mul_le_mul_of_nonneg_left hf (by have := hg.u1; omega))
theorem good_cu {g : Gov} (hg : g.ok) {x : Int} (hx : x < g.dn) : good g x g.cu := by
  unfold good
  have h1 := hg.d2
  have h2 := (hg.t.big (show g.cu < g.ys.length by have := hg.l2; have := hg.l3; omega)).1
  exact Int.mul_le_mul_of_nonneg_right (by omega) (by show 0 ≤ (pt g.ys g.cu).f; omega)
theorem suf_ref1 {g : Gov} (hg : g.ok) {x : Int} (hx : x < g.dn) {p : Nat} (h1 : g.lo ≤ p) (h2 : p ≤ g.cu) (h : ∀ i, p < i → i ≤ g.cu → good g x i) (hp : ¬ good g x p) : sufM g x = p + 1 := by
  have hl2 := hg.l2
  have hl3 := hg.l3
  have hne : p < g.cu := by
    rcases Nat.lt_or_ge p g.cu with h' | h'
    · exact h'
    · exact absurd (by rw [show p = g.cu from by omega]; exact good_cu hg hx) hp
  have hlow : ∀ i, g.lo ≤ i → i ≤ p → ¬ good g x i := fun i _ hi hgd => hp (good_mono hg hi (by omega) hgd)
  by_cases e : p + 1 = g.hi
  · rw [e]; exact sufM_end (by omega) fun i h3 h4 => hlow i h3 (by omega)
  · exact sufM_at (by omega) (by omega) (fun i h3 h4 => hlow i h3 (by omega)) (h _ (by omega) (by omega))
theorem suf_ref2 {g : Gov} (hg : g.ok) {x : Int} (h : ∀ i, g.lo ≤ i → i ≤ g.cu → good g x i) : sufM g x = g.lo := by
  have hl1 := hg.l1
  have hl2 := hg.l2
  by_cases e : g.lo = g.hi
  · rw [e]; exact sufM_end (by omega) fun i h3 h4 => by omega
  · exact sufM_at (Nat.le_refl _) (by omega) (fun i h3 h4 => by omega) (h _ (Nat.le_refl _) hl1)
theorem suf_bd {g : Gov} (hg : g.ok) {x : Int} (hx : x < g.dn) : (g.lo ≤ sufM g x ∧ sufM g x ≤ g.cu) ∧ good g x (sufM g x) ∧ (∀ i, g.lo ≤ i → i < sufM g x → ¬ good g x i) := by
  have hl1 := hg.l1
  have hl2 := hg.l2
  have hc := good_cu hg hx
  have key : ∀ k, g.cu - g.lo = k → True := fun _ _ => trivial
  have hex : ∃ p, (g.lo ≤ p ∧ p ≤ g.cu) ∧ good g x p ∧ ∀ i, g.lo ≤ i → i < p → ¬ good g x i := by
    have hd : ∀ m, (∃ p, (g.lo ≤ p ∧ p ≤ g.lo + m) ∧ good g x p ∧ ∀ i, g.lo ≤ i → i < p → ¬ good g x i) ∨ ∀ i, g.lo ≤ i → i ≤ g.lo + m → ¬ good g x i := by
      intro m
      induction m with
      | zero =>
        by_cases h0 : good g x g.lo
        · exact .inl ⟨g.lo, ⟨Nat.le_refl _, Nat.le_refl _⟩, h0, fun i h1 h2 => by omega⟩
        · exact .inr fun i h1 h2 => by rw [show i = g.lo from by omega]; exact h0
      | succ m ih =>
        rcases ih with ⟨p, hp, hq⟩ | ih
        · exact .inl ⟨p, ⟨hp.1, by omega⟩, hq⟩
        · by_cases h0 : good g x (g.lo + m + 1)
          · exact .inl ⟨g.lo + m + 1, ⟨by omega, by omega⟩, h0, fun i h1 h2 => ih i h1 (by omega)⟩
          · refine .inr fun i h1 h2 => ?_
            by_cases e : i = g.lo + m + 1
            · rw [e]; exact h0
            · exact ih i h1 (by omega)
    rcases hd (g.cu - g.lo) with ⟨p, hp, hq⟩ | h
    · exact ⟨p, ⟨hp.1, by omega⟩, hq⟩
    · exact absurd hc (h g.cu hl1 (by omega))
  obtain ⟨p, hp, hq, hr⟩ := hex
  have e : sufM g x = p := by
    by_cases h2 : p < g.hi
    · exact sufM_at hp.1 h2 hr hq
    · rw [show p = g.hi from by omega]; exact sufM_end (by omega) fun i h3 h4 => hr i h3 (by omega)
  rw [e]; exact ⟨hp, hq, hr⟩
def okX (x : Int) : Prop := 0 ≤ x ∧ x ≤ 100
instance (x : Int) : Decidable (okX x) := inferInstanceAs (Decidable (_ ∧ _))
def sampG (g : Gov) (x : Int) : Gov :=
  if okX x then
    if g.up < x then { g with cu := g.hi, n := 0 }
    else if x < g.dn then (if g.sm ≤ g.n + 1 then { g with cu := sufM g x, n := 0 } else { g with n := g.n + 1 })
    else { g with n := 0 }
  else g
def sampV (g : Gov) (x : Int) : Int := if okX x then ((sampG g x).cu : Int) else 0
def sampE (x : Int) : Int := if okX x then 0 else 1
section
variable {g : Gov} {x : Int}
theorem samp_no (h : ¬ okX x) : sampG g x = g ∧ sampV g x = 0 ∧ sampE x = 1 := ⟨if_neg h, if_neg h, if_neg h⟩
theorem samp_hi (h : okX x) (h1 : g.up < x) : sampG g x = { g with cu := g.hi, n := 0 } ∧ sampV g x = g.hi ∧ sampE x = 0 := by
  have e : sampG g x = { g with cu := g.hi, n := 0 } := by rw [sampG, if_pos h, if_pos h1]
  exact ⟨e, by rw [sampV, if_pos h, e], if_pos h⟩
theorem samp_suf (h : okX x) (h1 : ¬ g.up < x) (h2 : x < g.dn) (h3 : g.sm ≤ g.n + 1) : sampG g x = { g with cu := sufM g x, n := 0 } ∧ sampV g x = sufM g x ∧ sampE x = 0 := by
  have e : sampG g x = { g with cu := sufM g x, n := 0 } := by rw [sampG, if_pos h, if_neg h1, if_pos h2, if_pos h3]
  exact ⟨e, by rw [sampV, if_pos h, e], if_pos h⟩
theorem samp_wait (h : okX x) (h1 : ¬ g.up < x) (h2 : x < g.dn) (h3 : ¬ g.sm ≤ g.n + 1) : sampG g x = { g with n := g.n + 1 } ∧ sampV g x = g.cu ∧ sampE x = 0 := by
  have e : sampG g x = { g with n := g.n + 1 } := by rw [sampG, if_pos h, if_neg h1, if_pos h2, if_neg h3]
  exact ⟨e, by rw [sampV, if_pos h, e], if_pos h⟩
theorem samp_mid (h : okX x) (h1 : ¬ g.up < x) (h2 : ¬ x < g.dn) : sampG g x = { g with n := 0 } ∧ sampV g x = g.cu ∧ sampE x = 0 := by
  have e : sampG g x = { g with n := 0 } := by rw [sampG, if_pos h, if_neg h1, if_neg h2]
  exact ⟨e, by rw [sampV, if_pos h, e], if_pos h⟩
theorem samp_ok (hg : g.ok) (x : Int) : (sampG g x).ok := by
  have hl1 := hg.l1
  have hl2 := hg.l2
  have hl3 := hg.l3
  have hs := hg.s1
  have hn := hg.n1
  by_cases h : okX x
  · by_cases h1 : g.up < x
    · rw [(samp_hi h h1).1]; exact ⟨hg.t, hg.u1, hg.u2, hg.d1, hg.d2, hg.s1, hg.s2, by simp only []; omega, Nat.le_refl _, hl3, Int.le_refl _, by simp only []; omega⟩
    · by_cases h2 : x < g.dn
      · by_cases h3 : g.sm ≤ g.n + 1
        · have hb := (suf_bd hg h2).1
          rw [(samp_suf h h1 h2 h3).1]; exact ⟨hg.t, hg.u1, hg.u2, hg.d1, hg.d2, hg.s1, hg.s2, hb.1, by simp only []; omega, hl3, Int.le_refl _, by simp only []; omega⟩
        · rw [(samp_wait h h1 h2 h3).1]; exact ⟨hg.t, hg.u1, hg.u2, hg.d1, hg.d2, hg.s1, hg.s2, hl1, hl2, hl3, by simp only []; omega, by simp only []; omega⟩
      · rw [(samp_mid h h1 h2).1]; exact ⟨hg.t, hg.u1, hg.u2, hg.d1, hg.d2, hg.s1, hg.s2, hl1, hl2, hl3, Int.le_refl _, by simp only []; omega⟩
  · rw [(samp_no h).1]; exact hg
end
/-! ### Parameters -/
structure Prm where
  up : Int
  dn : Int
  sm : Int
def prmM (u d s : Int) : Prm := ⟨1 + modM u 100, modM d (1 + modM u 100).toNat, 1 + modM s 4⟩
theorem prm_ok (u d s : Int) : ¬ badPr (prmM u d s).up (prmM u d s).dn (prmM u d s).sm := by
  have h1 := modM_lt u (n := 100) (by omega)
  have h2 := modM_lt d (n := (1 + modM u 100).toNat) (by omega)
  have h3 := modM_lt s (n := 4) (by omega)
  unfold badPr prmM
  simp only []
  omega
end Go.Perf
namespace Go.Perf
theorem mm1 (a b c : Nat) : ((min (max a b) c : Nat) : Int) = min (max (a : Int) b) c := by omega
end Go.Perf
namespace Go.Perf
open Go.Sv
def okO (o : POp) : Prop := 0 ≤ o.val ∧ o.val ≤ 18446744073709551615
def okI (x : Int) : Prop := -9223372036854775808 ≤ x ∧ x ≤ 9223372036854775807
theorem okO_of {l : List POp} (h : ∀ i, i < l.length → okO (l.getD i popK.d)) : ∀ i, 0 ≤ (l.getD i popK.d).val ∧ (l.getD i popK.d).val ≤ 18446744073709551615 := fun i => by
  by_cases hi : i < l.length
  · exact h i hi
  · have : l.getD i popK.d = popK.d := by simp [List.getD, List.getElem?_eq_none (Nat.le_of_not_lt hi)]
    rw [this]; unfold popK; simp
theorem okI_of {l : List Int} (h : ∀ i, i < l.length → okI (l.getD i (intK .i64).d)) : ∀ i, okI (l.getD i (intK .i64).d) := fun i => by
  by_cases hi : i < l.length
  · exact h i hi
  · have : l.getD i (intK .i64).d = (intK .i64).d := by simp [List.getD, List.getElem?_eq_none (Nat.le_of_not_lt hi)]
    rw [this]; unfold okI intK; simp
end Go.Perf
