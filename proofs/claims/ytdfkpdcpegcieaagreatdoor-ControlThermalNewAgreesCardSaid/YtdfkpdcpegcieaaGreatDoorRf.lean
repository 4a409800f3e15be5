/-
  What is left of the capacities, as the reference of heat keeps it.
-/
import Derived.Test.YtdfkpdcpegcieaaGreatDoorObA
set_option linter.unusedSimpArgs false
set_option linter.unusedVariables false
namespace Go.Ctl
open Go.Sv Go.Perf
def lfA (D : List HD) (i : Nat) : List Int := (List.range D.length).map fun k => if k < i then (hdA D k).cap - (hdA D k).amb else 0
theorem lfA_len (D : List HD) (i : Nat) : (lfA D i).length = D.length := by simp [lfA]
theorem lfA_zero (D : List HD) : lfA D 0 = List.replicate D.length 0 := by simp [lfA, List.map_const']
theorem lfA_get (D : List HD) {i k : Nat} (h : k < D.length) : (lfA D i).getD k 0 = if k < i then (hdA D k).cap - (hdA D k).amb else 0 := by simp [lfA, List.getD, h]
theorem lfA_set {D : List HD} {i : Nat} (h : i < D.length) : (lfA D i).set i ((D.getD i hdK.d).cap - (D.getD i hdK.d).amb) = lfA D (i + 1) := by
  refine ext0 (by simp [lfA]) fun k hk => ?_
  rw [List.length_set, lfA_len] at hk
  rw [getD_set' _ _ _ _ (by rw [lfA_len]; exact h), lfA_get D hk, lfA_get D hk]
  by_cases e : i = k
  · subst e; rw [if_pos rfl, if_pos (by omega)]; rfl
  · rw [if_neg e]
    by_cases e2 : k < i
    · rw [if_pos e2, if_pos (by omega)]
    · rw [if_neg e2, if_neg (by omega)]
def lfL (D : List HD) (M : List HL) (j : Nat) : List Int := (List.range D.length).map fun k => (hdA D k).cap - need D (M.take j) k
theorem lfL_len (D : List HD) (M : List HL) (j : Nat) : (lfL D M j).length = D.length := by simp [lfL]
theorem lfL_get (D : List HD) (M : List HL) (j : Nat) {k : Nat} (h : k < D.length) : (lfL D M j).getD k 0 = (hdA D k).cap - need D (M.take j) k := by simp [lfL, List.getD, h]
theorem lfL_at (D : List HD) (M : List HL) (j : Nat) {k : Nat} (h : k < D.length) : (lfL D M j).getD k (intK .i64).d = (hdA D k).cap - need D (M.take j) k := lfL_get D M j h
theorem lfA_end (D : List HD) (M : List HL) : lfA D D.length = lfL D M 0 := by
  refine ext0 (by simp [lfA, lfL]) fun k hk => ?_
  rw [lfA_len] at hk
  rw [lfA_get D hk, lfL_get D M 0 hk, if_pos hk]
  have h4 : need D (M.take 0) k = (hdA D k).amb := by unfold need; simp [wof]
  rw [h4]
theorem lf_other {D : List HD} {M : List HL} {j a b : Nat} (v : Int) (hne : a ≠ b) : ((lfL D M j).set a v).getD b (intK .i64).d = (lfL D M j).getD b (intK .i64).d := getD_set_other _ _ _ hne
theorem lf_step {D : List HD} {M : List HL} {j a b : Nat} (hj : j < M.length) (ha : (M.getD j hlK.d).a = (a : Int)) (hb : (M.getD j hlK.d).b = (b : Int)) (ha2 : a < D.length) (hb2 : b < D.length) (hne : a ≠ b) :
    ((lfL D M j).set a ((lfL D M j).getD a (intK .i64).d - (M.getD j hlK.d).g)).set b (((lfL D M j).set a ((lfL D M j).getD a (intK .i64).d - (M.getD j hlK.d).g)).getD b (intK .i64).d - (M.getD j hlK.d).g) = lfL D M (j + 1) := by
  have ha' : (hlA M j).a.toNat = a := by have : (hlA M j).a = (a : Int) := ha; omega
  have hb' : (hlA M j).b.toNat = b := by have : (hlA M j).b = (b : Int) := hb; omega
  rw [lf_other _ hne]
  refine ext0 (by simp [lfL]) fun k hk => ?_
  rw [List.length_set, List.length_set, lfL_len] at hk
  rw [getD_set' _ _ _ _ (by rw [List.length_set, lfL_len]; exact hb2), getD_set' _ _ _ _ (by rw [lfL_len]; exact ha2), lfL_get D M _ hk, lfL_get D M _ hk, need_succ D hj, ha', hb', lfL_at D M j ha2, lfL_at D M j hb2]
  have eg : (M.getD j hlK.d).g = (hlA M j).g := rfl
  by_cases e1 : b = k
  · subst e1
    rw [if_pos rfl, if_neg hne, if_pos rfl]; omega
  · rw [if_neg e1, if_neg e1]
    by_cases e2 : a = k
    · subst e2
      rw [if_pos rfl, if_pos rfl]; omega
    · rw [if_neg e2, if_neg e2]; omega
theorem lf_bd {D : List HD} {M : List HL} {j : Nat} (hD : ∀ i, i < D.length → 1 ≤ (hdA D i).amb ∧ (hdA D i).cap ≤ 16777216 ∧ (hdA D i).amb ≤ (hdA D i).cap) (hj : j ≤ M.length) (hg : ∀ i, i < j → refLnk D M i) {k : Nat} (hk : k < D.length) : (lfL D M j).getD k (intK .i64).d ≤ 16777216 := by
  rw [lfL_at D M j hk]
  have hw : 0 ≤ wof k (M.take j) := wof_nn' fun l hl => by
    obtain ⟨i, hi, rfl⟩ := List.getElem_of_mem hl
    have hi2 : i < j := by rw [List.length_take] at hi; omega
    have := (hg i hi2).2.1
    simpa [hlA, List.getD, show i < M.length by omega] using this
  have h1 := hD k hk
  have e : need D (M.take j) k = (hdA D k).amb + wof k (M.take j) := rfl
  rw [e]; omega
theorem ref_ends {D : List HD} {M : List HL} {i : Nat} (h : refLnk D M i) : 0 ≤ (M.getD i hlK.d).a ∧ (M.getD i hlK.d).a < D.length ∧ 0 ≤ (M.getD i hlK.d).b ∧ (M.getD i hlK.d).b < D.length ∧ ¬ (M.getD i hlK.d).a = (M.getD i hlK.d).b ∧ 1 ≤ (M.getD i hlK.d).g :=
  ⟨h.1.1, h.1.2.1, h.1.2.2.1, h.1.2.2.2.1, h.1.2.2.2.2, h.2.1⟩
theorem ref_left {D : List HD} {M : List HL} {i a b : Nat} (h : refLnk D M i) (ha : (M.getD i hlK.d).a = (a : Int)) (hb : (M.getD i hlK.d).b = (b : Int)) (ha2 : a < D.length) (hb2 : b < D.length) :
    (M.getD i hlK.d).g ≤ (lfL D M i).getD a (intK .i64).d ∧ (M.getD i hlK.d).g ≤ (lfL D M i).getD b (intK .i64).d := by
  have ha' : (hlA M i).a.toNat = a := by have : (hlA M i).a = (a : Int) := ha; omega
  have hb' : (hlA M i).b.toNat = b := by have : (hlA M i).b = (b : Int) := hb; omega
  have h1 := h.2.2.1
  have h2 := h.2.2.2.1
  rw [ha'] at h1
  rw [hb'] at h2
  rw [lfL_at D M i ha2, lfL_at D M i hb2]
  exact ⟨h1, h2⟩
theorem ref_of {D : List HD} {M : List HL} {i a b : Nat} (ha : (M.getD i hlK.d).a = (a : Int)) (hb : (M.getD i hlK.d).b = (b : Int)) (ha2 : a < D.length) (hb2 : b < D.length) (hne : a ≠ b) (hg : 1 ≤ (M.getD i hlK.d).g)
    (h1 : (M.getD i hlK.d).g ≤ (lfL D M i).getD a (intK .i64).d) (h2 : (M.getD i hlK.d).g ≤ (lfL D M i).getD b (intK .i64).d) (hn : ∀ k, k < i → ¬ pairEq (hlA M k) (hlA M i)) : refLnk D M i := by
  have ea : (hlA M i).a = (a : Int) := ha
  have eb : (hlA M i).b = (b : Int) := hb
  rw [lfL_at D M i ha2] at h1
  rw [lfL_at D M i hb2] at h2
  refine ⟨⟨by omega, by omega, by omega, by omega, by omega⟩, hg, ?_, ?_, hn⟩
  · rw [show (hlA M i).a.toNat = a by omega]; exact h1
  · rw [show (hlA M i).b.toNat = b by omega]; exact h2
structure HRg where
  l : List Int
  A : Option Addr
  c : Nat
end Go.Ctl
