/-
  The governor: its state, its calls, and that the reference finds the same point.
-/
import Derived.Test.YtaafpnoffdcbnaaMdl2
import Derived.Test.YtaafpnoffdcbnaaSv10
set_option linter.unusedSimpArgs false
set_option linter.unusedVariables false
namespace Go.Perf
open Go.Sv
structure Gov where
  ys : List Pt
  up : Int
  dn : Int
  sm : Int
  lo : Nat
  hi : Nat
  cu : Nat
  n : Int
def gobj (t : TypeId) (b : Nat) (A : Option Addr) (c : Nat) (g : Gov) : List Assn :=
  [Blk b (.cells #[.slice A g.ys.length c, .int .i64 g.up, .int .i64 g.dn, .int .i64 g.sm, .int .i64 g.lo, .int .i64 g.hi, .int .i64 g.cu, .int .i64 g.n] t (0, 0)), OS 25 ptK A c g.ys]
structure Gov.ok (g : Gov) : Prop where
  t : okT g.ys
  u1 : 1 ≤ g.up
  u2 : g.up ≤ 100
  d1 : 0 ≤ g.dn
  d2 : g.dn < g.up
  s1 : 1 ≤ g.sm
  s2 : g.sm ≤ 1000
  l1 : g.lo ≤ g.cu
  l2 : g.cu ≤ g.hi
  l3 : g.hi < g.ys.length
  n1 : 0 ≤ g.n
  n2 : g.n < g.sm
def badPr (u d s : Int) : Prop := u < 1 ∨ 100 < u ∨ d < 0 ∨ u ≤ d ∨ s < 1 ∨ 1000 < s
instance (u d s : Int) : Decidable (badPr u d s) := inferInstanceAs (Decidable (_ ∨ _ ∨ _ ∨ _ ∨ _ ∨ _))
def newE (ys : List Pt) (u d s : Int) : Int := if chkM ys = 0 then (if badPr u d s then 1 else 0) else 1
theorem newE_chk {ys : List Pt} {u d s : Int} (h : ¬ chkM ys = 0) : newE ys u d s = chkM ys := by rw [newE, if_neg h, chkM, if_neg (not_okT_of h)]
theorem newE_bad {ys : List Pt} {u d s : Int} (h : chkM ys = 0) (hb : badPr u d s) : newE ys u d s = 1 := by rw [newE, if_pos h, if_pos hb]
theorem newE_ok {ys : List Pt} {u d s : Int} (h : chkM ys = 0) (hb : ¬ badPr u d s) : newE ys u d s = 0 := by rw [newE, if_pos h, if_neg hb]
def gov0 (ys : List Pt) (u d s : Int) : Gov := ⟨ys, u, d, s, 0, ys.length - 1, 0, 0⟩
theorem gov0_ok {ys : List Pt} {u d s : Int} (h : newE ys u d s = 0) : (gov0 ys u d s).ok := by
  unfold newE at h
  by_cases hc : chkM ys = 0
  · rw [if_pos hc] at h
    by_cases hb : badPr u d s
    · rw [if_pos hb] at h; cases h
    · have ht := okT_of hc
      unfold badPr at hb
      exact ⟨ht, by simp only [gov0]; omega, by simp only [gov0]; omega, by simp only [gov0]; omega, by simp only [gov0]; omega, by simp only [gov0]; omega, by simp only [gov0]; omega, Nat.le_refl _, Nat.zero_le _, by simp only [gov0]; have := ht.1; omega, Int.le_refl _, by simp only [gov0]; omega⟩
  · rw [if_neg hc] at h; cases h
/-! ### Limit -/
def badL (g : Gov) (l h : Int) : Prop := l < 0 ∨ h < l ∨ (g.ys.length : Int) ≤ h
instance (g : Gov) (l h : Int) : Decidable (badL g l h) := inferInstanceAs (Decidable (_ ∨ _ ∨ _))
def limG (g : Gov) (l h : Int) : Gov := if badL g l h then g else { g with lo := l.toNat, hi := h.toNat, cu := min (max g.cu l.toNat) h.toNat, n := 0 }
def limE (g : Gov) (l h : Int) : Int := if badL g l h then 1 else 0
theorem limG_ok {g : Gov} (hg : g.ok) (l h : Int) : (limG g l h).ok := by
  unfold limG
  split
  · exact hg
  · rename_i hb
    unfold badL at hb
    have h1 := hg.s1
    exact ⟨hg.t, hg.u1, hg.u2, hg.d1, hg.d2, hg.s1, hg.s2, by simp only []; omega, by simp only []; omega, by simp only []; omega, Int.le_refl _, by simp only []; omega⟩
/-! ### Sample -/
def firstN (p : Nat → Bool) : Nat → Nat
  | 0 => 0
  | k + 1 => if firstN p k < k then firstN p k else if p k then k else k + 1
theorem firstN_none {p : Nat → Bool} : ∀ {k : Nat}, (∀ j, j < k → p j = false) → firstN p k = k
  | 0, _ => rfl
  | k + 1, h => by rw [firstN, firstN_none fun j hj => h j (by omega), if_neg (Nat.lt_irrefl _), h k (by omega)]; rfl
theorem firstN_at {p : Nat → Bool} {i : Nat} (h : ∀ j, j < i → p j = false) (hp : p i = true) : ∀ {k : Nat}, i < k → firstN p k = i
  | 0, hk => by omega
  | k + 1, hk => by
    by_cases e : i = k
    · subst e; rw [firstN, firstN_none h, if_neg (Nat.lt_irrefl _), hp]; rfl
    · rw [firstN, firstN_at h hp (show i < k by omega), if_pos (by omega)]
abbrev Gov.f (g : Gov) (i : Nat) : Int := (pt g.ys i).f
/-- Point p bears the work of load x. -/
def good (g : Gov) (x : Int) (p : Nat) : Prop := x * g.f g.cu ≤ g.up * g.f p
instance (g : Gov) (x : Int) (p : Nat) : Decidable (good g x p) := inferInstanceAs (Decidable (_ ≤ _))
def sufM (g : Gov) (x : Int) : Nat := g.lo + firstN (fun i => decide (good g x (g.lo + i))) (g.hi - g.lo)
theorem sufM_at {g : Gov} {x : Int} {p : Nat} (h1 : g.lo ≤ p) (h2 : p < g.hi) (h : ∀ i, g.lo ≤ i → i < p → ¬ good g x i) (hp : good g x p) : sufM g x = p := by
  have e : firstN (fun i => decide (good g x (g.lo + i))) (g.hi - g.lo) = p - g.lo := by
    refine firstN_at (fun j hj => decide_eq_false (h _ (by omega) (by omega))) (decide_eq_true ?_) (by omega)
    rw [show g.lo + (p - g.lo) = p from by omega]; exact hp
  rw [sufM, e]; omega
theorem sufM_end {g : Gov} {x : Int} (hl : g.lo ≤ g.hi) (h : ∀ i, g.lo ≤ i → i < g.hi → ¬ good g x i) : sufM g x = g.hi := by
  have e : firstN (fun i => decide (good g x (g.lo + i))) (g.hi - g.lo) = g.hi - g.lo := firstN_none fun j hj => decide_eq_false (h _ (by omega) (by omega))
  rw [sufM, e]; omega
theorem mulB {a f : Int} (h1 : 0 ≤ a) (h2 : a ≤ 100) (h3 : 0 ≤ f) (h4 : f ≤ 1099511627776) : 0 ≤ a * f ∧ a * f ≤ 109951162777600 := by
  have h5 : a * f ≤ 100 * f := Int.mul_le_mul_of_nonneg_right h2 h3
  exact ⟨Int.mul_nonneg h1 h3, by omega⟩
theorem good_mono {g : Gov} (hg : g.ok) {x : Int} {p q : Nat} (hpq : p ≤ q) (hq : q < g.ys.length) (h : good g x p) : good g x q := by
  unfold good at *
  have hf : g.f p ≤ g.f q := by
    by_cases e : p = q
    · subst e; exact Int.le_refl _
    · exact Int.le_of_lt (hg.t.rise (show p < q by omega) hq).1
  exact Int.le_trans h (Int.mul_le_mul_of_nonneg_left hf (by have := hg.u1; omega))
theorem good_cu {g : Gov} (hg : g.ok) {x : Int} (hx : x < g.dn) : good g x g.cu := by
  unfold good
  have h1 := hg.d2
  have h2 := (hg.t.big (show g.cu < g.ys.length by have := hg.l2; have := hg.l3; omega)).1
  exact Int.mul_le_mul_of_nonneg_right (by omega) (by show 0 ≤ (pt g.ys g.cu).f; omega)
theorem suf_ref1 {g : Gov} (hg : g.ok) {x : Int} (hx : x < g.dn) {p : Nat} (h1 : g.lo ≤ p) (h2 : p ≤ g.cu) (h : ∀ i, p < i → i ≤ g.cu → good g x i) (hp : ¬ good g x p) : sufM g x = p + 1 := by
  have hl2 := hg.l2
  have hl3 := hg.l3
  have hne : p < g.cu := by
    rcases Nat.lt_or_ge p g.cu with h' | h'
    · exact h'
    · exact absurd (by rw [show p = g.cu from by omega]; exact good_cu hg hx) hp
  have hlow : ∀ i, g.lo ≤ i → i ≤ p → ¬ good g x i := fun i _ hi hgd => hp (good_mono hg hi (by omega) hgd)
  by_cases e : p + 1 = g.hi
  · rw [e]; exact sufM_end (by omega) fun i h3 h4 => hlow i h3 (by omega)
  · exact sufM_at (by omega) (by omega) (fun i h3 h4 => hlow i h3 (by omega)) (h _ (by omega) (by omega))
theorem suf_ref2 {g : Gov} (hg : g.ok) {x : Int} (h : ∀ i, g.lo ≤ i → i ≤ g.cu → good g x i) : sufM g x = g.lo := by
  have hl1 := hg.l1
  have hl2 := hg.l2
  by_cases e : g.lo = g.hi
  · rw [e]; exact sufM_end (by omega) fun i h3 h4 => by omega
  · exact sufM_at (Nat.le_refl _) (by omega) (fun i h3 h4 => by omega) (h _ (Nat.le_refl _) hl1)
theorem suf_bd {g : Gov} (hg : g.ok) {x : Int} (hx : x < g.dn) : (g.lo ≤ sufM g x ∧ sufM g x ≤ g.cu) ∧ good g x (sufM g x) ∧ (∀ i, g.lo ≤ i → i < sufM g x → ¬ good g x i) := by
  have hl1 := hg.l1
  have hl2 := hg.l2
  have hc := good_cu hg hx
  have key : ∀ k, g.cu - g.lo = k → True := fun _ _ => trivial
  have hex : ∃ p, (g.lo ≤ p ∧ p ≤ g.cu) ∧ good g x p ∧ ∀ i, g.lo ≤ i → i < p → ¬ good g x i := by
    have hd : ∀ m, (∃ p, (g.lo ≤ p ∧ p ≤ g.lo + m) ∧ good g x p ∧ ∀ i, g.lo ≤ i → i < p → ¬ good g x i) ∨ ∀ i, g.lo ≤ i → i ≤ g.lo + m → ¬ good g x i := by
      intro m
      induction m with
      | zero =>
        by_cases h0 : good g x g.lo
        · exact .inl ⟨g.lo, ⟨Nat.le_refl _, Nat.le_refl _⟩, h0, fun i h1 h2 => by omega⟩
        · exact .inr fun i h1 h2 => by rw [show i = g.lo from by omega]; exact h0
      | succ m ih =>
        rcases ih with ⟨p, hp, hq⟩ | ih
        · exact .inl ⟨p, ⟨hp.1, by omega⟩, hq⟩
        · by_cases h0 : good g x (g.lo + m + 1)
          · exact .inl ⟨g.lo + m + 1, ⟨by omega, by omega⟩, h0, fun i h1 h2 => ih i h1 (by omega)⟩
          · refine .inr fun i h1 h2 => ?_
            by_cases e : i = g.lo + m + 1
            · rw [e]; exact h0
            · exact ih i h1 (by omega)
    rcases hd (g.cu - g.lo) with ⟨p, hp, hq⟩ | h
    · exact ⟨p, ⟨hp.1, by omega⟩, hq⟩
    · exact absurd hc (h g.cu hl1 (by omega))
  obtain ⟨p, hp, hq, hr⟩ := hex
  have e : sufM g x = p := by
    by_cases h2 : p < g.hi
    · exact sufM_at hp.1 h2 hr hq
    · rw [show p = g.hi from by omega]; exact sufM_end (by omega) fun i h3 h4 => hr i h3 (by omega)
  rw [e]; exact ⟨hp, hq, hr⟩
def okX (x : Int) : Prop := 0 ≤ x ∧ x ≤ 100
instance (x : Int) : Decidable (okX x) := inferInstanceAs (Decidable (_ ∧ _))
def sampG (g : Gov) (x : Int) : Gov :=
  if okX x then
    if g.up < x then { g with cu := g.hi, n := 0 }
    else if x < g.dn then (if g.sm ≤ g.n + 1 then { g with cu := sufM g x, n := 0 } else { g with n := g.n + 1 })
    else { g with n := 0 }
  else g
def sampV (g : Gov) (x : Int) : Int := if okX x then ((sampG g x).cu : Int) else 0
def sampE (x : Int) : Int := if okX x then 0 else 1
section
variable {g : Gov} {x : Int}
theorem samp_no (h : ¬ okX x) : sampG g x = g ∧ sampV g x = 0 ∧ sampE x = 1 := ⟨if_neg h, if_neg h, if_neg h⟩
theorem samp_hi (h : okX x) (h1 : g.up < x) : sampG g x = { g with cu := g.hi, n := 0 } ∧ sampV g x = g.hi ∧ sampE x = 0 := by
  have e : sampG g x = { g with cu := g.hi, n := 0 } := by rw [sampG, if_pos h, if_pos h1]
  exact ⟨e, by rw [sampV, if_pos h, e], if_pos h⟩
theorem samp_suf (h : okX x) (h1 : ¬ g.up < x) (h2 : x < g.dn) (h3 : g.sm ≤ g.n + 1) : sampG g x = { g with cu := sufM g x, n := 0 } ∧ sampV g x = sufM g x ∧ sampE x = 0 := by
  have e : sampG g x = { g with cu := sufM g x, n := 0 } := by rw [sampG, if_pos h, if_neg h1, if_pos h2, if_pos h3]
  exact ⟨e, by rw [sampV, if_pos h, e], if_pos h⟩
theorem samp_wait (h : okX x) (h1 : ¬ g.up < x) (h2 : x < g.dn) (h3 : ¬ g.sm ≤ g.n + 1) : sampG g x = { g with n := g.n + 1 } ∧ sampV g x = g.cu ∧ sampE x = 0 := by
  have e : sampG g x = { g with n := g.n + 1 } := by rw [sampG, if_pos h, if_neg h1, if_pos h2, if_neg h3]
  exact ⟨e, by rw [sampV, if_pos h, e], if_pos h⟩
theorem samp_mid (h : okX x) (h1 : ¬ g.up < x) (h2 : ¬ x < g.dn) : sampG g x = { g with n := 0 } ∧ sampV g x = g.cu ∧ sampE x = 0 := by
  have e : sampG g x = { g with n := 0 } := by rw [sampG, if_pos h, if_neg h1, if_neg h2]
  exact ⟨e, by rw [sampV, if_pos h, e], if_pos h⟩
theorem samp_ok (hg : g.ok) (x : Int) : (sampG g x).ok := by
  have hl1 := hg.l1
  have hl2 := hg.l2
  have hl3 := hg.l3
  have hs := hg.s1
  have hn := hg.n1
  by_cases h : okX x
  · by_cases h1 : g.up < x
    · rw [(samp_hi h h1).1]; exact ⟨hg.t, hg.u1, hg.u2, hg.d1, hg.d2, hg.s1, hg.s2, by simp only []; omega, Nat.le_refl _, hl3, Int.le_refl _, by simp only []; omega⟩
    · by_cases h2 : x < g.dn
      · by_cases h3 : g.sm ≤ g.n + 1
        · have hb := (suf_bd hg h2).1
          rw [(samp_suf h h1 h2 h3).1]; exact ⟨hg.t, hg.u1, hg.u2, hg.d1, hg.d2, hg.s1, hg.s2, hb.1, by simp only []; omega, hl3, Int.le_refl _, by simp only []; omega⟩
        · rw [(samp_wait h h1 h2 h3).1]; exact ⟨hg.t, hg.u1, hg.u2, hg.d1, hg.d2, hg.s1, hg.s2, hl1, hl2, hl3, by simp only []; omega, by simp only []; omega⟩
      · rw [(samp_mid h h1 h2).1]; exact ⟨hg.t, hg.u1, hg.u2, hg.d1, hg.d2, hg.s1, hg.s2, hl1, hl2, hl3, Int.le_refl _, by simp only []; omega⟩
  · rw [(samp_no h).1]; exact hg
end
/-! ### Parameters -/
structure Prm where
  up : Int
  dn : Int
  sm : Int
def prmM (u d s : Int) : Prm := ⟨1 + modM u 100, modM d (1 + modM u 100).toNat, 1 + modM s 4⟩
theorem prm_ok (u d s : Int) : ¬ badPr (prmM u d s).up (prmM u d s).dn (prmM u d s).sm := by
  have h1 := modM_lt u (n := 100) (by omega)
  have h2 := modM_lt d (n := (1 + modM u 100).toNat) (by omega)
  have h3 := modM_lt s (n := 4) (by omega)
  unfold badPr prmM
  simp only []
  omega
end Go.Perf
namespace Go.Perf
theorem mm1 (a b c : Nat) : ((min (max a b) c : Nat) : Int) = min (max (a : Int) b) c := by omega
end Go.Perf
namespace Go.Perf
open Go.Sv
def okO (o : POp) : Prop := 0 ≤ o.val ∧ o.val ≤ 18446744073709551615
def okI (x : Int) : Prop := -9223372036854775808 ≤ x ∧ x ≤ 9223372036854775807
theorem okO_of {l : List POp} (h : ∀ i, i < l.length → okO (l.getD i popK.d)) : ∀ i, 0 ≤ (l.getD i popK.d).val ∧ (l.getD i popK.d).val ≤ 18446744073709551615 := fun i => by
  by_cases hi : i < l.length
  · exact h i hi
  · have : l.getD i popK.d = popK.d := by simp [List.getD, List.getElem?_eq_none (Nat.le_of_not_lt hi)]
    rw [this]; unfold popK; simp
theorem okI_of {l : List Int} (h : ∀ i, i < l.length → okI (l.getD i (intK .i64).d)) : ∀ i, okI (l.getD i (intK .i64).d) := fun i => by
  by_cases hi : i < l.length
  · exact h i hi
  · have : l.getD i (intK .i64).d = (intK .i64).d := by simp [List.getD, List.getElem?_eq_none (Nat.le_of_not_lt hi)]
    rw [this]; unfold okI intK; simp
end Go.Perf
