/-
  Texts joined: Th1, Th2, Th7, Th3, Th4, Th5, Th6.
-/
import Derived.Test.YtdfkpdcpegcieaaGreatDoorSvA
import Derived.Test.YtdfkpdcpegcieaaGreatDoorMdlA
set_option linter.unusedSimpArgs false
set_option linter.unusedVariables false
namespace Go.Ctl
open Go.Sv
structure HD where
  cap : Int
  amb : Int
deriving DecidableEq
structure HL where
  a : Int
  b : Int
  g : Int
deriving DecidableEq
def hd0 : HD := ⟨0, 0⟩
def hl0 : HL := ⟨0, 0, 0⟩
/-- Go's quotient, one less if the remainder is negative: the floor. -/
theorem floor_t {e c : Int} (hc : 0 < c) (h : e.tmod c < 0) : e.tdiv c - 1 = e / c := by
  have h1 := Int.mul_tdiv_add_tmod e c
  have h2 := Int.tmod_lt_of_pos e hc
  have h4 : -c < e.tmod c := by
    have := Int.lt_tmod_of_pos e hc
    exact this
  have h5 : e = c * (e.tdiv c - 1) + (e.tmod c + c) := by rw [Int.mul_sub]; omega
  have h6 : e / c = (c * (e.tdiv c - 1) + (e.tmod c + c)) / c := by rw [← h5]
  rw [h6, Int.add_comm, Int.add_mul_ediv_left _ _ (by omega), Int.ediv_eq_zero_of_lt (by omega) (by omega)]
  omega
theorem floor_f {e c : Int} (hc : 0 < c) (h : ¬ e.tmod c < 0) : e.tdiv c = e / c := by
  have h1 := Int.mul_tdiv_add_tmod e c
  have h2 := Int.tmod_lt_of_pos e hc
  have h6 : e / c = (c * e.tdiv c + e.tmod c) / c := by rw [h1]
  rw [h6, Int.add_comm, Int.add_mul_ediv_left _ _ (by omega), Int.ediv_eq_zero_of_lt (by omega) h2]
  omega
def tmp (D : List HD) (E : List Int) (i : Nat) : Int := E.getD i 0 / (D.getD i hd0).cap
/-- One link's flow. -/
def flw (T : List Int) (E : List Int) (l : HL) : List Int :=
  let f := l.g * (T.getD l.a.toNat 0 - T.getD l.b.toNat 0)
  let E1 := E.set l.a.toNat (E.getD l.a.toNat 0 - f)
  E1.set l.b.toNat (E1.getD l.b.toNat 0 + f)
def outM (D : List HD) (T : List Int) (base : Int) (i : Nat) : Int := (D.getD i hd0).amb * (T.getD i 0 - base)
def step1 (D : List HD) (T : List Int) (base : Int) (E p : List Int) : List Int := (List.range E.length).map fun i => E.getD i 0 + (p.getD i 0 - outM D T base i)
def tmps (D : List HD) (E : List Int) : List Int := (List.range D.length).map (tmp D E)
def stepE (D : List HD) (L : List HL) (base : Int) (E p : List Int) : List Int := L.foldl (flw (tmps D E)) (step1 D (tmps D E) base E p)
/-- The sum of the conductances of the links of a domain. -/
def wof (i : Nat) : List HL → Int
  | [] => 0
  | l :: r => (if l.a.toNat = i then l.g else 0) + (if l.b.toNat = i then l.g else 0) + wof i r
structure HOk (D : List HD) (L : List HL) : Prop where
  pos : ∀ i, i < D.length → 1 ≤ (D.getD i hd0).amb
  cap : ∀ i, i < D.length → (D.getD i hd0).amb + wof i L ≤ (D.getD i hd0).cap
  lnk : ∀ l ∈ L, 0 ≤ l.a ∧ l.a.toNat < D.length ∧ 0 ≤ l.b ∧ l.b.toNat < D.length ∧ l.a ≠ l.b ∧ 1 ≤ l.g
theorem wof_nn {D : List HD} {i : Nat} : ∀ {L : List HL}, (∀ l ∈ L, 0 ≤ l.a ∧ l.a.toNat < D.length ∧ 0 ≤ l.b ∧ l.b.toNat < D.length ∧ l.a ≠ l.b ∧ 1 ≤ l.g) → 0 ≤ wof i L
  | [], _ => Int.le_refl _
  | l :: r, h => by
    have ih := wof_nn (i := i) (L := r) fun x hx => h x (List.mem_cons_of_mem _ hx)
    have h1 := (h l (List.mem_cons_self ..)).2.2.2.2.2
    rw [wof]
    split <;> split <;> omega
theorem HOk.capPos {D : List HD} {L : List HL} (h : HOk D L) {i : Nat} (hi : i < D.length) : 1 ≤ (D.getD i hd0).cap := by
  have h1 := h.pos i hi
  have h2 := h.cap i hi
  have h3 := wof_nn (i := i) h.lnk
  omega
theorem flw_len (T E : List Int) (l : HL) : (flw T E l).length = E.length := by simp [flw]
theorem getD_set' (E : List Int) (k i : Nat) (v : Int) (hk : k < E.length) : (E.set k v).getD i 0 = if k = i then v else E.getD i 0 := by
  by_cases h : k = i
  · subst h; rw [if_pos rfl, getD_set_self E k v 0 hk]
  · rw [if_neg h, getD_set_other E v 0 h]
theorem flw_at {T E : List Int} {l : HL} {n : Nat} (hE : E.length = n) (ha : l.a.toNat < n) (hb : l.b.toNat < n) (hne : l.a.toNat ≠ l.b.toNat) (i : Nat) :
    (flw T E l).getD i 0 = E.getD i 0 + (if l.a.toNat = i then l.g * (T.getD l.b.toNat 0 - T.getD l.a.toNat 0) else 0) + (if l.b.toNat = i then l.g * (T.getD l.a.toNat 0 - T.getD l.b.toNat 0) else 0) := by
  unfold flw
  have e1 : l.g * (T.getD l.b.toNat 0 - T.getD l.a.toNat 0) = - (l.g * (T.getD l.a.toNat 0 - T.getD l.b.toNat 0)) := by rw [Int.mul_sub, Int.mul_sub]; omega
  rw [getD_set' _ _ _ _ (by rw [List.length_set]; omega), getD_set' _ _ _ _ (by omega), getD_set' _ _ _ _ (by omega), e1]
  by_cases h1 : l.a.toNat = i <;> by_cases h2 : l.b.toNat = i
  · exact absurd (h1.trans h2.symm) hne
  · rw [if_pos h1, if_neg h2, if_neg h2, if_pos h1]; subst h1; omega
  · rw [if_neg h1, if_pos h2, if_pos h2, if_neg hne]; subst h2; omega
  · rw [if_neg h1, if_neg h2, if_neg h2, if_neg h1]; omega
/-- Bounds of what flows. -/
theorem fold_bd {T : List Int} {n : Nat} {lo hi : Int} (hT : ∀ j, j < n → lo ≤ T.getD j 0 ∧ T.getD j 0 ≤ hi) (i : Nat) : ∀ (L : List HL) (E : List Int), E.length = n → i < n →
    (∀ l ∈ L, 0 ≤ l.a ∧ l.a.toNat < n ∧ 0 ≤ l.b ∧ l.b.toNat < n ∧ l.a ≠ l.b ∧ 1 ≤ l.g) →
    (L.foldl (flw T) E).length = n ∧ E.getD i 0 - wof i L * (T.getD i 0 - lo) ≤ (L.foldl (flw T) E).getD i 0 ∧ (L.foldl (flw T) E).getD i 0 ≤ E.getD i 0 + wof i L * (hi - T.getD i 0)
  | [], E, hE, _, _ => ⟨hE, by simp [wof], by simp [wof]⟩
  | l :: r, E, hE, hi2, hL => by
    obtain ⟨a0, a1, b0, b1, hne, hg⟩ := hL l (List.mem_cons_self ..)
    have hne2 : l.a.toNat ≠ l.b.toNat := by omega
    obtain ⟨h1, h2, h3⟩ := fold_bd hT i r (flw T E l) (by rw [flw_len]; exact hE) hi2 fun x hx => hL x (List.mem_cons_of_mem _ hx)
    rw [flw_at hE a1 b1 hne2] at h2 h3
    rw [List.foldl_cons]
    refine ⟨h1, ?_, ?_⟩
    · rw [wof, Int.add_mul, Int.add_mul]
      have ta := hT _ a1
      have tb := hT _ b1
      by_cases e1 : l.a.toNat = i <;> by_cases e2 : l.b.toNat = i
      · exact absurd (e1.trans e2.symm) hne2
      · rw [if_pos e1, if_neg e2] at h2 ⊢
        have : l.g * (lo - T.getD i 0) ≤ l.g * (T.getD l.b.toNat 0 - T.getD l.a.toNat 0) := Int.mul_le_mul_of_nonneg_left (by rw [e1] at ta ⊢; omega) (by omega)
        have e3 : l.g * (lo - T.getD i 0) = - (l.g * (T.getD i 0 - lo)) := by rw [Int.mul_sub, Int.mul_sub]; omega
        rw [Int.zero_mul]; omega
      · rw [if_neg e1, if_pos e2] at h2 ⊢
        have : l.g * (lo - T.getD i 0) ≤ l.g * (T.getD l.a.toNat 0 - T.getD l.b.toNat 0) := Int.mul_le_mul_of_nonneg_left (by rw [e2] at tb ⊢; omega) (by omega)
        have e3 : l.g * (lo - T.getD i 0) = - (l.g * (T.getD i 0 - lo)) := by rw [Int.mul_sub, Int.mul_sub]; omega
        rw [Int.zero_mul]; omega
      · rw [if_neg e1, if_neg e2] at h2 ⊢
        rw [Int.zero_mul]; omega
    · rw [wof, Int.add_mul, Int.add_mul]
      have ta := hT _ a1
      have tb := hT _ b1
      by_cases e1 : l.a.toNat = i <;> by_cases e2 : l.b.toNat = i
      · exact absurd (e1.trans e2.symm) hne2
      · rw [if_pos e1, if_neg e2] at h3 ⊢
        have : l.g * (T.getD l.b.toNat 0 - T.getD l.a.toNat 0) ≤ l.g * (hi - T.getD i 0) := Int.mul_le_mul_of_nonneg_left (by rw [e1] at ta ⊢; omega) (by omega)
        rw [Int.zero_mul]; omega
      · rw [if_neg e1, if_pos e2] at h3 ⊢
        have : l.g * (T.getD l.a.toNat 0 - T.getD l.b.toNat 0) ≤ l.g * (hi - T.getD i 0) := Int.mul_le_mul_of_nonneg_left (by rw [e2] at tb ⊢; omega) (by omega)
        rw [Int.zero_mul]; omega
      · rw [if_neg e1, if_neg e2] at h3 ⊢
        rw [Int.zero_mul]; omega
theorem tmps_at {D : List HD} {E : List Int} {i : Nat} (hi : i < D.length) : (tmps D E).getD i 0 = tmp D E i := by simp [tmps, List.getD, hi]
theorem step1_at {D : List HD} {T : List Int} {base : Int} {E p : List Int} {i : Nat} (hi : i < E.length) : (step1 D T base E p).getD i 0 = E.getD i 0 + (p.getD i 0 - outM D T base i) := by simp [step1, List.getD, hi]
/-- A step keeps all temperatures between the surroundings' and a bound, if no power is greater than what a domain can give off at the bound. -/
theorem heat_bd {D : List HD} {L : List HL} {base hi : Int} {E p : List Int} (h : HOk D L) (hE : E.length = D.length) (hT : ∀ j, j < D.length → base ≤ tmp D E j ∧ tmp D E j ≤ hi)
    (hp : ∀ j, j < D.length → 0 ≤ p.getD j 0 ∧ p.getD j 0 ≤ (D.getD j hd0).amb * (hi - base)) :
    (stepE D L base E p).length = D.length ∧ ∀ i, i < D.length → base ≤ tmp D (stepE D L base E p) i ∧ tmp D (stepE D L base E p) i ≤ hi := by
  have hT' : ∀ j, j < D.length → base ≤ (tmps D E).getD j 0 ∧ (tmps D E).getD j 0 ≤ hi := fun j hj => by rw [tmps_at hj]; exact hT j hj
  have hl : (step1 D (tmps D E) base E p).length = D.length := by simp [step1, hE]
  have hlen : (stepE D L base E p).length = D.length := by
    by_cases h0 : 0 < D.length
    · exact (fold_bd hT' 0 L _ hl h0 h.lnk).1
    · have : ∀ (L : List HL) (X : List Int), (L.foldl (flw (tmps D E)) X).length = X.length := by
        intro L
        induction L with
        | nil => intro X; rfl
        | cons l r ih => intro X; rw [List.foldl_cons, ih, flw_len]
      unfold stepE
      rw [this, hl]
  refine ⟨hlen, fun i hi2 => ?_⟩
  obtain ⟨_, h1, h2⟩ := fold_bd hT' i L _ hl hi2 h.lnk
  rw [step1_at (by omega), tmps_at hi2] at h1 h2
  have hc := h.capPos hi2
  have hA := h.pos i hi2
  have hW := wof_nn (i := i) h.lnk
  have hAW := h.cap i hi2
  obtain ⟨t1, t2⟩ := hT i hi2
  obtain ⟨p1, p2⟩ := hp i hi2
  unfold outM at h1 h2
  rw [tmps_at hi2] at h1 h2
  generalize hX : (L.foldl (flw (tmps D E)) (step1 D (tmps D E) base E p)).getD i 0 = X at h1 h2
  have hXe : (stepE D L base E p).getD i 0 = X := hX
  unfold tmp at t1 t2 h1 h2 ⊢
  rw [hXe]
  generalize (D.getD i hd0).cap = C at *
  generalize (D.getD i hd0).amb = A at *
  generalize wof i L = W at *
  generalize E.getD i 0 = e at *
  generalize p.getD i 0 = q at *
  have q1 : C * (e / C) ≤ e := Int.mul_ediv_self_le (by omega)
  have q2 : e < C * (e / C) + C := Int.lt_mul_ediv_self_add (by omega)
  generalize e / C = t at *
  have k1 : (A + W) * (hi - t) ≤ C * (hi - t) := Int.mul_le_mul_of_nonneg_right hAW (by omega)
  have k2 : (A + W) * (t - base) ≤ C * (t - base) := Int.mul_le_mul_of_nonneg_right hAW (by omega)
  rw [Int.add_mul, Int.mul_sub, Int.mul_sub, Int.mul_sub] at k1 k2
  rw [Int.mul_sub] at p2
  rw [Int.mul_sub, Int.mul_sub] at h1 h2
  constructor
  · rw [Int.le_ediv_iff_mul_le (by omega), Int.mul_comm]
    omega
  · have : X < (hi + 1) * C := by
      rw [Int.add_mul, Int.mul_comm hi C]
      omega
    have := Int.ediv_lt_of_lt_mul (by omega) this
    omega
end Go.Ctl
set_option linter.unusedSimpArgs false
set_option linter.unusedVariables false
namespace Go.Ctl
open Go.Sv
abbrev hdA (D : List HD) (i : Nat) : HD := D.getD i hd0
abbrev hlA (L : List HL) (i : Nat) : HL := L.getD i hl0
def pairEq (x y : HL) : Prop := (x.a = y.a ∧ x.b = y.b) ∨ (x.a = y.b ∧ x.b = y.a)
instance (x y : HL) : Decidable (pairEq x y) := inferInstanceAs (Decidable (_ ∨ _))
/-- The ends of a link are two domains. -/
def endsOk (n : Nat) (l : HL) : Prop := 0 ≤ l.a ∧ l.a < n ∧ 0 ≤ l.b ∧ l.b < n ∧ ¬ l.a = l.b
instance (n : Nat) (l : HL) : Decidable (endsOk n l) := inferInstanceAs (Decidable (_ ∧ _))
def lnkOk (n : Nat) (L : List HL) (i : Nat) : Prop := endsOk n (hlA L i) ∧ 1 ≤ (hlA L i).g ∧ (hlA L i).g ≤ 16777216 ∧ ∀ k, k < i → ¬ pairEq (hlA L k) (hlA L i)
def need (D : List HD) (L : List HL) (i : Nat) : Int := (hdA D i).amb + wof i L
structure Vld (D : List HD) (L : List HL) (base : Int) : Prop where
  n1 : 1 ≤ D.length
  n2 : D.length ≤ 16
  b1 : -16777216 ≤ base
  b2 : base ≤ 16777216
  amb : ∀ i, i < D.length → 1 ≤ (hdA D i).amb ∧ (hdA D i).amb ≤ 16777216
  lnk : ∀ i, i < L.length → lnkOk D.length L i
  cap : ∀ i, i < D.length → need D L i ≤ (hdA D i).cap ∧ (hdA D i).cap ≤ 16777216
/-- What the reference asks of link i: what is left of the capacities is enough. -/
def refLnk (D : List HD) (L : List HL) (i : Nat) : Prop :=
  endsOk D.length (hlA L i) ∧ 1 ≤ (hlA L i).g ∧ (hlA L i).g ≤ (hdA D (hlA L i).a.toNat).cap - need D (L.take i) (hlA L i).a.toNat ∧ (hlA L i).g ≤ (hdA D (hlA L i).b.toNat).cap - need D (L.take i) (hlA L i).b.toNat ∧ ∀ k, k < i → ¬ pairEq (hlA L k) (hlA L i)
structure VldR (D : List HD) (L : List HL) (base : Int) : Prop where
  n1 : 1 ≤ D.length
  n2 : D.length ≤ 16
  b1 : -16777216 ≤ base
  b2 : base ≤ 16777216
  dom : ∀ i, i < D.length → 1 ≤ (hdA D i).amb ∧ (hdA D i).cap ≤ 16777216 ∧ (hdA D i).amb ≤ (hdA D i).cap
  lnk : ∀ i, i < L.length → refLnk D L i
theorem wof_app (i : Nat) : ∀ (a b : List HL), wof i (a ++ b) = wof i a + wof i b
  | [], b => by simp [wof]
  | l :: a, b => by rw [List.cons_append, wof, wof, wof_app i a b]; omega
theorem hl_take {L : List HL} {i : Nat} (h : i < L.length) : L.take (i + 1) = L.take i ++ [hlA L i] := by
  rw [List.take_add_one, hlA, List.getD, List.getElem?_eq_getElem h]; rfl
theorem wof_one (i : Nat) (l : HL) : wof i [l] = (if l.a.toNat = i then l.g else 0) + (if l.b.toNat = i then l.g else 0) := by simp [wof]
theorem need_succ (D : List HD) {L : List HL} {k : Nat} (h : k < L.length) (i : Nat) : need D (L.take (k + 1)) i = need D (L.take k) i + ((if (hlA L k).a.toNat = i then (hlA L k).g else 0) + (if (hlA L k).b.toNat = i then (hlA L k).g else 0)) := by
  unfold need
  rw [hl_take h, wof_app, wof_one]; omega
theorem wof_nn' {i : Nat} : ∀ {L : List HL}, (∀ l ∈ L, 1 ≤ l.g) → 0 ≤ wof i L
  | [], _ => Int.le_refl _
  | l :: r, h => by
    have ih := wof_nn' (i := i) (L := r) fun x hx => h x (List.mem_cons_of_mem _ hx)
    have h1 := h l (List.mem_cons_self ..)
    rw [wof]
    split <;> split <;> omega
theorem g_all {L : List HL} (h : ∀ i, i < L.length → 1 ≤ (hlA L i).g) : ∀ l ∈ L, 1 ≤ l.g := by
  intro l hl
  obtain ⟨i, hi, rfl⟩ := List.getElem_of_mem hl
  have := h i hi
  simpa [hlA, List.getD, hi] using this
theorem g_all_take {L : List HL} (h : ∀ i, i < L.length → 1 ≤ (hlA L i).g) (k : Nat) : ∀ l ∈ L.take k, 1 ≤ l.g := fun l hl => g_all h l (List.mem_of_mem_take hl)
theorem need_le {D : List HD} {L : List HL} (h : ∀ i, i < L.length → 1 ≤ (hlA L i).g) (k i : Nat) : need D (L.take k) i ≤ need D L i := by
  have e : L = L.take k ++ L.drop k := (List.take_append_drop k L).symm
  unfold need
  have : wof i L = wof i (L.take k) + wof i (L.drop k) := by rw [← wof_app, ← e]
  have h2 : 0 ≤ wof i (L.drop k) := wof_nn' fun l hl => g_all h l (List.mem_of_mem_drop hl)
  omega
theorem Vld.toR {D : List HD} {L : List HL} {base : Int} (h : Vld D L base) : VldR D L base := by
  have hg : ∀ i, i < L.length → 1 ≤ (hlA L i).g := fun i hi => (h.lnk i hi).2.1
  refine ⟨h.n1, h.n2, h.b1, h.b2, fun i hi => ?_, fun i hi => ?_⟩
  · have h1 := h.amb i hi
    have h2 := h.cap i hi
    have h3 := need_le (D := D) hg 0 i
    have h4 : need D (L.take 0) i = (hdA D i).amb := by unfold need; simp [wof]
    exact ⟨h1.1, h2.2, by omega⟩
  · obtain ⟨he, h1, h2, h3⟩ := h.lnk i hi
    have key : ∀ j, j < D.length → need D (L.take (i + 1)) j ≤ (hdA D j).cap := fun j hj => Int.le_trans (need_le hg (i + 1) j) (h.cap j hj).1
    have ka := key (hlA L i).a.toNat (by have := he.1; have := he.2.1; omega)
    have kb := key (hlA L i).b.toNat (by have := he.2.2.1; have := he.2.2.2.1; omega)
    rw [need_succ D hi] at ka kb
    rw [if_pos rfl] at ka
    have hne : ¬ (hlA L i).b.toNat = (hlA L i).a.toNat := by have := he.2.2.2.2; have := he.1; have := he.2.2.1; omega
    rw [if_neg hne] at ka
    rw [if_neg (Ne.symm hne), if_pos rfl] at kb
    exact ⟨he, h1, by omega, by omega, h3⟩
theorem VldR.cap {D : List HD} {L : List HL} {base : Int} (h : VldR D L base) : ∀ k, k ≤ L.length → ∀ j, j < D.length → need D (L.take k) j ≤ (hdA D j).cap
  | 0, _, j, hj => by
    have h4 : need D (L.take 0) j = (hdA D j).amb := by unfold need; simp [wof]
    rw [h4]; exact (h.dom j hj).2.2
  | k + 1, hk, j, hj => by
    have ih := VldR.cap h k (by omega) j hj
    obtain ⟨he, h1, h2, h3, _⟩ := h.lnk k (by omega)
    rw [need_succ D (by omega)]
    have hne : ¬ (hlA L k).b.toNat = (hlA L k).a.toNat := by have := he.2.2.2.2; have := he.1; have := he.2.2.1; omega
    by_cases e1 : (hlA L k).a.toNat = j
    · rw [if_pos e1, if_neg (by rw [← e1]; exact hne)]
      rw [e1] at h2; omega
    · by_cases e2 : (hlA L k).b.toNat = j
      · rw [if_neg e1, if_pos e2]
        rw [e2] at h3; omega
      · rw [if_neg e1, if_neg e2]; omega
theorem VldR.toV {D : List HD} {L : List HL} {base : Int} (h : VldR D L base) : Vld D L base := by
  have hg : ∀ i, i < L.length → 1 ≤ (hlA L i).g := fun i hi => (h.lnk i hi).2.1
  refine ⟨h.n1, h.n2, h.b1, h.b2, fun i hi => ⟨(h.dom i hi).1, ?_⟩, fun i hi => ?_, fun i hi => ⟨?_, (h.dom i hi).2.1⟩⟩
  · have := h.dom i hi; omega
  · obtain ⟨he, h1, h2, _, h4⟩ := h.lnk i hi
    have ha : (hlA L i).a.toNat < D.length := by have := he.1; have := he.2.1; omega
    have hd := h.dom _ ha
    have hw : 0 ≤ wof (hlA L i).a.toNat (L.take i) := wof_nn' (g_all_take hg i)
    unfold need at h2
    exact ⟨he, h1, by omega, h4⟩
  · have := VldR.cap h L.length (Nat.le_refl _) i hi
    rwa [List.take_length] at this
theorem vld_iff {D : List HD} {L : List HL} {base : Int} : Vld D L base ↔ VldR D L base := ⟨Vld.toR, VldR.toV⟩
theorem Vld.ok {D : List HD} {L : List HL} {base : Int} (h : Vld D L base) : HOk D L := by
  refine ⟨fun i hi => (h.amb i hi).1, fun i hi => (h.cap i hi).1, fun l hl => ?_⟩
  obtain ⟨i, hi, rfl⟩ := List.getElem_of_mem hl
  obtain ⟨he, h1, _⟩ := h.lnk i hi
  have e : hlA L i = L[i] := by simp [hlA, List.getD, hi]
  rw [e] at he h1
  exact ⟨he.1, by have := he.1; have := he.2.1; omega, he.2.2.1, by have := he.2.2.1; have := he.2.2.2.1; omega, he.2.2.2.2, h1⟩
open Classical in
noncomputable def vldB (D : List HD) (L : List HL) (base : Int) : Bool := decide (Vld D L base)
open Classical in
theorem vldB_t {D : List HD} {L : List HL} {base : Int} (h : Vld D L base) : vldB D L base = true := by unfold vldB; exact decide_eq_true h
open Classical in
theorem vldB_f {D : List HD} {L : List HL} {base : Int} (h : ¬ Vld D L base) : vldB D L base = false := by unfold vldB; exact decide_eq_false h
end Go.Ctl
set_option linter.unusedSimpArgs false
set_option linter.unusedVariables false
namespace Go.Ctl
open Go.Sv
/-! ### What a capacity needs -/
def ndA (D : List HD) (i : Nat) : List Int := (List.range D.length).map fun k => if k < i then (hdA D k).amb else 0
def ndL (D : List HD) (L : List HL) (j : Nat) : List Int := (List.range D.length).map (need D (L.take j))
theorem ndA_len (D : List HD) (i : Nat) : (ndA D i).length = D.length := by simp [ndA]
theorem ndL_len (D : List HD) (L : List HL) (j : Nat) : (ndL D L j).length = D.length := by simp [ndL]
theorem ndA_zero (D : List HD) : ndA D 0 = List.replicate D.length 0 := by simp [ndA, List.map_const']
theorem ext0 {xs ys : List Int} (hl : xs.length = ys.length) (h : ∀ i, i < xs.length → xs.getD i 0 = ys.getD i 0) : xs = ys := by
  refine List.ext_getElem hl fun i h1 h2 => ?_
  have := h i h1
  simpa [List.getD, h1, h2] using this
theorem ndA_get (D : List HD) {i k : Nat} (h : k < D.length) : (ndA D i).getD k 0 = if k < i then (hdA D k).amb else 0 := by simp [ndA, List.getD, h]
theorem ndL_get (D : List HD) (L : List HL) {j k : Nat} (h : k < D.length) : (ndL D L j).getD k 0 = need D (L.take j) k := by simp [ndL, List.getD, h]
theorem ndA_succ (D : List HD) {i : Nat} (h : i < D.length) : (ndA D i).set i (hdA D i).amb = ndA D (i + 1) := by
  refine ext0 (by simp [ndA]) fun k hk => ?_
  rw [List.length_set, ndA_len] at hk
  rw [getD_set' _ _ _ _ (by rw [ndA_len]; exact h), ndA_get D hk, ndA_get D hk]
  by_cases e : i = k
  · subst e; rw [if_pos rfl, if_pos (by omega)]
  · rw [if_neg e]
    by_cases e2 : k < i
    · rw [if_pos e2, if_pos (by omega)]
    · rw [if_neg e2, if_neg (by omega)]
theorem ndA_end (D : List HD) (L : List HL) : ndA D D.length = ndL D L 0 := by
  refine ext0 (by simp [ndA, ndL]) fun k hk => ?_
  rw [ndA_len] at hk
  rw [ndA_get D hk, ndL_get D L hk, if_pos hk]
  unfold need
  simp [wof]
theorem ndL_succ {D : List HD} {L : List HL} {j : Nat} (hj : j < L.length) {a b : Nat} (ha : (hlA L j).a = a) (hb : (hlA L j).b = b) (ha2 : a < D.length) (hb2 : b < D.length) (hne : a ≠ b) :
    ((ndL D L j).set a ((ndL D L j).getD a 0 + (hlA L j).g)).set b (((ndL D L j).set a ((ndL D L j).getD a 0 + (hlA L j).g)).getD b 0 + (hlA L j).g) = ndL D L (j + 1) := by
  refine ext0 (by simp [ndL]) fun k hk => ?_
  rw [List.length_set, List.length_set, ndL_len] at hk
  rw [getD_set' _ _ _ _ (by rw [List.length_set, ndL_len]; exact hb2), getD_set' _ _ _ _ (by rw [ndL_len]; exact ha2), getD_set' _ _ _ _ (by rw [ndL_len]; exact ha2), ndL_get D L ha2, ndL_get D L hb2, ndL_get D L hk, ndL_get D L hk, need_succ D hj, ha, hb, Int.toNat_natCast, Int.toNat_natCast]
  by_cases e1 : b = k
  · subst e1; rw [if_pos rfl, if_neg hne, if_neg hne, if_pos rfl]; omega
  · rw [if_neg e1, if_neg e1]
    by_cases e2 : a = k
    · subst e2; rw [if_pos rfl, if_pos rfl]; omega
    · rw [if_neg e2, if_neg e2]; omega
/-- All needs stay small while the links' numbers are. -/
theorem need_bd {D : List HD} {L : List HL} (hD : ∀ i, i < D.length → 1 ≤ (hdA D i).amb ∧ (hdA D i).amb ≤ 16777216) : ∀ j, j ≤ L.length → (∀ i, i < j → 1 ≤ (hlA L i).g ∧ (hlA L i).g ≤ 16777216) → ∀ k, k < D.length → 0 ≤ need D (L.take j) k ∧ need D (L.take j) k ≤ 16777216 + 33554432 * j
  | 0, _, _, k, hk => by
    have := hD k hk
    unfold need
    simp only [List.take_zero, wof]
    omega
  | j + 1, hj, hg, k, hk => by
    have ih := need_bd hD j (by omega) (fun i hi => hg i (by omega)) k hk
    have h1 := hg j (by omega)
    rw [need_succ D (by omega)]
    split <;> split <;> omega
/-! ### Which pairs are linked -/
def lmx (L : List HL) (j : Nat) : List Bool := (List.range 256).map fun q => decide (∃ k, k < j ∧ pairEq (hlA L k) ⟨(q / 16 : Nat), (q % 16 : Nat), 0⟩)
theorem lmx_len (L : List HL) (j : Nat) : (lmx L j).length = 256 := by simp [lmx]
theorem lmx_zero (L : List HL) : lmx L 0 = List.replicate 256 false := by
  have h : (fun q : Nat => decide (∃ k, k < 0 ∧ pairEq (hlA L k) ⟨(q / 16 : Nat), (q % 16 : Nat), 0⟩)) = fun _ => false := by
    funext q
    exact decide_eq_false (by rintro ⟨k, hk, _⟩; omega)
  unfold lmx
  rw [h, List.map_const', List.length_range]
theorem lmx_get (L : List HL) (j : Nat) {a b : Nat} (ha : a < 16) (hb : b < 16) : (lmx L j).getD (a * 16 + b) false = decide (∃ k, k < j ∧ pairEq (hlA L k) ⟨a, b, 0⟩) := by
  have h1 : (a * 16 + b) / 16 = a := by omega
  have h2 : (a * 16 + b) % 16 = b := by omega
  simp only [lmx, List.getD, List.getElem?_map, List.getElem?_range (show a * 16 + b < 256 by omega), Option.map_some, Option.getD_some, h1, h2]
theorem lmx_succ {L : List HL} {j : Nat} {a b : Nat} (ha : (hlA L j).a = a) (hb : (hlA L j).b = b) (ha2 : a < 16) (hb2 : b < 16) : ((lmx L j).set (a * 16 + b) true).set (b * 16 + a) true = lmx L (j + 1) := by
  refine List.ext_getElem (by simp [lmx]) fun q h1 h2 => ?_
  have hq : q < 256 := by simpa [lmx] using h2
  have hpair : pairEq (hlA L j) ⟨(q / 16 : Nat), (q % 16 : Nat), 0⟩ ↔ (q = a * 16 + b ∨ q = b * 16 + a) := by
    unfold pairEq
    simp only [ha, hb]
    omega
  have hex : (∃ k, k < j + 1 ∧ pairEq (hlA L k) ⟨(q / 16 : Nat), (q % 16 : Nat), 0⟩) ↔ ((∃ k, k < j ∧ pairEq (hlA L k) ⟨(q / 16 : Nat), (q % 16 : Nat), 0⟩) ∨ (q = a * 16 + b ∨ q = b * 16 + a)) := by
    constructor
    · rintro ⟨k, hk, hp⟩
      by_cases e : k = j
      · subst e; exact .inr (hpair.1 hp)
      · exact .inl ⟨k, by omega, hp⟩
    · rintro (⟨k, hk, hp⟩ | h)
      · exact ⟨k, by omega, hp⟩
      · exact ⟨j, by omega, hpair.2 h⟩
  simp only [List.getElem_set, lmx, List.getElem_map, List.getElem_range]
  by_cases e1 : b * 16 + a = q
  · rw [if_pos e1, decide_eq_true (hex.2 (.inr (.inr e1.symm)))]
  · rw [if_neg e1]
    by_cases e2 : a * 16 + b = q
    · rw [if_pos e2, decide_eq_true (hex.2 (.inr (.inl e2.symm)))]
    · rw [if_neg e2]
      refine decide_eq_decide.2 ?_
      rw [hex]
      constructor
      · exact fun h => .inl h
      · rintro (h | h | h)
        · exact h
        · exact absurd h.symm e2
        · exact absurd h.symm e1
theorem lnk_new {L : List HL} {j : Nat} {a b : Nat} (ha : (hlA L j).a = a) (hb : (hlA L j).b = b) : (∃ k, k < j ∧ pairEq (hlA L k) ⟨a, b, 0⟩) ↔ ¬ ∀ k, k < j → ¬ pairEq (hlA L k) (hlA L j) := by
  have e : ∀ k, pairEq (hlA L k) ⟨a, b, 0⟩ ↔ pairEq (hlA L k) (hlA L j) := fun k => by unfold pairEq; rw [ha, hb]
  constructor
  · rintro ⟨k, hk, hp⟩ h
    exact h k hk ((e k).1 hp)
  · intro h
    refine Classical.byContradiction fun h2 => h fun k hk hp => h2 ⟨k, hk, (e k).2 hp⟩
/-! ### A step -/
def E1k (D : List HD) (T : List Int) (base : Int) (E p : List Int) (k : Nat) : List Int := (List.range E.length).map fun i => if i < k then E.getD i 0 + (p.getD i 0 - outM D T base i) else E.getD i 0
theorem E1k_len (D : List HD) (T : List Int) (base : Int) (E p : List Int) (k : Nat) : (E1k D T base E p k).length = E.length := by simp [E1k]
theorem E1k_get (D : List HD) (T : List Int) (base : Int) (E p : List Int) (k : Nat) {i : Nat} (h : i < E.length) : (E1k D T base E p k).getD i 0 = if i < k then E.getD i 0 + (p.getD i 0 - outM D T base i) else E.getD i 0 := by
  simp [E1k, List.getD, h]
theorem E1k_zero (D : List HD) (T : List Int) (base : Int) (E p : List Int) : E1k D T base E p 0 = E := by
  refine ext0 (E1k_len ..) fun i hi => ?_
  rw [E1k_len] at hi
  rw [E1k_get _ _ _ _ _ _ hi, if_neg (by omega)]
theorem E1k_end (D : List HD) (T : List Int) (base : Int) (E p : List Int) : E1k D T base E p E.length = step1 D T base E p := by
  refine ext0 (by simp [E1k, step1]) fun i hi => ?_
  rw [E1k_len] at hi
  rw [E1k_get _ _ _ _ _ _ hi, if_pos hi, step1_at hi]
theorem E1k_succ (D : List HD) (T : List Int) (base : Int) (E p : List Int) {k : Nat} (h : k < E.length) : (E1k D T base E p k).set k (E.getD k 0 + (p.getD k 0 - outM D T base k)) = E1k D T base E p (k + 1) := by
  refine ext0 (by simp [E1k]) fun i hi => ?_
  rw [List.length_set, E1k_len] at hi
  rw [getD_set' _ _ _ _ (by rw [E1k_len]; exact h), E1k_get _ _ _ _ _ _ hi, E1k_get _ _ _ _ _ _ hi]
  by_cases e : k = i
  · subst e; rw [if_pos rfl, if_pos (by omega)]
  · rw [if_neg e]
    by_cases e2 : i < k
    · rw [if_pos e2, if_pos (by omega)]
    · rw [if_neg e2, if_neg (by omega)]
def E2j (T : List Int) (L : List HL) (E : List Int) (j : Nat) : List Int := (L.take j).foldl (flw T) E
theorem E2j_zero (T : List Int) (L : List HL) (E : List Int) : E2j T L E 0 = E := rfl
theorem E2j_end (T : List Int) (L : List HL) (E : List Int) : E2j T L E L.length = L.foldl (flw T) E := by rw [E2j, List.take_length]
theorem E2j_succ (T : List Int) {L : List HL} (E : List Int) {j : Nat} (h : j < L.length) : E2j T L E (j + 1) = flw T (E2j T L E j) (hlA L j) := by
  rw [E2j, hl_take h, List.foldl_append]; rfl
theorem E2j_len (T : List Int) (L : List HL) (E : List Int) (j : Nat) : (E2j T L E j).length = E.length := by
  unfold E2j
  generalize L.take j = M
  induction M generalizing E with
  | nil => rfl
  | cons l r ih => rw [List.foldl_cons, ih, flw_len]
/-- Products of small numbers. -/
theorem mul_bd {a b m n : Int} (h1 : 0 ≤ a) (h2 : a ≤ m) (h3 : 0 ≤ b) (h4 : b ≤ n) : 0 ≤ a * b ∧ a * b ≤ m * n := by
  refine ⟨Int.mul_nonneg h1 h3, ?_⟩
  exact Int.le_trans (Int.mul_le_mul_of_nonneg_right h2 h3) (Int.mul_le_mul_of_nonneg_left h4 (by omega))
theorem mul_abs {a b m n : Int} (h1 : 0 ≤ a) (h2 : a ≤ m) (h3 : -n ≤ b) (h4 : b ≤ n) : -(m * n) ≤ a * b ∧ a * b ≤ m * n := by
  constructor
  · have h5 := mul_bd h1 h2 (b := n + b) (n := n + n) (by omega) (by omega)
    by_cases h : 0 ≤ b
    · have := mul_bd h1 h2 h h4
      have : 0 ≤ m * n := Int.mul_nonneg (by omega) (by omega)
      omega
    · have := mul_bd h1 h2 (b := -b) (n := n) (by omega) (by omega)
      rw [Int.mul_neg] at this
      omega
  · by_cases h : 0 ≤ b
    · exact (mul_bd h1 h2 h h4).2
    · have := mul_bd h1 h2 (b := -b) (n := n) (by omega) (by omega)
      rw [Int.mul_neg] at this
      have h9 : 0 ≤ m * n := Int.mul_nonneg (by omega) (by omega)
      omega
/-- The energy of a temperature. -/
theorem en_bd {D : List HD} {L : List HL} {base hi : Int} {E : List Int} (hv : Vld D L base) (hh : hi ≤ 33554432) (hT : ∀ j, j < D.length → base ≤ tmp D E j ∧ tmp D E j ≤ hi) {i : Nat} (h : i < D.length) :
    -1125899906842624 ≤ E.getD i 0 ∧ E.getD i 0 ≤ 1125899906842624 := by
  have hc := hv.ok.capPos h
  have hc2 := (hv.cap i h).2
  have hb1 := hv.b1
  obtain ⟨t1, t2⟩ := hT i h
  unfold tmp at t1 t2
  change 1 ≤ (hdA D i).cap at hc
  generalize (D.getD i hd0).cap = C at *
  generalize E.getD i 0 = e at *
  have q1 : C * (e / C) ≤ e := Int.mul_ediv_self_le (by omega)
  have q2 : e < C * (e / C) + C := Int.lt_mul_ediv_self_add (by omega)
  have q3 := mul_abs (a := C) (b := e / C) (m := 16777216) (n := 33554432) (by omega) hc2 (by omega) (by omega)
  omega
theorem out_bd {D : List HD} {L : List HL} {base hi : Int} {E : List Int} (hv : Vld D L base) (hh : hi ≤ 33554432) (hT : ∀ j, j < D.length → base ≤ tmp D E j ∧ tmp D E j ≤ hi) {i : Nat} (h : i < D.length) :
    0 ≤ outM D (tmps D E) base i ∧ outM D (tmps D E) base i ≤ 1125899906842624 := by
  have ha := hv.amb i h
  have hb1 := hv.b1
  obtain ⟨t1, t2⟩ := hT i h
  unfold outM
  rw [tmps_at h]
  have := mul_bd (a := (hdA D i).amb) (b := tmp D E i - base) (m := 16777216) (n := 50331648) (by omega) ha.2 (by omega) (by omega)
  show 0 ≤ (hdA D i).amb * (tmp D E i - base) ∧ (hdA D i).amb * (tmp D E i - base) ≤ 1125899906842624
  omega
theorem lnks {D : List HD} {L : List HL} {base : Int} (hv : Vld D L base) (j : Nat) : ∀ l ∈ L.take j, 0 ≤ l.a ∧ l.a.toNat < D.length ∧ 0 ≤ l.b ∧ l.b.toNat < D.length ∧ l.a ≠ l.b ∧ 1 ≤ l.g := fun l hl => hv.ok.lnk l (List.mem_of_mem_take hl)
theorem wof_le {D : List HD} {L : List HL} {base : Int} (hv : Vld D L base) (j : Nat) {i : Nat} (h : i < D.length) : 0 ≤ wof i (L.take j) ∧ wof i (L.take j) ≤ 16777216 := by
  have h1 := wof_nn (i := i) (lnks hv j)
  have h2 := wof_nn (i := i) (D := D) (L := L.drop j) fun l hl => hv.ok.lnk l (List.mem_of_mem_drop hl)
  have h3 : wof i L = wof i (L.take j) + wof i (L.drop j) := by rw [← wof_app, List.take_append_drop]
  have h4 := (hv.cap i h)
  have h5 := hv.amb i h
  unfold need at h4
  exact ⟨h1, by omega⟩
/-- The energies while the links are passed. -/
theorem E2_bd {D : List HD} {L : List HL} {base hi : Int} {E p : List Int} (hv : Vld D L base) (hE : E.length = D.length) (hh : hi ≤ 33554432) (hT : ∀ j, j < D.length → base ≤ tmp D E j ∧ tmp D E j ≤ hi)
    (hp : ∀ j, j < D.length → 0 ≤ p.getD j 0 ∧ p.getD j 0 ≤ 16777216) (j : Nat) {i : Nat} (h : i < D.length) :
    -9007199254740992 ≤ (E2j (tmps D E) L (step1 D (tmps D E) base E p) j).getD i 0 ∧ (E2j (tmps D E) L (step1 D (tmps D E) base E p) j).getD i 0 ≤ 9007199254740992 := by
  have hT' : ∀ j, j < D.length → base ≤ (tmps D E).getD j 0 ∧ (tmps D E).getD j 0 ≤ hi := fun j hj => by rw [tmps_at hj]; exact hT j hj
  obtain ⟨_, f1, f2⟩ := fold_bd hT' i (L.take j) (step1 D (tmps D E) base E p) (by simp [step1, hE]) h (lnks hv j)
  rw [step1_at (by omega)] at f1 f2
  have e1 := en_bd hv hh hT h
  have e2 := out_bd hv hh hT h
  have e3 := hp i h
  have e4 := wof_le hv j h
  have e5 := hT' i h
  have hb1 := hv.b1
  have m1 := mul_bd (a := wof i (L.take j)) (b := (tmps D E).getD i 0 - base) (m := 16777216) (n := 50331648) e4.1 e4.2 (by omega) (by omega)
  have m2 := mul_bd (a := wof i (L.take j)) (b := hi - (tmps D E).getD i 0) (m := 16777216) (n := 50331648) e4.1 e4.2 (by omega) (by omega)
  unfold E2j
  omega
theorem flow_bd {D : List HD} {L : List HL} {base hi : Int} {E : List Int} (hv : Vld D L base) (hh : hi ≤ 33554432) (hT : ∀ j, j < D.length → base ≤ tmp D E j ∧ tmp D E j ≤ hi) {a b : Nat} (ha : a < D.length) (hb : b < D.length) {g : Int} (hg : 1 ≤ g) (hg2 : g ≤ 16777216) :
    (-50331648 ≤ (tmps D E).getD a 0 - (tmps D E).getD b 0 ∧ (tmps D E).getD a 0 - (tmps D E).getD b 0 ≤ 50331648) ∧ -844424930131968 ≤ g * ((tmps D E).getD a 0 - (tmps D E).getD b 0) ∧ g * ((tmps D E).getD a 0 - (tmps D E).getD b 0) ≤ 844424930131968 := by
  have h1 := hT a ha
  have h2 := hT b hb
  have hb1 := hv.b1
  rw [tmps_at ha, tmps_at hb]
  have := mul_abs (a := g) (b := tmp D E a - tmp D E b) (m := 16777216) (n := 50331648) (by omega) hg2 (by omega) (by omega)
  refine ⟨by omega, ?_, ?_⟩ <;> omega
end Go.Ctl
set_option linter.unusedSimpArgs false
set_option linter.unusedVariables false
namespace Go.Ctl
open Go.Sv
structure Act where
  rq : Int
  mn : Int
  mx : Int
deriving DecidableEq
def act0 : Act := ⟨0, 0, 0⟩
abbrev acA (l : List Act) (i : Nat) : Act := l.getD i act0
def wnt (a : Act) : Int := min (max a.rq a.mn) a.mx
def atM (a : Act) (l : Int) : Int := min (max l a.mn) (wnt a)
structure AOk (a : Act) : Prop where
  r : 0 ≤ a.rq
  m : 0 ≤ a.mn
  mm : a.mn ≤ a.mx
  x : a.mx ≤ 4294967296
theorem AOk.bd {a : Act} (h : AOk a) {l : Int} (hl : 0 ≤ l) : 0 ≤ atM a l ∧ atM a l ≤ wnt a ∧ wnt a ≤ 4294967296 ∧ 0 ≤ wnt a := by
  have h1 := h.r; have h2 := h.m; have h3 := h.mm; have h4 := h.x
  unfold atM wnt
  omega
def totK (as : List Act) (l : Int) : Nat → Int
  | 0 => 0
  | k + 1 => totK as l k + atM (acA as k) l
def tot (as : List Act) (l : Int) : Int := totK as l as.length
theorem totK_bd {as : List Act} (h : ∀ i, i < as.length → AOk (acA as i)) {l : Int} (hl : 0 ≤ l) : ∀ k, k ≤ as.length → 0 ≤ totK as l k ∧ totK as l k ≤ 4294967296 * k
  | 0, _ => by simp [totK]
  | k + 1, hk => by
    obtain ⟨h1, h2⟩ := totK_bd h hl k (by omega)
    have h3 := (h k (by omega)).bd hl
    rw [totK]
    omega
def sumK (g : List Int) : Nat → Int
  | 0 => 0
  | k + 1 => sumK g k + g.getD k 0
theorem sumK_set {g : List Int} {i : Nat} {v : Int} : ∀ k, k ≤ i → sumK (g.set i v) k = sumK g k
  | 0, _ => rfl
  | k + 1, hk => by
    rw [sumK, sumK, sumK_set k (by omega), getD_set_other _ _ _ (by omega)]
/-- What a distribution keeps. -/
structure Alc (as : List Act) (b : Int) (g : List Int) : Prop where
  len : g.length = as.length
  bd : ∀ i, i < as.length → 0 ≤ g.getD i 0 ∧ g.getD i 0 ≤ wnt (acA as i)
  sum : sumK g as.length ≤ b
  all : tot as 4294967296 ≤ b → ∀ i, i < as.length → g.getD i 0 = atM (acA as i) 4294967296
/-- The distribution under way. -/
structure AlcI (as : List Act) (b lv : Int) (g : List Int) (rest : Int) (k : Nat) : Prop where
  len : g.length = as.length
  kl : k ≤ as.length
  bd : ∀ i, i < k → 0 ≤ g.getD i 0 ∧ g.getD i 0 ≤ wnt (acA as i)
  r0 : 0 ≤ rest
  sum : sumK g k + rest + (tot as lv - totK as lv k) ≤ b
  all : tot as 4294967296 ≤ b → lv = 4294967296 ∧ ∀ i, i < k → g.getD i 0 = atM (acA as i) 4294967296
theorem AlcI.next0 {as : List Act} {b lv rest : Int} {g : List Int} {k : Nat} (h : AlcI as b lv g rest k) (hA : ∀ i, i < as.length → AOk (acA as i)) (hl : 0 ≤ lv) (hk : k < as.length) : AlcI as b lv (g.set k (atM (acA as k) lv)) rest (k + 1) := by
  have hb := (hA k hk).bd hl
  refine ⟨by rw [List.length_set]; exact h.len, hk, fun i hi => ?_, h.r0, ?_, fun ht => ⟨(h.all ht).1, fun i hi => ?_⟩⟩
  · by_cases e : k = i
    · subst e; rw [getD_set_self _ _ _ _ (by rw [h.len]; exact hk)]; exact ⟨hb.1, hb.2.1⟩
    · rw [getD_set_other _ _ _ e]; exact h.bd i (by omega)
  · rw [sumK, sumK_set k (Nat.le_refl _), getD_set_self _ _ _ _ (by rw [h.len]; exact hk), totK]
    have := h.sum; omega
  · by_cases e : k = i
    · subst e; rw [getD_set_self _ _ _ _ (by rw [h.len]; exact hk), (h.all ht).1]
    · rw [getD_set_other _ _ _ e]; exact (h.all ht).2 i (by omega)
theorem AlcI.next1 {as : List Act} {b lv rest : Int} {g : List Int} {k : Nat} (h : AlcI as b lv g rest k) (hA : ∀ i, i < as.length → AOk (acA as i)) (hl : 0 ≤ lv) (hk : k < as.length) (hr : 0 < rest) (h1 : (acA as k).mn ≤ lv) (h2 : lv < wnt (acA as k)) :
    AlcI as b lv (g.set k (atM (acA as k) lv + 1)) (rest - 1) (k + 1) := by
  have hb := (hA k hk).bd hl
  have hat : atM (acA as k) lv = lv := by unfold atM; omega
  refine ⟨by rw [List.length_set]; exact h.len, hk, fun i hi => ?_, by omega, ?_, fun ht => ?_⟩
  · by_cases e : k = i
    · subst e; rw [getD_set_self _ _ _ _ (by rw [h.len]; exact hk)]; omega
    · rw [getD_set_other _ _ _ e]; exact h.bd i (by omega)
  · rw [sumK, sumK_set k (Nat.le_refl _), getD_set_self _ _ _ _ (by rw [h.len]; exact hk), totK]
    have := h.sum; omega
  · exfalso
    have h3 := (h.all ht).1
    omega
theorem AlcI.fin {as : List Act} {b lv rest : Int} {g : List Int} (h : AlcI as b lv g rest as.length) : Alc as b g :=
  ⟨h.len, h.bd, by have := h.sum; have := h.r0; unfold tot at *; omega, fun ht => (h.all ht).2⟩
theorem AlcI.start {as : List Act} {b lv : Int} (h : tot as lv ≤ b) (hl : tot as 4294967296 ≤ b → lv = 4294967296) : AlcI as b lv (List.replicate as.length 0) (b - tot as lv) 0 :=
  ⟨List.length_replicate, Nat.zero_le _, fun i hi => by omega, by omega, by simp only [sumK, totK]; omega, fun ht => ⟨hl ht, fun i hi => by omega⟩⟩
theorem tot_mono_zero {as : List Act} (h : ∀ i, i < as.length → AOk (acA as i)) (h0 : ∀ i, i < as.length → (acA as i).mn = 0) : tot as 0 = 0 := by
  have : ∀ k, k ≤ as.length → totK as 0 k = 0 := by
    intro k
    induction k with
    | zero => intro _; rfl
    | succ k ih =>
      intro hk
      have h1 := h k (by omega)
      have h2 := h0 k (by omega)
      have h3 := h1.r; have h4 := h1.mm
      rw [totK, ih (by omega)]
      unfold atM wnt
      omega
  exact this _ (Nat.le_refl _)
end Go.Ctl
set_option linter.unusedSimpArgs false
set_option linter.unusedVariables false
namespace Go.Ctl
open Go.Sv Go.Perf
structure Trp where
  kd : Int
  tp : Int
  hy : Int
deriving DecidableEq
def trp0 : Trp := ⟨0, 0, 0⟩
abbrev trA (l : List Trp) (i : Nat) : Trp := l.getD i trp0
def badT (t : Trp) : Prop := ¬ (t.kd = 1 ∨ t.kd = 2 ∨ t.kd = 3) ∨ t.tp < -67108864 ∨ 67108864 < t.tp ∨ t.hy < 0 ∨ 16777216 < t.hy
instance (t : Trp) : Decidable (badT t) := inferInstanceAs (Decidable (_ ∨ _ ∨ _ ∨ _ ∨ _))
def okTr (l : List Trp) : Prop := l.length ≤ 12 ∧ ∀ i, i < l.length → ¬ badT (trA l i)
instance (l : List Trp) : Decidable (okTr l) := inferInstanceAs (Decidable (_ ∧ ∀ i, i < l.length → ¬ badT (trA l i)))
def chkT (l : List Trp) : Int := if okTr l then 0 else 1
theorem chkT_long {l : List Trp} (h : ¬ l.length ≤ 12) : chkT l = 1 := if_neg fun k => h k.1
theorem chkT_bad {l : List Trp} {i : Nat} (h : i < l.length) (hb : badT (trA l i)) : chkT l = 1 := if_neg fun k => k.2 i h hb
theorem chkT_ok {l : List Trp} (h : l.length ≤ 12) (hb : ∀ i, i < l.length → ¬ badT (trA l i)) : chkT l = 0 := if_pos ⟨h, hb⟩
structure Zn where
  tr : List Trp
  on : List Bool
  lv : Int
  at_ : Int
structure Zn.ok (z : Zn) : Prop where
  t : okTr z.tr
  l : z.on.length = z.tr.length
  v0 : 0 ≤ z.lv
  v1 : z.lv ≤ 64
  a0 : 0 ≤ z.at_
  a1 : z.at_ ≤ z.lv
def zn0 (tr : List Trp) (lv : Int) : Zn := ⟨tr, List.replicate tr.length false, lv, 0⟩
theorem zn0_ok {tr : List Trp} {lv : Int} (h : chkT tr = 0) (h0 : 0 ≤ lv) (h1 : lv ≤ 64) : (zn0 tr lv).ok := by
  have ht : okTr tr := by
    refine Decidable.byContradiction fun k => ?_
    rw [chkT, if_neg k] at h; cases h
  exact ⟨ht, List.length_replicate, h0, h1, Int.le_refl _, h0⟩
/-- The next state of a zone: only its levels count. -/
structure Zn.nx (z z2 : Zn) : Prop where
  tr : z2.tr = z.tr
  lv : z2.lv = z.lv
  on : z2.on.length = z.on.length
  a0 : 0 ≤ z2.at_
  a1 : z2.at_ ≤ z2.lv
theorem Zn.nx.ok {z z2 : Zn} (h : z.nx z2) (k : z.ok) : z2.ok := ⟨h.tr ▸ k.t, by rw [h.on, h.tr]; exact k.l, h.lv ▸ k.v0, h.lv ▸ k.v1, h.a0, h.a1⟩
/-! ### Points and grants -/
def thrK (ys : List Pt) (g : Int) : Nat → Int
  | 0 => -1
  | k + 1 => if (pt ys k).p ≤ g then (k : Int) else thrK ys g k
theorem thrK_bd (ys : List Pt) (g : Int) : ∀ k, thrK ys g k = -1 ∨ ∃ j : Nat, thrK ys g k = j ∧ j < k ∧ (pt ys j).p ≤ g
  | 0 => .inl rfl
  | k + 1 => by
    rw [thrK]
    split
    · rename_i h; exact .inr ⟨k, rfl, by omega, h⟩
    · rcases thrK_bd ys g k with h | ⟨j, h1, h2, h3⟩
      · exact .inl h
      · exact .inr ⟨j, h1, by omega, h3⟩
def thrV (ys : List Pt) (g : Int) : Int × Int := if chkM ys = 0 then (if thrK ys g ys.length < 0 then (0, 6) else (thrK ys g ys.length, 0)) else (0, chkM ys)
def powM (ys : List Pt) (ld g : Int) : Int := if ld = 0 ∨ (thrV ys g).2 ≠ 0 then 0 else ((pt ys (thrV ys g).1.toNat).p * ld).tdiv 100
theorem powM_zero (ys : List Pt) (g : Int) : powM ys 0 g = 0 := if_pos (.inl rfl)
theorem powM_bd {ys : List Pt} (h : okT ys) (hf : fitT ys) {ld g : Int} (h0 : 0 ≤ ld) (h1 : ld ≤ 100) (hg : 0 ≤ g) : 0 ≤ powM ys ld g ∧ powM ys ld g ≤ g ∧ powM ys ld g ≤ (pt ys (ys.length - 1)).p := by
  have hlast : 0 ≤ (pt ys (ys.length - 1)).p := (hf _).2.2.1
  unfold powM
  split
  · exact ⟨Int.le_refl _, hg, hlast⟩
  · rename_i hn
    have hc : chkM ys = 0 := if_pos h
    have hv : thrV ys g = (if thrK ys g ys.length < 0 then (0, 6) else (thrK ys g ys.length, 0)) := if_pos hc
    have hk : ¬ thrK ys g ys.length < 0 := by
      intro hk
      refine hn (.inr ?_)
      rw [hv, if_pos hk]; decide
    rw [hv, if_neg hk]
    rcases thrK_bd ys g ys.length with h2 | ⟨j, h2, h3, h4⟩
    · omega
    · rw [h2]
      show 0 ≤ ((pt ys j).p * ld).tdiv 100 ∧ ((pt ys j).p * ld).tdiv 100 ≤ g ∧ ((pt ys j).p * ld).tdiv 100 ≤ (pt ys (ys.length - 1)).p
      have hp := (hf j).2.2.1
      have hle : (pt ys j).p ≤ (pt ys (ys.length - 1)).p := by
        by_cases e : j = ys.length - 1
        · rw [e]; exact Int.le_refl _
        · exact (okT_p h (i := j) (j := ys.length - 1) (by omega) (by omega))
      have hm : (pt ys j).p * ld ≤ (pt ys j).p * 100 := Int.mul_le_mul_of_nonneg_left h1 hp
      have hm0 : 0 ≤ (pt ys j).p * ld := Int.mul_nonneg hp h0
      rw [Int.tdiv_eq_ediv_of_nonneg hm0]
      omega
where
  okT_p {ys : List Pt} (h : okT ys) {i j : Nat} (hij : i < j) (hj : j < ys.length) : (pt ys i).p ≤ (pt ys j).p := by
    induction j with
    | zero => omega
    | succ j ih =>
      have hb := h.2 (j + 1) hj
      have h1 : ¬ lowP (pt ys (j + 1)) (pt ys j) := fun k => hb (.inr ⟨by omega, by simpa using k⟩)
      unfold lowP at h1
      by_cases e : i = j
      · rw [e]; omega
      · have := ih (by omega) (by omega); omega
end Go.Ctl
set_option linter.unusedSimpArgs false
set_option linter.unusedVariables false
namespace Go.Ctl
open Go.Sv Go.Perf
/-- A domain of the control. -/
structure Dom where
  ys : List Pt
  up : Int
  dn : Int
  sm : Int
  tr : List Trp
  gr : Int
  ld : Int
  g : Gov
  z : Zn
  hi : Nat
structure Dom.ok (x : Dom) : Prop where
  t : okT x.ys
  f : fitT x.ys
  g : x.g.ok
  gy : x.g.ys = x.ys
  e : newE x.ys x.up x.dn x.sm = 0
  tr : chkT x.tr = 0
  z : x.z.ok
  zl : x.z.lv = 16
  h : x.hi < x.ys.length
  l0 : 0 ≤ x.ld
  l1 : x.ld ≤ 100
  g0 : 0 ≤ x.gr
  g1 : x.gr ≤ 16777216
/-- The highest permitted point. -/
def topM (x : Dom) : Nat := (max 0 ((x.ys.length : Int) - 1 - x.z.at_)).toNat
def reqG (x : Dom) (ld : Int) : Gov := sampG (if (topM x : Int) = x.hi then x.g else limG x.g 0 (topM x)) ld
def reqV (x : Dom) (ld : Int) : Int := if ld = 0 then 0 else (pt x.ys (reqG x ld).cu).p
def reqD (x : Dom) (ld : Int) : Dom := { x with g := reqG x ld, hi := topM x }
def resD (x : Dom) : Dom := { x with g := gov0 x.ys x.up x.dn x.sm, z := zn0 x.tr 16, hi := x.ys.length - 1 }
theorem topM_lt {x : Dom} (h : x.ok) : topM x < x.ys.length := by
  have h1 := h.t.1.1
  have h2 := h.z.a0
  unfold topM
  omega
theorem lim_ys (g : Gov) (l h : Int) : (limG g l h).ys = g.ys := by unfold limG; split <;> rfl
theorem samp_ys' (g : Gov) (x : Int) : (sampG g x).ys = g.ys := by
  unfold sampG
  split
  · split
    · rfl
    · split
      · split <;> rfl
      · rfl
  · rfl
theorem resD_ok {x : Dom} (h : x.ok) : (resD x).ok :=
  ⟨h.t, h.f, gov0_ok h.e, rfl, h.e, h.tr, zn0_ok h.tr (by decide) (by decide), rfl, by have := h.t.1.1; show x.ys.length - 1 < x.ys.length; omega, h.l0, h.l1, h.g0, h.g1⟩
/-! ### Powers -/
def ldM (md : Int) (x : Dom) : Int := if md = 1 then x.ld else 0
def actM (md : Int) (x : Dom) : Act := ⟨reqV x (ldM md x), 0, x.gr⟩
def dom0 : Dom := ⟨[], 0, 0, 0, [], 0, 0, gov0 [] 0 0 0, zn0 [] 0, 0⟩
abbrev dmA (l : List Dom) (i : Nat) : Dom := l.getD i dom0
/-- The powers of a run in a mode other than off. -/
def PwR (ds : List Dom) (md b : Int) (p : List Int) : Prop := ∃ g, Alc (ds.map (actM md)) b g ∧ p = (List.range ds.length).map fun i => powM (dmA ds i).ys (ldM md (dmA ds i)) (g.getD i 0)
structure PwOk (ds : List Dom) (md b : Int) (p : List Int) : Prop where
  len : p.length = ds.length
  lo : ∀ i, i < ds.length → 0 ≤ p.getD i 0
  gr : ∀ i, i < ds.length → p.getD i 0 ≤ (dmA ds i).gr
  top : ∀ i, i < ds.length → p.getD i 0 ≤ (pt (dmA ds i).ys ((dmA ds i).ys.length - 1)).p
  off : ∀ i, i < ds.length → ldM md (dmA ds i) = 0 → p.getD i 0 = 0
  sum : sumK p ds.length ≤ b
theorem ldM_bd {md : Int} {x : Dom} (h : x.ok) : 0 ≤ ldM md x ∧ ldM md x ≤ 100 := by
  unfold ldM
  have h1 := h.l0; have h2 := h.l1
  split <;> omega
theorem act_at {ds : List Dom} {md : Int} {i : Nat} (h : i < ds.length) : acA (ds.map (actM md)) i = actM md (dmA ds i) := by
  simp [acA, dmA, List.getD, h]
theorem pw_ok {ds : List Dom} {md b : Int} {p : List Int} (hd : ∀ i, i < ds.length → (dmA ds i).ok) (h : PwR ds md b p) : PwOk ds md b p := by
  obtain ⟨g, hg, rfl⟩ := h
  have hget : ∀ i, i < ds.length → ((List.range ds.length).map fun i => powM (dmA ds i).ys (ldM md (dmA ds i)) (g.getD i 0)).getD i 0 = powM (dmA ds i).ys (ldM md (dmA ds i)) (g.getD i 0) := fun i hi => by simp [List.getD, hi]
  have hb : ∀ i, i < ds.length → 0 ≤ g.getD i 0 ∧ g.getD i 0 ≤ (dmA ds i).gr := fun i hi => by
    have h1 := hg.bd i (by rw [List.length_map]; exact hi)
    rw [act_at hi] at h1
    refine ⟨h1.1, ?_⟩
    have h2 := h1.2
    unfold wnt actM at h2
    simp only at h2
    omega
  have key : ∀ i, i < ds.length → 0 ≤ powM (dmA ds i).ys (ldM md (dmA ds i)) (g.getD i 0) ∧ powM (dmA ds i).ys (ldM md (dmA ds i)) (g.getD i 0) ≤ g.getD i 0 ∧ powM (dmA ds i).ys (ldM md (dmA ds i)) (g.getD i 0) ≤ (pt (dmA ds i).ys ((dmA ds i).ys.length - 1)).p := fun i hi =>
    powM_bd (hd i hi).t (hd i hi).f (ldM_bd (hd i hi)).1 (ldM_bd (hd i hi)).2 (hb i hi).1
  refine ⟨by simp, fun i hi => ?_, fun i hi => ?_, fun i hi => ?_, fun i hi h0 => ?_, ?_⟩
  · rw [hget i hi]; exact (key i hi).1
  · rw [hget i hi]; exact Int.le_trans (key i hi).2.1 (hb i hi).2
  · rw [hget i hi]; exact (key i hi).2.2
  · rw [hget i hi, h0, powM_zero]
  · have hs := hg.sum
    rw [List.length_map] at hs
    refine Int.le_trans ?_ hs
    have : ∀ k, k ≤ ds.length → sumK ((List.range ds.length).map fun i => powM (dmA ds i).ys (ldM md (dmA ds i)) (g.getD i 0)) k ≤ sumK g k := by
      intro k
      induction k with
      | zero => intro _; exact Int.le_refl _
      | succ k ih =>
        intro hk
        rw [sumK, sumK, hget k (by omega)]
        have h1 := ih (by omega)
        have h2 := (key k (by omega)).2.1
        omega
    exact this _ (Nat.le_refl _)
theorem pw_off {ds : List Dom} {b : Int} (hb : 0 ≤ b) (hd : ∀ i, i < ds.length → (dmA ds i).ok) (md : Int) : PwOk ds md b (List.replicate ds.length 0) := by
  have hg : ∀ i, i < ds.length → (List.replicate ds.length (0 : Int)).getD i 0 = 0 := fun i hi => by simp [List.getD, hi]
  have hs : ∀ k, k ≤ ds.length → sumK (List.replicate ds.length (0 : Int)) k = 0 := by
    intro k
    induction k with
    | zero => intro _; rfl
    | succ k ih => intro hk; rw [sumK, ih (by omega), hg k (by omega)]; rfl
  refine ⟨List.length_replicate, fun i hi => by rw [hg i hi]; exact Int.le_refl _, fun i hi => by rw [hg i hi]; exact (hd i hi).g0, fun i hi => by rw [hg i hi]; exact ((hd i hi).f _).2.2.1, fun i hi _ => hg i hi, by rw [hs _ (Nat.le_refl _)]; exact hb⟩
/-! ### The whole -/
structure TS where
  ds : List Dom
  D : List HD
  L : List HL
  base : Int
  E : List Int
  rel : Int
  bud : Int
  p : List Int
def grM (d : HD) (base lim : Int) : Int := min (d.amb * (lim - base)) 16777216
structure TS.ok (T : TS) (lim : Int) : Prop where
  v : Vld T.D T.L T.base
  n : T.ds.length = T.D.length
  n8 : T.ds.length ≤ 8
  e : T.E.length = T.D.length
  pl : T.p.length = T.D.length
  d : ∀ i, i < T.ds.length → (dmA T.ds i).ok
  gr : ∀ i, i < T.ds.length → (dmA T.ds i).gr = grM (hdA T.D i) T.base lim
  l0 : T.base ≤ lim
  l1 : lim ≤ 33554432
  tm : ∀ i, i < T.D.length → T.base ≤ tmp T.D T.E i ∧ tmp T.D T.E i ≤ lim
  b0 : 0 ≤ T.bud
  b1 : T.bud ≤ 4294967296
  ll : T.L.length ≤ 1000000
/-- What a run in a mode makes of the whole. -/
structure RunR (md : Int) (T T2 : TS) : Prop where
  D : T2.D = T.D
  L : T2.L = T.L
  base : T2.base = T.base
  bud : T2.bud = T.bud
  n : T2.ds.length = T.ds.length
  d : ∀ i, i < T.ds.length → (dmA T2.ds i).ok ∧ (dmA T2.ds i).gr = (dmA T.ds i).gr ∧ (dmA T2.ds i).ys = (dmA T.ds i).ys ∧ (dmA T2.ds i).ld = (dmA T.ds i).ld ∧ (dmA T2.ds i).up = (dmA T.ds i).up ∧ (dmA T2.ds i).dn = (dmA T.ds i).dn ∧ (dmA T2.ds i).sm = (dmA T.ds i).sm ∧ (dmA T2.ds i).tr = (dmA T.ds i).tr
  p : if md = 0 then T2.p = List.replicate T.ds.length 0 else PwR T.ds md T.bud T2.p
  E : T2.E = stepE T.D T.L T.base T.E T2.p
theorem RunR.pw {md lim : Int} {T T2 : TS} (h : RunR md T T2) (k : T.ok lim) : PwOk T.ds md T.bud T2.p := by
  have hp := h.p
  by_cases e : md = 0
  · rw [if_pos e] at hp
    rw [hp]; exact pw_off k.b0 k.d md
  · rw [if_neg e] at hp
    exact pw_ok k.d hp
theorem RunR.ok {md lim : Int} {T T2 : TS} (h : RunR md T T2) (k : T.ok lim) : T2.ok lim := by
  have hw := h.pw k
  have hb := heat_bd k.v.ok k.e k.tm (p := T2.p) fun j hj => by
    refine ⟨hw.lo j (by rw [k.n]; exact hj), ?_⟩
    have h1 := hw.gr j (by rw [k.n]; exact hj)
    rw [k.gr j (by rw [k.n]; exact hj)] at h1
    unfold grM at h1
    show _ ≤ (hdA T.D j).amb * (lim - T.base)
    omega
  rw [← h.E] at hb
  refine ⟨by rw [h.D, h.L, h.base]; exact k.v, by rw [h.n, h.D]; exact k.n, by rw [h.n]; exact k.n8, by rw [h.D]; exact hb.1, by rw [h.D, hw.len]; exact k.n, fun i hi => ?_, fun i hi => ?_, by rw [h.base]; exact k.l0, k.l1, fun i hi => ?_, by rw [h.bud]; exact k.b0, by rw [h.bud]; exact k.b1, by rw [h.L]; exact k.ll⟩
  · exact (h.d i (by rw [← h.n]; exact hi)).1
  · rw [(h.d i (by rw [← h.n]; exact hi)).2.1, h.D, h.base]
    exact k.gr i (by rw [← h.n]; exact hi)
  · rw [h.D] at hi ⊢
    rw [h.base]
    exact hb.2 i hi
/-- The temperatures do not rise above a bound of theirs while nothing is running. -/
theorem RunR.cool {md lim hi : Int} {T T2 : TS} (h : RunR md T T2) (k : T.ok lim) (hmd : md ≠ 1) (hh : ∀ i, i < T.D.length → tmp T.D T.E i ≤ hi) : ∀ i, i < T.D.length → tmp T2.D T2.E i ≤ hi := by
  have hw := h.pw k
  intro i hi2
  have hbase : T.base ≤ hi := Int.le_trans (k.tm i hi2).1 (hh i hi2)
  have hb := heat_bd (hi := hi) k.v.ok k.e (fun j hj => ⟨(k.tm j hj).1, hh j hj⟩) (p := T2.p) fun j hj => by
    have h0 := hw.off j (by rw [k.n]; exact hj) (by unfold ldM; rw [if_neg hmd])
    rw [h0]
    have hA := k.v.ok.pos j hj
    exact ⟨Int.le_refl _, Int.mul_nonneg (by omega) (by omega)⟩
  rw [← h.E] at hb
  rw [h.D]
  exact (hb.2 i hi2).2
end Go.Ctl
set_option linter.unusedSimpArgs false
set_option linter.unusedVariables false
namespace Go.Ctl
open Go.Sv Go.Perf
/-- A domain as it comes in. -/
structure BD where
  h : HD
  ys : List Pt
  up : Int
  dn : Int
  sm : Int
  tr : List Trp
def bd0 : BD := ⟨hd0, [], 0, 0, 0, []⟩
abbrev bdA (l : List BD) (i : Nat) : BD := l.getD i bd0
/-- What a domain can give off at the limit; or an error. -/
def susE (d : HD) (base lim : Int) : Prop := Vld [d] [] base ∧ base ≤ lim ∧ lim ≤ 33554432
def okB (base lim : Int) (b : BD) : Prop := susE b.h base lim ∧ newE b.ys b.up b.dn b.sm = 0 ∧ chkT b.tr = 0
structure NewOk (l : List BD) (L : List HL) (base lim bud : Int) : Prop where
  n : l.length ≤ 8
  b : bud ≤ 4294967296
  z : l.length = 0 → L.length = 0
  d : ∀ i, i < l.length → okB base lim (bdA l i)
  v : 0 < l.length → Vld (l.map (·.h)) L base
open Classical in
noncomputable def newTE (l : List BD) (L : List HL) (base lim bud : Int) : Int := if NewOk l L base lim bud then 0 else 1
theorem newT_ok {l : List BD} {L : List HL} {base lim bud : Int} (h : NewOk l L base lim bud) : newTE l L base lim bud = 0 := by unfold newTE; rw [if_pos h]
theorem newT_bad {l : List BD} {L : List HL} {base lim bud : Int} (h : ¬ NewOk l L base lim bud) : newTE l L base lim bud = 1 := by unfold newTE; rw [if_neg h]
/-- The domain that a valid one becomes. -/
def mkD (base lim : Int) (b : BD) : Dom := ⟨b.ys, b.up, b.dn, b.sm, b.tr, grM b.h base lim, 0, gov0 b.ys b.up b.dn b.sm, zn0 b.tr 16, b.ys.length - 1⟩
theorem susE_one {d : HD} {base lim : Int} (h : susE d base lim) : 1 ≤ d.amb ∧ d.amb ≤ d.cap ∧ d.cap ≤ 16777216 ∧ -16777216 ≤ base ∧ base ≤ 16777216 ∧ base ≤ lim ∧ lim ≤ 33554432 := by
  have h1 := h.1.amb 0 (by simp)
  have h2 := h.1.cap 0 (by simp)
  have e1 : need [d] [] 0 = d.amb := by unfold need; simp [wof, hdA]
  have e2 : hdA [d] 0 = d := rfl
  rw [e1, e2] at h2
  rw [e2] at h1
  exact ⟨h1.1, h2.1, h2.2, h.1.b1, h.1.b2, h.2.1, h.2.2⟩
theorem susE_of {d : HD} {base lim : Int} (h1 : 1 ≤ d.amb) (h2 : d.amb ≤ d.cap) (h3 : d.cap ≤ 16777216) (h4 : -16777216 ≤ base) (h5 : base ≤ 16777216) (h6 : base ≤ lim) (h7 : lim ≤ 33554432) : susE d base lim := by
  have e2 : hdA [d] 0 = d := rfl
  have e1 : need [d] [] 0 = d.amb := by unfold need; rw [e2]; simp [wof]
  refine ⟨⟨by simp, by simp, h4, h5, fun i hi => ?_, fun i hi => by simp at hi, fun i hi => ?_⟩, h6, h7⟩
  · obtain rfl : i = 0 := by simp at hi; omega
    rw [e2]; omega
  · obtain rfl : i = 0 := by simp at hi; omega
    rw [e1, e2]; exact ⟨h2, h3⟩
theorem mkD_ok {b : BD} {base lim : Int} (hf : fitT b.ys) (h : okB base lim b) : (mkD base lim b).ok := by
  obtain ⟨h1, h2, h3⟩ := h
  obtain ⟨a1, a2, a3, a4, a5, a6, a7⟩ := susE_one h1
  have hg := gov0_ok h2
  have hn := hg.t.1.1
  refine ⟨hg.t, hf, hg, rfl, h2, h3, zn0_ok h3 (by decide) (by decide), rfl, by show b.ys.length - 1 < b.ys.length; have : 1 ≤ b.ys.length := hn; omega, by show (0 : Int) ≤ 0; decide, by show (0 : Int) ≤ 100; decide, ?_, ?_⟩
  · show 0 ≤ grM b.h base lim
    unfold grM
    have : 0 ≤ b.h.amb * (lim - base) := Int.mul_nonneg (by omega) (by omega)
    omega
  · show grM b.h base lim ≤ 16777216
    unfold grM; omega
/-- A new control. -/
def newTS (l : List BD) (L : List HL) (base lim bud : Int) : TS := ⟨l.map (mkD base lim), l.map (·.h), L, base, l.map (fun b => b.h.cap * base), 0, bud, List.replicate l.length 0⟩
theorem newTS_ok {l : List BD} {L : List HL} {base lim bud : Int} (hf : ∀ i, i < l.length → fitT (bdA l i).ys) (h0 : 0 < l.length) (hb : 0 ≤ bud) (hll : L.length ≤ 1000000) (h : NewOk l L base lim bud) : (newTS l L base lim bud).ok lim := by
  have hget : ∀ i, i < l.length → dmA (l.map (mkD base lim)) i = mkD base lim (bdA l i) := fun i hi => by simp [dmA, bdA, List.getD, hi]
  have hgetD : ∀ i, i < l.length → hdA (l.map (·.h)) i = (bdA l i).h := fun i hi => by simp [hdA, bdA, List.getD, hi]
  have hs := susE_one (h.d 0 h0).1
  refine ⟨h.v h0, by simp [newTS], by simp [newTS]; exact h.n, by simp [newTS], by simp [newTS], fun i hi => ?_, fun i hi => ?_, hs.2.2.2.2.2.1, hs.2.2.2.2.2.2, fun i hi => ?_, hb, h.b, hll⟩
  · have hi2 : i < l.length := by simpa [newTS] using hi
    show (dmA (l.map (mkD base lim)) i).ok
    rw [hget i hi2]; exact mkD_ok (hf i hi2) (h.d i hi2)
  · have hi2 : i < l.length := by simpa [newTS] using hi
    show (dmA (l.map (mkD base lim)) i).gr = grM (hdA (l.map (·.h)) i) base lim
    rw [hget i hi2, hgetD i hi2]; rfl
  · have hi2 : i < l.length := by simpa [newTS] using hi
    have hc := susE_one (h.d i hi2).1
    have e : tmp (newTS l L base lim bud).D (newTS l L base lim bud).E i = base := by
      have e1 : (newTS l L base lim bud).E.getD i 0 = (bdA l i).h.cap * base := by simp [newTS, bdA, List.getD, hi2]
      have e2 : ((newTS l L base lim bud).D.getD i hd0) = (bdA l i).h := hgetD i hi2
      unfold tmp
      rw [e1, e2]
      exact Int.mul_ediv_cancel_left _ (by omega)
    rw [e]
    exact ⟨Int.le_refl _, hs.2.2.2.2.2.1⟩
end Go.Ctl
