/-
  Plain models of the dependency graph's check and of New.
-/
import Derived.Test.YtcmalbkflbfidaaMdl
set_option linter.unusedSimpArgs false
set_option linter.unusedVariables false
namespace Go.Rails
open Go.Sv
structure Link where
  con : Int
  sup : Int
  deriving DecidableEq
def linkK : Enc Link where
  f r := [.int .i64 r.con, .int .i64 r.sup]
  sz := 2
  d := ⟨0, 0⟩
  len _ := rfl
  pos := by decide
  one r v hv := by simp at hv; rcases hv with rfl | rfl <;> rfl
def linkV (l : Link) : Value := .agg #[.int .i64 l.con, .int .i64 l.sup]
def okL (n : Int) (l : Link) : Prop := (0 ≤ l.con ∧ l.con < n) ∧ 0 ≤ l.sup ∧ l.sup < n
instance (n : Int) (l : Link) : Decidable (okL n l) := inferInstanceAs (Decidable (_ ∧ _))
def clM (n : Int) (links : List Link) : Int :=
  if n < 0 ∨ 128 < n ∨ (1024 : Int) < links.length then 1
  else if ∀ j, j < links.length → okL n (links.getD j linkK.d) then if links.Nodup then 0 else 7 else 1
theorem mget_true (ks : List Link) (x : Link) : mget (ks.map fun l => (l, true)) x = if x ∈ ks then some true else none := by
  induction ks with
  | nil => simp [mget]
  | cons a r ih =>
    simp only [List.map_cons, mget, ih, List.mem_cons]
    by_cases h : x = a <;> simp [h]
theorem mget_dec (ks : List Link) (x : Link) : (mget (ks.map fun l => (l, true)) x).getD false = decide (x ∈ ks) := by rw [mget_true]; split <;> simp_all
theorem take_succ_getD {α : Type} (l : List α) (k : Nat) (d : α) (h : k < l.length) : l.take (k + 1) = l.take k ++ [l.getD k d] := by
  rw [List.take_succ_eq_append_getElem h]; simp [List.getD, h]
theorem nodup_take_succ (links : List Link) (k : Nat) (h : k < links.length) (hn : (links.take k).Nodup) (hx : ¬ links.getD k linkK.d ∈ links.take k) : (links.take (k + 1)).Nodup := by
  rw [take_succ_getD links k linkK.d h]
  exact List.nodup_append.2 ⟨hn, by simp, by intro a ha b hb; simp at hb; subst hb; intro e; subst e; exact hx ha⟩
theorem not_nodup (links : List Link) (k : Nat) (h : k < links.length) (hx : links.getD k linkK.d ∈ links.take k) : ¬ links.Nodup := by
  intro hn
  have h2 : (links.take (k + 1)).Nodup := hn.sublist (List.take_sublist _ _)
  rw [take_succ_getD links k linkK.d h] at h2
  exact (List.nodup_append.1 h2).2.2 _ hx _ (by simp) rfl
/-- A slice inside a slice. -/
structure Hd where
  A : Option Addr
  c : Nat
  ys : List Int
def hdK : Enc Hd where
  f h := [.slice h.A h.ys.length h.c]
  sz := 1
  d := ⟨none, 0, []⟩
  len _ := rfl
  pos := by decide
  one r v hv := by simp at hv; subst hv; rfl
def hdF (h : Hd) : Assn := OS 3 (intK .i64) h.A h.c h.ys
theorem hdRS {w : World} (i : Ids) (b : Hd) (h : (hdF b).sat w i) : RS w (intK .i64) b.A b.ys := OS.rs (e := 3) (c := b.c) h
/-- The consumers (or suppliers) of a node. -/
def nbM (links : List Link) (cons : Bool) (s : Nat) : List Int :=
  match links with
  | [] => []
  | l :: r => if (if cons then l.sup else l.con) = (s : Int) then (if cons then l.con else l.sup) :: nbM r cons s else nbM r cons s
theorem nbM_snoc (links : List Link) (cons : Bool) (l : Link) (s : Nat) : nbM (links ++ [l]) cons s = nbM links cons s ++ (if (if cons then l.sup else l.con) = (s : Int) then [if cons then l.con else l.sup] else []) := by
  induction links with
  | nil => simp [nbM]
  | cons a r ih =>
    simp only [List.cons_append, nbM, ih]
    by_cases h : (if cons = true then a.sup else a.con) = (s : Int)
    · rw [if_pos h, if_pos h]; rfl
    · rw [if_neg h, if_neg h]
theorem nbM_length (links : List Link) (cons : Bool) (s : Nat) : (nbM links cons s).length ≤ links.length := by
  induction links with
  | nil => simp [nbM]
  | cons a r ih =>
    simp only [nbM, List.length_cons]
    by_cases h : (if cons = true then a.sup else a.con) = (s : Int)
    · rw [if_pos h, List.length_cons]; omega
    · rw [if_neg h]; omega
theorem nb_len {links : List Link} {j s : Nat} {b : Bool} {h : Hd} (hh : h.ys = nbM (links.take j) b s) : h.ys.length ≤ links.length := by
  rw [hh]; exact Nat.le_trans (nbM_length _ _ _) (by simp; omega)
theorem nb_step {links : List Link} {j s n : Nat} {b : Bool} {hs : List Hd} {A : Option Addr} {c : Nat} {y : Int} (hj : j < links.length) (h : ∀ s, s < n → (hs.getD s hdK.d).ys = nbM (links.take j) b s) (hl : hs.length = n) (hs3 : s < n)
    (h1 : (if b then (links.getD j linkK.d).sup else (links.getD j linkK.d).con) = (s : Int)) (h2 : (if b then (links.getD j linkK.d).con else (links.getD j linkK.d).sup) = y) :
    ∀ t, t < n → ((hs.set s ⟨A, c, (hs.getD s hdK.d).ys ++ [y]⟩).getD t hdK.d).ys = nbM (links.take (j + 1)) b t := by
  intro t ht
  rw [take_succ_getD links j linkK.d hj, nbM_snoc, h1, h2]
  by_cases e : s = t
  · subst e; rw [getD_set_self _ _ _ _ (by omega), if_pos rfl]; simp only []; rw [h s ht]
  · rw [getD_set_other _ _ _ e, h t ht, if_neg (by omega), List.append_nil]
theorem nbM_ok {links : List Link} {n : Int} (h : ∀ i, i < links.length → okL n (links.getD i linkK.d)) (b : Bool) (s k : Nat) (hk : k < (nbM links b s).length) : 0 ≤ (nbM links b s).getD k 0 ∧ (nbM links b s).getD k 0 < n := by
  have key : ∀ l : List Link, (∀ x ∈ l, okL n x) → ∀ y ∈ nbM l b s, 0 ≤ y ∧ y < n := by
    intro l
    induction l with
    | nil => intro _ y hy; simp [nbM] at hy
    | cons a r ih =>
      intro hl y hy
      have ha := hl a (by simp)
      unfold okL at ha
      simp only [nbM] at hy
      by_cases hc : (if b = true then a.sup else a.con) = (s : Int)
      · rw [if_pos hc] at hy
        rcases List.mem_cons.1 hy with rfl | hy
        · cases b <;> simp <;> omega
        · exact ih (fun x hx => hl x (by simp [hx])) y hy
      · rw [if_neg hc] at hy
        exact ih (fun x hx => hl x (by simp [hx])) y hy
  refine key links (fun x hx => ?_) _ ?_
  · obtain ⟨i, hi, rfl⟩ := List.getElem_of_mem hx
    have := h i hi
    simpa [List.getD, hi] using this
  · simp [List.getD, hk]
/-- How many links have consumer i. -/
def msM (links : List Link) (i : Nat) : Int :=
  match links with
  | [] => 0
  | l :: r => if l.con = (i : Int) then msM r i + 1 else msM r i
theorem msM_snoc (links : List Link) (l : Link) (i : Nat) : msM (links ++ [l]) i = msM links i + (if l.con = (i : Int) then 1 else 0) := by
  induction links with
  | nil => simp [msM]
  | cons a r ih => simp only [List.cons_append, msM, ih]; split <;> omega
theorem ms_step {links : List Link} {j i n : Nat} {ms : List Int} (hj : j < links.length) (h : ∀ i, i < n → ms.getD i 0 = msM (links.take j) i) (hl : ms.length = n) (hi : i < n) (h1 : (links.getD j linkK.d).con = (i : Int)) :
    ∀ t, t < n → (ms.set i (ms.getD i 0 + 1)).getD t 0 = msM (links.take (j + 1)) t := by
  intro t ht
  rw [take_succ_getD links j linkK.d hj, msM_snoc, h1]
  by_cases e : i = t
  · subst e; rw [getD_set_self _ _ _ _ (by omega), if_pos rfl, h i ht]
  · rw [getD_set_other _ _ _ e, h t ht, if_neg (by omega)]; omega
theorem msM_le (links : List Link) (i : Nat) : 0 ≤ msM links i ∧ msM links i ≤ links.length := by
  induction links with
  | nil => simp [msM]
  | cons a r ih => simp only [msM, List.length_cons]; split <;> omega
theorem msM_take_le (links : List Link) (i j : Nat) : 0 ≤ msM (links.take j) i ∧ msM (links.take j) i ≤ links.length := by
  have := msM_le (links.take j) i
  have h2 : (links.take j).length ≤ links.length := by simp; omega
  omega
/-- The first index of x, or -1. -/
def idxM (x : Int) (ms : List Int) : Nat → Int
  | 0 => -1
  | k + 1 => if idxM x ms k = -1 then (if ms.getD k 0 = x then (k : Int) else -1) else idxM x ms k
theorem idxM_none {x : Int} {ms : List Int} : ∀ {k : Nat}, idxM x ms k = -1 ↔ ∀ j, j < k → ¬ ms.getD j 0 = x
  | 0 => by simp [idxM]
  | k + 1 => by
    simp only [idxM]
    have ih := idxM_none (x := x) (ms := ms) (k := k)
    by_cases h : idxM x ms k = -1
    · rw [if_pos h]
      have h' := ih.1 h
      by_cases h2 : ms.getD k 0 = x
      · rw [if_pos h2]
        exact ⟨fun e => by omega, fun e => absurd h2 (e k (by omega))⟩
      · rw [if_neg h2]
        refine ⟨fun _ j hj => ?_, fun _ => rfl⟩
        by_cases e : j = k
        · subst e; exact h2
        · exact h' j (by omega)
    · rw [if_neg h]
      exact ⟨fun e => absurd e h, fun e => ih.2 fun j hj => e j (by omega)⟩
theorem idxM_some {x : Int} {ms : List Int} : ∀ {k : Nat}, idxM x ms k ≠ -1 → ∃ i : Nat, idxM x ms k = (i : Int) ∧ i < k ∧ ms.getD i 0 = x ∧ ∀ j, j < i → ¬ ms.getD j 0 = x
  | 0, h => by simp [idxM] at h
  | k + 1, h => by
    simp only [idxM] at h ⊢
    by_cases h1 : idxM x ms k = -1
    · rw [if_pos h1] at h ⊢
      by_cases h2 : ms.getD k 0 = x
      · rw [if_pos h2]; exact ⟨k, rfl, by omega, h2, fun j hj => (idxM_none.1 h1) j hj⟩
      · rw [if_neg h2] at h; exact absurd rfl h
    · rw [if_neg h1]
      obtain ⟨i, h3, h4, h5⟩ := idxM_some h1
      exact ⟨i, h3, by omega, h5⟩
theorem idxM_stop {x : Int} {ms : List Int} {k n : Nat} (hk : k < n) (h : idxM x ms k = -1) (hx : ms.getD k 0 = x) : idxM x ms n = (k : Int) := by
  have key : ∀ d, idxM x ms (k + 1 + d) = (k : Int) := by
    intro d
    induction d with
    | zero => simp only [Nat.add_zero, idxM]; rw [if_pos h, if_pos hx]
    | succ d ih => rw [show k + 1 + (d + 1) = (k + 1 + d) + 1 from by omega, idxM, ih, if_neg (by omega)]
  have := key (n - (k + 1))
  rw [show k + 1 + (n - (k + 1)) = n from by omega] at this
  exact this
def dec1 (ms : List Int) (c : Int) : List Int := ms.set c.toNat (ms.getD c.toNat 0 - 1)
def decs (ms : List Int) (cs : List Int) : Nat → List Int
  | 0 => ms
  | k + 1 => dec1 (decs ms cs k) (cs.getD k 0)
theorem decs_length (ms cs : List Int) (k : Nat) : (decs ms cs k).length = ms.length := by
  induction k with
  | zero => rfl
  | succ k ih => simp [decs, dec1, ih]
/-- How many of the first k entries are not negative. -/
def nnn (ms : List Int) : Nat → Nat
  | 0 => 0
  | k + 1 => nnn ms k + if 0 ≤ ms.getD k 0 then 1 else 0
theorem nnn_le {a b : List Int} {k : Nat} (h : ∀ i, i < k → b.getD i 0 ≤ a.getD i 0) : nnn b k ≤ nnn a k := by
  induction k with
  | zero => simp [nnn]
  | succ k ih =>
    have h1 := ih fun i hi => h i (by omega)
    have h2 := h k (by omega)
    simp only [nnn]; split <;> split <;> omega
theorem nnn_lt {a b : List Int} {k i : Nat} (h : ∀ i, i < k → b.getD i 0 ≤ a.getD i 0) (hi : i < k) (h1 : 0 ≤ a.getD i 0) (h2 : b.getD i 0 < 0) : nnn b k < nnn a k := by
  induction k with
  | zero => omega
  | succ k ih =>
    have hk := h k (by omega)
    simp only [nnn]
    by_cases e : i = k
    · subst e
      have := nnn_le (a := a) (b := b) (k := i) fun j hj => h j (by omega)
      rw [if_neg (by omega), if_pos h1]; omega
    · have := ih (fun j hj => h j (by omega)) (by omega)
      split <;> split <;> omega
theorem decs_getD_le (ms cs : List Int) (k i : Nat) : (decs ms cs k).getD i 0 ≤ ms.getD i 0 ∧ ms.getD i 0 - k ≤ (decs ms cs k).getD i 0 := by
  induction k with
  | zero => simp [decs]
  | succ k ih =>
    simp only [decs, dec1]
    by_cases e : (cs.getD k 0).toNat = i
    · by_cases hl : i < (decs ms cs k).length
      · rw [e, getD_set_self _ _ _ _ hl]; omega
      · rw [e, List.set_eq_of_length_le (by omega)]; omega
    · rw [getD_set_other _ _ _ e]; omega
/-- The order in which nodes are taken. -/
def seqRun (nb : Nat → List Int) (n : Nat) : Nat → List Int → List Int → List Int
  | 0, _, ord => ord
  | f + 1, ms, ord => if idxM 0 ms n = -1 then ord else seqRun nb n f (decs (ms.set (idxM 0 ms n).toNat (-1)) (nb (idxM 0 ms n).toNat) (nb (idxM 0 ms n).toNat).length) (ord ++ [idxM 0 ms n])
theorem nnn_zero {ms : List Int} {n : Nat} (h : nnn ms n = 0) : idxM 0 ms n = -1 := by
  rw [idxM_none]
  induction n with
  | zero => intro j hj; omega
  | succ n ih =>
    simp only [nnn] at h
    intro j hj
    by_cases e : j = n
    · subst e; intro h0; rw [if_pos (by omega)] at h; omega
    · exact ih (by omega) j (by omega)
theorem round_lt {nb : Nat → List Int} {ms : List Int} {n i : Nat} (hl : ms.length = n) (h2 : i < n) (h3 : ms.getD i 0 = 0) (cs : List Int) (k : Nat) : nnn (decs (ms.set i (-1)) cs k) n < nnn ms n := by
  refine nnn_lt (i := i) (fun j hj => ?_) h2 (by omega) ?_
  · refine Int.le_trans (decs_getD_le _ _ _ _).1 ?_
    by_cases e : i = j
    · subst e; rw [getD_set_self _ _ _ _ (by omega)]; omega
    · rw [getD_set_other _ _ _ e]; omega
  · refine Int.lt_of_le_of_lt (decs_getD_le _ _ _ _).1 ?_
    rw [getD_set_self _ _ _ _ (by omega)]; omega
theorem seqRun_fuel (nb : Nat → List Int) (n : Nat) : ∀ (f g : Nat) (ms ord : List Int), nnn ms n ≤ f → nnn ms n ≤ g → ms.length = n → seqRun nb n f ms ord = seqRun nb n g ms ord := by
  intro f
  induction f with
  | zero =>
    intro g ms ord h _ _
    have := nnn_zero (ms := ms) (n := n) (by omega)
    cases g <;> simp [seqRun, this]
  | succ f ih =>
    intro g ms ord h hg hl
    by_cases hx : idxM 0 ms n = -1
    · cases g <;> simp [seqRun, hx]
    · obtain ⟨i, h1, h2, h3, _⟩ := idxM_some hx
      have hlt := round_lt (nb := nb) hl h2 h3 (nb i) (nb i).length
      cases g with
      | zero => omega
      | succ g =>
        simp only [seqRun, if_neg hx, h1, Int.toNat_natCast]
        exact ih g _ _ (by omega) (by omega) (by rw [decs_length]; simpa using hl)
def ms0 (n : Nat) (links : List Link) : List Int := (List.range n).map (msM links)
def seqM (n : Nat) (links : List Link) : List Int := seqRun (nbM links true) n (nnn (ms0 n links) n) (ms0 n links) []
theorem ms0_of {n : Nat} {links : List Link} {ms : List Int} (hl : ms.length = n) (h : ∀ i, i < n → ms.getD i 0 = msM links i) : ms = ms0 n links := by
  apply List.ext_getElem (by simp [ms0, hl])
  intro i h1 h2
  have := h i (by omega)
  simp [List.getD, h1] at this
  simp [ms0, this]
theorem seqRun_step {nb : Nat → List Int} {n i : Nat} {ms ord : List Int} (hl : ms.length = n) (h1 : idxM 0 ms n = (i : Int)) :
    seqRun nb n (nnn ms n) ms ord = seqRun nb n (nnn (decs (ms.set i (-1)) (nb i) (nb i).length) n) (decs (ms.set i (-1)) (nb i) (nb i).length) (ord ++ [(i : Int)]) := by
  obtain ⟨i', e, h2, h3, _⟩ := idxM_some (x := 0) (ms := ms) (k := n) (by omega)
  have : i' = i := by omega
  subst this
  have hlt := round_lt (nb := nb) hl h2 h3 (nb i') (nb i').length
  have h0 : seqRun nb n (nnn ms n) ms ord = seqRun nb n (nnn ms n - 1) (decs (ms.set i' (-1)) (nb i') (nb i').length) (ord ++ [(i' : Int)]) := by
    rw [show nnn ms n = (nnn ms n - 1) + 1 from by omega, seqRun]
    simp only [h1, Int.toNat_natCast]
    rw [if_neg (by omega)]
    simp
  rw [h0]
  exact seqRun_fuel nb n _ _ _ _ (by omega) (Nat.le_refl _) (by rw [decs_length]; simpa using hl)
theorem seqRun_end {nb : Nat → List Int} {n : Nat} {ms ord : List Int} (h1 : idxM 0 ms n = -1) (f : Nat) : seqRun nb n f ms ord = ord := by
  cases f <;> simp [seqRun, h1]
def chkM (n : Nat) (links : List Link) : Int := if clM n links ≠ 0 then clM n links else if ((seqM n links).length : Int) ≠ n then 18 else 0
theorem clM_zero {n : Nat} {links : List Link} (h : clM n links = 0) : n ≤ 128 ∧ links.length ≤ 1024 ∧ ∀ j, j < links.length → okL n (links.getD j linkK.d) := by
  unfold clM at h
  by_cases h1 : (n : Int) < 0 ∨ 128 < (n : Int) ∨ (1024 : Int) < links.length
  · rw [if_pos h1] at h; omega
  · rw [if_neg h1] at h
    by_cases h2 : ∀ j, j < links.length → okL n (links.getD j linkK.d)
    · exact ⟨by omega, by omega, h2⟩
    · rw [if_neg h2] at h; omega
theorem nnn_bound (ms : List Int) (k : Nat) : nnn ms k ≤ k := by
  induction k with
  | zero => simp [nnn]
  | succ k ih => simp only [nnn]; split <;> omega
theorem set_bd {ms : List Int} {i e : Nat} {m : Int} (h : ms.getD e 0 ≤ 1024 ∧ m ≤ ms.getD e 0) : (ms.set i (-1)).getD e 0 ≤ 1024 ∧ (m ≤ (ms.set i (-1)).getD e 0 ∨ -1 ≤ (ms.set i (-1)).getD e 0) := by
  by_cases he : i = e
  · subst he
    by_cases hl : i < ms.length
    · rw [getD_set_self _ _ _ _ hl]; omega
    · rw [List.set_eq_of_length_le (by omega)]; omega
  · rw [getD_set_other _ _ _ he]; omega
theorem seq_inv {ms : List Int} {ord : List Int} {ys : List Int} {links : List Link} {n i : Nat}
    (hm : ms.length = n ∧ nnn ms n + ord.length ≤ n ∧ (∀ i, i < n → ms.getD i 0 ≤ 1024 ∧ -(2000 * (ord.length : Int)) ≤ ms.getD i 0) ∧ seqRun (nbM links true) n (nnn ms n) ms ord = seqM n links) (hnl : links.length ≤ 1024)
    (e1 : idxM 0 ms n = (i : Int)) (e2 : i < n) (e3 : ms.getD i 0 = 0) (hy : ys = nbM links true i) :
    (decs (ms.set i (-1)) ys ys.length).length = n ∧ nnn (decs (ms.set i (-1)) ys ys.length) n + (ord ++ [(i : Int)]).length ≤ n ∧
      (∀ k, k < n → (decs (ms.set i (-1)) ys ys.length).getD k 0 ≤ 1024 ∧ -(2000 * ((ord ++ [(i : Int)]).length : Int)) ≤ (decs (ms.set i (-1)) ys ys.length).getD k 0) ∧
      seqRun (nbM links true) n (nnn (decs (ms.set i (-1)) ys ys.length) n) (decs (ms.set i (-1)) ys ys.length) (ord ++ [(i : Int)]) = seqM n links := by
  have hlt := round_lt (nb := nbM links true) hm.1 e2 e3 ys ys.length
  have hyl : ys.length ≤ 1024 := by rw [hy]; exact Nat.le_trans (nbM_length _ _ _) hnl
  refine ⟨by rw [decs_length, List.length_set]; exact hm.1, by rw [List.length_append]; simp; omega, fun k hk => ?_, ?_⟩
  · have h1 := decs_getD_le (ms.set i (-1)) ys ys.length k
    have h2 := set_bd (i := i) (hm.2.2.1 k hk)
    rw [List.length_append]; simp only [List.length_cons, List.length_nil]; omega
  · rw [← hm.2.2.2, seqRun_step hm.1 e1, hy]
def badR (n : Int) (r : Rail) : Prop := r.supply < -1 ∨ n ≤ r.supply ∨ 1048576 < r.up ∨ 1048576 < r.down
instance (n : Int) (r : Rail) : Decidable (badR n r) := inferInstanceAs (Decidable (_ ∨ _))
def lkM (rails : List Rail) : Nat → List Link
  | 0 => []
  | k + 1 => if 0 ≤ (rails.getD k railK.d).supply then lkM rails k ++ [⟨k, (rails.getD k railK.d).supply⟩] else lkM rails k
theorem lkM_length (rails : List Rail) (k : Nat) : (lkM rails k).length ≤ k := by
  induction k with
  | zero => simp [lkM]
  | succ k ih =>
    simp only [lkM]
    by_cases h : 0 ≤ (rails.getD k railK.d).supply
    · rw [if_pos h, List.length_append]; simp; omega
    · rw [if_neg h]; omega
def newE (rails : List Rail) : Int :=
  if 64 < rails.length then 1
  else if ∀ j, j < rails.length → ¬ badR rails.length (rails.getD j railK.d) then chkM rails.length (lkM rails rails.length) else 1
/-- The chain of supplies. -/
def itM (rails : List Rail) (i : Int) : Nat → Int
  | 0 => i
  | k + 1 => if 0 ≤ itM rails i k then (rails.getD (itM rails i k).toNat railK.d).supply else itM rails i k
def newRE (rails : List Rail) : Int :=
  if 64 < rails.length then 1
  else if ∀ j, j < rails.length → ¬ badR rails.length (rails.getD j railK.d) then
    if ∀ j, j < rails.length → itM rails j rails.length < 0 then 0 else 18
  else 1
theorem itM_stay {rails : List Rail} {i : Int} {k : Nat} (h : itM rails i k < 0) : ∀ d, itM rails i (k + d) = itM rails i k
  | 0 => rfl
  | d + 1 => by rw [show k + (d + 1) = (k + d) + 1 from by omega, itM, itM_stay h d, if_neg (by omega)]
theorem itM_lt {rails : List Rail} {i : Int} (hi : i < rails.length) (h : ∀ j, j < rails.length → ¬ badR rails.length (rails.getD j railK.d)) : ∀ k, itM rails i k < rails.length
  | 0 => hi
  | k + 1 => by
    have ih := itM_lt hi h k
    simp only [itM]
    by_cases h0 : 0 ≤ itM rails i k
    · rw [if_pos h0]
      have := h (itM rails i k).toNat (by omega)
      unfold badR at this; omega
    · rw [if_neg h0]; exact ih
theorem itM_pos {rails : List Rail} {i : Int} {k m : Nat} (h : itM rails i k = (m : Int)) : itM rails i (k + 1) = (rails.getD m railK.d).supply := by rw [itM, h, if_pos (by omega), Int.toNat_natCast]
theorem newE_long {rails : List Rail} (h : (64 : Int) < rails.length) : newE rails = 1 := by rw [newE, if_pos (by omega)]
theorem newE_bad {rails : List Rail} {j : Nat} (h : ¬ (64 : Int) < rails.length) (hj : j < rails.length) (hb : badR rails.length (rails.getD j railK.d)) : newE rails = 1 := by rw [newE, if_neg (by omega), if_neg (fun hall => hall j hj hb)]
theorem newE_chk {rails : List Rail} (h : ¬ (64 : Int) < rails.length) (hb : ∀ j, j < rails.length → ¬ badR rails.length (rails.getD j railK.d)) : newE rails = chkM rails.length (lkM rails rails.length) := by rw [newE, if_neg (by omega), if_pos hb]
theorem newRE_long {rails : List Rail} (h : (64 : Int) < rails.length) : newRE rails = 1 := by rw [newRE, if_pos (by omega)]
theorem newRE_bad {rails : List Rail} {j : Nat} (h : ¬ (64 : Int) < rails.length) (hj : j < rails.length) (hb : badR rails.length (rails.getD j railK.d)) : newRE rails = 1 := by rw [newRE, if_neg (by omega), if_neg (fun hall => hall j hj hb)]
theorem newRE_ok {rails : List Rail} (h : ¬ (64 : Int) < rails.length) (hb : ∀ j, j < rails.length → ¬ badR rails.length (rails.getD j railK.d)) (hc : ∀ j, j < rails.length → itM rails j rails.length < 0) : newRE rails = 0 := by rw [newRE, if_neg (by omega), if_pos hb, if_pos hc]
theorem newRE_cyc {rails : List Rail} {j : Nat} (h : ¬ (64 : Int) < rails.length) (hb : ∀ j, j < rails.length → ¬ badR rails.length (rails.getD j railK.d)) (hj : j < rails.length) (hc : 0 ≤ itM rails j rails.length) : newRE rails = 18 := by rw [newRE, if_neg (by omega), if_pos hb, if_neg (fun hall => by have := hall j hj; omega)]
def new0 (rails : List Rail) : St := ⟨rails, List.replicate rails.length 0, List.replicate rails.length 0, 0⟩
end Go.Rails
