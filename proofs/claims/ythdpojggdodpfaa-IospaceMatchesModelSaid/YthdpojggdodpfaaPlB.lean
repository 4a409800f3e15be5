/-
  Texts joined: Pl5, Pl6, Pl7, Pl8.
-/
import Derived.Test.YthdpojggdodpfaaRmA
import Derived.Test.YthdpojggdodpfaaPlA
set_option linter.unusedSimpArgs false
set_option linter.unusedVariables false
namespace Go.Ios
open Go.Sv
structure Tu where
  b : Int
  l : Int
  o : Int
  y : Int
def tuM (h : MH) (x : Int) : Tu := ⟨h.base, h.len, h.own, byt h.bs (x - h.base).toNat⟩
def tuR (q : RH) (x : Int) : Tu := ⟨q.base, q.len, q.own, byt q.bs (x - q.base).toNat⟩
def inM (s : BS) (z x : Int) (t : Tu) : Prop := ∃ (m i : Nat), z = (m : Int) ∧ m < 3 ∧ i < (s.sp m).hs.length ∧ (mh (s.sp m).hs i).base ≤ x ∧ x ≤ (mh (s.sp m).hs i).lst ∧ t = tuM (mh (s.sp m).hs i) x
def inR (ms : List RH) (z x : Int) (t : Tu) : Prop := ∃ i : Nat, i < ms.length ∧ hitR ms z x i ∧ t = tuR (rh ms i) x
def uqR (ms : List RH) : Prop := ∀ (i j : Nat) (z x : Int), i < ms.length → j < ms.length → hitR ms z x i → hitR ms z x j → i = j
theorem inM_fnd {s : BS} (hk : s.ok) {z x : Int} {t : Tu} (h : inM s z x t) : ∃ (m i : Nat), z = (m : Int) ∧ m < 3 ∧ fnd s m x = some i ∧ i < (s.sp m).hs.length ∧ (mh (s.sp m).hs i).base ≤ x ∧ x ≤ (mh (s.sp m).hs i).lst ∧ t = tuM (mh (s.sp m).hs i) x := by
  obtain ⟨m, i, rfl, hm, hi, h1, h2, h3⟩ := h
  exact ⟨m, i, rfl, hm, by rw [fnd_ok hm]; exact findM_at (hk.sp m hm) hi h1 h2, hi, h1, h2, h3⟩
theorem fnd_inM {s : BS} {m i : Nat} {x : Int} (hm : m < 3) (h : fnd s m x = some i) : inM s m x (tuM (mh (s.sp m).hs i) x) := by
  rw [fnd_ok hm] at h
  obtain ⟨h1, h2, h3⟩ := findM_some h
  exact ⟨m, i, rfl, hm, h1, h2, h3, rfl⟩
theorem inM_own {s : BS} (hk : s.ok) {z x : Int} {t : Tu} (h : inM s z x t) : ownM s z x = t.o ∧ pkM s z x = t.y ∧ (fnd s z x).isSome = true := by
  obtain ⟨m, i, rfl, hm, hf, hi, h1, h2, rfl⟩ := inM_fnd hk h
  refine ⟨by rw [ownM, hf]; rfl, by rw [pk_some hf]; rfl, by rw [hf]; rfl⟩
theorem inM_no {s : BS} {z x : Int} (h : ∀ t, ¬ inM s z x t) : ownM s z x = -1 ∧ pkM s z x = 0 ∧ (fnd s z x).isSome = false ∧ fnd s z x = none := by
  have hn : fnd s z x = none := by
    cases hf : fnd s z x with
    | none => rfl
    | some i =>
      by_cases hz : 0 ≤ z ∧ z < 3
      · obtain ⟨m, rfl⟩ := Int.eq_ofNat_of_zero_le hz.1
        exact absurd (fnd_inM (by omega) hf) (h _)
      · rw [fnd_bad hz] at hf; cases hf
  exact ⟨by rw [ownM, hn], by rw [pkM, hn], by rw [hn]; rfl, hn⟩
theorem inR_own {ms : List RH} (hu : uqR ms) {z x : Int} {t : Tu} (h : inR ms z x t) : ∃ i : Nat, fR ms z x = i ∧ i < ms.length ∧ hitR ms z x i ∧ t = tuR (rh ms i) x ∧ ownR ms z x = t.o ∧ pkR ms z x = t.y ∧ 0 ≤ fR ms z x := by
  obtain ⟨i, hi, hh, rfl⟩ := h
  have e : fR ms z x = i := fR_yes hi hh fun k hk h2 => by have := hu k i z x (by omega) hi h2 hh; omega
  exact ⟨i, e, hi, hh, rfl, by rw [ownR_at e]; rfl, by rw [pkR_at e]; rfl, by omega⟩
theorem inR_no {ms : List RH} {z x : Int} (h : ∀ t, ¬ inR ms z x t) : fR ms z x = -1 ∧ ownR ms z x = -1 ∧ pkR ms z x = 0 := by
  have e : fR ms z x = -1 := fR_no fun k hk h2 => h _ ⟨k, hk, h2, rfl⟩
  exact ⟨e, by rw [ownR, if_neg (by omega)], by rw [pkR, if_neg (by omega)]⟩
theorem mem_idx {β : Type} {l : List β} {i : Nat} (d : β) (h : i < l.length) : l.getD i d ∈ l := by
  simp [List.getD, h]
theorem idx_mem {β : Type} {l : List β} {y : β} (d : β) (h : y ∈ l) : ∃ i, i < l.length ∧ l.getD i d = y := by
  obtain ⟨i, hi, e⟩ := List.getElem_of_mem h
  exact ⟨i, hi, by simp [List.getD, hi, e]⟩
theorem inM_mem {s : BS} {z x : Int} {t : Tu} : inM s z x t ↔ ∃ (m : Nat) (h : MH), z = (m : Int) ∧ m < 3 ∧ h ∈ (s.sp m).hs ∧ h.base ≤ x ∧ x ≤ h.lst ∧ t = tuM h x := by
  constructor
  · rintro ⟨m, i, hz, hm, hi, h1, h2, h3⟩
    exact ⟨m, _, hz, hm, mem_idx mhD hi, h1, h2, h3⟩
  · rintro ⟨m, h, hz, hm, hh, h1, h2, h3⟩
    obtain ⟨i, hi, rfl⟩ := idx_mem mhD hh
    exact ⟨m, i, hz, hm, hi, h1, h2, h3⟩
theorem inM_map {s : BS} (hk : s.ok) {m : Nat} (hm : m < 3) (h : MH) (A : Option Addr) (c : Nat) {z x : Int} {t : Tu} :
    inM (mapG s m h A c) z x t ↔ (z = m ∧ h.base ≤ x ∧ x ≤ h.lst ∧ t = tuM h x) ∨ inM s z x t := by
  rw [inM_mem, inM_mem]
  have hp := insL_perm (s.sp m).hs (aftM (s.sp m).hs h.base) h
  constructor
  · rintro ⟨k, h2, rfl, hk3, hh, h3, h4, h5⟩
    rw [mapG_sp hk hm] at hh
    split at hh
    · rename_i e; subst e
      rcases List.mem_cons.1 (hp.mem_iff.2 hh) with rfl | h6
      · exact .inl ⟨rfl, h3, h4, h5⟩
      · exact .inr ⟨k, h2, rfl, hk3, h6, h3, h4, h5⟩
    · exact .inr ⟨k, h2, rfl, hk3, hh, h3, h4, h5⟩
  · rintro (⟨rfl, h3, h4, h5⟩ | ⟨k, h2, rfl, hk3, hh, h3, h4, h5⟩)
    · exact ⟨m, h, rfl, hm, by rw [mapG_sp hk hm, if_pos rfl]; exact hp.mem_iff.1 (List.mem_cons_self ..), h3, h4, h5⟩
    · refine ⟨k, h2, rfl, hk3, ?_, h3, h4, h5⟩
      rw [mapG_sp hk hm]
      split
      · rename_i e; subst e; exact hp.mem_iff.1 (List.mem_cons_of_mem _ hh)
      · exact hh
theorem busy_in {s : BS} (hk : s.ok) {m : Nat} (hm : m < 3) {p n : Int} (hn : 1 ≤ n) : busy (s.sp m).hs p n ↔ ∃ x t, p ≤ x ∧ x < p + n ∧ inM s m x t := by
  rw [busy_iff (hk.sp m hm) hn]
  constructor
  · rintro ⟨x, h1, h2, h3⟩
    rcases ownH_cases (hk.sp m hm) x with ⟨e, _⟩ | ⟨i, hi, h4, h5, _⟩
    · exact absurd e h3
    · exact ⟨x, _, h1, h2, m, i, rfl, hm, hi, h4, h5, rfl⟩
  · rintro ⟨x, t, h1, h2, m2, i, e, _, hi, h4, h5, _⟩
    obtain rfl : m = m2 := by omega
    refine ⟨x, h1, h2, fun e2 => ?_⟩
    rw [ownH_at (hk.sp m hm) hi h4 h5] at e2
    have := ((hk.sp m hm).each i hi).o1
    omega
theorem unm_in {s : BS} (hk : s.ok) {z p q : Int} : (∃ m i : Nat, unmA s z p q m i) ↔ ∃ t, inM s z p t ∧ t.b = p ∧ t.l = q := by
  constructor
  · rintro ⟨m, i, rfl, hm, hi, e1, e2⟩
    have hr := ((hk.sp m hm).each i hi).r
    unfold okR at hr
    exact ⟨_, ⟨m, i, rfl, hm, hi, by omega, by show p ≤ (mh (s.sp m).hs i).base + ((mh (s.sp m).hs i).len - 1); omega, rfl⟩, e1, e2⟩
  · rintro ⟨t, ⟨m, i, rfl, hm, hi, h1, h2, rfl⟩, e1, e2⟩
    exact ⟨m, i, rfl, hm, hi, e1, e2⟩
theorem okS.uq {hs : List MH} (h : okS hs) {i j : Nat} {x : Int} (hi : i < hs.length) (hj : j < hs.length) (h1 : (mh hs i).base ≤ x) (h2 : x ≤ (mh hs i).lst) (h3 : (mh hs j).base ≤ x) (h4 : x ≤ (mh hs j).lst) : i = j := by
  have e1 := findM_at h hi h1 h2
  have e2 := findM_at h hj h3 h4
  rw [e1] at e2
  exact Option.some.inj e2
theorem unmG_sp {s : BS} (hk : s.ok) {m : Nat} (hm : m < 3) (i k : Nat) : (unmG s m i).sp k = if k = m then ⟨(s.sp m).A, (s.sp m).c, delL (s.sp m).hs i⟩ else s.sp k :=
  getD_set _ _ _ _ _ (by rw [hk.wf.sp]; exact hm)
theorem delL_idx {β : Type} {l : List β} {i : Nat} (d : β) (h : i < l.length) {P : β → Prop} : (∃ k, k < (delL l i).length ∧ P ((delL l i).getD k d)) ↔ ∃ k, k < l.length ∧ k ≠ i ∧ P (l.getD k d) := by
  have hl := delL_length h
  constructor
  · rintro ⟨k, hk, hp⟩
    rw [delL_getD d h] at hp
    split at hp
    · exact ⟨k, by omega, by omega, hp⟩
    · exact ⟨k + 1, by omega, by omega, hp⟩
  · rintro ⟨k, hk, hne, hp⟩
    by_cases hlt : k < i
    · exact ⟨k, by omega, by rw [delL_getD d h, if_pos hlt]; exact hp⟩
    · refine ⟨k - 1, by omega, ?_⟩
      rw [delL_getD d h, if_neg (by omega), show k - 1 + 1 = k by omega]; exact hp
theorem inM_unm {s : BS} (hk : s.ok) {z0 p q : Int} {m i : Nat} (hu : unmA s z0 p q m i) {z x : Int} {t : Tu} : inM (unmG s m i) z x t ↔ inM s z x t ∧ ¬ (z = z0 ∧ p ≤ x ∧ x < p + q) := by
  obtain ⟨rfl, hm, hi, rfl, rfl⟩ := hu
  constructor
  · rintro ⟨k, j, rfl, hk3, hj, h1, h2, rfl⟩
    by_cases e : k = m
    · subst e
      have e1 : ((unmG s k i).sp k).hs = delL (s.sp k).hs i := by rw [unmG_sp hk hm, if_pos rfl]
      rw [e1] at hj h1 h2 ⊢
      obtain ⟨n, hn, hne, h3, h4, h5⟩ := (delL_idx mhD hi (P := fun h => h.base ≤ x ∧ x ≤ h.lst ∧ tuM (mh (delL (s.sp k).hs i) j) x = tuM h x)).1 ⟨j, hj, h1, h2, rfl⟩
      refine ⟨⟨k, n, rfl, hm, hn, h3, h4, h5⟩, fun hc => hne ?_⟩
      exact (hk.sp k hm).uq hn hi h3 h4 hc.2.1 (by show x ≤ (mh (s.sp k).hs i).base + ((mh (s.sp k).hs i).len - 1); omega)
    · have e1 : (unmG s m i).sp k = s.sp k := by rw [unmG_sp hk hm, if_neg e]
      rw [e1] at hj h1 h2 ⊢
      exact ⟨⟨k, j, rfl, hk3, hj, h1, h2, rfl⟩, fun hc => e (by omega)⟩
  · rintro ⟨⟨k, j, rfl, hk3, hj, h1, h2, rfl⟩, hn⟩
    by_cases e : k = m
    · subst e
      have e1 : ((unmG s k i).sp k).hs = delL (s.sp k).hs i := by rw [unmG_sp hk hm, if_pos rfl]
      have hne : j ≠ i := fun e => hn (by
        subst e
        have h2' : x ≤ (mh (s.sp k).hs j).base + ((mh (s.sp k).hs j).len - 1) := h2
        exact ⟨rfl, h1, by omega⟩)
      obtain ⟨n, hn, h3, h4, h5⟩ := (delL_idx mhD hi (P := fun h => h.base ≤ x ∧ x ≤ h.lst ∧ tuM (mh (s.sp k).hs j) x = tuM h x)).2 ⟨j, hj, hne, h1, h2, rfl⟩
      exact ⟨k, n, rfl, hm, by rw [e1]; exact hn, by rw [e1]; exact h3, by rw [e1]; exact h4, by rw [e1]; exact h5⟩
    · have e1 : (unmG s m i).sp k = s.sp k := by rw [unmG_sp hk hm, if_neg e]
      exact ⟨k, j, rfl, hk3, by rw [e1]; exact hj, by rw [e1]; exact h1, by rw [e1]; exact h2, by rw [e1]⟩
/-- What storing n bytes of v from address p of space m on does to what is held. -/
def upd (m p v : Int) (n : Nat) (z x : Int) (t : Tu) : Tu := if z = m ∧ p ≤ x ∧ x < p + n then { t with y := byo v (x - p).toNat } else t
theorem inM_set {s : BS} (hk : s.ok) {m i : Nat} (hm : m < 3) (hi : i < (s.sp m).hs.length) {p v : Int} {n : Nat} (h1 : (mh (s.sp m).hs i).base ≤ p) (h2 : p + n - 1 ≤ (mh (s.sp m).hs i).lst) (hn : 1 ≤ n) (A : Option Addr) (c : Nat) {z x : Int} {t : Tu} :
    inM (setM s m i { mh (s.sp m).hs i with A := A, c := c, bs := wrK (raw0 (mh (s.sp m).hs i)) (p - (mh (s.sp m).hs i).base).toNat v n }) z x t ↔ ∃ t0, inM s z x t0 ∧ t = upd m p v n z x t0 := by
  have hml : m < s.sps.length := by rw [hk.wf.sp]; exact hm
  have hmo := (hk.sp m hm).each i hi
  have hr := hmo.r
  unfold okR at hr
  have h2' : p + n - 1 ≤ (mh (s.sp m).hs i).base + ((mh (s.sp m).hs i).len - 1) := h2
  obtain ⟨h', hh'⟩ : ∃ h', h' = ({ mh (s.sp m).hs i with A := A, c := c, bs := wrK (raw0 (mh (s.sp m).hs i)) (p - (mh (s.sp m).hs i).base).toNat v n } : MH) := ⟨_, rfl⟩
  rw [← hh']
  have key : ∀ x, (mh (s.sp m).hs i).base ≤ x → tuM h' x = upd m p v n m x (tuM (mh (s.sp m).hs i) x) := fun x hx => by
    subst hh'
    have hb := wrK_byt (l := raw0 (mh (s.sp m).hs i)) (k := (p - (mh (s.sp m).hs i).base).toNat) v (j := n) (by rw [raw0_len hmo]; omega) (x - (mh (s.sp m).hs i).base).toNat
    rw [raw0_byt] at hb
    unfold tuM upd
    simp only []
    rw [hb]
    by_cases hc : p ≤ x ∧ x < p + n
    · rw [if_pos (by omega), if_pos ⟨trivial, hc⟩, show (x - (mh (s.sp m).hs i).base).toNat - (p - (mh (s.sp m).hs i).base).toNat = (x - p).toNat by omega]
    · rw [if_neg (by omega), if_neg fun k => hc k.2]
  constructor
  · rintro ⟨k, j, rfl, hk3, hj, g1, g2, rfl⟩
    rw [setM_sp hml] at hj g1 g2 ⊢
    by_cases e : k = m
    · subst e
      rw [if_pos rfl] at hj g1 g2 ⊢
      simp only [List.length_set] at hj
      by_cases ej : j = i
      · subst ej
        have e1 : mh ((s.sp k).hs.set j h') j = h' := getD_set_self _ _ _ _ hj
        simp only [] at g1 g2 ⊢
        rw [e1] at g1 g2 ⊢
        have b1 : h'.base = (mh (s.sp k).hs j).base := by rw [hh']
        have b2 : h'.lst = (mh (s.sp k).hs j).lst := by rw [hh']
        rw [b1] at g1; rw [b2] at g2
        exact ⟨_, ⟨k, j, rfl, hm, hj, g1, g2, rfl⟩, key x g1⟩
      · have e1 : mh ((s.sp k).hs.set i h') j = mh (s.sp k).hs j := getD_set_other _ _ _ (fun h => ej h.symm)
        simp only [] at g1 g2 ⊢
        rw [e1] at g1 g2 ⊢
        refine ⟨_, ⟨k, j, rfl, hm, hj, g1, g2, rfl⟩, ?_⟩
        rw [upd, if_neg fun hc => ej ((hk.sp k hm).uq hj hi g1 g2 (by omega) (by show x ≤ (mh (s.sp k).hs i).base + ((mh (s.sp k).hs i).len - 1); omega))]
    · rw [if_neg e] at hj g1 g2 ⊢
      exact ⟨_, ⟨k, j, rfl, hk3, hj, g1, g2, rfl⟩, by rw [upd, if_neg fun hc => e (by omega)]⟩
  · rintro ⟨t0, ⟨k, j, rfl, hk3, hj, g1, g2, rfl⟩, rfl⟩
    by_cases e : k = m
    · subst e
      by_cases ej : j = i
      · subst ej
        have e1 : mh ((setM s k j h').sp k).hs j = h' := by rw [setM_sp hml, if_pos rfl]; exact getD_set_self _ _ _ _ hj
        refine ⟨k, j, rfl, hm, by rw [setM_sp hml, if_pos rfl]; simpa using hj, ?_, ?_, ?_⟩
        · rw [e1, hh']; exact g1
        · rw [e1, hh']; exact g2
        · rw [e1, key x g1]
      · have e1 : mh ((setM s k i h').sp k).hs j = mh (s.sp k).hs j := by rw [setM_sp hml, if_pos rfl]; exact getD_set_other _ _ _ (fun h => ej h.symm)
        refine ⟨k, j, rfl, hm, by rw [setM_sp hml, if_pos rfl]; simpa using hj, by rw [e1]; exact g1, by rw [e1]; exact g2, ?_⟩
        rw [e1, upd, if_neg fun hc => ej ((hk.sp k hm).uq hj hi g1 g2 (by omega) (by show x ≤ (mh (s.sp k).hs i).base + ((mh (s.sp k).hs i).len - 1); omega))]
    · have e1 : (setM s m i h').sp k = s.sp k := by rw [setM_sp hml, if_neg e]
      exact ⟨k, j, rfl, hk3, by rw [e1]; exact hj, by rw [e1]; exact g1, by rw [e1]; exact g2, by rw [e1, upd, if_neg fun hc => e (by omega)]⟩
/-! ### The reference -/
theorem getD_app {β : Type} (l : List β) (q d : β) (k : Nat) : (l ++ [q]).getD k d = if k < l.length then l.getD k d else if k = l.length then q else d := by
  by_cases h : k < l.length
  · rw [if_pos h, getD_append_left d h]
  · rw [if_neg h]
    by_cases e : k = l.length
    · subst e; rw [if_pos rfl, getD_append_one]
    · rw [if_neg e]; have e2 : (l ++ [q])[k]? = none := List.getElem?_eq_none (by simp; omega); simp [List.getD, e2]
theorem inR_add {ms : List RH} {q : RH} {z x : Int} {t : Tu} : inR (ms ++ [q]) z x t ↔ (q.sp = z ∧ hasR q.base q.len x ∧ t = tuR q x) ∨ inR ms z x t := by
  constructor
  · rintro ⟨i, hi, hh, rfl⟩
    unfold hitR rh at hh
    rw [List.length_append, List.length_singleton] at hi
    unfold rh
    rw [getD_app] at hh ⊢
    by_cases e : i < ms.length
    · rw [if_pos e] at hh ⊢; exact .inr ⟨i, e, hh, rfl⟩
    · rw [if_neg e, if_pos (by omega)] at hh ⊢; exact .inl ⟨hh.1, hh.2, rfl⟩
  · rintro (⟨h1, h2, rfl⟩ | ⟨i, hi, hh, rfl⟩)
    · refine ⟨ms.length, by simp, ?_, ?_⟩
      · unfold hitR rh; rw [getD_append_one]; exact ⟨h1, h2⟩
      · unfold rh; rw [getD_append_one]
    · refine ⟨i, by simp; omega, ?_, ?_⟩
      · unfold hitR rh; rw [getD_append_left _ hi]; exact hh
      · unfold rh; rw [getD_append_left _ hi]
theorem uqR_add {ms : List RH} (hu : uqR ms) {q : RH} (hn : ∀ (x : Int) (t : Tu), hasR q.base q.len x → ¬ inR ms q.sp x t) : uqR (ms ++ [q]) := by
  intro i j z x hi hj h1 h2
  unfold hitR rh at h1 h2
  rw [getD_app] at h1 h2
  simp only [List.length_append, List.length_singleton] at hi hj
  by_cases e1 : i < ms.length
  · rw [if_pos e1] at h1
    by_cases e2 : j < ms.length
    · rw [if_pos e2] at h2; exact hu i j z x e1 e2 h1 h2
    · rw [if_neg e2, if_pos (by omega)] at h2
      exact absurd ⟨i, e1, by rw [h2.1]; exact h1, rfl⟩ (hn x _ h2.2)
  · rw [if_neg e1, if_pos (by omega)] at h1
    by_cases e2 : j < ms.length
    · rw [if_pos e2] at h2
      exact absurd ⟨j, e2, by rw [h1.1]; exact h2, rfl⟩ (hn x _ h1.2)
    · omega
theorem busyR_in {ms : List RH} {z p n : Int} (hn : 1 ≤ n) (hl : ∀ i, i < ms.length → 1 ≤ (rh ms i).len) : (∃ i, i < ms.length ∧ busyR ms z p n i) ↔ ∃ x t, p ≤ x ∧ x < p + n ∧ inR ms z x t := by
  constructor
  · rintro ⟨i, hi, h1, h2⟩
    have := hl i hi
    rcases h2 with h2 | h2
    · exact ⟨p, _, by omega, by omega, i, hi, ⟨h1, h2⟩, rfl⟩
    · exact ⟨(rh ms i).base, _, h2.1, by have := h2.2; omega, i, hi, ⟨h1, by omega, by omega⟩, rfl⟩
  · rintro ⟨x, t, h1, h2, i, hi, ⟨h3, h4, h5⟩, _⟩
    refine ⟨i, hi, h3, ?_⟩
    by_cases hc : (rh ms i).base ≤ p
    · exact .inl ⟨hc, by omega⟩
    · exact .inr ⟨by omega, by omega⟩
theorem inR_del {ms : List RH} (hu : uqR ms) {j : Nat} (hj : j < ms.length) {z x : Int} {t : Tu} : inR (delL ms j) z x t ↔ inR ms z x t ∧ ¬ (z = (rh ms j).sp ∧ hasR (rh ms j).base (rh ms j).len x) := by
  constructor
  · rintro ⟨i, hi, hh, rfl⟩
    obtain ⟨k, hk, hne, h1, h2⟩ := (delL_idx rhK.d hj (P := fun q => (q.sp = z ∧ hasR q.base q.len x) ∧ tuR (rh (delL ms j) i) x = tuR q x)).1 ⟨i, hi, hh, rfl⟩
    exact ⟨⟨k, hk, h1, h2⟩, fun hc => hne (hu k j z x hk hj h1 ⟨hc.1.symm, hc.2⟩)⟩
  · rintro ⟨⟨k, hk, h1, rfl⟩, hn⟩
    obtain ⟨i, hi, h3, h4⟩ := (delL_idx rhK.d hj (P := fun q => (q.sp = z ∧ hasR q.base q.len x) ∧ tuR (rh ms k) x = tuR q x)).2 ⟨k, hk, fun e => hn (by subst e; exact ⟨h1.1.symm, h1.2⟩), h1, rfl⟩
    exact ⟨i, hi, h3, h4⟩
theorem uqR_del {ms : List RH} (hu : uqR ms) {j : Nat} (hj : j < ms.length) : uqR (delL ms j) := by
  intro i k z x hi hk h1 h2
  have hl := delL_length hj
  unfold hitR rh at h1 h2
  rw [delL_getD _ hj] at h1 h2
  split at h1 <;> split at h2
  · exact hu i k z x (by omega) (by omega) h1 h2
  · have := hu i (k + 1) z x (by omega) (by omega) h1 h2; omega
  · have := hu (i + 1) k z x (by omega) (by omega) h1 h2; omega
  · have := hu (i + 1) (k + 1) z x (by omega) (by omega) h1 h2; omega
theorem setB_rh {r : RB} {i : Nat} (hi : i < r.ms.length) (l : List Int) (k : Nat) : rh (setB r i l).ms k = if k = i then { rh r.ms i with bs := l } else rh r.ms k := getD_set _ _ _ _ _ hi
theorem setB_hit {r : RB} {i : Nat} (hi : i < r.ms.length) (l : List Int) (z x : Int) (k : Nat) : hitR (setB r i l).ms z x k ↔ hitR r.ms z x k := by
  unfold hitR
  rw [setB_rh hi]
  split
  · rename_i e; subst e; exact Iff.rfl
  · exact Iff.rfl
theorem uqR_set {r : RB} (hu : uqR r.ms) {i : Nat} (hi : i < r.ms.length) (l : List Int) : uqR (setB r i l).ms := by
  intro a b z x ha hb h1 h2
  have e : (setB r i l).ms.length = r.ms.length := List.length_set ..
  exact hu a b z x (by omega) (by omega) ((setB_hit hi l z x a).1 h1) ((setB_hit hi l z x b).1 h2)
theorem inR_set {r : RB} (hu : uqR r.ms) {i : Nat} (hi : i < r.ms.length) {p v : Int} {n : Nat} {l : List Int} (h1 : (rh r.ms i).base ≤ p) (h2 : p + n ≤ (rh r.ms i).base + (rh r.ms i).len)
    (hl : ∀ k, byt l k = if (p - (rh r.ms i).base).toNat ≤ k ∧ k < (p - (rh r.ms i).base).toNat + n then byo v (k - (p - (rh r.ms i).base).toNat) else byt (rh r.ms i).bs k) {z x : Int} {t : Tu} :
    inR (setB r i l).ms z x t ↔ ∃ t0, inR r.ms z x t0 ∧ t = upd (rh r.ms i).sp p v n z x t0 := by
  have e : (setB r i l).ms.length = r.ms.length := List.length_set ..
  have key : ∀ k, k < r.ms.length → hitR r.ms z x k → tuR (rh (setB r i l).ms k) x = upd (rh r.ms i).sp p v n z x (tuR (rh r.ms k) x) := fun k hk hh => by
    rw [setB_rh hi]
    by_cases ek : k = i
    · subst ek
      rw [if_pos rfl]
      have hb := hh.2.1
      unfold tuR upd
      simp only []
      rw [hl]
      by_cases hc : p ≤ x ∧ x < p + n
      · rw [if_pos (by omega), if_pos ⟨hh.1.symm, hc⟩, show (x - (rh r.ms k).base).toNat - (p - (rh r.ms k).base).toNat = (x - p).toNat by omega]
      · rw [if_neg (by omega), if_neg fun q => hc q.2]
    · rw [if_neg ek, upd, if_neg fun hc => ek (hu k i z x hk hi hh ⟨hc.1.symm, by omega, by omega⟩)]
  constructor
  · rintro ⟨k, hk, hh, rfl⟩
    rw [e] at hk
    have hh2 := (setB_hit hi l z x k).1 hh
    exact ⟨_, ⟨k, hk, hh2, rfl⟩, key k hk hh2⟩
  · rintro ⟨t0, ⟨k, hk, hh, rfl⟩, rfl⟩
    exact ⟨k, by omega, (setB_hit hi l z x k).2 hh, (key k hk hh).symm⟩
end Go.Ios
set_option linter.unusedSimpArgs false
set_option linter.unusedVariables false
namespace Go.Ios
open Go.Sv
def filt (l : List Flt) : List Flt := l.filter fun f => decide (0 < f.cnt)
structure Rel (s : BS) (r : RB) (n : Nat) : Prop where
  sk : s.ok
  rk : r.ok
  uq : uqR r.ms
  lk : ∀ z x t, inM s z x t ↔ inR r.ms z x t
  en : s.en = r.en
  tr : s.tr = r.tr
  tot : s.total = r.ms.length
  fl : s.fl = filt r.fl
  nf : r.fl.length ≤ n
abbrev goodM (z p q o : Int) : Prop := (0 ≤ z ∧ z < 3) ∧ okR p q ∧ 0 ≤ o ∧ o < 256
abbrev goodP (z p q n : Int) : Prop := (0 ≤ z ∧ z < 3) ∧ okR p q ∧ 1 ≤ n ∧ n ≤ 64
section
variable {s : BS} {r : RB} {n : Nat}
theorem Rel.up (R : Rel s r n) : Rel s r (n + 1) := ⟨R.sk, R.rk, R.uq, R.lk, R.en, R.tr, R.tot, R.fl, by have := R.nf; omega⟩
theorem Rel.own (R : Rel s r n) (z x : Int) : ownM s z x = ownR r.ms z x ∧ pkM s z x = pkR r.ms z x ∧ (fnd s z x).isSome = decide (0 ≤ fR r.ms z x) := by
  by_cases h : ∃ t, inM s z x t
  · obtain ⟨t, ht⟩ := h
    obtain ⟨h1, h2, h3⟩ := inM_own R.sk ht
    obtain ⟨i, _, _, _, _, g1, g2, g3⟩ := inR_own R.uq ((R.lk z x t).1 ht)
    exact ⟨by rw [h1, g1], by rw [h2, g2], by rw [h3, decide_eq_true g3]⟩
  · have hn : ∀ t, ¬ inM s z x t := fun t ht => h ⟨t, ht⟩
    obtain ⟨h1, h2, h3, _⟩ := inM_no hn
    obtain ⟨g0, g1, g2⟩ := inR_no (ms := r.ms) (z := z) (x := x) fun t ht => hn t ((R.lk z x t).2 ht)
    exact ⟨by rw [h1, g1], by rw [h2, g2], by rw [h3, decide_eq_false (by omega)]⟩
/-! ### Map -/
inductive MapO (s : BS) (z p q o : Int) : Int → BS → Prop
  | bad : ¬ goodM z p q o → MapO s z p q o 1 s
  | busy (m : Nat) : z = (m : Int) → goodM z p q o → busy (s.sp m).hs p q → MapO s z p q o 17 s
  | full (m : Nat) : z = (m : Int) → goodM z p q o → ¬ Ios.busy (s.sp m).hs p q → s.total = 256 → MapO s z p q o 8 s
  | done (m bp : Nat) (A : Option Addr) (c : Nat) : z = (m : Int) → goodM z p q o → ¬ Ios.busy (s.sp m).hs p q → s.total ≠ 256 → MapO s z p q o 0 (mapG s m ⟨bp, p, q, o, none, 0, []⟩ A c)
inductive MapR (r : RB) (z p q o : Int) : Int → RB → Prop
  | bad : ¬ goodM z p q o → MapR r z p q o 1 r
  | busy : goodM z p q o → (∃ i, i < r.ms.length ∧ busyR r.ms z p q i) → MapR r z p q o 17 r
  | full : goodM z p q o → (∀ i, i < r.ms.length → ¬ busyR r.ms z p q i) → r.ms.length = 256 → MapR r z p q o 8 r
  | done (A A2 : Option Addr) (c2 : Nat) : goodM z p q o → (∀ i, i < r.ms.length → ¬ busyR r.ms z p q i) → r.ms.length ≠ 256 → MapR r z p q o 0 (radd r (rnew z p q o A) A2 c2)
theorem rlen (hk : r.ok) : ∀ i, i < r.ms.length → 1 ≤ (rh r.ms i).len := fun i hi => by have := (hk.each i hi).r; unfold okR at this; omega
theorem Rel.busy (R : Rel s r n) {m : Nat} (hm : m < 3) {p q : Int} (hq : 1 ≤ q) : Ios.busy (s.sp m).hs p q ↔ ∃ i, i < r.ms.length ∧ busyR r.ms m p q i := by
  rw [busy_in R.sk hm hq, busyR_in hq (rlen R.rk)]
  constructor
  · rintro ⟨x, t, h1, h2, h3⟩; exact ⟨x, t, h1, h2, (R.lk _ _ _).1 h3⟩
  · rintro ⟨x, t, h1, h2, h3⟩; exact ⟨x, t, h1, h2, (R.lk _ _ _).2 h3⟩
theorem rnew_ok {z p q o : Int} {A : Option Addr} (hp : isU p) (hg : goodM z p q o) : (rnew z p q o A).ok :=
  ⟨hg.1.1, hg.1.2, hp, hg.2.1, hg.2.2.1, hg.2.2.2, by simp [rnew], fun i => by simp [rnew, List.getD, List.getElem?_replicate]; split <;> simp⟩
theorem radd_ok (hk : r.ok) {q : RH} (hq : q.ok) (hl : r.ms.length ≠ 256) (A : Option Addr) (c : Nat) : (radd r q A c).ok := by
  have := hk.max
  refine ⟨hk.en, fun i hi => ?_, by show (r.ms ++ [q]).length ≤ 256; simp; omega, hk.fl, hk.fr, hk.tr⟩
  show ((r.ms ++ [q]).getD i rhK.d).ok
  have hi2 : i < r.ms.length + 1 := by simpa [radd] using hi
  rw [getD_app]
  by_cases e : i < r.ms.length
  · rw [if_pos e]; exact hk.each i e
  · rw [if_neg e, if_pos (by omega)]; exact hq
theorem Rel.map (R : Rel s r n) {z p q o e e2 : Int} {s2 : BS} {r2 : RB} (hp : isU p) (h1 : MapO s z p q o e s2) (h2 : MapR r z p q o e2 r2) : e = e2 ∧ Rel s2 r2 (n + 1) := by
  by_cases hg : goodM z p q o
  · have hq : 1 ≤ q := hg.2.1.1
    cases h1 with
    | bad h => exact absurd hg h
    | busy m hz _ hb =>
      subst hz
      have hb2 := (R.busy (by have := hg.1.2; omega) hq).1 hb
      cases h2 with
      | bad h => exact absurd hg h
      | busy _ _ => exact ⟨rfl, R.up⟩
      | full _ h _ => obtain ⟨i, hi, hbi⟩ := hb2; exact absurd hbi (h i hi)
      | done _ _ _ _ h _ => obtain ⟨i, hi, hbi⟩ := hb2; exact absurd hbi (h i hi)
    | full m hz _ hb ht =>
      subst hz
      have hb2 := fun k => hb ((R.busy (by have := hg.1.2; omega) hq).2 k)
      have htt := R.tot
      cases h2 with
      | bad h => exact absurd hg h
      | busy _ h => exact absurd h hb2
      | full _ _ _ => exact ⟨rfl, R.up⟩
      | done _ _ _ _ _ h => exact absurd (by omega) h
    | done m bp A c hz _ hb ht =>
      subst hz
      have hm : m < 3 := by have := hg.1.2; omega
      have hb2 := fun k => hb ((R.busy hm hq).2 k)
      have htt := R.tot
      cases h2 with
      | bad h => exact absurd hg h
      | busy _ h => exact absurd h hb2
      | full _ _ h => exact absurd (by omega) ht
      | done A1 A2 c2 _ hb3 hl =>
        refine ⟨rfl, ?_⟩
        have hh : (⟨bp, p, q, o, none, 0, []⟩ : MH).ok := newH_ok hp hg.2.1 hg.2.2.1 hg.2.2.2
        have hno : ∀ (x : Int) (t : Tu), hasR p q x → ¬ inR r.ms m x t := fun x t hx hin => hb2 ((busyR_in hq (rlen R.rk)).2 ⟨x, t, hx.1, by have := hx.2; omega, hin⟩)
        refine ⟨mapG_ok R.sk hm hh hb ht A c, radd_ok R.rk (rnew_ok hp hg) hl A2 c2, uqR_add R.uq hno, fun z x t => ?_, R.en, R.tr, ?_, R.fl, by have := R.nf; show r.fl.length ≤ n + 1; omega⟩
        · rw [inM_map R.sk hm]
          show _ ↔ inR (r.ms ++ [rnew m p q o A1]) z x t
          rw [inR_add, R.lk]
          have e1 : tuM ⟨bp, p, q, o, none, 0, []⟩ x = tuR (rnew m p q o A1) x := by
            unfold tuM tuR rnew byt
            simp [List.getD, List.getElem?_replicate]
            split <;> rfl
          constructor
          · rintro (⟨h1, h2, h3, h4⟩ | h)
            · refine .inl ⟨h1.symm, ⟨h2, ?_⟩, h4.trans e1⟩
              have h3' : x ≤ p + (q - 1) := h3
              show x - p < q
              omega
            · exact .inr h
          · rintro (⟨h1, h2, h3⟩ | h)
            · have h2a : p ≤ x := h2.1
              have h2b : x - p < q := h2.2
              exact .inl ⟨h1.symm, h2a, by show x ≤ p + (q - 1); omega, h3.trans e1.symm⟩
            · exact .inr h
        · show s.total + 1 = ((r.ms ++ [rnew m p q o A1]).length : Int)
          rw [List.length_append, htt]; simp
  · cases h1 with
    | bad _ => cases h2 with
      | bad _ => exact ⟨rfl, R.up⟩
      | busy h => exact absurd h hg
      | full h => exact absurd h hg
      | done _ _ _ h => exact absurd h hg
    | busy _ _ h => exact absurd h hg
    | full _ _ h => exact absurd h hg
    | done _ _ _ _ _ h => exact absurd h hg
/-! ### Unmap -/
inductive UnO (s : BS) (z p q : Int) : Int → BS → Prop
  | no : (¬ ∃ m i : Nat, unmA s z p q m i) → UnO s z p q 6 s
  | yes (m i : Nat) : unmA s z p q m i → UnO s z p q 0 (unmG s m i)
inductive UnR (r : RB) (z p q : Int) : Int → RB → Prop
  | no : (∀ k, k < r.ms.length → ¬ ((rh r.ms k).sp = z ∧ (rh r.ms k).base = p ∧ (rh r.ms k).len = q)) → UnR r z p q 6 r
  | yes (j : Nat) (A : Option Addr) (c : Nat) : j < r.ms.length → (rh r.ms j).sp = z ∧ (rh r.ms j).base = p ∧ (rh r.ms j).len = q → UnR r z p q 0 (rdel r j A c)
theorem unmG_ok (hk : s.ok) {z p q : Int} {m i : Nat} (hu : unmA s z p q m i) : (unmG s m i).ok := by
  obtain ⟨_, hm, hi, _⟩ := hu
  have hl := delL_length hi
  have hok : okS (delL (s.sp m).hs i) := by
    have hs := hk.sp m hm
    refine ⟨fun k hk2 => ?_, fun a b hab hb => ?_⟩
    · unfold mh; rw [delL_getD _ hi]; split
      · exact hs.each k (by omega)
      · exact hs.each (k + 1) (by omega)
    · unfold mh
      rw [delL_getD _ hi, delL_getD _ hi]
      split <;> split
      · exact hs.sort a b hab (by omega)
      · exact hs.sort a (b + 1) (by omega) (by omega)
      · omega
      · exact hs.sort (a + 1) (b + 1) (by omega) (by omega)
  have ht := hk.tot
  have hmx := hk.max
  refine ⟨⟨by show (s.sps.set m _).length = 3; rw [List.length_set]; exact hk.wf.sp, hk.wf.en⟩, fun k hk3 => ?_, ?_, by show s.total - 1 ≤ 256; omega, hk.fl, hk.fr, hk.tr⟩
  · rw [unmG_sp hk hm]; split
    · exact hok
    · exact hk.sp k hk3
  · rw [unmG_sp hk hm, unmG_sp hk hm, unmG_sp hk hm]
    show s.total - 1 = _
    rw [ht]
    obtain rfl | rfl | rfl : m = 0 ∨ m = 1 ∨ m = 2 := by omega
    · simp only [if_true, show ¬ (1 = 0) by decide, show ¬ (2 = 0) by decide, if_false]
      rw [hl]; omega
    · simp only [if_true, show ¬ (0 = 1) by decide, show ¬ (2 = 1) by decide, if_false]
      rw [hl]; omega
    · simp only [if_true, show ¬ (0 = 2) by decide, show ¬ (1 = 2) by decide, if_false]
      rw [hl]; omega
theorem rdel_ok (hk : r.ok) {j : Nat} (hj : j < r.ms.length) (A : Option Addr) (c : Nat) : (rdel r j A c).ok := by
  have hl := delL_length hj
  have := hk.max
  refine ⟨hk.en, fun k hk2 => ?_, by show (delL r.ms j).length ≤ 256; omega, hk.fl, hk.fr, hk.tr⟩
  have hk3 : k < (delL r.ms j).length := hk2
  show ((delL r.ms j).getD k rhK.d).ok
  rw [delL_getD _ hj]; split
  · exact hk.each k (by omega)
  · exact hk.each (k + 1) (by omega)
theorem unR_in {z p q : Int} (hk : r.ok) : (∃ k, k < r.ms.length ∧ ((rh r.ms k).sp = z ∧ (rh r.ms k).base = p ∧ (rh r.ms k).len = q)) ↔ ∃ t, inR r.ms z p t ∧ t.b = p ∧ t.l = q := by
  constructor
  · rintro ⟨k, hk2, h1, h2, h3⟩
    have hr := rlen hk k hk2
    exact ⟨_, ⟨k, hk2, ⟨h1, by omega, by omega⟩, rfl⟩, h2, h3⟩
  · rintro ⟨t, ⟨k, hk2, h1, rfl⟩, h2, h3⟩
    exact ⟨k, hk2, h1.1, h2, h3⟩
theorem Rel.un (R : Rel s r n) {z p q e e2 : Int} {s2 : BS} {r2 : RB} (h1 : UnO s z p q e s2) (h2 : UnR r z p q e2 r2) : e = e2 ∧ Rel s2 r2 (n + 1) := by
  have key : (∃ m i : Nat, unmA s z p q m i) ↔ ∃ k, k < r.ms.length ∧ ((rh r.ms k).sp = z ∧ (rh r.ms k).base = p ∧ (rh r.ms k).len = q) := by
    rw [unm_in R.sk, unR_in R.rk]
    constructor
    · rintro ⟨t, h, h3⟩; exact ⟨t, (R.lk _ _ _).1 h, h3⟩
    · rintro ⟨t, h, h3⟩; exact ⟨t, (R.lk _ _ _).2 h, h3⟩
  cases h1 with
  | no h => cases h2 with
    | no _ => exact ⟨rfl, R.up⟩
    | yes j _ _ hj hh => exact absurd (key.2 ⟨j, hj, hh⟩) h
  | yes m i hu => cases h2 with
    | no h => obtain ⟨k, hk, hh⟩ := key.1 ⟨m, i, hu⟩; exact absurd hh (h k hk)
    | yes j A c hj hh =>
      have htt := R.tot
      refine ⟨rfl, unmG_ok R.sk hu, rdel_ok R.rk hj A c, uqR_del R.uq hj, fun z x t => ?_, R.en, R.tr, ?_, R.fl, by have := R.nf; show r.fl.length ≤ n + 1; omega⟩
      · rw [inM_unm R.sk hu]
        show _ ↔ inR (delL r.ms j) z x t
        rw [inR_del R.uq hj, R.lk, hh.1, hh.2.1, hh.2.2]
        constructor
        · rintro ⟨h, h3⟩; exact ⟨h, fun k => h3 ⟨k.1, k.2.1, by have := k.2.2; omega⟩⟩
        · rintro ⟨h, h3⟩; exact ⟨h, fun k => h3 ⟨k.1, k.2.1, by have := k.2.2; omega⟩⟩
      · show s.total - 1 = ((delL r.ms j).length : Int)
        rw [delL_length hj, htt]; omega
/-! ### Enable, trace -/
inductive EnO (s : BS) (o : Int) (v : Bool) : Int → BS → Prop
  | bad : ¬ (0 ≤ o ∧ o < 256) → EnO s o v 1 s
  | done : 0 ≤ o ∧ o < 256 → EnO s o v 0 { s with en := s.en.set o.toNat v }
inductive EnR (r : RB) (o : Int) (v : Bool) : Int → RB → Prop
  | bad : ¬ (0 ≤ o ∧ o < 256) → EnR r o v 1 r
  | done : 0 ≤ o ∧ o < 256 → EnR r o v 0 { r with en := r.en.set o.toNat v }
theorem Rel.enb (R : Rel s r n) {o e e2 : Int} {v : Bool} {s2 : BS} {r2 : RB} (h1 : EnO s o v e s2) (h2 : EnR r o v e2 r2) : e = e2 ∧ Rel s2 r2 (n + 1) := by
  cases h1 with
  | bad h => cases h2 with
    | bad _ => exact ⟨rfl, R.up⟩
    | done h2 => exact absurd h2 h
  | done h => cases h2 with
    | bad h2 => exact absurd h h2
    | done _ =>
      have hk := R.rk
      exact ⟨rfl, R.sk.en _ _, ⟨by show (r.en.set _ _).length = 256; rw [List.length_set]; exact hk.en, hk.each, hk.max, hk.fl, hk.fr, hk.tr⟩, R.uq, R.lk, by show s.en.set _ _ = r.en.set _ _; rw [R.en], R.tr, R.tot, R.fl, R.up.nf⟩
theorem Rel.take (R : Rel s r n) : Rel { s with tA := none, tc := 0, tr := [] } { r with tA := none, tc := 0, tr := [] } (n + 1) :=
  have hk := R.rk
  ⟨R.sk.noTr, ⟨hk.en, hk.each, hk.max, hk.fl, hk.fr, by show 0 ≤ 65536; omega⟩, R.uq, R.lk, R.en, rfl, R.tot, R.fl, R.up.nf⟩
/-! ### Faults -/
inductive PlO (s : BS) (z p q c : Int) : Int → BS → Prop
  | bad : ¬ goodP z p q c → PlO s z p q c 1 s
  | full : goodP z p q c → s.fl.length = 64 → PlO s z p q c 8 s
  | done (A : Option Addr) (d : Nat) : goodP z p q c → s.fl.length ≠ 64 → PlO s z p q c 0 (fltG s ⟨z, p, q, c⟩ A d)
inductive PlR (r : RB) (z p q c : Int) : Int → RB → Prop
  | bad : ¬ goodP z p q c → PlR r z p q c 1 r
  | full : goodP z p q c → 64 ≤ lvC r.fl r.fl.length → PlR r z p q c 8 r
  | done (A : Option Addr) (d : Nat) : goodP z p q c → ¬ 64 ≤ lvC r.fl r.fl.length → PlR r z p q c 0 (rflt r ⟨z, p, q, c⟩ A d)
theorem filt_app (l : List Flt) (f : Flt) (h : 0 < f.cnt) : filt (l ++ [f]) = filt l ++ [f] := by simp [filt, List.filter_append, h]
theorem lvC_take (l : List Flt) : ∀ j, j ≤ l.length → lvC l j = (filt (l.take j)).length
  | 0, _ => by simp [lvC, filt]
  | j + 1, h => by
    have hj : j < l.length := by omega
    rw [lvC, lvC_take l j (by omega), List.take_succ_eq_append_getElem hj]
    have e : l.getD j fltK.d = l[j] := by simp [List.getD, hj]
    rw [e]
    by_cases hc : 0 < l[j].cnt
    · rw [filt_app _ _ hc, if_pos hc, List.length_append]; rfl
    · have e3 : filt (l.take j ++ [l[j]]) = filt (l.take j) := by
        unfold filt
        rw [List.filter_append, List.filter_cons_of_neg (by simpa using hc), List.filter_nil, List.append_nil]
      rw [if_neg hc, e3]; rfl
theorem Rel.plan (R : Rel s r n) (hn : n < 100) {z p q c e e2 : Int} {s2 : BS} {r2 : RB} (hp : isU p) (h1 : PlO s z p q c e s2) (h2 : PlR r z p q c e2 r2) : e = e2 ∧ Rel s2 r2 (n + 1) := by
  have hl : lvC r.fl r.fl.length = s.fl.length := by rw [lvC_take _ _ (Nat.le_refl _), List.take_length, R.fl]
  have hsl := R.sk.fl
  cases h1 with
  | bad h => cases h2 with
    | bad _ => exact ⟨rfl, R.up⟩
    | full h2 _ => exact absurd h2 h
    | done _ _ h2 _ => exact absurd h2 h
  | full hg h => cases h2 with
    | bad h2 => exact absurd hg h2
    | full _ _ => exact ⟨rfl, R.up⟩
    | done _ _ _ h2 => exact absurd (by omega) h2
  | done A d hg h => cases h2 with
    | bad h2 => exact absurd hg h2
    | full _ h2 => exact absurd (by omega) h
    | done A2 d2 _ h2 =>
      have hk := R.rk
      have hnf := R.nf
      have hc : 1 ≤ c := hg.2.2.1
      have hc2 : c ≤ 64 := hg.2.2.2
      refine ⟨rfl, R.sk.flt (f := ⟨z, p, q, c⟩) hp hg.2.1 hg.2.2.1 hg.2.2.2 (by omega) A d, ⟨hk.en, hk.each, hk.max, by show (r.fl ++ [_]).length ≤ 1000; simp; omega, fun i hi => ?_, hk.tr⟩, R.uq, R.lk, R.en, R.tr, R.tot, ?_, by show (r.fl ++ [_]).length ≤ n + 1; simp; omega⟩
      · have hi2 : i < r.fl.length + 1 := by simpa [rflt] using hi
        have e : (rflt r ⟨z, p, q, c⟩ A2 d2).fl.getD i fltK.d = if i < r.fl.length then r.fl.getD i fltK.d else if i = r.fl.length then ⟨z, p, q, c⟩ else fltK.d := getD_app _ _ _ _
        rw [e]
        by_cases hi3 : i < r.fl.length
        · rw [if_pos hi3]; exact hk.fr i hi3
        · rw [if_neg hi3, if_pos (by omega)]
          exact ⟨hp, hg.2.1, by show 0 ≤ c; omega, hc2⟩
      · show s.fl ++ [_] = filt (r.fl ++ [_])
        rw [filt_app _ _ (show 0 < c by omega), R.fl]
theorem hitGF {f : Flt} {a : Acs} (h1 : 1 ≤ f.len) (h2 : 1 ≤ a.width) : hitG f a ↔ 0 < f.cnt ∧ hitF f a := by
  unfold hitG hitF ovR ovl hasR
  constructor
  · rintro ⟨h, h3, h4⟩; exact ⟨h, h3, by omega⟩
  · rintro ⟨h, h3, h4⟩; exact ⟨h, h3, by omega⟩
theorem filt_mem {l : List Flt} {f : Flt} : f ∈ filt l ↔ f ∈ l ∧ 0 < f.cnt := by simp [filt]
theorem use_none {l : List Flt} {a : Acs} (hl : ∀ k, k < l.length → 1 ≤ (l.getD k fltK.d).len) (ha : 1 ≤ a.width) (h : ∀ k, k < l.length → ¬ hitG (l.getD k fltK.d) a) : hitN (filt l) a = (filt l).length := by
  refine hitN_none fun j hj hh => ?_
  obtain ⟨h1, h2⟩ := filt_mem.1 (mem_idx fltK.d hj)
  obtain ⟨k, hk, e⟩ := idx_mem fltK.d h1
  exact h k hk (by rw [e]; exact (hitGF (by rw [← e]; exact hl k hk) ha).2 ⟨h2, hh⟩)
theorem split_at {β : Type} {l : List β} {j : Nat} (d : β) (h : j < l.length) : l = l.take j ++ (l.getD j d :: l.drop (j + 1)) := by
  have e : l.getD j d = l[j] := by simp [List.getD, h]
  rw [e, List.getElem_cons_drop, List.take_append_drop]
theorem filt_split {l : List Flt} {j : Nat} (h : j < l.length) : filt l = filt (l.take j) ++ (filt [l.getD j fltK.d] ++ filt (l.drop (j + 1))) := by
  have e := split_at fltK.d h
  have e2 : filt l = filt (l.take j ++ (l.getD j fltK.d :: l.drop (j + 1))) := congrArg filt e
  rw [e2]
  show List.filter _ (_ ++ (_ :: _)) = _
  rw [List.filter_append]
  congr 1
  exact List.filter_append (p := fun f : Flt => decide (0 < f.cnt)) [l.getD j fltK.d] (l.drop (j + 1))
theorem filt_set {l : List Flt} {j : Nat} (h : j < l.length) (f : Flt) : filt (l.set j f) = filt (l.take j) ++ (filt [f] ++ filt (l.drop (j + 1))) := by
  have e : l.set j f = l.take j ++ (f :: l.drop (j + 1)) := List.set_eq_take_append_cons_drop .. |>.trans (if_pos h)
  rw [e]
  show List.filter _ (_ ++ (_ :: _)) = _
  rw [List.filter_append]
  congr 1
  exact List.filter_append (p := fun f : Flt => decide (0 < f.cnt)) [f] (l.drop (j + 1))
theorem use_hit {l : List Flt} {a : Acs} (hl : ∀ k, k < l.length → 1 ≤ (l.getD k fltK.d).len) (ha : 1 ≤ a.width) {j : Nat} (hj : j < l.length) (hh : hitG (l.getD j fltK.d) a) (hf : ∀ k, k < j → ¬ hitG (l.getD k fltK.d) a) :
    hitN (filt l) a < (filt l).length ∧ useL (filt l) a = filt (l.set j { l.getD j fltK.d with cnt := (l.getD j fltK.d).cnt - 1 }) := by
  obtain ⟨hc, hF⟩ := (hitGF (hl j hj) ha).1 hh
  have e1 : filt [l.getD j fltK.d] = [l.getD j fltK.d] := by simp only [filt, List.filter_cons, List.filter_nil, decide_eq_true hc, if_true]
  have e2 := filt_split hj
  rw [e1] at e2
  obtain ⟨P, hP⟩ : ∃ P, P = filt (l.take j) := ⟨_, rfl⟩
  obtain ⟨D, hD⟩ : ∃ D, D = filt (l.drop (j + 1)) := ⟨_, rfl⟩
  obtain ⟨f, hf0⟩ : ∃ f, f = l.getD j fltK.d := ⟨_, rfl⟩
  rw [filt_set hj, ← hP, ← hD, ← hf0]
  rw [← hP, ← hD, ← hf0] at e2
  rw [← hf0] at hc hF
  have hat : (filt l).getD P.length fltK.d = f := by rw [e2]; simp [List.getD]
  have hlt : P.length < (filt l).length := by rw [e2]; simp
  have hN : hitN (filt l) a = P.length := by
    refine hitN_at (fun k hk hh2 => ?_) hlt (by rw [hat]; exact hF)
    have hk2 : (filt l).getD k fltK.d = P.getD k fltK.d := by rw [e2]; exact getD_append_left _ hk
    rw [hk2] at hh2
    have hm := mem_idx fltK.d hk
    rw [hP] at hm
    obtain ⟨h1, h2⟩ := filt_mem.1 hm
    obtain ⟨q, hq, e⟩ := idx_mem fltK.d h1
    have hq1 : q < j := by rw [List.length_take] at hq; omega
    have e3 : (l.take j).getD q fltK.d = l.getD q fltK.d := by simp [List.getD, List.getElem?_take, hq1]
    rw [e3] at e
    rw [← hP] at e h2
    refine hf q hq1 ?_
    rw [e]
    exact (hitGF (by rw [← e]; exact hl q (by omega)) ha).2 ⟨h2, hh2⟩
  refine ⟨by rw [hN]; exact hlt, ?_⟩
  by_cases hone : f.cnt = 1
  · rw [use_del hN hlt (by rw [hat]; exact hone)]
    have e4 : filt [{ f with cnt := f.cnt - 1 }] = [] := by simp [filt, hone]
    rw [e4, delL, e2]
    simp [List.take_append, List.drop_append]
  · rw [use_dec hN hlt (by rw [hat]; exact hone)]
    have e4 : filt [{ f with cnt := f.cnt - 1 }] = [{ f with cnt := f.cnt - 1 }] := by
      have : (0 : Int) < f.cnt - 1 := by omega
      simp [filt]; omega
    rw [e4, hat, e2]
    simp [List.set_append]
end
end Go.Ios
set_option linter.unusedSimpArgs false
set_option linter.unusedVariables false
namespace Go.Ios
open Go.Sv
theorem rdL_congr {l l2 : List Int} {k k2 : Nat} : ∀ {n : Nat}, (∀ j, j < n → byt l (k + j) = byt l2 (k2 + j)) → rdL l k n = rdL l2 k2 n
  | 0, _ => rfl
  | n + 1, h => by rw [rdL, rdL, rdL_congr fun j hj => h j (by omega), h n (by omega)]
theorem byo_mod {v : Int} (hv : 0 ≤ v) {j w : Nat} (hj : j < w) : byo (v % pw w) j = byo v j := by
  obtain ⟨n, rfl⟩ := Int.eq_ofNat_of_zero_le hv
  unfold byo pw
  have e : 2 ^ (8 * w) = 2 ^ (8 * j) * (256 * 2 ^ (8 * (w - j - 1))) := by
    rw [show (256 : Nat) = 2 ^ 8 from rfl, ← Nat.pow_add, ← Nat.pow_add]; congr 1; omega
  have h1 : (n % 2 ^ (8 * w)) / 2 ^ (8 * j) % 256 = n / 2 ^ (8 * j) % 256 := by
    rw [e, Nat.mod_mul_right_div_self, Nat.mod_mul_right_mod]
  have h2 := congrArg (fun k : Nat => (k : Int)) h1
  simp only [Int.natCast_emod, Int.natCast_ediv] at h2
  exact h2
theorem byo_msk {a : Acs} (hv : isU a.val) (hw : isW a.width) {j : Nat} (hj : j < a.width.toNat) : byo (mskV a) j = byo a.val j := by
  have h1 : 1 ≤ a.width := by unfold isW at hw; omega
  have e : ((a.width.toNat : Nat) : Int) = a.width := by omega
  have h2 := and_ones (v := a.val) (w := a.width.toNat) hv.1 (by rw [e]; exact hw)
  rw [e] at h2
  rw [mskV, h2]
  exact byo_mod hv.1 hj
theorem wrD_byt {l : List Int} {o : Nat} (v : Int) {n : Nat} (hl : o + n ≤ l.length) : ∀ {j : Nat}, j ≤ n → ∀ k, byt (wrD l o v n j) k = if o + (n - j) ≤ k ∧ k < o + n then byo v (k - o) else byt l k
  | 0, _, k => by rw [wrD, if_neg (by omega)]
  | j + 1, h, k => by
    have ih := wrD_byt (l := l) (o := o) v hl (j := j) (by omega) k
    rw [wrD]
    by_cases e : k = o + (n - (j + 1))
    · subst e
      rw [byt, getD_set_self _ _ _ _ (by rw [wrD_length]; omega), if_pos (by omega)]
      congr 1; omega
    · rw [byt, getD_set_other _ _ _ (fun h => e h.symm)]
      show byt _ k = _
      rw [ih]
      by_cases h1 : o + (n - j) ≤ k ∧ k < o + n
      · rw [if_pos h1, if_pos (by omega)]
      · rw [if_neg h1, if_neg (by omega)]
section
variable {s : BS} {r : RB} {n : Nat} {a : Acs}
/-- The mapping at an address, on both sides. -/
structure Both (s : BS) (r : RB) (z x : Int) (m i j : Nat) : Prop where
  ez : z = (m : Int)
  lm : m < 3
  f : fnd s m x = some i
  li : i < (s.sp m).hs.length
  b1 : (mh (s.sp m).hs i).base ≤ x
  b2 : x ≤ (mh (s.sp m).hs i).lst
  g : fR r.ms z x = j
  lj : j < r.ms.length
  h : hitR r.ms z x j
  eb : (mh (s.sp m).hs i).base = (rh r.ms j).base
  el : (mh (s.sp m).hs i).len = (rh r.ms j).len
  eo : (mh (s.sp m).hs i).own = (rh r.ms j).own
  ey : byt (mh (s.sp m).hs i).bs (x - (mh (s.sp m).hs i).base).toNat = byt (rh r.ms j).bs (x - (rh r.ms j).base).toNat
theorem Rel.both (R : Rel s r n) {z x : Int} {t : Tu} (h : inM s z x t) : ∃ m i j : Nat, Both s r z x m i j := by
  obtain ⟨m, i, rfl, hm, hf, hi, h1, h2, rfl⟩ := inM_fnd R.sk h
  obtain ⟨j, g1, g2, g3, g4, _⟩ := inR_own R.uq ((R.lk _ _ _).1 h)
  unfold tuM tuR at g4
  injection g4 with e1 e2 e3 e4
  exact ⟨m, i, j, rfl, hm, hf, hi, h1, h2, g1, g2, g3, e1, e2, e3, e4⟩
/-- Another address of the same mapping. -/
theorem Rel.both2 (R : Rel s r n) {z x y : Int} {m i j : Nat} (B : Both s r z x m i j) (h1 : (mh (s.sp m).hs i).base ≤ y) (h2 : y ≤ (mh (s.sp m).hs i).lst) : Both s r z y m i j := by
  obtain ⟨m2, i2, j2, B2⟩ := R.both (x := y) (z := z) ⟨m, i, B.ez, B.lm, B.li, h1, h2, rfl⟩
  have em : m2 = m := by have := B.ez; have := B2.ez; omega
  subst em
  have ei : i2 = i := (R.sk.sp m2 B.lm).uq B2.li B.li B2.b1 B2.b2 h1 h2
  subst ei
  have h2' : y ≤ (mh (s.sp m2).hs i2).base + ((mh (s.sp m2).hs i2).len - 1) := h2
  have ej : j2 = j := R.uq j2 j z y B2.lj B.lj B2.h ⟨B.h.1, by rw [← B.eb]; exact h1, by rw [← B.eb, ← B.el]; omega⟩
  subst ej
  exact B2
theorem Rel.live (R : Rel s r n) (ha : wfA a) : lvM s a = decide (rlv r a) := by
  have hw : 1 ≤ a.width := by have := ha.1; unfold isW at this; omega
  by_cases h : ∃ t, inM s a.space a.addr t
  · obtain ⟨t, ht⟩ := h
    obtain ⟨m, i, j, B⟩ := R.both ht
    have hb2 : a.addr ≤ (mh (s.sp m).hs i).base + ((mh (s.sp m).hs i).len - 1) := B.b2
    rw [lv_some B.ez B.f]
    by_cases hl : a.addr + a.width - 1 ≤ (mh (s.sp m).hs i).lst
    · have B2 := R.both2 B (y := a.addr + (a.width - 1)) (by have := B.b1; omega) (by omega)
      have g1 := B.g
      have g2 := B2.g
      rw [rlv_t (m := j) (by omega) (by omega) B.g, decide_eq_true hl, Bool.and_true, R.en, B.eo]
    · rw [decide_eq_false hl, Bool.and_false]
      symm
      refine decide_eq_false fun k => hl ?_
      have k1 := k.1
      have k2 := k.2.1
      obtain ⟨q, g1, g2, g3, _⟩ := fR_pos (ms := r.ms) (z := a.space) (x := a.addr + (a.width - 1)) (by omega)
      have g := B.g
      obtain rfl : q = j := by omega
      have g4 := g3.2.2
      rw [← B.eb, ← B.el] at g4
      show a.addr + a.width - 1 ≤ (mh (s.sp m).hs i).base + ((mh (s.sp m).hs i).len - 1)
      omega
  · have hn : ∀ t, ¬ inM s a.space a.addr t := fun t ht => h ⟨t, ht⟩
    obtain ⟨_, _, _, h4⟩ := inM_no hn
    obtain ⟨g0, _⟩ := inR_no (ms := r.ms) (z := a.space) (x := a.addr) fun t ht => hn t ((R.lk _ _ t).2 ht)
    rw [lv_none h4]
    symm
    exact decide_eq_false fun k => by have := k.1; omega
theorem Rel.fls (R : Rel s r n) : ∀ k, k < r.fl.length → 1 ≤ (r.fl.getD k fltK.d).len := fun k hk => by have := (R.rk.fr k hk).2.1; unfold okR at this; omega
theorem decF_ok (hk : r.ok) {j : Nat} (hj : j < r.fl.length) (hc : 0 < (r.fl.getD j fltK.d).cnt) : (decF r j).ok := by
  refine ⟨hk.en, hk.each, hk.max, by show (r.fl.set j _).length ≤ 1000; rw [List.length_set]; exact hk.fl, fun i hi => ?_, hk.tr⟩
  have hi2 : i < r.fl.length := by simpa [decF] using hi
  have e : (decF r j).fl.getD i fltK.d = if i = j then { r.fl.getD j fltK.d with cnt := (r.fl.getD j fltK.d).cnt - 1 } else r.fl.getD i fltK.d := getD_set _ _ _ _ _ hj
  rw [e]
  have h0 := hk.fr j hj
  split
  · exact ⟨h0.1, h0.2.1, by show 0 ≤ (r.fl.getD j fltK.d).cnt - 1; omega, by show (r.fl.getD j fltK.d).cnt - 1 ≤ 64; omega⟩
  · exact hk.fr i hi2
theorem setB_ok (hk : r.ok) {i : Nat} (hi : i < r.ms.length) {l : List Int} (hl : l.length = (rh r.ms i).bs.length) (hy : ∀ k, 0 ≤ byt l k ∧ byt l k ≤ 255) : (setB r i l).ok := by
  refine ⟨hk.en, fun k hk2 => ?_, by show (r.ms.set i _).length ≤ 256; rw [List.length_set]; exact hk.max, hk.fl, hk.fr, hk.tr⟩
  have hk3 : k < r.ms.length := by simpa [setB] using hk2
  rw [setB_rh hi]
  split
  · have h0 := hk.each i hi
    exact ⟨h0.s1, h0.s2, h0.b, h0.r, h0.o1, h0.o2, hl.trans h0.l, hy⟩
  · exact hk.each k hk3
inductive AccO (s : BS) (a : Acs) : Int → Int → BS → Prop
  | bad : ¬ wfA a → AccO s a 0 1 s
  | full : wfA a → s.tr.length = 65536 → AccO s a 0 8 s
  | done (A : Option Addr) (c : Nat) (tA : Option Addr) (tc : Nat) : wfA a → s.tr.length ≠ 65536 → (wrs s a → A ≠ none) → AccO s a (accV s a) (accE s a) (accS s a A c tA tc)
inductive AccR (r : RB) (a : Acs) : Int → Int → RB → Prop
  | bad : ¬ wfA a → AccR r a 0 1 r
  | full : wfA a → 65536 ≤ r.tr.length → AccR r a 0 8 r
  | done (r2 : RB) (x : Int) (lv fl : Bool) (A : Option Addr) (c : Nat) : wfA a → ¬ 65536 ≤ r.tr.length → RAx r a r2 x lv fl → AccR r a (if fl = true then 0 else if a.wr = true then 0 else x) (if fl = true then 15 else 0) (rtr r2 ⟨{ a with val := x }, ownR r.ms a.space a.addr, lv, fl⟩ A c)
theorem inM_keep {s s2 : BS} (h : s2.sps = s.sps) {z x : Int} {t : Tu} : inM s2 z x t ↔ inM s z x t := by
  unfold inM BS.sp; rw [h]
theorem Rel.flt (R : Rel s r n) (ha : wfA a) : (∀ {j : Nat}, j < r.fl.length → hitG (r.fl.getD j fltK.d) a → (∀ k, k < j → ¬ hitG (r.fl.getD k fltK.d) a) → decide (hitN s.fl a < s.fl.length) = true ∧ useL s.fl a = (decF r j).fl.filter fun f => decide (0 < f.cnt))
    ∧ ((∀ k, k < r.fl.length → ¬ hitG (r.fl.getD k fltK.d) a) → decide (hitN s.fl a < s.fl.length) = false ∧ useL s.fl a = s.fl) := by
  have hw : 1 ≤ a.width := by have := ha.1; unfold isW at this; omega
  constructor
  · intro j hj hh hf
    obtain ⟨h1, h2⟩ := use_hit R.fls hw hj hh hf
    rw [R.fl]
    exact ⟨decide_eq_true h1, h2⟩
  · intro h
    have h1 := use_none R.fls hw h
    rw [R.fl]
    exact ⟨decide_eq_false (by omega), use_no h1⟩
theorem Rel.acc (R : Rel s r n) {v e v2 e2 : Int} {s2 : BS} {r2 : RB} (hu : isU a.addr) (hv : isU a.val) (h1 : AccO s a v e s2) (h2 : AccR r a v2 e2 r2) : v = v2 ∧ e = e2 ∧ Rel s2 r2 (n + 1) := by
  have htr := congrArg List.length R.tr
  have htx := R.sk.tr
  cases h1 with
  | bad h => cases h2 with
    | bad _ => exact ⟨rfl, rfl, R.up⟩
    | full h2 _ => exact absurd h2 h
    | done _ _ _ _ _ _ h2 => exact absurd h2 h
  | full hw h => cases h2 with
    | bad h2 => exact absurd hw h2
    | full _ _ => exact ⟨rfl, rfl, R.up⟩
    | done _ _ _ _ _ _ _ h2 => exact absurd (by omega) h2
  | done A c tA tc hw h hA => cases h2 with
    | bad h2 => exact absurd hw h2
    | full _ h2 => exact absurd (by omega) h
    | done q x lv fl A2 c2 _ _ hx =>
      have hwd : 1 ≤ a.width := by have := hw.1; unfold isW at this; omega
      have elv : lvM s a = lv := by rw [R.live hw, hx.live]
      have hok := accS_ok (c := c) R.sk hw hA tA tc h
      obtain ⟨ho, _, _⟩ := R.own a.space a.addr
      have hrt : r.tr.length < 65536 := by omega
      obtain ⟨q1, q2, q3, q4⟩ := hx.tr
      have hkr := R.rk
      have hrec : ∀ {x0 : Int} {l0 f0 : Bool}, vlM s a = x0 → lvM s a = l0 → flM s a = f0 → Go.Ios.rec s a = ⟨{ a with val := x0 }, ownR r.ms a.space a.addr, l0, f0⟩ := fun h1 h2 h3 => by rw [Go.Ios.rec, h1, h2, h3, ho]
      have fin : ∀ {f0 : Bool}, flM s a = f0 → vlM s a = x → fl = f0 → q.ok → uqR q.ms → (∀ z y t, inM (stW s a A c) z y t ↔ inR q.ms z y t) → (stW s a A c).fl = filt q.fl → (stW s a A c).total = q.ms.length → q.fl.length ≤ n →
          accV s a = (if fl = true then 0 else if a.wr = true then 0 else x) ∧ accE s a = (if fl = true then 15 else 0) ∧ Rel (accS s a A c tA tc) (rtr q ⟨{ a with val := x }, ownR r.ms a.space a.addr, lv, fl⟩ A2 c2) (n + 1) := by
        intro f0 hf0 hv0 hfe hqk hqu hqi hqf hqt hqn
        refine ⟨by rw [accV, hf0, hv0, hfe], by rw [accE, hf0, hfe], hok, ⟨hqk.en, hqk.each, hqk.max, hqk.fl, hqk.fr, by show (q.tr ++ [_]).length ≤ 65536; rw [q1]; simp; omega⟩, hqu, fun z y t => ?_, ?_, ?_, hqt, hqf, by show q.fl.length ≤ n + 1; omega⟩
        · exact (inM_keep (s := stW s a A c) (s2 := accS s a A c tA tc) rfl).trans (hqi z y t)
        · show (stW s a A c).en = q.en
          rw [q4, ← R.en]
          unfold stW; split
          · exact stF_en s a
          · exact stF_en s a
        · show s.tr ++ [Go.Ios.rec s a] = q.tr ++ [_]
          rw [q1, R.tr, hrec hv0 elv hf0, hfe]
      cases hlv : lv with
      | false =>
        rw [hlv] at elv hx
        obtain ⟨rfl, rfl, hvx⟩ := hx.dead rfl
        have hfl : flM s a = false := by rw [flM, elv]; rfl
        have hnw : ¬ wrs s a := fun k => by have := k.2.1; rw [elv] at this; cases this
        have est : stW s a A c = s := by rw [stW, if_neg hnw, stF_f elv]
        rw [hlv] at fin
        refine fin hfl ?_ rfl hkr R.uq (fun z y t => by rw [est]; exact R.lk z y t) (by rw [est]; exact R.fl) (by rw [est]; exact R.tot) R.nf
        rw [hvx]
        by_cases hwr : a.wr = true
        · rw [vl_w hwr, if_pos hwr]; rfl
        · rw [vl_dead (by simpa using hwr) elv, if_neg hwr]
      | true =>
        rw [hlv] at elv hx fin
        cases hfl : fl with
        | true =>
          rw [hfl] at hx
          obtain ⟨⟨j, hj, hh, hf, rfl⟩, hvx⟩ := hx.fail rfl rfl
          obtain ⟨d1, d2⟩ := (R.flt hw).1 hj hh hf
          have hfl2 : flM s a = true := by rw [flM, elv, d1]; rfl
          have hnw : ¬ wrs s a := fun k => by have := k.2.2; rw [hfl2] at this; cases this
          have est : stW s a A c = { s with fl := useL s.fl a } := by rw [stW, if_neg hnw, stF_t elv]
          rw [hfl] at fin
          refine fin hfl2 ?_ rfl (decF_ok hkr hj hh.1) R.uq (fun z y t => by rw [est]; exact (inM_keep rfl).trans (R.lk z y t)) (by rw [est]; exact d2) (by rw [est]; exact R.tot) (by show (r.fl.set j _).length ≤ n; rw [List.length_set]; exact R.nf)
          rw [hvx]
          by_cases hwr : a.wr = true
          · rw [vl_w hwr, if_pos hwr]; rfl
          · rw [vl_fail (by simpa using hwr) elv hfl2, if_neg hwr]
        | false =>
          rw [hfl] at hx
          obtain ⟨hno, j, hfj, hj, hcase⟩ := hx.good rfl rfl
          obtain ⟨d1, d2⟩ := (R.flt hw).2 hno
          have hfl2 : flM s a = false := by rw [flM, elv, d1]; rfl
          have est0 : stF s a = s := by rw [stF_t elv, d2]
          obtain ⟨m, i, e1, hm, hf, hi, b1, b2, hen, hfh, hfi⟩ := lv_fnd R.sk elv
          obtain ⟨m2, i2, j2, B⟩ := R.both (z := a.space) (x := a.addr) ⟨m, i, e1, hm, hi, b1, by have b2' : a.addr + a.width - 1 ≤ (mh (s.sp m).hs i).lst := b2; omega, rfl⟩
          obtain rfl : m2 = m := by have := B.ez; omega
          obtain rfl : i2 = i := by have := B.f; rw [hf] at this; exact (Option.some.inj this).symm
          obtain rfl : j2 = j := by have := B.g; omega
          have b2' : a.addr + a.width - 1 ≤ (mh (s.sp m2).hs i2).base + ((mh (s.sp m2).hs i2).len - 1) := b2
          rw [hfl] at fin
          have hwn : ((a.width.toNat : Nat) : Int) = a.width := by omega
          by_cases hwr : a.wr = true
          · rw [if_pos hwr] at hcase
            obtain ⟨rfl, rfl⟩ := hcase
            have hws : wrs s a := ⟨hwr, elv, hfl2⟩
            have est : stW s a A c = setM s m2 i2 (wrH (mh (s.sp m2).hs i2) a A c) := by rw [stW, if_pos hws, est0, e1, hfi, hfh, Int.toNat_natCast]
            have hmo := hkr.each j2 hj
            have hml := hmo.l
            have hmr := hmo.r
            unfold okR at hmr
            have heb := B.eb
            have hel := B.el
            have hb1 := B.b1
            have hwb := wrD_byt (l := (rh r.ms j2).bs) (o := (a.addr - (rh r.ms j2).base).toNat) (mskV a) (n := a.width.toNat) (by rw [hml]; omega) (Nat.le_refl _)
            simp only [Nat.sub_self, Nat.add_zero] at hwb
            refine fin hfl2 (vl_w hwr) rfl (setB_ok hkr hj (wrD_length ..) fun k => ?_) (uqR_set R.uq hj _) (fun z y t => ?_) ?_ ?_ R.nf
            · have := hwb k
              rw [show byt (wrD (r.ms.getD j2 rhK.d).bs (a.addr - (r.ms.getD j2 rhK.d).base).toNat (mskV a) a.width.toNat a.width.toNat) k = _ from this]
              split
              · exact byo_bd _ _
              · exact hmo.y k
            · rw [est]
              have hI := inM_set R.sk hm hi (p := a.addr) (v := a.val) (n := a.width.toNat) b1 (by rw [hwn]; exact b2) (by omega) A c (z := z) (x := y) (t := t)
              have hJ := inR_set R.uq hj (p := a.addr) (v := mskV a) (n := a.width.toNat) (l := wrD (rh r.ms j2).bs (a.addr - (rh r.ms j2).base).toNat (mskV a) a.width.toNat a.width.toNat) (by rw [← heb]; exact hb1) (by rw [hwn]; omega) hwb (z := z) (x := y) (t := t)
              have hsp : (rh r.ms j2).sp = m2 := by rw [B.h.1, e1]
              have hup : ∀ t0, upd (rh r.ms j2).sp a.addr (mskV a) a.width.toNat z y t0 = upd m2 a.addr a.val a.width.toNat z y t0 := fun t0 => by
                rw [hsp]
                unfold upd
                by_cases hc : z = (m2 : Int) ∧ a.addr ≤ y ∧ y < a.addr + (a.width.toNat : Nat)
                · rw [if_pos hc, if_pos hc, byo_msk hv hw.1 (by omega)]
                · rw [if_neg hc, if_neg hc]
              refine hI.trans (Iff.trans ?_ hJ.symm)
              constructor
              · rintro ⟨t0, h1, h2⟩; exact ⟨t0, (R.lk _ _ _).1 h1, by rw [hup]; exact h2⟩
              · rintro ⟨t0, h1, h2⟩; exact ⟨t0, (R.lk _ _ _).2 h1, by rw [← hup]; exact h2⟩
            · rw [est]; exact R.fl
            · rw [est]; show s.total = ((r.ms.set j2 _).length : Int); rw [List.length_set]; exact R.tot
          · rw [if_neg hwr] at hcase
            obtain ⟨hvx, rfl⟩ := hcase
            have hnw : ¬ wrs s a := fun k => hwr k.1
            have est : stW s a A c = s := by rw [stW, if_neg hnw, est0]
            refine fin hfl2 ?_ rfl hkr R.uq (fun z y t => by rw [est]; exact R.lk z y t) (by rw [est]; exact R.fl) (by rw [est]; exact R.tot) R.nf
            rw [vl_read (by simpa using hwr) elv hfl2 hfh, hvx]
            refine rdL_congr fun k hk => ?_
            have B2 := R.both2 B (y := a.addr + k) (by omega) (by show a.addr + k ≤ (mh (s.sp m2).hs i2).base + ((mh (s.sp m2).hs i2).len - 1); omega)
            have h3 := B2.ey
            have heb := B.eb
            have hb1 := B.b1
            rw [show (a.addr + k - (mh (s.sp m2).hs i2).base).toNat = (a.addr - (mh (s.sp m2).hs i2).base).toNat + k by omega, show (a.addr + k - (rh q.ms j2).base).toNat = (a.addr - (rh q.ms j2).base).toNat + k by omega] at h3
            exact h3
/-! ### Poke -/
inductive PkO (s : BS) (z x v : Int) : Bool → BS → Prop
  | no : fnd s z x = none → PkO s z x v false s
  | yes (m i : Nat) (A : Option Addr) (c : Nat) : z = (m : Int) → m < 3 → fnd s z x = some i → i < (s.sp m).hs.length → A ≠ none → PkO s z x v true (setM s m i { mh (s.sp m).hs i with A := A, c := c, bs := wrK (raw0 (mh (s.sp m).hs i)) (x - (mh (s.sp m).hs i).base).toNat v 1 })
inductive PkR (r : RB) (z x v : Int) : Bool → RB → Prop
  | no : ¬ 0 ≤ fR r.ms z x → PkR r z x v false r
  | yes (i : Nat) : fR r.ms z x = i → i < r.ms.length → PkR r z x v true (setB r i ((rh r.ms i).bs.set (x - (rh r.ms i).base).toNat v))
theorem Rel.poke (R : Rel s r n) {z x v : Int} {b b2 : Bool} {s2 : BS} {r2 : RB} (hv : 0 ≤ v ∧ v ≤ 255) (h1 : PkO s z x v b s2) (h2 : PkR r z x v b2 r2) : b = b2 ∧ Rel s2 r2 (n + 1) := by
  obtain ⟨_, _, ho⟩ := R.own z x
  cases h1 with
  | no h =>
    rw [h] at ho
    cases h2 with
    | no _ => exact ⟨rfl, R.up⟩
    | yes i hi _ => rw [decide_eq_true (by omega)] at ho; cases ho
  | yes m i A c hz hm hf hi hA =>
    rw [hf] at ho
    cases h2 with
    | no h => rw [decide_eq_false h] at ho; cases ho
    | yes j hfj hj =>
      subst hz
      have hin := fnd_inM hm hf
      obtain ⟨m2, i2, j2, B⟩ := R.both hin
      obtain rfl : m2 = m := by have := B.ez; omega
      obtain rfl : i2 = i := by have := B.f; rw [hf] at this; exact (Option.some.inj this).symm
      obtain rfl : j2 = j := by have := B.g; omega
      have hkr := R.rk
      have hmo := hkr.each j2 hj
      have hml := hmo.l
      have hmr := hmo.r
      unfold okR at hmr
      have heb := B.eb
      have hel := B.el
      have hb1 := B.b1
      have hb2 : x ≤ (mh (s.sp m2).hs i2).base + ((mh (s.sp m2).hs i2).len - 1) := B.b2
      have hhr : x - (rh r.ms j2).base < (rh r.ms j2).len := B.h.2.2
      have hv0 : byo v 0 = v := by unfold byo pw; omega
      have hwb : ∀ k, byt ((rh r.ms j2).bs.set (x - (rh r.ms j2).base).toNat v) k = if (x - (rh r.ms j2).base).toNat ≤ k ∧ k < (x - (rh r.ms j2).base).toNat + 1 then byo v (k - (x - (rh r.ms j2).base).toNat) else byt (rh r.ms j2).bs k := fun k => by
        by_cases e : k = (x - (rh r.ms j2).base).toNat
        · subst e
          rw [byt, getD_set_self _ _ _ _ (by rw [hml]; omega), if_pos (by omega), Nat.sub_self, hv0]
        · rw [byt, getD_set_other _ _ _ (fun h => e h.symm), if_neg (by omega)]; rfl
      have hH : ({ mh (s.sp m2).hs i2 with A := A, c := c, bs := wrK (raw0 (mh (s.sp m2).hs i2)) (x - (mh (s.sp m2).hs i2).base).toNat v 1 } : MH).ok := wrH_ok (a := ⟨0, x, 1, true, v⟩) ((R.sk.sp m2 hm).each i2 hi) hA hb1 (by show x + 1 - 1 ≤ (mh (s.sp m2).hs i2).base + ((mh (s.sp m2).hs i2).len - 1); omega) (by show (1 : Int) ≤ 1; omega)
      refine ⟨rfl, setM_ok R.sk hm hi hH rfl rfl, setB_ok hkr hj (List.length_set ..) (fun k => by rw [hwb k]; split; exact byo_bd _ _; exact hmo.y k), uqR_set R.uq hj _, fun z y t => ?_, R.en, R.tr, by show s.total = ((r.ms.set j2 _).length : Int); rw [List.length_set]; exact R.tot, R.fl, R.up.nf⟩
      have hI := inM_set R.sk hm hi (p := x) (v := v) (n := 1) hb1 (by show x + ((1 : Nat) : Int) - 1 ≤ (mh (s.sp m2).hs i2).base + ((mh (s.sp m2).hs i2).len - 1); omega) (by omega) A c (z := z) (x := y) (t := t)
      have hJ := inR_set R.uq hj (p := x) (v := v) (n := 1) (by omega) (by omega) hwb (z := z) (x := y) (t := t)
      have hsp : (rh r.ms j2).sp = m2 := B.h.1
      rw [hsp] at hJ
      refine hI.trans (Iff.trans ?_ hJ.symm)
      constructor
      · rintro ⟨t0, h1, h2⟩; exact ⟨t0, (R.lk _ _ _).1 h1, h2⟩
      · rintro ⟨t0, h1, h2⟩; exact ⟨t0, (R.lk _ _ _).2 h1, h2⟩
def rb0 : RB := ⟨none, 0, [], List.replicate 256 false, none, 0, [], none, 0, []⟩
theorem Rel.start : Rel bs0 rb0 0 where
  sk := bs0_ok
  rk := ⟨by show (List.replicate 256 false).length = 256; exact List.length_replicate, fun i hi => absurd hi (Nat.not_lt_zero _), by show 0 ≤ 256; omega, by show 0 ≤ 1000; omega, fun i hi => absurd hi (Nat.not_lt_zero _), by show 0 ≤ 65536; omega⟩
  uq i j z x hi := absurd hi (Nat.not_lt_zero _)
  lk z x t := by
    constructor
    · rintro ⟨m, i, _, hm, hi, _⟩
      have : (bs0.sp m).hs.length = 0 := by
        obtain rfl | rfl | rfl : m = 0 ∨ m = 1 ∨ m = 2 := by omega
        · rfl
        · rfl
        · rfl
      omega
    · rintro ⟨i, hi, _⟩; exact absurd hi (Nat.not_lt_zero _)
  en := rfl
  tr := rfl
  tot := rfl
  fl := rfl
  nf := Nat.le_refl _
end
end Go.Ios
set_option linter.unusedSimpArgs false
set_option linter.unusedVariables false
namespace Go.Ios
open Go.Sv
section
variable {s s2 : BS} {a : Acs}
theorem EnO.ok {o e : Int} {v : Bool} (h : EnO s o v e s2) (hk : s.ok) : s2.ok := by
  cases h with
  | bad _ => exact hk
  | done _ => exact hk.en _ _
theorem enO_step {i : Nat} {e : Int} (h : EnO s (i : Int) false e s2) (hk : s.ok) (hi : i < 256) (hp : ∀ k, k < i → s.en.getD k false = false) : s2.ok ∧ ∀ k, k < i + 1 → s2.en.getD k false = false := by
  refine ⟨h.ok hk, ?_⟩
  cases h with
  | bad h => exact absurd ⟨by omega, by omega⟩ h
  | done _ =>
    intro k hk2
    show (s.en.set (i : Int).toNat false).getD k false = false
    rw [Int.toNat_natCast, getD_set _ _ _ _ _ (by rw [hk.wf.en]; exact hi)]
    split
    · rfl
    · exact hp k (by omega)
theorem dead_lv (hk : s.ok) (h : ∀ k, k < 256 → s.en.getD k false = false) : lvM s a = false := by
  cases hl : lvM s a with
  | false => rfl
  | true =>
    obtain ⟨m, i, e1, hm, hf, hi, b1, b2, hen, hfh, hfi⟩ := lv_fnd hk hl
    have h1 := ((hk.sp m hm).each i hi).o1
    have h2 := ((hk.sp m hm).each i hi).o2
    rw [h _ (by omega)] at hen
    cases hen
theorem dead_acc {A : Option Addr} {c : Nat} {tA : Option Addr} {tc : Nat} (hl : lvM s a = false) : accE s a = 0 ∧ accV s a = (if a.wr = true then 0 else onesM a.width) ∧ (∀ z x, pkM (accS s a A c tA tc) z x = pkM s z x) ∧ ∃ t : Trc, (accS s a A c tA tc).tr = s.tr ++ [t] ∧ t.live = false ∧ t.failed = false := by
  have hf : flM s a = false := by rw [flM, hl]; rfl
  have hnw : ¬ wrs s a := fun k => by have := k.2.1; rw [hl] at this; cases this
  have est : stW s a A c = s := by rw [stW, if_neg hnw, stF_f hl]
  refine ⟨by rw [accE, hf]; rfl, ?_, fun z x => ?_, rec s a, rfl, hl, hf⟩
  · rw [accV, hf, if_neg (by decide)]
    by_cases hw : a.wr = true
    · rw [if_pos hw, if_pos hw]
    · rw [if_neg hw, if_neg hw, vl_dead (by simpa using hw) hl]
  · have e : (accS s a A c tA tc).sps = s.sps := by show (stW s a A c).sps = s.sps; rw [est]
    unfold pkM fnd BS.sp
    rw [e]
end
/-- The first i of the bytes that were held. -/
def WL (s : BS) (z x : Int) (i : Nat) : List Int := (List.range 8).map fun k => if k < i then pkM s z (x + (k : Int)) else 0
theorem WL_len (s : BS) (z x : Int) (i : Nat) : (WL s z x i).length = 8 := by simp [WL]
theorem WL_0 (s : BS) (z x : Int) : WL s z x 0 = List.replicate 8 0 := rfl
theorem WL_s {s : BS} {z x : Int} {i : Nat} (h : i < 8) : WL s z x (i + 1) = (WL s z x i).set i (pkM s z (x + (i : Int))) := by
  apply List.ext_getElem
  · simp [WL]
  · intro n h1 h2
    simp [WL] at h1
    rw [List.getElem_set]
    simp only [WL, List.getElem_map, List.getElem_range]
    by_cases e : i = n
    · subst e; rw [if_pos (by omega), if_pos rfl]
    · rw [if_neg e]
      by_cases h3 : n < i
      · rw [if_pos (by omega), if_pos h3]
      · rw [if_neg (by omega), if_neg h3]
theorem WL_get {s : BS} {z x d : Int} {n i : Nat} (h : i < n) (h8 : i < 8) : (WL s z x n).getD i d = pkM s z (x + (i : Int)) := by
  simp [WL, List.getD, h8, h]
theorem al0 {y : Int} (hy : 0 ≤ y) {k : Nat} (hk : isW (k : Int)) : (y - y.tmod k).tmod k = 0 := by
  have h1 := Int.tmod_eq_emod_of_nonneg (b := (k : Int)) hy
  rw [h1]
  have h2 : 0 ≤ y - y % (k : Int) := by
    rcases hk with e | e | e | e <;> rw [e] <;> omega
  rw [Int.tmod_eq_emod_of_nonneg h2]
  rcases hk with e | e | e | e <;> rw [e] <;> omega
end Go.Ios
namespace Go.Sv
theorem list9 {α : Type} {l : List α} (h : l.length = 9) : ∃ a b c d e f g i j, l = [a, b, c, d, e, f, g, i, j] := by
  match l, h with
  | [a, b, c, d, e, f, g, i, j], _ => exact ⟨a, b, c, d, e, f, g, i, j, rfl⟩
end Go.Sv
