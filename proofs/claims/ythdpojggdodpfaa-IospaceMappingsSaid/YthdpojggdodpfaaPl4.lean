/-
  Mappings never overlap.
-/
import Derived.Test.YthdpojggdodpfaaPl1
set_option linter.unusedSimpArgs false
set_option linter.unusedVariables false
namespace Go.Ios
open Go.Sv
def ownH (hs : List MH) (x : Int) : Int := match findM hs x with
  | some i => (mh hs i).own
  | none => -1
theorem ownM_eq {s : BS} {m : Nat} (hm : m < 3) (x : Int) : ownM s m x = ownH (s.sp m).hs x := by
  rw [ownM, fnd_ok hm]; rfl
theorem ownH_at {hs : List MH} (h : okS hs) {x : Int} {i : Nat} (hi : i < hs.length) (h1 : (mh hs i).base ≤ x) (h2 : x ≤ (mh hs i).lst) : ownH hs x = (mh hs i).own := by rw [ownH, findM_at h hi h1 h2]
theorem ownH_none {hs : List MH} {x : Int} (h : ∀ i, i < hs.length → ¬ ((mh hs i).base ≤ x ∧ x ≤ (mh hs i).lst)) : ownH hs x = -1 := by
  rw [ownH]
  cases hf : findM hs x with
  | none => rfl
  | some i => have := findM_some hf; exact absurd ⟨this.2.1, this.2.2⟩ (h i this.1)
theorem ownH_cases {hs : List MH} (h : okS hs) (x : Int) : (ownH hs x = -1 ∧ ∀ i, i < hs.length → ¬ ((mh hs i).base ≤ x ∧ x ≤ (mh hs i).lst)) ∨ ∃ i, i < hs.length ∧ (mh hs i).base ≤ x ∧ x ≤ (mh hs i).lst ∧ ownH hs x = (mh hs i).own := by
  cases hf : findM hs x with
  | none => exact .inl ⟨by rw [ownH, hf], fun i hi => findM_none h hf hi⟩
  | some i => have := findM_some hf; exact .inr ⟨i, this.1, this.2.1, this.2.2, by rw [ownH, hf]⟩
theorem ownH_ins {hs : List MH} (ho : okS hs) {h : MH} (hh : h.ok) (hb : ¬ busy hs h.base h.len) (x : Int) : ownH (insL hs (aftM hs h.base) h) x = if h.base ≤ x ∧ x ≤ h.lst then h.own else ownH hs x := by
  have hok := insL_ok ho hh hb
  have h1 := (aft_spec hs h.base).1
  have hl : (insL hs (aftM hs h.base) h).length = hs.length + 1 := insL_length h h1
  have hget : ∀ k, mh (insL hs (aftM hs h.base) h) k = if k < aftM hs h.base then mh hs k else if k = aftM hs h.base then h else mh hs (k - 1) := fun k => insL_getD h mhD h1 k
  by_cases hx : h.base ≤ x ∧ x ≤ h.lst
  · rw [if_pos hx]
    have e : mh (insL hs (aftM hs h.base) h) (aftM hs h.base) = h := by rw [hget, if_neg (Nat.lt_irrefl _), if_pos rfl]
    rw [ownH_at hok (i := aftM hs h.base) (by omega) (by rw [e]; exact hx.1) (by rw [e]; exact hx.2), e]
  · rw [if_neg hx]
    rcases ownH_cases ho x with ⟨e, hn⟩ | ⟨i, hi, h2, h3, e⟩
    · rw [e]
      refine ownH_none fun k hk => ?_
      rw [hl] at hk
      rw [hget k]
      split
      · exact hn k (by omega)
      · split
        · exact hx
        · exact hn (k - 1) (by omega)
    · rw [e]
      by_cases hlt : i < aftM hs h.base
      · have e2 : mh (insL hs (aftM hs h.base) h) i = mh hs i := by rw [hget, if_pos hlt]
        rw [ownH_at hok (i := i) (by omega) (by rw [e2]; exact h2) (by rw [e2]; exact h3), e2]
      · have e2 : mh (insL hs (aftM hs h.base) h) (i + 1) = mh hs i := by rw [hget, if_neg (by omega), if_neg (by omega)]; rfl
        rw [ownH_at hok (i := i + 1) (by omega) (by rw [e2]; exact h2) (by rw [e2]; exact h3), e2]
theorem busy_iff {hs : List MH} (ho : okS hs) {p n : Int} (hn : 1 ≤ n) : busy hs p n ↔ ∃ x, p ≤ x ∧ x < p + n ∧ ¬ ownH hs x = -1 := by
  obtain ⟨h1, h2, h3⟩ := aft_spec hs p
  constructor
  · rintro ⟨ha, hv⟩
    unfold ovl at hv
    have hr := (ho.each _ ha).r
    have ho1 := (ho.each _ ha).o1
    unfold okR at hr
    have h4 : p ≤ (mh hs (aftM hs p)).base + ((mh hs (aftM hs p)).len - 1) := h3 ha
    refine ⟨max p (mh hs (aftM hs p)).base, by omega, by omega, ?_⟩
    rw [ownH_at ho ha (by omega) (by show max p _ ≤ (mh hs (aftM hs p)).base + ((mh hs (aftM hs p)).len - 1); omega)]
    omega
  · rintro ⟨x, hx1, hx2, hx3⟩
    rcases ownH_cases ho x with ⟨e, _⟩ | ⟨i, hi, h4, h5, e⟩
    · exact absurd e hx3
    · have hle : aftM hs p ≤ i := by
        rcases Nat.lt_or_ge i (aftM hs p) with h6 | h6
        · have := h2 i h6; omega
        · exact h6
      have hbs : (mh hs (aftM hs p)).base ≤ (mh hs i).base := by
        by_cases e2 : aftM hs p = i
        · rw [e2]; exact Int.le_refl _
        · have h7 : (mh hs (aftM hs p)).base + ((mh hs (aftM hs p)).len - 1) < (mh hs i).base := ho.sort _ i (by omega) hi
          have h8 := (ho.each (aftM hs p) (by omega)).r
          unfold okR at h8
          omega
      have h9 : p ≤ (mh hs (aftM hs p)).base + ((mh hs (aftM hs p)).len - 1) := h3 (by omega)
      exact ⟨by omega, by unfold ovl; omega⟩
def frB (ow : List Int) (p : Nat) (n : Nat) (c : Nat) : Bool := decide (0 < n ∧ ∀ x, x < c → ow.getD (p + x) 0 = 0)
theorem frB_zero (ow : List Int) (p n : Nat) : frB ow p n 0 = decide (0 < n) := decide_eq_decide.2 ⟨fun h => h.1, fun h => ⟨h, fun x hx => by omega⟩⟩
theorem frB_t {ow : List Int} {p n c : Nat} (h : frB ow p n c = true) (h2 : ow.getD (p + c) 0 = 0) : true = frB ow p n (c + 1) := by
  have := of_decide_eq_true h
  exact (decide_eq_true ⟨this.1, fun x hx => by by_cases e : x = c; (subst e; exact h2); exact this.2 x (by omega)⟩).symm
theorem frB_f1 {ow : List Int} {p n c : Nat} (h : frB ow p n c = false) : false = frB ow p n (c + 1) := by
  have := of_decide_eq_false h
  exact (decide_eq_false fun k => this ⟨k.1, fun x hx => k.2 x (by omega)⟩).symm
theorem frB_f2 {ow : List Int} {p n c : Nat} (h2 : ¬ ow.getD (p + c) 0 = 0) : false = frB ow p n (c + 1) :=
  (decide_eq_false fun k => h2 (k.2 c (by omega))).symm
def setR (ow : List Int) (p : Nat) (v : Int) : Nat → List Int
  | 0 => ow
  | c + 1 => (setR ow p v c).set (p + c) v
theorem setR_len (ow : List Int) (p : Nat) (v : Int) (c : Nat) : (setR ow p v c).length = ow.length := by
  induction c with
  | zero => rfl
  | succ c ih => rw [setR, List.length_set, ih]
theorem setR_get {ow : List Int} {p : Nat} (v : Int) : ∀ {c : Nat}, p + c ≤ ow.length → ∀ x, (setR ow p v c).getD x 0 = if p ≤ x ∧ x < p + c then v else ow.getD x 0
  | 0, _, x => by rw [setR, if_neg (by omega)]
  | c + 1, h, x => by
    rw [setR, getD_set _ _ _ _ _ (by rw [setR_len]; omega), setR_get v (c := c) (by omega) x]
    by_cases e : x = p + c
    · rw [if_pos e, if_pos (by omega)]
    · rw [if_neg e]
      by_cases h1 : p ≤ x ∧ x < p + c
      · rw [if_pos h1, if_pos (by omega)]
      · rw [if_neg h1, if_neg (by omega)]
/-- The bus and the list of owners agree. -/
structure MI (s : BS) (ow : List Int) (j : Nat) : Prop where
  ok : s.ok
  len : ow.length = 128
  tot : s.total ≤ j
  own : ∀ x : Nat, x < 128 → ownH (s.sp 1).hs x = ow.getD x 0 - 1
theorem MI.free {s : BS} {ow : List Int} {j p n : Nat} (F : MI s ow j) (h : p + n ≤ 128) (hn : 0 < n) : busy (s.sp 1).hs p n ↔ frB ow p n n = false := by
  rw [busy_iff (F.ok.sp 1 (by decide)) (by omega), frB, decide_eq_false_iff_not]
  constructor
  · rintro ⟨x, h1, h2, h3⟩ ⟨_, k⟩
    obtain ⟨y, rfl⟩ := Int.eq_ofNat_of_zero_le (show 0 ≤ x by omega)
    have h4 := F.own y (by omega)
    have h5 := k (y - p) (by omega)
    rw [show p + (y - p) = y by omega] at h5
    rw [h4, h5] at h3
    exact h3 (by omega)
  · intro k
    refine Classical.byContradiction fun h0 => k ⟨hn, fun x hx => ?_⟩
    refine Classical.byContradiction fun h1 => h0 ⟨((p + x : Nat) : Int), by omega, by omega, ?_⟩
    rw [F.own (p + x) (by omega)]
    omega
theorem MI.put {s : BS} {ow : List Int} {j p n bp : Nat} {A : Option Addr} {c : Nat} (F : MI s ow j) (h : p + n ≤ 128) (hn : 0 < n) (hn2 : n < 28) (hb : ¬ busy (s.sp 1).hs p n) (hj : j < 30) :
    MI (mapG s 1 ⟨bp, p, n, j, none, 0, []⟩ A c) (setR ow p (j + 1) n) (j + 1) := by
  have hh : (⟨bp, p, n, j, none, 0, []⟩ : MH).ok := newH_ok (by unfold isU; omega) (by unfold okR; omega) (by omega) (by omega)
  have ht := F.tot
  refine ⟨mapG_ok F.ok (by decide) hh hb (by omega) A c, by rw [setR_len]; exact F.len, by show s.total + 1 ≤ ((j + 1 : Nat) : Int); omega, fun x hx => ?_⟩
  rw [mapG_sp F.ok (by decide), if_pos rfl, ownH_ins (F.ok.sp 1 (by decide)) hh hb, setR_get _ (by rw [F.len]; exact h)]
  by_cases hc : p ≤ x ∧ x < p + n
  · rw [if_pos hc, if_pos ⟨by show (p : Int) ≤ x; omega, by show (x : Int) ≤ (p : Int) + ((n : Int) - 1); omega⟩]
    show (j : Int) = (j : Int) + 1 - 1; omega
  · rw [if_neg hc, if_neg (fun k => hc ⟨by have := k.1; show p ≤ x; have h1 : (p : Int) ≤ x := this; omega, by have h2 : (x : Int) ≤ (p : Int) + ((n : Int) - 1) := k.2; omega⟩)]
    exact F.own x hx
theorem MI.start : MI bs0 (List.replicate 128 0) 0 :=
  ⟨bs0_ok, by simp, by decide, fun x hx => by
    have e : ownH (bs0.sp 1).hs x = -1 := ownH_none fun i hi => absurd hi (Nat.not_lt_zero _)
    rw [e, show (List.replicate 128 (0:Int)).getD x 0 = 0 from by rw [List.getD, List.getElem?_replicate, if_pos hx]; rfl]; rfl⟩
theorem MI.up {s : BS} {ow : List Int} {j : Nat} (F : MI s ow j) : MI s ow (j + 1) := ⟨F.ok, F.len, by have := F.tot; omega, F.own⟩
structure Op where
  kind : Int
  space : Int
  addr : Int
  len : Int
  width : Int
  own : Int
  wr : Bool
  val : Int
  raw : Bool
def opK : Enc Op where
  f r := [.int .i64 r.kind, .int .i64 r.space, .int .u64 r.addr, .int .u64 r.len, .int .i64 r.width, .int .i64 r.own, .bool r.wr, .int .u64 r.val, .bool r.raw]
  sz := 9
  d := ⟨0, 0, 0, 0, 0, 0, false, 0, false⟩
  len _ := rfl
  pos := by decide
  one r v hv := by simp at hv; rcases hv with rfl | rfl | rfl | rfl | rfl | rfl | rfl | rfl | rfl <;> rfl
def okO (r : Op) : Prop := isU r.addr ∧ isU r.len ∧ isU r.val
theorem okO_of {l : List Op} (h : ∀ i, i < l.length → okO (l.getD i opK.d)) : ∀ i, okO (l.getD i opK.d) := fun i => by
  by_cases hi : i < l.length
  · exact h i hi
  · have : l.getD i opK.d = opK.d := by simp [List.getD, List.getElem?_eq_none (Nat.le_of_not_lt hi)]
    rw [this]; unfold okO isU opK; simp
structure MZ where
  s : BS
  ow : List Int
end Go.Ios
