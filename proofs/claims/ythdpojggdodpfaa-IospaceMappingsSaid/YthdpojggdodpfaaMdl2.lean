/-
  Ranges, sorted spaces, what find finds.
-/
import Derived.Test.YthdpojggdodpfaaMdl
import Derived.Test.YthdpojggdodpfaaSv14
set_option linter.unusedSimpArgs false
set_option linter.unusedVariables false
namespace Go.Ios
open Go.Sv
def modM (v : Int) (n : Nat) : Int := (IntKind.u64.wrap v) % n
theorem modM_lt (v : Int) {n : Nat} (h : 0 < n) : 0 ≤ modM v n ∧ modM v n < n := ⟨Int.emod_nonneg _ (by omega), Int.emod_lt_of_pos _ (by omega)⟩
theorem u64_nonneg (v : Int) : 0 ≤ IntKind.u64.wrap v := by rw [IntKind.wrap_u64]; omega
theorem u64_le (v : Int) : IntKind.u64.wrap v ≤ 18446744073709551615 := by rw [IntKind.wrap_u64]; omega
theorem modM_t (v : Int) {n : Nat} (h : 0 < n) : (IntKind.u64.wrap v).tmod n = modM v n := by
  rw [modM, Int.tmod_eq_emod_of_nonneg (u64_nonneg v)]
theorem modT (v : Int) {n : Nat} (h : 0 < n) : 0 ≤ (IntKind.u64.wrap v).tmod n ∧ (IntKind.u64.wrap v).tmod n < n := by
  rw [modM_t v h]; exact modM_lt v h
theorem modN (v : Int) {n : Nat} (h : 0 < n) : ∃ p : Nat, modM v n = p ∧ p < n := by
  have := modM_lt v h
  obtain ⟨p, hp⟩ := Int.eq_ofNat_of_zero_le this.1
  exact ⟨p, hp, by omega⟩
def isU (x : Int) : Prop := 0 ≤ x ∧ x ≤ 18446744073709551615
def lastW (b l : Int) : Int := IntKind.u64.wrap (b + IntKind.u64.wrap (l - 1))
def okR (b l : Int) : Prop := 1 ≤ l ∧ l ≤ 1048576 ∧ b + (l - 1) ≤ 18446744073709551615
instance (b l : Int) : Decidable (okR b l) := inferInstanceAs (Decidable (_ ∧ _ ∧ _))
theorem lastW_eq {b l : Int} (hb : isU b) (h : okR b l) : lastW b l = b + (l - 1) := by
  unfold isU at hb
  unfold okR at h
  rw [lastW, wU64 (x := l - 1) (by omega) (by omega), wU64 (by omega) (by omega)]
theorem okR_iff {b l : Int} (hb : isU b) (h1 : 1 ≤ l) (h2 : l ≤ 1048576) : b ≤ lastW b l ↔ okR b l := by
  unfold isU at hb
  constructor
  · intro h
    refine ⟨h1, h2, ?_⟩
    rw [lastW, wU64 (x := l - 1) (by omega) (by omega), IntKind.wrap_u64] at h
    omega
  · intro h
    rw [lastW_eq hb h]; omega
def ovl (b l b2 l2 : Int) : Prop := b ≤ b2 + (l2 - 1) ∧ b2 ≤ b + (l - 1)
instance (b l b2 l2 : Int) : Decidable (ovl b l b2 l2) := inferInstanceAs (Decidable (_ ∧ _))
def firstN (p : Nat → Bool) : Nat → Nat
  | 0 => 0
  | k + 1 => if firstN p k < k then firstN p k else if p k then k else k + 1
theorem firstN_none {p : Nat → Bool} : ∀ {k : Nat}, (∀ j, j < k → p j = false) → firstN p k = k
  | 0, _ => rfl
  | k + 1, h => by rw [firstN, firstN_none fun j hj => h j (by omega), if_neg (Nat.lt_irrefl _), h k (by omega)]; rfl
theorem firstN_at {p : Nat → Bool} {i : Nat} (h : ∀ j, j < i → p j = false) (hp : p i = true) : ∀ {k : Nat}, i < k → firstN p k = i
  | 0, hk => by omega
  | k + 1, hk => by
    by_cases e : i = k
    · subst e; rw [firstN, firstN_none h, if_neg (Nat.lt_irrefl _), hp]; rfl
    · rw [firstN, firstN_at h hp (show i < k by omega), if_pos (by omega)]
theorem firstN_spec (p : Nat → Bool) (k : Nat) : firstN p k ≤ k ∧ (∀ j, j < firstN p k → p j = false) ∧ (firstN p k < k → p (firstN p k) = true) := by
  induction k with
  | zero => exact ⟨Nat.le_refl _, fun j h => by simp [firstN] at h, fun h => by simp [firstN] at h⟩
  | succ k ih =>
    obtain ⟨h1, h2, h3⟩ := ih
    by_cases hk : firstN p k < k
    · have e : firstN p (k + 1) = firstN p k := by rw [firstN, if_pos hk]
      rw [e]; exact ⟨by omega, h2, fun _ => h3 hk⟩
    · have e0 : firstN p k = k := by omega
      rw [e0] at h2
      by_cases hp : p k = true
      · have e : firstN p (k + 1) = k := by rw [firstN, e0, if_neg (Nat.lt_irrefl _), if_pos hp]
        rw [e]; exact ⟨by omega, h2, fun _ => hp⟩
      · have e : firstN p (k + 1) = k + 1 := by rw [firstN, e0, if_neg (Nat.lt_irrefl _), if_neg hp]
        rw [e]
        refine ⟨Nat.le_refl _, fun j hj => ?_, fun h => by omega⟩
        by_cases ej : j = k
        · subst ej; simpa using hp
        · exact h2 j (by omega)
abbrev MH.lst (h : MH) : Int := h.base + (h.len - 1)
structure MH.ok (h : MH) : Prop where
  b : isU h.base
  r : okR h.base h.len
  o1 : 0 ≤ h.own
  o2 : h.own < 256
  d : (h.bs = [] ∧ h.A = none) ∨ (h.bs.length = h.len.toNat ∧ h.A ≠ none)
  y : ∀ i, 0 ≤ h.bs.getD i 0 ∧ h.bs.getD i 0 ≤ 255
abbrev mh (hs : List MH) (i : Nat) : MH := hs.getD i mhD
structure okS (hs : List MH) : Prop where
  each : ∀ i, i < hs.length → (mh hs i).ok
  sort : ∀ i j, i < j → j < hs.length → (mh hs i).lst < (mh hs j).base
def aftM (hs : List MH) (x : Int) : Nat := firstN (fun i => decide (x ≤ (mh hs i).lst)) hs.length
def findM (hs : List MH) (x : Int) : Option Nat := if aftM hs x < hs.length ∧ (mh hs (aftM hs x)).base ≤ x then some (aftM hs x) else none
theorem okS.mono {hs : List MH} (h : okS hs) {i j : Nat} (hij : i ≤ j) (hj : j < hs.length) : (mh hs i).lst ≤ (mh hs j).lst := by
  by_cases e : i = j
  · subst e; exact Int.le_refl _
  · have h1 := h.sort i j (by omega) hj
    have h2 := (h.each j hj).r
    unfold okR at h2
    show (mh hs i).base + ((mh hs i).len - 1) ≤ (mh hs j).base + ((mh hs j).len - 1)
    have h1' : (mh hs i).base + ((mh hs i).len - 1) < (mh hs j).base := h1
    omega
/-- Where the binary search ends. -/
theorem aft_of {hs : List MH} {x : Int} {i : Nat} (hi : i ≤ hs.length) (h1 : ∀ k, k < i → ¬ x ≤ (mh hs k).lst) (h2 : ∀ k, i ≤ k → k < hs.length → x ≤ (mh hs k).lst) : aftM hs x = i := by
  by_cases e : i = hs.length
  · rw [aftM, firstN_none fun j hj => decide_eq_false (h1 j (by omega)), e]
  · exact firstN_at (fun j hj => decide_eq_false (h1 j hj)) (decide_eq_true (h2 i (Nat.le_refl _) (by omega))) (by omega)
theorem aft_spec (hs : List MH) (x : Int) : aftM hs x ≤ hs.length ∧ (∀ j, j < aftM hs x → ¬ x ≤ (mh hs j).lst) ∧ (aftM hs x < hs.length → x ≤ (mh hs (aftM hs x)).lst) := by
  obtain ⟨h1, h2, h3⟩ := firstN_spec (fun i => decide (x ≤ (mh hs i).lst)) hs.length
  exact ⟨h1, fun j hj => of_decide_eq_false (h2 j hj), fun h => of_decide_eq_true (h3 h)⟩
theorem findM_no1 {hs : List MH} {x : Int} (h : aftM hs x = hs.length) : findM hs x = none := if_neg fun k => by omega
theorem findM_no2 {hs : List MH} {x : Int} (h : x < (mh hs (aftM hs x)).base) : findM hs x = none := if_neg fun k => by omega
theorem findM_yes {hs : List MH} {x : Int} (h1 : ¬ aftM hs x = hs.length) (h2 : ¬ x < (mh hs (aftM hs x)).base) : findM hs x = some (aftM hs x) := if_pos ⟨by have := (aft_spec hs x).1; omega, by omega⟩
theorem findM_some {hs : List MH} {x : Int} {i : Nat} (h : findM hs x = some i) : i < hs.length ∧ (mh hs i).base ≤ x ∧ x ≤ (mh hs i).lst := by
  unfold findM at h
  split at h
  · rename_i k
    injection h with h; subst h
    exact ⟨k.1, k.2, (aft_spec hs x).2.2 k.1⟩
  · cases h
/-- The mapping that holds a byte is found. -/
theorem findM_at {hs : List MH} (h : okS hs) {x : Int} {i : Nat} (hi : i < hs.length) (h1 : (mh hs i).base ≤ x) (h2 : x ≤ (mh hs i).lst) : findM hs x = some i := by
  have e : aftM hs x = i := firstN_at (p := fun i => decide (x ≤ (mh hs i).lst)) (fun j hj => decide_eq_false (fun hx => by
    have h3 : (mh hs j).lst < (mh hs i).base := h.sort j i hj hi
    omega)) (decide_eq_true h2) hi
  rw [findM, e, if_pos ⟨hi, h1⟩]
theorem findM_none {hs : List MH} (h : okS hs) {x : Int} (hn : findM hs x = none) {i : Nat} (hi : i < hs.length) : ¬ ((mh hs i).base ≤ x ∧ x ≤ (mh hs i).lst) := fun k => by
  rw [findM_at h hi k.1 k.2] at hn; cases hn
structure BS.ok (s : BS) : Prop where
  wf : s.wf
  sp : ∀ m, m < 3 → okS (s.sp m).hs
  tot : s.total = (((s.sp 0).hs.length + (s.sp 1).hs.length + (s.sp 2).hs.length : Nat) : Int)
  max : s.total ≤ 256
  fl : s.fl.length ≤ 64
  fr : ∀ i, i < s.fl.length → isU (s.fl.getD i fltK.d).base ∧ okR (s.fl.getD i fltK.d).base (s.fl.getD i fltK.d).len ∧ 1 ≤ (s.fl.getD i fltK.d).cnt ∧ (s.fl.getD i fltK.d).cnt ≤ 64
  tr : s.tr.length ≤ 65536
theorem BS.ok.len {s : BS} (h : s.ok) {m : Nat} (hm : m < 3) : (s.sp m).hs.length ≤ 256 := by
  have h1 := h.tot
  have h2 := h.max
  obtain rfl | rfl | rfl : m = 0 ∨ m = 1 ∨ m = 2 := by omega
  · omega
  · omega
  · omega
end Go.Ios
namespace Go.Ios
open Go.Sv
theorem MR.rng {w : World} {h : MH} (k : MR w h) : ∀ j v, [Value.int .u64 h.base, Value.int .u64 h.len][j]? = some v → w.cell? ⟨h.p, 0 + j, none⟩ = some v := fun j v hv => by
  rw [Nat.zero_add]
  refine k.cell ?_
  match j, hv with
  | 0, hv => exact hv
  | 1, hv => exact hv
theorem half (i j : Nat) : ((i : Int) + (j : Int)).fdiv (2 ^ min (1 : Int).toNat IntKind.u64.bits) = (((i + j) / 2 : Nat) : Int) := by
  have e : (2 : Int) ^ min (1 : Int).toNat IntKind.u64.bits = 2 := by decide
  rw [e, Int.fdiv_eq_ediv_of_nonneg _ (by omega)]
  omega
def fnd (s : BS) (z x : Int) : Option Nat := if 0 ≤ z ∧ z < 3 then findM (s.sp z.toNat).hs x else none
def fptr (s : BS) (z x : Int) : Option Addr := match fnd s z x with
  | some i => some ⟨(mh (s.sp z.toNat).hs i).p, 0, none⟩
  | none => none
def ownM (s : BS) (z x : Int) : Int := match fnd s z x with
  | some i => (mh (s.sp z.toNat).hs i).own
  | none => -1
theorem fnd_bad {s : BS} {z x : Int} (h : ¬ (0 ≤ z ∧ z < 3)) : fnd s z x = none := if_neg h
theorem fnd_ok {s : BS} {m : Nat} {x : Int} (h : m < 3) : fnd s m x = findM (s.sp m).hs x := by
  rw [fnd, if_pos ⟨by omega, by omega⟩, Int.toNat_natCast]
theorem fptr_none {s : BS} {z x : Int} (h : fnd s z x = none) : fptr s z x = none := by rw [fptr, h]
theorem fptr_some {s : BS} {m i : Nat} {x : Int} (h : fnd s m x = some i) : fptr s m x = some ⟨(mh (s.sp m).hs i).p, 0, none⟩ := by rw [fptr, h]; rfl
end Go.Ios
namespace Go.Ios
open Go.Sv
theorem fptr_cases {s : BS} {z x : Int} (hk : s.ok) (h : ¬ fptr s z x = none) : ∃ (m i : Nat), z = (m : Int) ∧ m < 3 ∧ fnd s m x = some i ∧ i < (s.sp m).hs.length ∧ (mh (s.sp m).hs i).base ≤ x ∧ x ≤ (mh (s.sp m).hs i).lst := by
  by_cases hz : 0 ≤ z ∧ z < 3
  · obtain ⟨m, rfl⟩ := Int.eq_ofNat_of_zero_le hz.1
    have hm : m < 3 := by omega
    cases hf : fnd s m x with
    | none => exact absurd (fptr_none hf) h
    | some i =>
      have h2 := findM_some ((fnd_ok (s := s) (x := x) hm).symm.trans hf)
      exact ⟨m, i, rfl, hm, hf, h2⟩
  · exact absurd (fptr_none (fnd_bad hz)) h
theorem fptr_no {s : BS} {z x : Int} (h : fptr s z x = none) : fnd s z x = none := by
  unfold fptr at h
  split at h
  · cases h
  · assumption
def bs0 : BS := ⟨List.replicate 3 spD, 0, List.replicate 256 false, none, 0, [], none, 0, []⟩
theorem bs0_ok : bs0.ok where
  wf := ⟨rfl, by show (List.replicate 256 false).length = 256; exact List.length_replicate⟩
  sp m hm := by
    have : (bs0.sp m) = spD := by
      obtain rfl | rfl | rfl : m = 0 ∨ m = 1 ∨ m = 2 := by omega
      · rfl
      · rfl
      · rfl
    rw [this]; exact ⟨fun i hi => by simp [spD] at hi, fun i j h1 h2 => by simp [spD] at h2⟩
  tot := rfl
  max := by show (0 : Int) ≤ 256; omega
  fl := by show 0 ≤ 64; omega
  fr i hi := absurd hi (Nat.not_lt_zero _)
  tr := by show 0 ≤ 65536; omega
theorem spD_emp (w : World) : (spA spD).sat w (fun _ => False) :=
  ⟨fun _ => False, fun _ => False, fun x => by simp, fun _ h => h.elim, OS.emp w, fun _ => False, fun _ => False, fun x => by simp, fun _ h => h.elim, fun _ h => h, fun _ h => h⟩
theorem BS.ok.en {s : BS} (h : s.ok) (m : Nat) (v : Bool) : BS.ok { s with en := s.en.set m v } :=
  ⟨⟨h.wf.sp, by simpa using h.wf.en⟩, h.sp, h.tot, h.max, h.fl, h.fr, h.tr⟩
theorem BS.ok.noTr {s : BS} (h : s.ok) : BS.ok { s with tA := none, tc := 0, tr := [] } :=
  ⟨⟨h.wf.sp, h.wf.en⟩, h.sp, h.tot, h.max, h.fl, h.fr, by show 0 ≤ 65536; omega⟩
theorem getD_append_left {β : Type} {l l2 : List β} {i : Nat} (d : β) (h : i < l.length) : (l ++ l2).getD i d = l.getD i d := by simp [List.getD, List.getElem?_append, h]
theorem getD_append_one {β : Type} {l : List β} {y : β} (d : β) : (l ++ [y]).getD l.length d = y := by simp [List.getD]
def fltG (s : BS) (f : Flt) (A : Option Addr) (c : Nat) : BS := { s with fA := A, fc := c, fl := s.fl ++ [f] }
theorem BS.ok.flt {s : BS} (h : s.ok) {f : Flt} (h1 : isU f.base) (h2 : okR f.base f.len) (h3 : 1 ≤ f.cnt) (h4 : f.cnt ≤ 64) (hl : s.fl.length < 64) (A : Option Addr) (c : Nat) : (fltG s f A c).ok :=
  ⟨⟨h.wf.sp, h.wf.en⟩, h.sp, h.tot, h.max, by show (s.fl ++ [f]).length ≤ 64; rw [List.length_append]; simp; omega, fun i hi => by
    have hi2 : i < s.fl.length + 1 := by simpa [fltG] using hi
    show isU ((s.fl ++ [f]).getD i fltK.d).base ∧ _
    by_cases e : i < s.fl.length
    · have e2 : (fltG s f A c).fl.getD i fltK.d = s.fl.getD i fltK.d := getD_append_left _ e
      rw [e2, getD_append_left _ e]; exact h.fr i e
    · obtain rfl : i = s.fl.length := by omega
      have e2 : (fltG s f A c).fl.getD s.fl.length fltK.d = f := getD_append_one _
      rw [e2, getD_append_one]; exact ⟨h1, h2, h3, h4⟩, h.tr⟩
end Go.Ios
