/-
  Texts joined: Mdl, Mdl2, Mdl3, Mdl4, Mdl5, Mdl6, Mdl7, Mdl8.
-/
import Derived.Test.YthdpojggdodpfaaSvB
set_option linter.unusedSimpArgs false
set_option linter.unusedVariables false
namespace Go.Ios
open Go.Sv
structure MH where
  p : Nat
  base : Int
  len : Int
  own : Int
  A : Option Addr
  c : Nat
  bs : List Int
structure Sp where
  A : Option Addr
  c : Nat
  hs : List MH
structure Flt where
  space : Int
  base : Int
  len : Int
  cnt : Int
structure Acs where
  space : Int
  addr : Int
  width : Int
  wr : Bool
  val : Int
structure Trc where
  a : Acs
  own : Int
  live : Bool
  failed : Bool
def ptrK : Enc (Option Nat) where
  f p := [.pointer (p.map fun b => ⟨b, 0, none⟩)]
  sz := 1
  d := none
  len _ := rfl
  pos := by decide
  one r v hv := by simp at hv; subst hv; rfl
def intK (k : IntKind) : Enc Int where
  f n := [.int k n]
  sz := 1
  d := 0
  len _ := rfl
  pos := by decide
  one r v hv := by simp at hv; subst hv; rfl
def boolK : Enc Bool where
  f n := [.bool n]
  sz := 1
  d := false
  len _ := rfl
  pos := by decide
  one r v hv := by simp at hv; subst hv; rfl
def fltK : Enc Flt where
  f r := [.int .i64 r.space, .int .u64 r.base, .int .u64 r.len, .int .i64 r.cnt]
  sz := 4
  d := ⟨0, 0, 0, 0⟩
  len _ := rfl
  pos := by decide
  one r v hv := by simp at hv; rcases hv with rfl | rfl | rfl | rfl <;> rfl
def acsC (a : Acs) : List Value := [.int .i64 a.space, .int .u64 a.addr, .int .i64 a.width, .bool a.wr, .int .u64 a.val]
def trcK : Enc Trc where
  f r := [.int .i64 r.a.space, .int .u64 r.a.addr, .int .i64 r.a.width, .bool r.a.wr, .int .u64 r.a.val, .int .i64 r.own, .bool r.live, .bool r.failed]
  sz := 8
  d := ⟨⟨0, 0, 0, false, 0⟩, 0, false, false⟩
  len _ := rfl
  pos := by decide
  one r v hv := by simp at hv; rcases hv with rfl | rfl | rfl | rfl | rfl | rfl | rfl | rfl <;> rfl
/-! ### Assertions of several parts -/
def All (M : List Assn) : Assn where
  sat w I := Sep M I w
  lt h x hx := h.lt x hx
  keep h hk := h.keep hk
def mC (h : MH) : List Value := [.int .u64 h.base, .int .u64 h.len, .int .i64 h.own, .slice h.A h.bs.length h.c]
def mhL (h : MH) : List Assn := [Blk h.p (.cells (mC h).toArray 77 (0, 0)), OS 5 (intK .u8) h.A h.c h.bs]
def mhA (h : MH) : Assn := All (mhL h)
def mhD : MH := ⟨0, 0, 0, 0, none, 0, []⟩
def spL (s : Sp) : List Assn := [OS 78 ptrK s.A s.c (s.hs.map fun h => some h.p), Big mhA s.hs]
def spA (s : Sp) : Assn := All (spL s)
def spD : Sp := ⟨none, 0, []⟩
structure BS where
  sps : List Sp
  total : Int
  en : List Bool
  fA : Option Addr
  fc : Nat
  fl : List Flt
  tA : Option Addr
  tc : Nat
  tr : List Trc
def busC (s : BS) : List Value := s.sps.map (fun p => Value.slice p.A p.hs.length p.c) ++ (Value.int .i64 s.total :: (s.en.map Value.bool ++ [Value.slice s.fA s.fl.length s.fc, Value.slice s.tA s.tr.length s.tc]))
def busL (b : Nat) (s : BS) : List Assn := [Blk b (.cells (busC s).toArray 71 (0, 0)), Big spA s.sps, OS 86 fltK s.fA s.fc s.fl, OS 63 trcK s.tA s.tc s.tr]
structure BS.wf (s : BS) : Prop where
  sp : s.sps.length = 3
  en : s.en.length = 256
abbrev BS.sp (s : BS) (m : Nat) : Sp := s.sps.getD m spD
section
variable {s : BS} (h : s.wf)
include h
theorem busC_len : (busC s).length = 262 := by simp [busC, h.sp, h.en]
theorem busC_sp {m : Nat} (hm : m < 3) : (busC s)[0 + m * 1]? = some (.slice (s.sp m).A (s.sp m).hs.length (s.sp m).c) := by
  have h1 : m < s.sps.length := by rw [h.sp]; exact hm
  simp [busC, h.sp, hm, List.getElem?_append, List.getD, h1]
theorem busC_tot : (busC s)[0 + 3]? = some (.int .i64 s.total) := by
  simp [busC, h.sp, List.getElem?_append]
theorem busC_en {m : Nat} (hm : m < 256) : (busC s)[0 + 4 + m * 1]? = some (.bool (s.en.getD m false)) := by
  have h1 : m < s.en.length := by rw [h.en]; exact hm
  have e1 : ¬ 0 + 4 + m * 1 < 3 := by omega
  have e2 : 0 + 4 + m * 1 - 3 = m + 1 := by omega
  rw [busC, List.getElem?_append, List.length_map, h.sp, if_neg e1, e2, List.getElem?_cons_succ, List.getElem?_append, List.length_map, if_pos h1]
  simp [List.getD, h1]
theorem busC_f : (busC s)[0 + 260]? = some (.slice s.fA s.fl.length s.fc) := by
  rw [busC, List.getElem?_append, List.length_map, h.sp, if_neg (by decide)]
  show (Value.int .i64 s.total :: (s.en.map Value.bool ++ _))[257]? = _
  rw [List.getElem?_cons_succ, List.getElem?_append, List.length_map, h.en, if_neg (by decide)]; rfl
theorem busC_t : (busC s)[0 + 261]? = some (.slice s.tA s.tr.length s.tc) := by
  rw [busC, List.getElem?_append, List.length_map, h.sp, if_neg (by decide)]
  show (Value.int .i64 s.total :: (s.en.map Value.bool ++ _))[258]? = _
  rw [List.getElem?_cons_succ, List.getElem?_append, List.length_map, h.en, if_neg (by decide)]; rfl
end
theorem take_set {β : Type} : ∀ (l : List β) (o : Nat) (v : β), o < l.length → l.take o ++ [v] ++ l.drop (o + [v].length) = l.set o v
  | [], _, _, h => by simp at h
  | a :: l, 0, v, _ => by simp
  | a :: l, o + 1, v, h => by
    have := take_set l o v (by simpa using h)
    simp only [List.take_succ_cons, List.cons_append, List.set_cons_succ, List.length_singleton, List.drop_succ_cons] at this ⊢
    rw [this]
section
variable {s : BS} (h : s.wf)
include h
theorem set_of {o : Nat} {v : Value} {s' : BS} (ho : o < 262) (e : (busC s).set o v = busC s') : ((busC s).toArray.toList.take o ++ [v] ++ (busC s).toArray.toList.drop (o + [v].length)).toArray = (busC s').toArray := by
  show ((busC s).take o ++ [v] ++ (busC s).drop (o + [v].length)).toArray = _
  rw [take_set _ _ _ (by rw [busC_len h]; exact ho), e]
theorem set_tot (v : Int) : (busC s).set (0 + 3) (.int .i64 v) = busC { s with total := v } := by
  simp [busC, List.set_append, h.sp]
theorem set_en {m : Nat} (hm : m < 256) (v : Bool) : (busC s).set (0 + 4 + m * 1) (.bool v) = busC { s with en := s.en.set m v } := by
  have h1 : m < s.en.length := by rw [h.en]; exact hm
  have e1 : ¬ 0 + 4 + m * 1 < 3 := by omega
  have e2 : 0 + 4 + m * 1 - 3 = m + 1 := by omega
  rw [busC, List.set_append, List.length_map, h.sp, if_neg e1, e2, List.set_cons_succ, List.set_append, List.length_map, if_pos h1]
  simp [busC, List.map_set]
theorem set_f (A : Option Addr) (c : Nat) (l : List Flt) : (busC s).set (0 + 260) (.slice A l.length c) = busC { s with fA := A, fc := c, fl := l } := by
  rw [busC, List.set_append, List.length_map, h.sp, if_neg (by decide)]
  show _ ++ (Value.int .i64 s.total :: (s.en.map Value.bool ++ _)).set 257 _ = _
  rw [List.set_cons_succ, List.set_append, List.length_map, h.en, if_neg (by decide)]; rfl
theorem set_t (A : Option Addr) (c : Nat) (l : List Trc) : (busC s).set (0 + 261) (.slice A l.length c) = busC { s with tA := A, tc := c, tr := l } := by
  rw [busC, List.set_append, List.length_map, h.sp, if_neg (by decide)]
  show _ ++ (Value.int .i64 s.total :: (s.en.map Value.bool ++ _)).set 258 _ = _
  rw [List.set_cons_succ, List.set_append, List.length_map, h.en, if_neg (by decide)]; rfl
theorem set_sp {m : Nat} (hm : m < 3) (q : Sp) : (busC s).set (0 + m * 1) (.slice q.A q.hs.length q.c) = busC { s with sps := s.sps.set m q } := by
  have e1 : 0 + m * 1 < 3 := by omega
  have e2 : 0 + m * 1 = m := by omega
  rw [busC, List.set_append, List.length_map, h.sp, if_pos e1, e2]
  simp [busC, List.map_set]
end
/-! ### What is read -/
def MR (w : World) (h : MH) : Prop := w.heap[h.p]? = some (.cells (mC h).toArray 77 (0, 0)) ∧ RS w (intK .u8) h.A h.bs
def SpR (w : World) (q : Sp) : Prop := RS w ptrK q.A (q.hs.map fun h => some h.p) ∧ ∀ i, i < q.hs.length → MR w (q.hs.getD i mhD)
def Same (w w' : World) : Prop := ∀ (x : Nat) (o : Obj), w.heap[x]? = some o → w'.heap[x]? = some o
theorem MR.keep {w w' : World} {h : MH} (k : MR w h) (hs : Same w w') : MR w' h := ⟨hs _ _ k.1, k.2.keep fun o ho => hs _ _ ho⟩
theorem SpR.keep {w w' : World} {q : Sp} (k : SpR w q) (hs : Same w w') : SpR w' q := ⟨k.1.keep fun o ho => hs _ _ ho, fun i hi => (k.2 i hi).keep hs⟩
theorem same_of {I : Ids} {w w' : World} {L : List Assn} (h : Hp I w L w') (hI : ∀ x, ¬ I x) : Same w w' := fun x o ho => h.ro ho (hI x)
theorem mr_of {w : World} {i : Ids} {h : MH} (k : (mhA h).sat w i) : MR w h := by
  obtain ⟨i1, j1, _, _, h1, i2, j2, _, _, h2, _⟩ := k
  exact ⟨h1.2, OS.rs h2⟩
theorem big_mem {β : Type} {F : β → Assn} {w : World} {G : β → Prop} (hG : ∀ i b, (F b).sat w i → G b) : ∀ (hs : List β) (i : Ids), Sep (hs.map F) i w → ∀ b ∈ hs, G b
  | [], _, _, b, hb => by cases hb
  | a :: hs, i, ⟨i1, j1, _, _, h1, h2⟩, b, hb => by
    rcases List.mem_cons.1 hb with rfl | hb
    · exact hG _ _ h1
    · exact big_mem hG hs j1 h2 b hb
theorem spr_of {w : World} {i : Ids} {q : Sp} (k : (spA q).sat w i) : SpR w q := by
  obtain ⟨i1, j1, _, _, h1, i2, j2, _, _, h2, _⟩ := k
  refine ⟨OS.rs h1, fun n hn => big_mem (G := MR w) (fun i b hb => mr_of hb) q.hs i2 h2 _ ?_⟩
  simp [List.getD, hn]
theorem Hp.spr {I0 : Ids} {w0 w : World} {L : List Assn} (h : Sv.Hp I0 w0 L w) {k : Nat} {sps : List Sp} (hk : L[k]? = some (Big spA sps)) {m : Nat} (hm : m < sps.length) : SpR w (sps.getD m spD) :=
  h.bigOS (G := fun q w => SpR w q) spD hk hm fun i b hb => spr_of hb
theorem SpR.ptr {w : World} {q : Sp} (k : SpR w q) {i : Nat} (hi : i < q.hs.length) : w.cell? ⟨bk q.A, of q.A + i * 1, none⟩ = some (.pointer (some ⟨(q.hs.getD i mhD).p, 0, none⟩)) := by
  have := k.1.cell0 (m := i) (v := .pointer (some ⟨(q.hs.getD i mhD).p, 0, none⟩)) (by simpa using hi) (by
    have : (q.hs.map fun h => some h.p).getD i ptrK.d = some (q.hs.getD i mhD).p := by simp [List.getD, hi]
    rw [this]; rfl)
  exact this
theorem MR.cell {w : World} {h : MH} (k : MR w h) {o : Nat} {v : Value} (hv : (mC h)[o]? = some v) : w.cell? ⟨h.p, o, none⟩ = some v := by
  rw [cell_of k.1]; simpa using hv
end Go.Ios
set_option linter.unusedSimpArgs false
set_option linter.unusedVariables false
namespace Go.Ios
open Go.Sv
def modM (v : Int) (n : Nat) : Int := (IntKind.u64.wrap v) % n
theorem modM_lt (v : Int) {n : Nat} (h : 0 < n) : 0 ≤ modM v n ∧ modM v n < n := ⟨Int.emod_nonneg _ (by omega), Int.emod_lt_of_pos _ (by omega)⟩
theorem u64_nonneg (v : Int) : 0 ≤ IntKind.u64.wrap v := by rw [IntKind.wrap_u64]; omega
theorem u64_le (v : Int) : IntKind.u64.wrap v ≤ 18446744073709551615 := by rw [IntKind.wrap_u64]; omega
theorem modM_t (v : Int) {n : Nat} (h : 0 < n) : (IntKind.u64.wrap v).tmod n = modM v n := by
  rw [modM, Int.tmod_eq_emod_of_nonneg (u64_nonneg v)]
theorem modT (v : Int) {n : Nat} (h : 0 < n) : 0 ≤ (IntKind.u64.wrap v).tmod n ∧ (IntKind.u64.wrap v).tmod n < n := by
  rw [modM_t v h]; exact modM_lt v h
theorem modN (v : Int) {n : Nat} (h : 0 < n) : ∃ p : Nat, modM v n = p ∧ p < n := by
  have := modM_lt v h
  obtain ⟨p, hp⟩ := Int.eq_ofNat_of_zero_le this.1
  exact ⟨p, hp, by omega⟩
def isU (x : Int) : Prop := 0 ≤ x ∧ x ≤ 18446744073709551615
def lastW (b l : Int) : Int := IntKind.u64.wrap (b + IntKind.u64.wrap (l - 1))
def okR (b l : Int) : Prop := 1 ≤ l ∧ l ≤ 1048576 ∧ b + (l - 1) ≤ 18446744073709551615
instance (b l : Int) : Decidable (okR b l) := inferInstanceAs (Decidable (_ ∧ _ ∧ _))
theorem lastW_eq {b l : Int} (hb : isU b) (h : okR b l) : lastW b l = b + (l - 1) := by
  unfold isU at hb
  unfold okR at h
  rw [lastW, wU64 (x := l - 1) (by omega) (by omega), wU64 (by omega) (by omega)]
theorem okR_iff {b l : Int} (hb : isU b) (h1 : 1 ≤ l) (h2 : l ≤ 1048576) : b ≤ lastW b l ↔ okR b l := by
  unfold isU at hb
  constructor
  · intro h
    refine ⟨h1, h2, ?_⟩
    rw [lastW, wU64 (x := l - 1) (by omega) (by omega), IntKind.wrap_u64] at h
    omega
  · intro h
    rw [lastW_eq hb h]; omega
def ovl (b l b2 l2 : Int) : Prop := b ≤ b2 + (l2 - 1) ∧ b2 ≤ b + (l - 1)
instance (b l b2 l2 : Int) : Decidable (ovl b l b2 l2) := inferInstanceAs (Decidable (_ ∧ _))
def firstN (p : Nat → Bool) : Nat → Nat
  | 0 => 0
  | k + 1 => if firstN p k < k then firstN p k else if p k then k else k + 1
theorem firstN_none {p : Nat → Bool} : ∀ {k : Nat}, (∀ j, j < k → p j = false) → firstN p k = k
  | 0, _ => rfl
  | k + 1, h => by rw [firstN, firstN_none fun j hj => h j (by omega), if_neg (Nat.lt_irrefl _), h k (by omega)]; rfl
theorem firstN_at {p : Nat → Bool} {i : Nat} (h : ∀ j, j < i → p j = false) (hp : p i = true) : ∀ {k : Nat}, i < k → firstN p k = i
  | 0, hk => by omega
  | k + 1, hk => by
    by_cases e : i = k
    · subst e; rw [firstN, firstN_none h, if_neg (Nat.lt_irrefl _), hp]; rfl
    · rw [firstN, firstN_at h hp (show i < k by omega), if_pos (by omega)]
theorem firstN_spec (p : Nat → Bool) (k : Nat) : firstN p k ≤ k ∧ (∀ j, j < firstN p k → p j = false) ∧ (firstN p k < k → p (firstN p k) = true) := by
  induction k with
  | zero => exact ⟨Nat.le_refl _, fun j h => by simp [firstN] at h, fun h => by simp [firstN] at h⟩
  | succ k ih =>
    obtain ⟨h1, h2, h3⟩ := ih
    by_cases hk : firstN p k < k
    · have e : firstN p (k + 1) = firstN p k := by rw [firstN, if_pos hk]
      rw [e]; exact ⟨by omega, h2, fun _ => h3 hk⟩
    · have e0 : firstN p k = k := by omega
      rw [e0] at h2
      by_cases hp : p k = true
      · have e : firstN p (k + 1) = k := by rw [firstN, e0, if_neg (Nat.lt_irrefl _), if_pos hp]
        rw [e]; exact ⟨by omega, h2, fun _ => hp⟩
      · have e : firstN p (k + 1) = k + 1 := by rw [firstN, e0, if_neg (Nat.lt_irrefl _), if_neg hp]
        rw [e]
        refine ⟨Nat.le_refl _, fun j hj => ?_, fun h => by omega⟩
        by_cases ej : j = k
        · subst ej; simpa using hp
        · exact h2 j (by omega)
abbrev MH.lst (h : MH) : Int := h.base + (h.len - 1)
structure MH.ok (h : MH) : Prop where
  b : isU h.base
  r : okR h.base h.len
  o1 : 0 ≤ h.own
  o2 : h.own < 256
  d : (h.bs = [] ∧ h.A = none) ∨ (h.bs.length = h.len.toNat ∧ h.A ≠ none)
  y : ∀ i, 0 ≤ h.bs.getD i 0 ∧ h.bs.getD i 0 ≤ 255
abbrev mh (hs : List MH) (i : Nat) : MH := hs.getD i mhD
structure okS (hs : List MH) : Prop where
  each : ∀ i, i < hs.length → (mh hs i).ok
  sort : ∀ i j, i < j → j < hs.length → (mh hs i).lst < (mh hs j).base
def aftM (hs : List MH) (x : Int) : Nat := firstN (fun i => decide (x ≤ (mh hs i).lst)) hs.length
def findM (hs : List MH) (x : Int) : Option Nat := if aftM hs x < hs.length ∧ (mh hs (aftM hs x)).base ≤ x then some (aftM hs x) else none
theorem okS.mono {hs : List MH} (h : okS hs) {i j : Nat} (hij : i ≤ j) (hj : j < hs.length) : (mh hs i).lst ≤ (mh hs j).lst := by
  by_cases e : i = j
  · subst e; exact Int.le_refl _
  · have h1 := h.sort i j (by omega) hj
    have h2 := (h.each j hj).r
    unfold okR at h2
    show (mh hs i).base + ((mh hs i).len - 1) ≤ (mh hs j).base + ((mh hs j).len - 1)
    have h1' : (mh hs i).base + ((mh hs i).len - 1) < (mh hs j).base := h1
    omega
/-- Where the binary search ends. -/
theorem aft_of {hs : List MH} {x : Int} {i : Nat} (hi : i ≤ hs.length) (h1 : ∀ k, k < i → ¬ x ≤ (mh hs k).lst) (h2 : ∀ k, i ≤ k → k < hs.length → x ≤ (mh hs k).lst) : aftM hs x = i := by
  by_cases e : i = hs.length
  · rw [aftM, firstN_none fun j hj => decide_eq_false (h1 j (by omega)), e]
  · exact firstN_at (fun j hj => decide_eq_false (h1 j hj)) (decide_eq_true (h2 i (Nat.le_refl _) (by omega))) (by omega)
theorem aft_spec (hs : List MH) (x : Int) : aftM hs x ≤ hs.length ∧ (∀ j, j < aftM hs x → ¬ x ≤ (mh hs j).lst) ∧ (aftM hs x < hs.length → x ≤ (mh hs (aftM hs x)).lst) := by
  obtain ⟨h1, h2, h3⟩ := firstN_spec (fun i => decide (x ≤ (mh hs i).lst)) hs.length
  exact ⟨h1, fun j hj => of_decide_eq_false (h2 j hj), fun h => of_decide_eq_true (h3 h)⟩
theorem findM_no1 {hs : List MH} {x : Int} (h : aftM hs x = hs.length) : findM hs x = none := if_neg fun k => by omega
theorem findM_no2 {hs : List MH} {x : Int} (h : x < (mh hs (aftM hs x)).base) : findM hs x = none := if_neg fun k => by omega
theorem findM_yes {hs : List MH} {x : Int} (h1 : ¬ aftM hs x = hs.length) (h2 : ¬ x < (mh hs (aftM hs x)).base) : findM hs x = some (aftM hs x) := if_pos ⟨by have := (aft_spec hs x).1; omega, by omega⟩
theorem findM_some {hs : List MH} {x : Int} {i : Nat} (h : findM hs x = some i) : i < hs.length ∧ (mh hs i).base ≤ x ∧ x ≤ (mh hs i).lst := by
  unfold findM at h
  split at h
  · rename_i k
    injection h with h; subst h
    exact ⟨k.1, k.2, (aft_spec hs x).2.2 k.1⟩
  · cases h
/-- The mapping that holds a byte is found. -/
theorem findM_at {hs : List MH} (h : okS hs) {x : Int} {i : Nat} (hi : i < hs.length) (h1 : (mh hs i).base ≤ x) (h2 : x ≤ (mh hs i).lst) : findM hs x = some i := by
  have e : aftM hs x = i := firstN_at (p := fun i => decide (x ≤ (mh hs i).lst)) (fun j hj => decide_eq_false (fun hx => by
    have h3 : (mh hs j).lst < (mh hs i).base := h.sort j i hj hi
    omega)) (decide_eq_true h2) hi
  rw [findM, e, if_pos ⟨hi, h1⟩]
theorem findM_none {hs : List MH} (h : okS hs) {x : Int} (hn : findM hs x = none) {i : Nat} (hi : i < hs.length) : ¬ ((mh hs i).base ≤ x ∧ x ≤ (mh hs i).lst) := fun k => by
  rw [findM_at h hi k.1 k.2] at hn; cases hn
structure BS.ok (s : BS) : Prop where
  wf : s.wf
  sp : ∀ m, m < 3 → okS (s.sp m).hs
  tot : s.total = (((s.sp 0).hs.length + (s.sp 1).hs.length + (s.sp 2).hs.length : Nat) : Int)
  max : s.total ≤ 256
  fl : s.fl.length ≤ 64
  fr : ∀ i, i < s.fl.length → isU (s.fl.getD i fltK.d).base ∧ okR (s.fl.getD i fltK.d).base (s.fl.getD i fltK.d).len ∧ 1 ≤ (s.fl.getD i fltK.d).cnt ∧ (s.fl.getD i fltK.d).cnt ≤ 64
  tr : s.tr.length ≤ 65536
theorem BS.ok.len {s : BS} (h : s.ok) {m : Nat} (hm : m < 3) : (s.sp m).hs.length ≤ 256 := by
  have h1 := h.tot
  have h2 := h.max
  obtain rfl | rfl | rfl : m = 0 ∨ m = 1 ∨ m = 2 := by omega
  · omega
  · omega
  · omega
end Go.Ios
namespace Go.Ios
open Go.Sv
theorem MR.rng {w : World} {h : MH} (k : MR w h) : ∀ j v, [Value.int .u64 h.base, Value.int .u64 h.len][j]? = some v → w.cell? ⟨h.p, 0 + j, none⟩ = some v := fun j v hv => by
  rw [Nat.zero_add]
  refine k.cell ?_
  match j, hv with
  | 0, hv => exact hv
  | 1, hv => exact hv
theorem half (i j : Nat) : ((i : Int) + (j : Int)).fdiv (2 ^ min (1 : Int).toNat IntKind.u64.bits) = (((i + j) / 2 : Nat) : Int) := by
  have e : (2 : Int) ^ min (1 : Int).toNat IntKind.u64.bits = 2 := by decide
  rw [e, Int.fdiv_eq_ediv_of_nonneg _ (by omega)]
  omega
def fnd (s : BS) (z x : Int) : Option Nat := if 0 ≤ z ∧ z < 3 then findM (s.sp z.toNat).hs x else none
def fptr (s : BS) (z x : Int) : Option Addr := match fnd s z x with
  | some i => some ⟨(mh (s.sp z.toNat).hs i).p, 0, none⟩
  | none => none
def ownM (s : BS) (z x : Int) : Int := match fnd s z x with
  | some i => (mh (s.sp z.toNat).hs i).own
  | none => -1
theorem fnd_bad {s : BS} {z x : Int} (h : ¬ (0 ≤ z ∧ z < 3)) : fnd s z x = none := if_neg h
theorem fnd_ok {s : BS} {m : Nat} {x : Int} (h : m < 3) : fnd s m x = findM (s.sp m).hs x := by
  rw [fnd, if_pos ⟨by omega, by omega⟩, Int.toNat_natCast]
theorem fptr_none {s : BS} {z x : Int} (h : fnd s z x = none) : fptr s z x = none := by rw [fptr, h]
theorem fptr_some {s : BS} {m i : Nat} {x : Int} (h : fnd s m x = some i) : fptr s m x = some ⟨(mh (s.sp m).hs i).p, 0, none⟩ := by rw [fptr, h]; rfl
end Go.Ios
namespace Go.Ios
open Go.Sv
theorem fptr_cases {s : BS} {z x : Int} (hk : s.ok) (h : ¬ fptr s z x = none) : ∃ (m i : Nat), z = (m : Int) ∧ m < 3 ∧ fnd s m x = some i ∧ i < (s.sp m).hs.length ∧ (mh (s.sp m).hs i).base ≤ x ∧ x ≤ (mh (s.sp m).hs i).lst := by
  by_cases hz : 0 ≤ z ∧ z < 3
  · obtain ⟨m, rfl⟩ := Int.eq_ofNat_of_zero_le hz.1
    have hm : m < 3 := by omega
    cases hf : fnd s m x with
    | none => exact absurd (fptr_none hf) h
    | some i =>
      have h2 := findM_some ((fnd_ok (s := s) (x := x) hm).symm.trans hf)
      exact ⟨m, i, rfl, hm, hf, h2⟩
  · exact absurd (fptr_none (fnd_bad hz)) h
theorem fptr_no {s : BS} {z x : Int} (h : fptr s z x = none) : fnd s z x = none := by
  unfold fptr at h
  split at h
  · cases h
  · assumption
def bs0 : BS := ⟨List.replicate 3 spD, 0, List.replicate 256 false, none, 0, [], none, 0, []⟩
theorem bs0_ok : bs0.ok where
  wf := ⟨rfl, by show (List.replicate 256 false).length = 256; exact List.length_replicate⟩
  sp m hm := by
    have : (bs0.sp m) = spD := by
      obtain rfl | rfl | rfl : m = 0 ∨ m = 1 ∨ m = 2 := by omega
      · rfl
      · rfl
      · rfl
    rw [this]; exact ⟨fun i hi => by simp [spD] at hi, fun i j h1 h2 => by simp [spD] at h2⟩
  tot := rfl
  max := by show (0 : Int) ≤ 256; omega
  fl := by show 0 ≤ 64; omega
  fr i hi := absurd hi (Nat.not_lt_zero _)
  tr := by show 0 ≤ 65536; omega
theorem spD_emp (w : World) : (spA spD).sat w (fun _ => False) :=
  ⟨fun _ => False, fun _ => False, fun x => by simp, fun _ h => h.elim, OS.emp w, fun _ => False, fun _ => False, fun x => by simp, fun _ h => h.elim, fun _ h => h, fun _ h => h⟩
theorem BS.ok.en {s : BS} (h : s.ok) (m : Nat) (v : Bool) : BS.ok { s with en := s.en.set m v } :=
  ⟨⟨h.wf.sp, by simpa using h.wf.en⟩, h.sp, h.tot, h.max, h.fl, h.fr, h.tr⟩
theorem BS.ok.noTr {s : BS} (h : s.ok) : BS.ok { s with tA := none, tc := 0, tr := [] } :=
  ⟨⟨h.wf.sp, h.wf.en⟩, h.sp, h.tot, h.max, h.fl, h.fr, by show 0 ≤ 65536; omega⟩
theorem getD_append_left {β : Type} {l l2 : List β} {i : Nat} (d : β) (h : i < l.length) : (l ++ l2).getD i d = l.getD i d := by simp [List.getD, List.getElem?_append, h]
theorem getD_append_one {β : Type} {l : List β} {y : β} (d : β) : (l ++ [y]).getD l.length d = y := by simp [List.getD]
def fltG (s : BS) (f : Flt) (A : Option Addr) (c : Nat) : BS := { s with fA := A, fc := c, fl := s.fl ++ [f] }
theorem BS.ok.flt {s : BS} (h : s.ok) {f : Flt} (h1 : isU f.base) (h2 : okR f.base f.len) (h3 : 1 ≤ f.cnt) (h4 : f.cnt ≤ 64) (hl : s.fl.length < 64) (A : Option Addr) (c : Nat) : (fltG s f A c).ok :=
  ⟨⟨h.wf.sp, h.wf.en⟩, h.sp, h.tot, h.max, by show (s.fl ++ [f]).length ≤ 64; rw [List.length_append]; simp; omega, fun i hi => by
    have hi2 : i < s.fl.length + 1 := by simpa [fltG] using hi
    show isU ((s.fl ++ [f]).getD i fltK.d).base ∧ _
    by_cases e : i < s.fl.length
    · have e2 : (fltG s f A c).fl.getD i fltK.d = s.fl.getD i fltK.d := getD_append_left _ e
      rw [e2, getD_append_left _ e]; exact h.fr i e
    · obtain rfl : i = s.fl.length := by omega
      have e2 : (fltG s f A c).fl.getD s.fl.length fltK.d = f := getD_append_one _
      rw [e2, getD_append_one]; exact ⟨h1, h2, h3, h4⟩, h.tr⟩
end Go.Ios
set_option linter.unusedSimpArgs false
set_option linter.unusedVariables false
namespace Go.Ios
open Go.Sv
section
variable {I0 : Ids} {w0 w : World} {B0 : Assn} {R : List Assn} {sps : List Sp} {m : Nat}
theorem perm3 {α : Type} (a b x e : α) (R : List α) : (a :: b :: x :: (R ++ [e])).Perm (x :: a :: b :: e :: R) :=
  ((((List.perm_append_singleton e R).cons x).cons b).cons a).trans (((List.Perm.swap x b (e :: R)).cons a).trans (List.Perm.swap x a (b :: e :: R)))
theorem openSp (h : Hp I0 w0 (B0 :: Big spA sps :: R) w) (hm : m < sps.length) :
    Hp I0 w0 (B0 :: OS 78 ptrK (sps.getD m spD).A (sps.getD m spD).c ((sps.getD m spD).hs.map fun h => some h.p) :: Big mhA (sps.getD m spD).hs :: Big spA (sps.eraseIdx m) :: R) w := by
  have h1 := h.focus spD (k := 1) rfl hm
  have h2 := h1.splice (k := 1) (A := spA (sps.getD m spD)) (M := spL (sps.getD m spD)) rfl fun i hi => hi
  exact h2.perm (perm3 _ _ _ _ _)
theorem closeSp {q : Sp} (h : Hp I0 w0 (B0 :: OS 78 ptrK q.A q.c (q.hs.map fun h => some h.p) :: Big mhA q.hs :: Big spA (sps.eraseIdx m) :: R) w) (hm : m < sps.length) :
    Hp I0 w0 (B0 :: Big spA (sps.set m q) :: R) w := by
  have h1 := h.perm (perm3 _ _ _ _ _).symm
  have h2 : Hp I0 w0 (spA q :: (B0 :: (R ++ [Big spA (sps.eraseIdx m)]))) w := Hp.bundle (M := spL q) (R := B0 :: (R ++ [Big spA (sps.eraseIdx m)])) h1 fun i hi => hi
  have h3 : Hp I0 w0 ((B0 :: spA q :: R) ++ [Big spA (sps.eraseIdx m)]) w := h2.perm (List.Perm.swap _ _ _)
  exact h3.unfocus (k := 1) rfl hm
theorem big_add {h : MH} {hs hs' : List MH} (hp : (h :: hs).Perm hs') {i : Ids} (k : Sep (mhL h ++ [Big mhA hs]) i w) : (Big mhA hs').sat w i := by
  obtain ⟨i1, j1, hI, hd, h1, i2, j2, hJ, hd2, h2, h3⟩ := Sep.append.1 k
  have hs2 : Sep (mhA h :: hs.map mhA) i w := ⟨i1, j1, hI, hd, h1, h2.ext fun x => by rw [hJ x]; exact ⟨.inl, fun e => e.elim id fun e2 => absurd e2 (h3 x)⟩⟩
  exact Sep.perm (hp.map mhA) hs2
/-- A new mapping joins those of a space. -/
theorem addM {h : MH} {hs hs' : List MH} {B1 B2 : Assn} (k : Hp I0 w0 (B0 :: B1 :: Big mhA hs :: B2 :: (R ++ mhL h)) w) (hp : (h :: hs).Perm hs') : Hp I0 w0 (B0 :: B1 :: Big mhA hs' :: B2 :: R) w := by
  have e1 : (B0 :: B1 :: Big mhA hs :: B2 :: (R ++ mhL h)).Perm ((mhL h ++ [Big mhA hs]) ++ (B0 :: B1 :: B2 :: R)) := by
    have p1 : (B0 :: B1 :: Big mhA hs :: B2 :: (R ++ mhL h)).Perm (Big mhA hs :: (B0 :: B1 :: B2 :: R) ++ mhL h) :=
      (((List.Perm.swap (Big mhA hs) B1 _).cons B0).trans (List.Perm.swap (Big mhA hs) B0 _))
    have p2 : (Big mhA hs :: (B0 :: B1 :: B2 :: R) ++ mhL h).Perm (mhL h ++ (Big mhA hs :: (B0 :: B1 :: B2 :: R))) := List.perm_append_comm
    refine (p1.trans p2).trans ?_
    rw [List.append_assoc]; rfl
  have h2 := (k.perm e1).bundle (A := Big mhA hs') fun i hi => big_add hp hi
  exact h2.perm (((List.Perm.swap B0 (Big mhA hs') _).trans ((List.Perm.swap B1 (Big mhA hs') _).cons B0)))
end
set_option maxRecDepth 10000 in
theorem growBy_le (n : Nat) : ∀ (r c : Nat), Builtin.growBy n r c + 768 ≤ 2 ^ r * (c + 768)
  | 0, c => by simp [Builtin.growBy]
  | r + 1, c => by
    rw [Builtin.growBy]
    split
    · exact Nat.le_mul_of_pos_left (c + 768) (Nat.two_pow_pos (r + 1))
    · have h := growBy_le n r (c + (c + 768) / 4)
      have h2 : 2 ^ r * (c + (c + 768) / 4 + 768) ≤ 2 ^ r * (2 * (c + 768)) := Nat.mul_le_mul_left _ (by omega)
      have h3 : 2 ^ r * (2 * (c + 768)) = 2 ^ (r + 1) * (c + 768) := by rw [Nat.pow_succ, Nat.mul_assoc]
      omega
theorem nextcap_le {n c : Nat} (h : c < n) (hn : n ≤ 1000000) : Builtin.nextslicecap n c ≤ 20000000 := by
  unfold Builtin.nextslicecap
  split
  · omega
  · split
    · omega
    · have := growBy_le n 4 c
      have e : 2 ^ 4 = 16 := rfl
      rw [e] at this; omega
/-- An owned slice and another one lie apart. -/
theorem overlaps_false {P : Program} {I0 : Ids} {w0 w : World} {L : List Assn} {α : Type} {K : Enc α} {A B : Option Addr} {ys zs : List α} {e t tR : TypeId} {c c2 : Nat} {ze : Value} {by_ : Nat} {f : FuncId} {fn : Func} (h : Hp I0 w0 L w) (k1 k2 : Nat)
    (hk1 : L[k1]? = some (OS e K B c2 zs)) (hk2 : (L.eraseIdx k1)[k2]? = some (OS e K A c ys)) (hf : P.funcs[f]? = some fn) (hname : (fn.name == "runtime.NumGoroutine") = false) (hb : fn.body.isNone = true) (hn : Extern.findNext fn = none)
    (he : Extern.find fn = some (Extern.SlicesOverlaps.overlaps #[t, t] #[tR])) (hu : P.underlying t = some (.slice e)) (hi : TI P e ze K.sz by_) (hc : 0 < c) (hz : zs ≠ []) (l n1 n2 c3 : Nat) :
    (callFunc f #[.slice B n1 c2, .slice (shA A l K.sz c) n2 c3]).run P w = .ok (.value (.bool false)) w := by
  rw [run_callFunc_extern hf hname hb hn he]
  have key : (Extern.SlicesOverlaps.overlaps #[t, t] #[tR] #[.slice B n1 c2, .slice (shA A l K.sz c) n2 c3]).run P w = .ok (.bool false) w := by
    obtain ⟨i, j, hB, hL, hd, _⟩ := h.at hk1
    obtain ⟨i2, j2, hJ, _, hA, _⟩ := hL.perm (perm_erase hk2)
    rcases hB with ⟨_, h0, _⟩ | ⟨gb, cur, rfl, hI, hbb, _, _, hsz, _⟩
    · exact absurd h0 hz
    · rcases hA with ⟨rfl, _, rfl, _⟩ | ⟨ga, cur2, rfl, hI2, hba, _, _, hsz2, _⟩
      · omega
      · have hne : gb ≠ ga := fun e => hd gb ((hI gb).2 rfl) ((hJ gb).2 (.inl ((hI2 gb).2 e)))
        have hsh : ∃ off, shA (some ⟨ga, 0, none⟩) l K.sz c = some ⟨ga, off, none⟩ := by
          unfold shA
          split
          · exact ⟨0, rfl⟩
          · by_cases h0 : l * K.sz = 0
            · exact ⟨0, by simp [Addr.add, h0]⟩
            · exact ⟨l * K.sz, by simp [Addr.add, h0]⟩
        obtain ⟨off, hoff⟩ := hsh
        rw [hoff]
        exact Lib.run_overlaps_apart w t tR e hu K.sz (fun w => hi.sizeOf w) ⟨gb, 0, none⟩ ⟨ga, off, none⟩ n1 c2 n2 c3 hne e e cur.size cur2.size (by simp [World.shape?, hbb]) (by simp [World.shape?, hba])
          (by rw [hsz2]; have := Nat.mul_pos hc K.pos; omega) (by simp [World.frozen?, hbb]) (by simp [World.frozen?, hbb])
  rw [key]; rfl
def insL {β : Type} (l : List β) (i : Nat) (y : β) : List β := l.take i ++ [y] ++ l.drop i
theorem insL_length {β : Type} {l : List β} {i : Nat} (y : β) (h : i ≤ l.length) : (insL l i y).length = l.length + 1 := by
  simp only [insL, List.length_append, List.length_take, List.length_drop, List.length_singleton]; omega
theorem insL_perm {β : Type} (l : List β) (i : Nat) (y : β) : (y :: l).Perm (insL l i y) := by
  have h : (insL l i y).Perm (y :: (l.take i ++ l.drop i)) := by
    rw [insL, List.append_assoc]; exact List.perm_middle
  rw [List.take_append_drop] at h
  exact h.symm
theorem insL_map {β γ : Type} (f : β → γ) (l : List β) (i : Nat) (y : β) : (insL l i y).map f = insL (l.map f) i (f y) := by
  simp [insL, List.map_take, List.map_drop]
theorem insL_getD {β : Type} {l : List β} {i : Nat} (y d : β) (h : i ≤ l.length) (k : Nat) : (insL l i y).getD k d = if k < i then l.getD k d else if k = i then y else l.getD (k - 1) d := by
  have h1 : (l.take i).length = i := by rw [List.length_take]; omega
  rw [insL, List.append_assoc]
  simp only [List.getD, List.getElem?_append, h1]
  by_cases hk : k < i
  · simp [hk, List.getElem?_take]
  · simp only [hk, if_false]
    by_cases hk2 : k = i
    · subst hk2; simp
    · have e1 : ¬ k - i < 1 := by omega
      simp only [List.length_singleton, e1, if_false, hk2, List.getElem?_drop]
      congr 2; omega
theorem insA {β : Type} {l : List β} {i : Nat} (p z : β) (h : i < l.length) : (l.take i ++ List.replicate (l.length + 1 - i) z).take i ++ [p].take (min 1 (i + (l.length + 1 - i) - i)) ++ (l.take i ++ List.replicate (l.length + 1 - i) z).drop (i + min 1 (i + (l.length + 1 - i) - i)) = l.take i ++ [p] ++ List.replicate (l.length - i) z := by
  have h1 : (l.take i).length = i := by rw [List.length_take]; omega
  have e : min 1 (i + (l.length + 1 - i) - i) = 1 := by omega
  rw [e, List.take_append_of_le_length (by omega), List.take_of_length_le (l := l.take i) (by omega), List.drop_append, h1, List.drop_of_length_le (l := l.take i) (by omega), Nat.add_sub_cancel_left, List.drop_replicate]
  simp only [List.nil_append, List.take_succ_cons, List.take_zero]
  congr 2; omega
theorem insB {β : Type} {l : List β} {i : Nat} (p z : β) (h : i < l.length) : (l.take i ++ [p] ++ List.replicate (l.length - i) z).take (i + 1) ++ (l.drop i).take (min (l.length - i) (i + (l.length + 1 - i) - (i + 1))) ++ (l.take i ++ [p] ++ List.replicate (l.length - i) z).drop (i + 1 + min (l.length - i) (i + (l.length + 1 - i) - (i + 1))) = insL l i p := by
  have h1 : (l.take i ++ [p]).length = i + 1 := by rw [List.length_append, List.length_take]; simp; omega
  have e : min (l.length - i) (i + (l.length + 1 - i) - (i + 1)) = l.length - i := by omega
  have d : (l.take i ++ [p] ++ List.replicate (l.length - i) z).drop (i + 1 + (l.length - i)) = [] := List.drop_of_length_le (by rw [List.length_append, h1, List.length_replicate]; omega)
  rw [e, List.take_append_of_le_length (by omega), List.take_of_length_le (l := l.take i ++ [p]) (by omega), List.take_of_length_le (l := l.drop i) (by rw [List.length_drop]; omega), d, List.append_nil]
  rfl
theorem insC {β : Type} {l : List β} {i : Nat} (h : i < l.length) : l.take (i + 1) ++ (l.drop i).take (min (l.length + 1 - i) (l.length + 1 - (i + 1))) ++ l.drop (i + 1 + min (l.length + 1 - i) (l.length + 1 - (i + 1))) = l.take (i + 1) ++ l.drop i := by
  have e : min (l.length + 1 - i) (l.length + 1 - (i + 1)) = l.length - i := by omega
  have d : l.drop (i + 1 + (l.length - i)) = [] := List.drop_of_length_le (by omega)
  rw [e, List.take_of_length_le (l := l.drop i) (by rw [List.length_drop]; omega), d, List.append_nil]
theorem insD {β : Type} {l : List β} {i : Nat} (p : β) (h : i < l.length) : (l.take (i + 1) ++ l.drop i).take i ++ [p].take (min 1 (l.length + 1 - i)) ++ (l.take (i + 1) ++ l.drop i).drop (i + min 1 (l.length + 1 - i)) = insL l i p := by
  have h1 : (l.take (i + 1)).length = i + 1 := by rw [List.length_take]; omega
  have e : min 1 (l.length + 1 - i) = 1 := by omega
  rw [e, List.take_append_of_le_length (by omega), List.take_take, Nat.min_eq_left (by omega), List.drop_append, h1, List.drop_of_length_le (l := l.take (i + 1)) (by omega), Nat.sub_self]
  rfl
theorem insE {β : Type} {l : List β} {i : Nat} (p : β) (h : i = l.length) : l ++ [p] = insL l i p := by
  rw [insL, List.take_of_length_le (by omega), List.drop_of_length_le (by omega), List.append_nil]
def mapG (s : BS) (m : Nat) (h : MH) (A : Option Addr) (c : Nat) : BS :=
  { s with sps := s.sps.set m ⟨A, c, insL (s.sp m).hs (aftM (s.sp m).hs h.base) h⟩, total := s.total + 1 }
def busy (hs : List MH) (b l : Int) : Prop := aftM hs b < hs.length ∧ ovl (mh hs (aftM hs b)).base (mh hs (aftM hs b)).len b l
instance (hs : List MH) (b l : Int) : Decidable (busy hs b l) := inferInstanceAs (Decidable (_ ∧ _))
end Go.Ios
namespace Go.Ios
open Go.Sv
theorem mapClose {I0 : Ids} {w0 w : World} {s : BS} {m i : Nat} {A2 : Option Addr} {c2 bp : Nat} {p0 q0 o : Int} {B0 X1 X2 : Assn} (hw3 : s.sps.length = 3) (hm : m < 3)
    (h : Hp I0 w0 [B0, OS 78 ptrK A2 c2 (insL ((s.sp m).hs.map fun h => some h.p) i (some bp)), Big mhA (s.sp m).hs, Big spA (s.sps.eraseIdx m), X1, X2, Blk bp (.cells #[.int .u64 p0, .int .u64 q0, .int .i64 o, .slice none 0 0] 77 (0, 0))] w) :
    Hp I0 w0 [B0, Big spA (s.sps.set m ⟨A2, c2, insL (s.sp m).hs i ⟨bp, p0, q0, o, none, 0, []⟩⟩), X1, X2] w := by
  have h1 := addM (R := [X1, X2]) (h := ⟨bp, p0, q0, o, none, 0, []⟩) (h.nilOS (e := 5) (K := intK .u8)) (insL_perm (s.sp m).hs i ⟨bp, p0, q0, o, none, 0, []⟩)
  refine closeSp (q := ⟨A2, c2, insL (s.sp m).hs i ⟨bp, p0, q0, o, none, 0, []⟩⟩) ?_ (by omega)
  have e : insL ((s.sp m).hs.map fun h => some h.p) i (some bp) = (insL (s.sp m).hs i ⟨bp, p0, q0, o, none, 0, []⟩).map fun h => some h.p := (insL_map (fun h : MH => some h.p) (s.sp m).hs i ⟨bp, p0, q0, o, none, 0, []⟩).symm
  rw [e] at h1
  exact h1
end Go.Ios
set_option linter.unusedSimpArgs false
set_option linter.unusedVariables false
namespace Go.Ios
open Go.Sv
def byt (l : List Int) (k : Nat) : Int := l.getD k 0
def pw (j : Nat) : Int := ((2 ^ (8 * j) : Nat) : Int)
def rdL (l : List Int) (k : Nat) : Nat → Int
  | 0 => 0
  | j + 1 => rdL l k j + byt l (k + j) * pw j
def okB (l : List Int) : Prop := ∀ i, 0 ≤ l.getD i 0 ∧ l.getD i 0 ≤ 255
theorem pw_pos (j : Nat) : 0 < pw j := by unfold pw; have := Nat.two_pow_pos (8 * j); omega
theorem pw_succ (j : Nat) : pw (j + 1) = 256 * pw j := by
  unfold pw
  have : 2 ^ (8 * (j + 1)) = 256 * 2 ^ (8 * j) := by rw [show 8 * (j + 1) = 8 + 8 * j by omega, Nat.pow_add]
  rw [this]; omega
theorem pw_le {j : Nat} (h : j ≤ 8) : pw j ≤ 18446744073709551616 := by
  have : 2 ^ (8 * j) ≤ 2 ^ 64 := Nat.pow_le_pow_right (by omega) (by omega)
  unfold pw
  have e : 2 ^ 64 = 18446744073709551616 := by decide
  omega
theorem rdL_bd {l : List Int} (h : okB l) (k : Nat) : ∀ j, 0 ≤ rdL l k j ∧ rdL l k j < pw j
  | 0 => by simp [rdL, pw]
  | j + 1 => by
    have ih := rdL_bd h k j
    have hb := h (k + j)
    have hp := pw_pos j
    have h1 : byt l (k + j) * pw j ≤ 255 * pw j := Int.mul_le_mul_of_nonneg_right hb.2 (by omega)
    have h2 : 0 ≤ byt l (k + j) * pw j := Int.mul_nonneg hb.1 (by omega)
    rw [rdL, pw_succ]; omega
theorem rdL_nil (k j : Nat) : rdL [] k j = 0 := by
  induction j with
  | zero => rfl
  | succ j ih => rw [rdL, ih]; simp [byt]
theorem byt_mul {b : Int} {j : Nat} (h0 : 0 ≤ b) (h1 : b ≤ 255) (hj : j < 8) : 0 ≤ b * pw j ∧ b * pw j ≤ 18446744073709551615 := by
  have hp := pw_pos j
  have h2 : b * pw j ≤ 255 * pw j := Int.mul_le_mul_of_nonneg_right h1 (by omega)
  have h3 := pw_le (j := j + 1) (by omega)
  rw [pw_succ] at h3
  exact ⟨Int.mul_nonneg h0 (by omega), by omega⟩
theorem two_min {j : Nat} (hj : j < 8) : (2 : Int) ^ min (8 * (j : Int)).toNat IntKind.u64.bits = pw j := by
  have e : min (8 * (j : Int)).toNat IntKind.u64.bits = 8 * j := by
    have : IntKind.u64.bits = 64 := rfl
    omega
  rw [e]; unfold pw; push_cast; rfl
theorem shlB {b : Int} {j : Nat} (h0 : 0 ≤ b) (h1 : b ≤ 255) (hj : j < 8) : IntKind.u64.wrap (b * 2 ^ min (8 * (j : Int)).toNat IntKind.u64.bits) = b * pw j := by
  rw [two_min hj]
  have := byt_mul h0 h1 hj
  exact wU64 this.1 this.2
theorem orB {a b : Int} {j : Nat} (ha : 0 ≤ a) (ha2 : a < pw j) (h0 : 0 ≤ b) (h1 : b ≤ 255) (hj : j < 8) : IntKind.u64.wrap ((BitVec.ofInt IntKind.u64.bits a ||| BitVec.ofInt IntKind.u64.bits (b * pw j)).toNat) = a + b * pw j := by
  have hb := byt_mul h0 h1 hj
  have hp := pw_le (j := j) (by omega)
  show IntKind.u64.wrap ((BitVec.ofInt 64 a ||| BitVec.ofInt 64 (b * pw j)).toNat) = a + b * pw j
  rw [or_u64 ha (by omega) hb.1 hb.2]
  obtain ⟨x, rfl⟩ := Int.eq_ofNat_of_zero_le ha
  obtain ⟨y, rfl⟩ := Int.eq_ofNat_of_zero_le h0
  have hx : x < 2 ^ (8 * j) := by unfold pw at ha2; omega
  have e1 : ((y : Int) * pw j).toNat = 2 ^ (8 * j) * y := by
    unfold pw
    rw [show (y : Int) * ((2 ^ (8 * j) : Nat) : Int) = ((2 ^ (8 * j) * y : Nat) : Int) by rw [Int.natCast_mul, Int.mul_comm], Int.toNat_natCast]
  rw [e1, Int.toNat_natCast, Nat.or_comm, ← Nat.two_pow_add_eq_or_of_lt hx]
  unfold pw
  rw [Int.natCast_add, Int.natCast_mul, Int.mul_comm]; omega
/-- Byte j of a number. -/
def byo (v : Int) (j : Nat) : Int := (v / pw j) % 256
theorem byo_bd (v : Int) (j : Nat) : 0 ≤ byo v j ∧ byo v j ≤ 255 := by
  unfold byo
  omega
theorem u8B {v : Int} {j : Nat} (hj : j < 8) (hv : 0 ≤ v) : IntKind.u8.wrap (v.fdiv (2 ^ min (8 * (j : Int)).toNat IntKind.u64.bits)) = byo v j := by
  rw [two_min hj, Int.fdiv_eq_ediv_of_nonneg _ (by have := pw_pos j; omega), IntKind.wrap_u8]
  rfl
def wrK (l : List Int) (k : Nat) (v : Int) : Nat → List Int
  | 0 => l
  | j + 1 => (wrK l k v j).set (k + j) (byo v j)
theorem wrK_length (l : List Int) (k : Nat) (v : Int) (j : Nat) : (wrK l k v j).length = l.length := by
  induction j with
  | zero => rfl
  | succ j ih => rw [wrK, List.length_set, ih]
def raw0 (h : MH) : List Int := if h.bs = [] then List.replicate h.len.toNat 0 else h.bs
theorem raw0_byt {h : MH} (k : Nat) : byt (raw0 h) k = byt h.bs k := by
  unfold raw0
  split
  · rename_i e; rw [e]; simp [byt, List.getD, List.getElem?_replicate]; split <;> rfl
  · rfl
theorem raw0_len {h : MH} (ho : h.ok) : (raw0 h).length = h.len.toNat := by
  unfold raw0
  split
  · simp
  · rename_i e
    rcases ho.d with ⟨h1, _⟩ | ⟨h1, _⟩
    · exact absurd h1 e
    · exact h1
theorem wrK_byt {l : List Int} {k : Nat} (v : Int) : ∀ {j : Nat}, k + j ≤ l.length → ∀ i, byt (wrK l k v j) i = if k ≤ i ∧ i < k + j then byo v (i - k) else byt l i
  | 0, _, i => by rw [wrK, if_neg (by omega)]
  | j + 1, h, i => by
    have ih := wrK_byt (l := l) (k := k) v (j := j) (by omega) i
    rw [wrK]
    by_cases e : i = k + j
    · subst e
      rw [byt, getD_set_self _ _ _ _ (by rw [wrK_length]; omega), if_pos (by omega)]
      congr 1; omega
    · rw [byt, getD_set_other _ _ _ (show k + j ≠ i by omega)]
      show byt _ i = _
      rw [ih]
      by_cases h1 : k ≤ i ∧ i < k + j
      · rw [if_pos h1, if_pos (by omega)]
      · rw [if_neg h1, if_neg (by omega)]
end Go.Ios
namespace Go.Ios
open Go.Sv
theorem osSome {I0 : Ids} {w0 w : World} {L : List Assn} {α : Type} {K : Enc α} {A : Option Addr} {ys : List α} {e : TypeId} {c : Nat} (h : Hp I0 w0 L w) (k : Nat) (hk : L[k]? = some (OS e K A c ys)) (hne : 0 < ys.length) : A ≠ none := by
  obtain ⟨i, j, hA, _⟩ := h.at hk
  rcases hA with ⟨_, h0, _⟩ | ⟨g, cur, rfl, _⟩
  · rw [h0] at hne; simp at hne
  · simp
end Go.Ios
namespace Go.Sv
theorem KV.toRet {P : Program} {N : Nat} {fn : Func} {R : Ending → World → Prop} {E : Env} {S : World → Prop} (h : KV N (bodyPost P fn R .ret) E S) : KV N (bodyPost P fn R .normal) E S := fun a w hf hs => h a w hf hs
end Go.Sv
set_option linter.unusedSimpArgs false
set_option linter.unusedVariables false
namespace Go.Sv
theorem OV.clearTail0 {P : Program} {N : Nat} {Q : Exit → Act → World → Prop} {E : Env} {ops : Array Oper} {ty : TypeId} {pos : String} {af : Array Edge} {g : Option (Nat × Bool)} {x : Operand} {KK : Act → World → Prop} {I0 : Ids} {w0 : World} {L : List Assn} {α : Type} {K : Enc α} {A : Option Addr} {ys : List α} {e t : TypeId} {c : Nat}
    (k l : Nat) {ze : Value} {by_ n cA : Nat} (hu : P.underlying t = some (.slice e)) (hi : TI P e ze K.sz by_) (hze : ze.cells.size = K.sz) (h1 : ∀ v ∈ ze.cells.toList, v.oneCell' = true) (hk : L[k]? = some (OS e K A c ys))
    (hx : ev E x = some (.slice (shA A l K.sz c) n cA)) (hl : ys.length ≤ l) (hn : l + n ≤ c) (hg : Yes N ops ⟨none, .call ⟨.builtin .clear, #[x], #[t]⟩, ty, pos, af, g⟩ E) (kk : KV N KK E (Hp I0 w0 L)) :
    OV P N ops Q ⟨none, .call ⟨.builtin .clear, #[x], #[t]⟩, ty, pos, af, g⟩ E (Hp I0 w0 L) KK :=
  OV.clearTail k l hu hi hze h1 hk hx hl hn hg fun a w hf hs => kk a w (hf.put_none (.tuple #[])) hs
end Go.Sv
namespace Go.Ios
open Go.Sv
def delL {β : Type} (l : List β) (i : Nat) : List β := l.take i ++ l.drop (i + 1)
theorem delL_length {β : Type} {l : List β} {i : Nat} (h : i < l.length) : (delL l i).length = l.length - 1 := by
  simp only [delL, List.length_append, List.length_take, List.length_drop]; omega
def isW (w : Int) : Prop := w = 1 ∨ w = 2 ∨ w = 4 ∨ w = 8
instance (w : Int) : Decidable (isW w) := inferInstanceAs (Decidable (_ ∨ _ ∨ _ ∨ _))
def wfA (a : Acs) : Prop := isW a.width ∧ (0 ≤ a.space ∧ a.space < 3) ∧ a.addr.tmod a.width = 0
instance (a : Acs) : Decidable (wfA a) := inferInstanceAs (Decidable (_ ∧ (_ ∧ _) ∧ _))
theorem wfA_rng {a : Acs} (h : wfA a) (hu : isU a.addr) : okR a.addr a.width := by
  obtain ⟨h1, _, h2⟩ := h
  unfold isU at hu
  unfold okR
  rcases h1 with e | e | e | e <;> rw [e] at h2 ⊢
  · omega
  · have : a.addr.tmod 2 = a.addr % 2 := Int.tmod_eq_emod_of_nonneg hu.1
    omega
  · have : a.addr.tmod 4 = a.addr % 4 := Int.tmod_eq_emod_of_nonneg hu.1
    omega
  · have : a.addr.tmod 8 = a.addr % 8 := Int.tmod_eq_emod_of_nonneg hu.1
    omega
def hitF (f : Flt) (a : Acs) : Prop := f.space = a.space ∧ ovl f.base f.len a.addr a.width
instance (f : Flt) (a : Acs) : Decidable (hitF f a) := inferInstanceAs (Decidable (_ ∧ _))
def hitN (l : List Flt) (a : Acs) : Nat := firstN (fun i => decide (hitF (l.getD i fltK.d) a)) l.length
def useL (l : List Flt) (a : Acs) : List Flt :=
  if hitN l a < l.length then
    if (l.getD (hitN l a) fltK.d).cnt = 1 then delL l (hitN l a)
    else l.set (hitN l a) { l.getD (hitN l a) fltK.d with cnt := (l.getD (hitN l a) fltK.d).cnt - 1 }
  else l
theorem hitN_at {l : List Flt} {a : Acs} {i : Nat} (h : ∀ j, j < i → ¬ hitF (l.getD j fltK.d) a) (hi : i < l.length) (hh : hitF (l.getD i fltK.d) a) : hitN l a = i :=
  firstN_at (p := fun i => decide (hitF (l.getD i fltK.d) a)) (fun j hj => decide_eq_false (h j hj)) (decide_eq_true hh) hi
theorem hitN_none {l : List Flt} {a : Acs} (h : ∀ j, j < l.length → ¬ hitF (l.getD j fltK.d) a) : hitN l a = l.length :=
  firstN_none (p := fun i => decide (hitF (l.getD i fltK.d) a)) fun j hj => decide_eq_false (h j hj)
theorem use_del {l : List Flt} {a : Acs} {i : Nat} (h : hitN l a = i) (hi : i < l.length) (hc : (l.getD i fltK.d).cnt = 1) : useL l a = delL l i := by rw [useL, h, if_pos hi, if_pos hc]
theorem use_dec {l : List Flt} {a : Acs} {i : Nat} (h : hitN l a = i) (hi : i < l.length) (hc : ¬ (l.getD i fltK.d).cnt = 1) : useL l a = l.set i { l.getD i fltK.d with cnt := (l.getD i fltK.d).cnt - 1 } := by rw [useL, h, if_pos hi, if_neg hc]
theorem use_no {l : List Flt} {a : Acs} (h : hitN l a = l.length) : useL l a = l := by rw [useL, h, if_neg (Nat.lt_irrefl _)]
def onesM (w : Int) : Int := if w = 1 then 255 else if w = 2 then 65535 else if w = 4 then 4294967295 else 18446744073709551615
theorem onesB {w : Int} (h : isW w) : (18446744073709551615 : Int).fdiv (2 ^ min (64 - 8 * w).toNat IntKind.u64.bits) = onesM w := by
  rcases h with rfl | rfl | rfl | rfl <;> decide
theorem ones_bd {w : Int} (h : isW w) : 0 ≤ onesM w ∧ onesM w ≤ 18446744073709551615 := by
  rcases h with rfl | rfl | rfl | rfl <;> decide
end Go.Ios
namespace Go.Ios
open Go.Sv
theorem hc_sub {S : World → Prop} {p : Nat} {a b c d : Value} (h : ∀ w, S w → ∀ j v, [a, b, c, d][j]? = some v → w.cell? ⟨p, 0 + j, none⟩ = some v) : ∀ w, S w → ∀ j v, [b, c][j]? = some v → w.cell? ⟨p, 0 + 1 + j, none⟩ = some v := fun w hs j v hv => by
  have e : 0 + 1 + j = 0 + (j + 1) := by omega
  rw [e]
  refine h w hs (j + 1) v ?_
  match j, hv with
  | 0, hv => exact hv
  | 1, hv => exact hv
end Go.Ios
set_option linter.unusedSimpArgs false
set_option linter.unusedVariables false
namespace Go.Ios
open Go.Sv
def lvM (s : BS) (a : Acs) : Bool := match fnd s a.space a.addr with
  | some i => s.en.getD (mh (s.sp a.space.toNat).hs i).own.toNat false && decide (a.addr + a.width - 1 ≤ (mh (s.sp a.space.toNat).hs i).lst)
  | none => false
def flM (s : BS) (a : Acs) : Bool := lvM s a && decide (hitN s.fl a < s.fl.length)
def stF (s : BS) (a : Acs) : BS := if lvM s a = true then { s with fl := useL s.fl a } else s
/-- The state with mapping i of space m replaced. -/
def setM (s : BS) (m i : Nat) (h : MH) : BS := { s with sps := s.sps.set m { s.sp m with hs := (s.sp m).hs.set i h } }
def fi (s : BS) (a : Acs) : Nat := (fnd s a.space a.addr).getD 0
def fh (s : BS) (a : Acs) : MH := mh (s.sp a.space.toNat).hs (fi s a)
def wrH (h : MH) (a : Acs) (A : Option Addr) (c : Nat) : MH := { h with A := A, c := c, bs := wrK (raw0 h) (a.addr - h.base).toNat a.val a.width.toNat }
def wrs (s : BS) (a : Acs) : Prop := a.wr = true ∧ lvM s a = true ∧ flM s a = false
instance (s : BS) (a : Acs) : Decidable (wrs s a) := inferInstanceAs (Decidable (_ ∧ _ ∧ _))
def stW (s : BS) (a : Acs) (A : Option Addr) (c : Nat) : BS := if wrs s a then setM (stF s a) a.space.toNat (fi s a) (wrH (fh s a) a A c) else stF s a
def vlM (s : BS) (a : Acs) : Int := if a.wr = true then ((a.val.toNat &&& (onesM a.width).toNat : Nat) : Int) else if lvM s a = true then (if flM s a = true then 0 else rdL (fh s a).bs (a.addr - (fh s a).base).toNat a.width.toNat) else onesM a.width
def rec (s : BS) (a : Acs) : Trc := ⟨{ a with val := vlM s a }, ownM s a.space a.addr, lvM s a, flM s a⟩
def accS (s : BS) (a : Acs) (A : Option Addr) (c : Nat) (tA : Option Addr) (tc : Nat) : BS := { stW s a A c with tA := tA, tc := tc, tr := s.tr ++ [rec s a] }
def accV (s : BS) (a : Acs) : Int := if flM s a = true then 0 else if a.wr = true then 0 else vlM s a
def accE (s : BS) (a : Acs) : Int := if flM s a = true then 15 else 0
theorem lv_none {s : BS} {a : Acs} (h : fnd s a.space a.addr = none) : lvM s a = false := by rw [lvM, h]
theorem fi_some {s : BS} {a : Acs} {i : Nat} (h : fnd s a.space a.addr = some i) : fi s a = i := by rw [fi, h]; rfl
theorem lv_some {s : BS} {a : Acs} {m i : Nat} (hm : a.space = m) (h : fnd s m a.addr = some i) : lvM s a = (s.en.getD (mh (s.sp m).hs i).own.toNat false && decide (a.addr + a.width - 1 ≤ (mh (s.sp m).hs i).lst)) := by
  rw [lvM, hm, h]; rfl
theorem lv_fnd {s : BS} {a : Acs} (hk : s.ok) (h : lvM s a = true) : ∃ (m i : Nat), a.space = (m : Int) ∧ m < 3 ∧ fnd s m a.addr = some i ∧ i < (s.sp m).hs.length ∧ (mh (s.sp m).hs i).base ≤ a.addr ∧ a.addr + a.width - 1 ≤ (mh (s.sp m).hs i).lst ∧ s.en.getD (mh (s.sp m).hs i).own.toNat false = true ∧ fh s a = mh (s.sp m).hs i ∧ fi s a = i := by
  by_cases hn : fptr s a.space a.addr = none
  · rw [lv_none (fptr_no hn)] at h; cases h
  · obtain ⟨m, i, e, hm, hf, hi, hb, hl⟩ := fptr_cases hk hn
    rw [lv_some e hf, Bool.and_eq_true, decide_eq_true_eq] at h
    have e2 : fi s a = i := fi_some (by rw [e]; exact hf)
    exact ⟨m, i, e, hm, hf, hi, hb, h.2, h.1, by rw [fh, e2, e]; rfl, e2⟩
theorem stF_t {s : BS} {a : Acs} (h : lvM s a = true) : stF s a = { s with fl := useL s.fl a } := if_pos h
theorem stF_f {s : BS} {a : Acs} (h : lvM s a = false) : stF s a = s := if_neg (by rw [h]; decide)
theorem stF_sps (s : BS) (a : Acs) : (stF s a).sps = s.sps := by unfold stF; split <;> rfl
theorem stF_en (s : BS) (a : Acs) : (stF s a).en = s.en := by unfold stF; split <;> rfl
theorem stF_tot (s : BS) (a : Acs) : (stF s a).total = s.total := by unfold stF; split <;> rfl
theorem stF_tr (s : BS) (a : Acs) : (stF s a).tr = s.tr ∧ (stF s a).tA = s.tA ∧ (stF s a).tc = s.tc := by unfold stF; split <;> exact ⟨rfl, rfl, rfl⟩
theorem stF_wf {s : BS} {a : Acs} (h : s.wf) : (stF s a).wf := ⟨by rw [stF_sps]; exact h.sp, by rw [stF_en]; exact h.en⟩
theorem stW_wf {s : BS} {a : Acs} {A : Option Addr} {c : Nat} (h : s.wf) : (stW s a A c).wf := by
  unfold stW
  split
  · exact ⟨by show ((stF s a).sps.set _ _).length = 3; rw [List.length_set]; exact (stF_wf h).sp, (stF_wf h).en⟩
  · exact stF_wf h
theorem stW_tr (s : BS) (a : Acs) (A : Option Addr) (c : Nat) : (stW s a A c).tr = s.tr ∧ (stW s a A c).tA = s.tA ∧ (stW s a A c).tc = s.tc := by
  unfold stW
  split
  · exact stF_tr s a
  · exact stF_tr s a
theorem andOnes {v w : Int} (h0 : isU v) (hw : isW w) : IntKind.u64.wrap ((BitVec.ofInt IntKind.u64.bits v &&& BitVec.ofInt IntKind.u64.bits (onesM w)).toNat) = ((v.toNat &&& (onesM w).toNat : Nat) : Int) := by
  have := ones_bd hw
  exact and_u64 h0.1 h0.2 this.1 this.2
/-! ### Opening a mapping -/
section
variable {I0 : Ids} {w0 w : World} {B0 : Assn} {R : List Assn} {sps : List Sp} {m i : Nat}
theorem openM {q : Sp} {h0 : MH} (h : Hp I0 w0 (B0 :: Big spA sps :: R) w) (hm : m < sps.length) (hq : sps.getD m spD = q) (hi : i < q.hs.length) (hh : q.hs.getD i mhD = h0) :
    Hp I0 w0 (mhL h0 ++ (B0 :: OS 78 ptrK q.A q.c (q.hs.map fun h => some h.p) :: Big mhA (q.hs.eraseIdx i) :: Big spA (sps.eraseIdx m) :: R)) w := by
  subst hq; subst hh
  have h1 := openSp h hm
  have h2 := h1.focus mhD (k := 2) rfl hi
  have h3 := h2.splice (k := 2) (A := mhA ((sps.getD m spD).hs.getD i mhD)) (M := mhL ((sps.getD m spD).hs.getD i mhD)) rfl fun i hi => hi
  refine h3.perm (List.Perm.append_left _ ?_)
  show (B0 :: OS 78 ptrK _ _ _ :: Big spA (sps.eraseIdx m) :: (R ++ [Big mhA _])).Perm _
  refine List.Perm.cons _ (List.Perm.cons _ ?_)
  exact ((List.perm_append_singleton (Big mhA ((sps.getD m spD).hs.eraseIdx i)) R).cons _).trans (List.Perm.swap _ _ _)
theorem closeM {q : Sp} {h0 h' : MH} (h : Hp I0 w0 (mhL h' ++ (B0 :: OS 78 ptrK q.A q.c (q.hs.map fun h => some h.p) :: Big mhA (q.hs.eraseIdx i) :: Big spA (sps.eraseIdx m) :: R)) w) (hm : m < sps.length) (hi : i < q.hs.length) (hp : h'.p = (q.hs.getD i mhD).p) :
    Hp I0 w0 (B0 :: Big spA (sps.set m { q with hs := q.hs.set i h' }) :: R) w := by
  have h1 : Hp I0 w0 (mhA h' :: (B0 :: OS 78 ptrK q.A q.c (q.hs.map fun h => some h.p) :: Big mhA (q.hs.eraseIdx i) :: Big spA (sps.eraseIdx m) :: R)) w := Hp.bundle (M := mhL h') h fun i hi => hi
  have p1 : (mhA h' :: (B0 :: OS 78 ptrK q.A q.c (q.hs.map fun h => some h.p) :: Big mhA (q.hs.eraseIdx i) :: Big spA (sps.eraseIdx m) :: R)).Perm
      ((B0 :: OS 78 ptrK q.A q.c (q.hs.map fun h => some h.p) :: mhA h' :: Big spA (sps.eraseIdx m) :: R) ++ [Big mhA (q.hs.eraseIdx i)]) := by
    refine (List.Perm.swap _ _ _).trans (List.Perm.cons _ ((List.Perm.swap _ _ _).trans (List.Perm.cons _ (List.Perm.cons _ ?_))))
    exact (List.Perm.swap _ _ _).trans (List.Perm.cons _ (List.perm_append_singleton _ _).symm)
  have h2 := (h1.perm p1).unfocus (k := 2) rfl hi
  have e : (q.hs.set i h').map (fun h => some h.p) = q.hs.map fun h => some h.p := by
    rw [List.map_set, hp]
    refine set_self ?_
    simp [List.getD, hi]
  refine closeSp (q := { q with hs := q.hs.set i h' }) ?_ hm
  show Hp I0 w0 (B0 :: OS 78 ptrK q.A q.c ((q.hs.set i h').map fun h => some h.p) :: Big mhA (q.hs.set i h') :: Big spA (sps.eraseIdx m) :: R) w
  rw [e]; exact h2
end
end Go.Ios
namespace Go.Ios
open Go.Sv
theorem busC_setM (s : BS) {m : Nat} (i : Nat) (h : MH) (hm : m < s.sps.length) : busC (setM s m i h) = busC s := by
  have e : (s.sps.set m { s.sp m with hs := (s.sp m).hs.set i h }).map (fun p => Value.slice p.A p.hs.length p.c) = s.sps.map fun p => Value.slice p.A p.hs.length p.c := by
    rw [List.map_set]
    refine set_self ?_
    simp [List.getD, hm]
  simp only [busC, setM, e]
theorem busL_setM (b : Nat) (s : BS) {m : Nat} (i : Nat) (h : MH) (hm : m < s.sps.length) : busL b (setM s m i h) = [Blk b (.cells (busC s).toArray 71 (0, 0)), Big spA (s.sps.set m { s.sp m with hs := (s.sp m).hs.set i h }), OS 86 fltK s.fA s.fc s.fl, OS 63 trcK s.tA s.tc s.tr] := by
  rw [busL, busC_setM s i h hm]; rfl
theorem stW_no {s : BS} {a : Acs} (h : ¬ wrs s a) : stW s a none 0 = stF s a := if_neg h
theorem stW_yes {s : BS} {a : Acs} {m i : Nat} (h : wrs s a) (hsm : a.space = m) (hfi : fi s a = i) (hfh : fh s a = mh (s.sp m).hs i) (A : Option Addr) (c : Nat) : stW s a A c = setM { s with fl := useL s.fl a } m i (wrH (mh (s.sp m).hs i) a A c) := by
  rw [stW, if_pos h, stF_t h.2.1, hsm, hfi, hfh, Int.toNat_natCast]
theorem vl_w {s : BS} {a : Acs} (h : a.wr = true) : vlM s a = ((a.val.toNat &&& (onesM a.width).toNat : Nat) : Int) := if_pos h
theorem vl_dead {s : BS} {a : Acs} (h : a.wr = false) (hl : lvM s a = false) : vlM s a = onesM a.width := by rw [vlM, if_neg (by rw [h]; decide), if_neg (by rw [hl]; decide)]
theorem vl_fail {s : BS} {a : Acs} (h : a.wr = false) (hl : lvM s a = true) (hf : flM s a = true) : vlM s a = 0 := by rw [vlM, if_neg (by rw [h]; decide), if_pos hl, if_pos hf]
theorem vl_read {s : BS} {a : Acs} {m i : Nat} (h : a.wr = false) (hl : lvM s a = true) (hf : flM s a = false) (hfh : fh s a = mh (s.sp m).hs i) : vlM s a = rdL (mh (s.sp m).hs i).bs (a.addr - (mh (s.sp m).hs i).base).toNat a.width.toNat := by
  rw [vlM, if_neg (by rw [h]; decide), if_pos hl, if_neg (by rw [hf]; decide), hfh]
end Go.Ios
namespace Go.Ios
theorem not_tru {b : Bool} (h : (!b) = true) : b = false := by cases b <;> simp_all
theorem not_fls {b : Bool} (h : (!b) = false) : b = true := by cases b <;> simp_all
end Go.Ios
set_option linter.unusedSimpArgs false
set_option linter.unusedVariables false
namespace Go.Ios
open Go.Sv
theorem getD_set {β : Type} (l : List β) (m k : Nat) (y d : β) (h : m < l.length) : (l.set m y).getD k d = if k = m then y else l.getD k d := by
  by_cases e : k = m
  · subst e; rw [if_pos rfl]; exact getD_set_self _ _ _ _ h
  · rw [if_neg e]; exact getD_set_other _ _ _ (fun e2 => e e2.symm)
theorem insL_ok {hs : List MH} (ho : okS hs) {h : MH} (hh : h.ok) (hb : ¬ busy hs h.base h.len) : okS (insL hs (aftM hs h.base) h) := by
  obtain ⟨h1, h2, h3⟩ := aft_spec hs h.base
  have hl : (insL hs (aftM hs h.base) h).length = hs.length + 1 := insL_length h h1
  have hr := hh.r
  unfold okR at hr
  have hlow : ∀ j, j < aftM hs h.base → (mh hs j).lst < h.base := fun j hj => by have := h2 j hj; omega
  have hhigh : ∀ j, aftM hs h.base ≤ j → j < hs.length → h.lst < (mh hs j).base := fun j hj hjl => by
    have ha : aftM hs h.base < hs.length := by omega
    have h4 := h3 ha
    have h5 : ¬ ovl (mh hs (aftM hs h.base)).base (mh hs (aftM hs h.base)).len h.base h.len := fun k => hb ⟨ha, k⟩
    unfold ovl at h5
    have h4' : h.base ≤ (mh hs (aftM hs h.base)).base + ((mh hs (aftM hs h.base)).len - 1) := h4
    have h6 : h.base + (h.len - 1) < (mh hs (aftM hs h.base)).base := by omega
    by_cases e : j = aftM hs h.base
    · rw [e]; exact h6
    · have h7 : (mh hs (aftM hs h.base)).base + ((mh hs (aftM hs h.base)).len - 1) < (mh hs j).base := ho.sort _ j (by omega) hjl
      have h8 := (ho.each _ ha).r
      unfold okR at h8
      show h.base + (h.len - 1) < (mh hs j).base
      omega
  have hget : ∀ k, mh (insL hs (aftM hs h.base) h) k = if k < aftM hs h.base then mh hs k else if k = aftM hs h.base then h else mh hs (k - 1) := fun k => insL_getD h mhD h1 k
  refine ⟨fun i hi => ?_, fun i j hij hj => ?_⟩
  · rw [hl] at hi
    rw [hget i]
    split
    · exact ho.each i (by omega)
    · split
      · exact hh
      · exact ho.each (i - 1) (by omega)
  · rw [hl] at hj
    rw [hget i, hget j]
    by_cases c1 : j < aftM hs h.base
    · rw [if_pos c1, if_pos (by omega)]; exact ho.sort i j hij (by omega)
    · rw [if_neg c1]
      by_cases c2 : j = aftM hs h.base
      · rw [if_pos c2, if_pos (by omega)]; exact hlow i (by omega)
      · rw [if_neg c2]
        by_cases c3 : i < aftM hs h.base
        · rw [if_pos c3]; exact ho.sort i (j - 1) (by omega) (by omega)
        · rw [if_neg c3]
          by_cases c4 : i = aftM hs h.base
          · rw [if_pos c4]; exact hhigh (j - 1) (by omega) (by omega)
          · rw [if_neg c4]; exact ho.sort (i - 1) (j - 1) (by omega) (by omega)
theorem mapG_sp {s : BS} (hk : s.ok) {m : Nat} (hm : m < 3) (h : MH) (A : Option Addr) (c k : Nat) : (mapG s m h A c).sp k = if k = m then ⟨A, c, insL (s.sp m).hs (aftM (s.sp m).hs h.base) h⟩ else s.sp k :=
  getD_set _ _ _ _ _ (by rw [hk.wf.sp]; exact hm)
theorem mapG_ok {s : BS} (hk : s.ok) {m : Nat} (hm : m < 3) {h : MH} (hh : h.ok) (hb : ¬ busy (s.sp m).hs h.base h.len) (ht : s.total ≠ 256) (A : Option Addr) (c : Nat) : (mapG s m h A c).ok := by
  have hl := insL_length h (aft_spec (s.sp m).hs h.base).1
  have htot := hk.tot
  have hmax := hk.max
  refine ⟨⟨by show (s.sps.set m _).length = 3; rw [List.length_set]; exact hk.wf.sp, hk.wf.en⟩, fun k hkk => ?_, ?_, by show s.total + 1 ≤ 256; omega, hk.fl, hk.fr, hk.tr⟩
  · rw [mapG_sp hk hm]
    split
    · exact insL_ok (hk.sp m hm) hh hb
    · exact hk.sp k hkk
  · rw [mapG_sp hk hm, mapG_sp hk hm, mapG_sp hk hm]
    show s.total + 1 = _
    obtain rfl | rfl | rfl : m = 0 ∨ m = 1 ∨ m = 2 := by omega
    · rw [if_pos rfl, if_neg (by decide), if_neg (by decide)]; simp only [hl]; omega
    · rw [if_neg (by decide), if_pos rfl, if_neg (by decide)]; simp only [hl]; omega
    · rw [if_neg (by decide), if_neg (by decide), if_pos rfl]; simp only [hl]; omega
theorem delL_getD {β : Type} {l : List β} {i : Nat} (d : β) (h : i < l.length) (k : Nat) : (delL l i).getD k d = if k < i then l.getD k d else l.getD (k + 1) d := by
  have h1 : (l.take i).length = i := by rw [List.length_take]; omega
  simp only [delL, List.getD, List.getElem?_append, h1]
  by_cases hk : k < i
  · simp [hk, List.getElem?_take]
  · simp only [hk, if_false, List.getElem?_drop]
    congr 2; omega
theorem useL_len (l : List Flt) (a : Acs) : (useL l a).length ≤ l.length := by
  unfold useL
  split
  · rename_i h
    split
    · rw [delL_length h]; omega
    · rw [List.length_set]; omega
  · exact Nat.le_refl _
def okF (f : Flt) : Prop := isU f.base ∧ okR f.base f.len ∧ 1 ≤ f.cnt ∧ f.cnt ≤ 64
theorem useL_ok {l : List Flt} {a : Acs} (h : ∀ i, i < l.length → okF (l.getD i fltK.d)) : ∀ i, i < (useL l a).length → okF ((useL l a).getD i fltK.d) := by
  unfold useL
  split
  · rename_i hn
    split
    · intro i hi
      rw [delL_length hn] at hi
      rw [delL_getD _ hn]
      split
      · exact h i (by omega)
      · exact h (i + 1) (by omega)
    · rename_i hc
      intro i hi
      rw [List.length_set] at hi
      rw [getD_set _ _ _ _ _ hn]
      split
      · obtain ⟨h1, h2, h3, h4⟩ := h _ hn
        exact ⟨h1, h2, by show 1 ≤ (l.getD (hitN l a) fltK.d).cnt - 1; omega, by show (l.getD (hitN l a) fltK.d).cnt - 1 ≤ 64; omega⟩
      · exact h i hi
  · exact h
theorem stF_ok {s : BS} (hk : s.ok) (a : Acs) : (stF s a).ok := by
  unfold stF
  split
  · exact ⟨⟨hk.wf.sp, hk.wf.en⟩, hk.sp, hk.tot, hk.max, Nat.le_trans (useL_len _ _) hk.fl, useL_ok hk.fr, hk.tr⟩
  · exact hk
theorem setM_sp {s : BS} {m : Nat} (hm : m < s.sps.length) (i : Nat) (h : MH) (k : Nat) : (setM s m i h).sp k = if k = m then { s.sp m with hs := (s.sp m).hs.set i h } else s.sp k := getD_set _ _ _ _ _ hm
theorem setM_ok {s : BS} (hk : s.ok) {m i : Nat} (hm : m < 3) (hi : i < (s.sp m).hs.length) {h : MH} (hh : h.ok) (e1 : h.base = (mh (s.sp m).hs i).base) (e2 : h.len = (mh (s.sp m).hs i).len) : (setM s m i h).ok := by
  have hm2 : m < s.sps.length := by rw [hk.wf.sp]; exact hm
  have hlen : ∀ k, ((setM s m i h).sp k).hs.length = (s.sp k).hs.length := fun k => by
    rw [setM_sp hm2]
    split
    · rename_i e; subst e; exact List.length_set
    · rfl
  refine ⟨⟨by show (s.sps.set m _).length = 3; rw [List.length_set]; exact hk.wf.sp, hk.wf.en⟩, fun k hkk => ?_, ?_, hk.max, hk.fl, hk.fr, hk.tr⟩
  · rw [setM_sp hm2]
    split
    · have ho := hk.sp m hm
      have hg : ∀ j, mh ((s.sp m).hs.set i h) j = if j = i then h else mh (s.sp m).hs j := fun j => getD_set _ _ _ _ _ hi
      have hb : ∀ j, (mh ((s.sp m).hs.set i h) j).base = (mh (s.sp m).hs j).base ∧ (mh ((s.sp m).hs.set i h) j).len = (mh (s.sp m).hs j).len := fun j => by
        rw [hg j]
        split
        · rename_i e; subst e; exact ⟨e1, e2⟩
        · exact ⟨rfl, rfl⟩
      refine ⟨fun j hj => ?_, fun j l hjl hl => ?_⟩
      · have hj2 : j < (s.sp m).hs.length := by simpa using hj
        show (mh ((s.sp m).hs.set i h) j).ok
        rw [hg j]
        split
        · exact hh
        · exact ho.each j hj2
      · have hl2 : l < (s.sp m).hs.length := by simpa using hl
        show (mh ((s.sp m).hs.set i h) j).base + ((mh ((s.sp m).hs.set i h) j).len - 1) < (mh ((s.sp m).hs.set i h) l).base
        rw [(hb j).1, (hb j).2, (hb l).1]
        exact ho.sort j l hjl hl2
    · exact hk.sp k hkk
  · rw [hlen 0, hlen 1, hlen 2]; exact hk.tot
theorem wrH_ok {h : MH} (hh : h.ok) {a : Acs} {A : Option Addr} {c : Nat} (hA : A ≠ none) (h1 : h.base ≤ a.addr) (h2 : a.addr + a.width - 1 ≤ h.lst) (hw : 1 ≤ a.width) : (wrH h a A c).ok := by
  have hb := hh.b
  have hl := raw0_len hh
  unfold isU at hb
  have h2' : a.addr + a.width - 1 ≤ h.base + (h.len - 1) := h2
  refine ⟨hh.b, hh.r, hh.o1, hh.o2, .inr ⟨?_, hA⟩, fun i => ?_⟩
  · show (wrK _ _ _ _).length = h.len.toNat
    rw [wrK_length, hl]
  · show 0 ≤ byt (wrK _ _ _ _) i ∧ byt (wrK _ _ _ _) i ≤ 255
    rw [wrK_byt _ (by rw [hl]; omega), raw0_byt]
    split
    · exact byo_bd _ _
    · exact hh.y i
theorem accS_ok {s : BS} (hk : s.ok) {a : Acs} (ha : wfA a) {A : Option Addr} {c : Nat} (hA : wrs s a → A ≠ none) (tA : Option Addr) (tc : Nat) (ht : s.tr.length ≠ 65536) : (accS s a A c tA tc).ok := by
  have hF := stF_ok hk a
  have hW : (stW s a A c).ok := by
    unfold stW
    split
    · rename_i hw
      obtain ⟨m, i, hsm, hm, he, hi, hb1, hb2, hen, hfh, hfi⟩ := lv_fnd hk hw.2.1
      have hsp : (stF s a).sp m = s.sp m := by unfold BS.sp; rw [stF_sps]
      rw [hsm, hfi, hfh, Int.toNat_natCast]
      have hW1 : 1 ≤ a.width := by have := ha.1; unfold isW at this; omega
      exact setM_ok hF hm (by rw [hsp]; exact hi) (wrH_ok ((hk.sp m hm).each i hi) (hA hw) hb1 hb2 hW1) (by rw [hsp]; rfl) (by rw [hsp]; rfl)
    · exact hF
  have htr := hk.tr
  exact ⟨⟨hW.wf.sp, hW.wf.en⟩, hW.sp, hW.tot, hW.max, hW.fl, hW.fr, by show (s.tr ++ [rec s a]).length ≤ 65536; rw [List.length_append]; simp; omega⟩
/-! ### One mapping -/
theorem fnd_one {s : BS} {m : Nat} {h : MH} (hm : m < 3) (e : (s.sp m).hs = [h]) (x : Int) : fnd s m x = if h.base ≤ x ∧ x ≤ h.lst then some 0 else none := by
  rw [fnd_ok hm, e, findM]
  have ha : aftM [h] x = if x ≤ h.lst then 0 else 1 := by
    unfold aftM
    by_cases hx : x ≤ h.lst
    · rw [if_pos hx]; exact firstN_at (p := fun i => decide (x ≤ (mh [h] i).lst)) (i := 0) (fun j hj => by omega) (decide_eq_true hx) (by simp)
    · rw [if_neg hx]; exact firstN_none (p := fun i => decide (x ≤ (mh [h] i).lst)) (fun j hj => by
        have : j = 0 := by simp at hj; omega
        subst this; exact decide_eq_false hx)
  rw [ha]
  by_cases hx : x ≤ h.lst
  · rw [if_pos hx]
    by_cases hb : h.base ≤ x
    · rw [if_pos ⟨by simp, hb⟩, if_pos ⟨hb, hx⟩]
    · rw [if_neg (fun k => hb k.2), if_neg (fun k => hb k.1)]
  · rw [if_neg hx, if_neg (fun k => by have := k.1; simp at this), if_neg (fun k => hx k.2)]
theorem lv_one {s : BS} {m : Nat} {h : MH} {a : Acs} (hm : m < 3) (e : (s.sp m).hs = [h]) (hs : a.space = m) (h1 : h.base ≤ a.addr) (h2 : a.addr + a.width - 1 ≤ h.lst) (h3 : 1 ≤ a.width) : lvM s a = s.en.getD h.own.toNat false ∧ fnd s a.space a.addr = some 0 ∧ fh s a = h ∧ fi s a = 0 := by
  have hf : fnd s a.space a.addr = some 0 := by rw [hs, fnd_one hm e, if_pos ⟨h1, by omega⟩]
  have hfi : fi s a = 0 := by rw [fi, hf]; rfl
  have e0 : mh (s.sp m).hs 0 = h := by rw [e]; rfl
  refine ⟨?_, hf, ?_, hfi⟩
  · rw [lvM, hf]
    simp only [hs, Int.toNat_natCast, e0]
    rw [decide_eq_true h2, Bool.and_true]
  · rw [fh, hfi, hs, Int.toNat_natCast, e0]
theorem acc_one {s : BS} {m : Nat} {h : MH} {a : Acs} (hk : s.ok) (hm : m < 3) (e : (s.sp m).hs = [h]) (hs : a.space = m) (hfh : fh s a = h) (hfi : fi s a = 0) (A : Option Addr) (c : Nat) (tA : Option Addr) (tc : Nat) :
    ((accS s a A c tA tc).sp m).hs = [if wrs s a then wrH h a A c else h] := by
  have hsp : ∀ k, (stF s a).sp k = s.sp k := fun k => by unfold BS.sp; rw [stF_sps]
  show ((stW s a A c).sp m).hs = _
  unfold stW
  split
  · rw [hs, hfi, hfh, Int.toNat_natCast, setM_sp (by rw [stF_sps, hk.wf.sp]; exact hm), if_pos rfl, hsp, e]; rfl
  · rw [hsp, e]
theorem acc_en (s : BS) (a : Acs) (A : Option Addr) (c : Nat) (tA : Option Addr) (tc : Nat) : (accS s a A c tA tc).en = s.en ∧ (accS s a A c tA tc).fl = (if lvM s a = true then useL s.fl a else s.fl) ∧ (accS s a A c tA tc).tr = s.tr ++ [rec s a] := by
  refine ⟨?_, ?_, rfl⟩
  · show (stW s a A c).en = _
    unfold stW
    split
    · exact stF_en s a
    · exact stF_en s a
  · show (stW s a A c).fl = _
    have hF : (stF s a).fl = (if lvM s a = true then useL s.fl a else s.fl) := by unfold stF; split <;> rfl
    unfold stW
    split
    · exact hF
    · exact hF
end Go.Ios
set_option linter.unusedSimpArgs false
set_option linter.unusedVariables false
namespace Go.Ios
open Go.Sv
theorem aft_at {hs : List MH} (h : okS hs) {x : Int} {i : Nat} (hi : i < hs.length) (h1 : (mh hs i).base ≤ x) (h2 : x ≤ (mh hs i).lst) : aftM hs x = i := by
  refine aft_of (by omega) (fun k hk h3 => ?_) (fun k hk hk2 => ?_)
  · have := h.sort k i hk hi
    omega
  · by_cases e : k = i
    · rw [e]; exact h2
    · have h3 := h.sort i k (by omega) hk2
      have h4 := (h.each k hk2).r
      have h5 : (mh hs k).lst = (mh hs k).base + ((mh hs k).len - 1) := rfl
      unfold okR at h4
      omega
/-- Mapping i of space m is taken out. -/
def unmG (s : BS) (m i : Nat) : BS := { s with sps := s.sps.set m ⟨(s.sp m).A, (s.sp m).c, delL (s.sp m).hs i⟩, total := s.total - 1 }
theorem delL_map {β γ : Type} (f : β → γ) (l : List β) (i : Nat) : (delL l i).map f = delL (l.map f) i := by
  simp [delL, List.map_take, List.map_drop]
theorem delClose {I0 : Ids} {w0 w : World} {s : BS} {m i : Nat} {A2 : Option Addr} {c2 : Nat} {B0 X1 X2 : Assn} (hw3 : s.sps.length = 3) (hm : m < 3) (hi : i < (s.sp m).hs.length)
    (h : Hp I0 w0 [B0, OS 78 ptrK A2 c2 (delL ((s.sp m).hs.map fun h => some h.p) i), Big mhA (s.sp m).hs, Big spA (s.sps.eraseIdx m), X1, X2] w) :
    Hp I0 w0 [B0, Big spA (s.sps.set m ⟨A2, c2, delL (s.sp m).hs i⟩), X1, X2] w := by
  have h1 := h.focus mhD (k := 2) rfl hi
  have h2 := h1.sel [0, 0, 4, 1, 1, 1] rfl
  refine closeSp (q := ⟨A2, c2, delL (s.sp m).hs i⟩) ?_ (by omega)
  have e1 : delL ((s.sp m).hs.map fun h => some h.p) i = (delL (s.sp m).hs i).map fun h => some h.p := (delL_map _ _ _).symm
  have e2 : (s.sp m).hs.eraseIdx i = delL (s.sp m).hs i := List.eraseIdx_eq_take_drop_succ ..
  rw [e1, e2] at h2
  exact h2
def unmA (s : BS) (z p0 q0 : Int) (m i : Nat) : Prop := z = (m : Int) ∧ m < 3 ∧ i < (s.sp m).hs.length ∧ (mh (s.sp m).hs i).base = p0 ∧ (mh (s.sp m).hs i).len = q0
theorem unmA_fnd {s : BS} {z p0 q0 : Int} {m i : Nat} (hk : s.ok) (h : unmA s z p0 q0 m i) : fnd s z p0 = some i := by
  obtain ⟨rfl, hm, hi, rfl, rfl⟩ := h
  rw [fnd_ok hm]
  have hr := ((hk.sp m hm).each i hi).r
  unfold okR at hr
  exact findM_at (hk.sp m hm) hi (Int.le_refl _) (by show _ ≤ _ + (_ - 1); omega)
theorem unm_none {s : BS} {z p0 q0 : Int} (hk : s.ok) (h : fptr s z p0 = none) : ¬ ∃ m i : Nat, unmA s z p0 q0 m i := by
  rintro ⟨m, i, k⟩
  have := unmA_fnd hk k
  rw [fptr_no h] at this
  cases this
theorem unm_ne {s : BS} {p0 q0 : Int} {m i : Nat} (hk : s.ok) (he : fnd s m p0 = some i) (hne : ¬ ((mh (s.sp m).hs i).base = p0 ∧ (mh (s.sp m).hs i).len = q0)) : ¬ ∃ m2 i2 : Nat, unmA s m p0 q0 m2 i2 := by
  rintro ⟨m2, i2, k⟩
  have h1 := unmA_fnd hk k
  rw [he] at h1
  cases h1
  obtain ⟨e, _, _, h4, h5⟩ := k
  obtain rfl : m = m2 := by omega
  exact hne ⟨h4, h5⟩
end Go.Ios
