/-
  Texts joined: Rm1, Rm2, Rm3.
-/
import Derived.Test.YthdpojggdodpfaaMdA
set_option linter.unusedSimpArgs false
set_option linter.unusedVariables false
set_option linter.unusedSectionVars false
namespace Go.Ios
open Go.Sv
structure RH where
  sp : Int
  base : Int
  len : Int
  own : Int
  A : Option Addr
  c : Nat
  bs : List Int
def rhK : Enc RH where
  f r := [.int .i64 r.sp, .int .u64 r.base, .int .u64 r.len, .int .i64 r.own, .slice r.A r.bs.length r.c]
  sz := 5
  d := ⟨0, 0, 0, 0, none, 0, []⟩
  len _ := rfl
  pos := by decide
  one r v hv := by simp at hv; rcases hv with rfl | rfl | rfl | rfl | rfl <;> rfl
def rhA (r : RH) : Assn := OS 5 (intK .u8) r.A r.c r.bs
structure RB where
  mA : Option Addr
  mc : Nat
  ms : List RH
  en : List Bool
  fA : Option Addr
  fc : Nat
  fl : List Flt
  tA : Option Addr
  tc : Nat
  tr : List Trc
def rbC (s : RB) : List Value := Value.slice s.mA s.ms.length s.mc :: (s.en.map Value.bool ++ [Value.slice s.fA s.fl.length s.fc, Value.slice s.tA s.tr.length s.tc])
def rbL (b : Nat) (s : RB) : List Assn := [Blk b (.cells (rbC s).toArray 56 (0, 0)), OS 94 rhK s.mA s.mc s.ms, Big rhA s.ms, OS 97 fltK s.fA s.fc s.fl, OS 63 trcK s.tA s.tc s.tr]
abbrev rh (ms : List RH) (i : Nat) : RH := ms.getD i rhK.d
structure RH.ok (q : RH) : Prop where
  s1 : 0 ≤ q.sp
  s2 : q.sp < 3
  b : isU q.base
  r : okR q.base q.len
  o1 : 0 ≤ q.own
  o2 : q.own < 256
  l : q.bs.length = q.len.toNat
  y : ∀ i, 0 ≤ q.bs.getD i 0 ∧ q.bs.getD i 0 ≤ 255
structure RB.ok (s : RB) : Prop where
  en : s.en.length = 256
  each : ∀ i, i < s.ms.length → (rh s.ms i).ok
  max : s.ms.length ≤ 256
  fl : s.fl.length ≤ 1000
  fr : ∀ i, i < s.fl.length → isU (s.fl.getD i fltK.d).base ∧ okR (s.fl.getD i fltK.d).base (s.fl.getD i fltK.d).len ∧ 0 ≤ (s.fl.getD i fltK.d).cnt ∧ (s.fl.getD i fltK.d).cnt ≤ 64
  tr : s.tr.length ≤ 65536
section
variable {s : RB} (h : s.en.length = 256)
include h
theorem rbC_len : (rbC s).length = 259 := by simp [rbC, h]
theorem rbC_m : (rbC s)[0]? = some (.slice s.mA s.ms.length s.mc) := rfl
theorem rbC_en {m : Nat} (hm : m < 256) : (rbC s)[0 + 1 + m * 1]? = some (.bool (s.en.getD m false)) := by
  have h1 : m < s.en.length := by rw [h]; exact hm
  have e2 : 0 + 1 + m * 1 = m + 1 := by omega
  rw [rbC, e2, List.getElem?_cons_succ, List.getElem?_append, List.length_map, if_pos h1]
  simp [List.getD, h1]
theorem rbC_f : (rbC s)[0 + 257]? = some (.slice s.fA s.fl.length s.fc) := by
  rw [rbC]
  show (Value.slice s.mA s.ms.length s.mc :: (s.en.map Value.bool ++ _))[257]? = _
  rw [List.getElem?_cons_succ, List.getElem?_append, List.length_map, h, if_neg (by decide)]; rfl
theorem rbC_t : (rbC s)[0 + 258]? = some (.slice s.tA s.tr.length s.tc) := by
  rw [rbC]
  show (Value.slice s.mA s.ms.length s.mc :: (s.en.map Value.bool ++ _))[258]? = _
  rw [List.getElem?_cons_succ, List.getElem?_append, List.length_map, h, if_neg (by decide)]; rfl
theorem rset_of {o : Nat} {v : Value} {s' : RB} (ho : o < 259) (e : (rbC s).set o v = rbC s') : ((rbC s).toArray.toList.take o ++ [v] ++ (rbC s).toArray.toList.drop (o + [v].length)).toArray = (rbC s').toArray := by
  show ((rbC s).take o ++ [v] ++ (rbC s).drop (o + [v].length)).toArray = _
  rw [take_set _ _ _ (by rw [rbC_len h]; exact ho), e]
theorem rset_m (A : Option Addr) (c : Nat) (l : List RH) : (rbC s).set 0 (.slice A l.length c) = rbC { s with mA := A, mc := c, ms := l } := rfl
theorem rset_en {m : Nat} (hm : m < 256) (v : Bool) : (rbC s).set (0 + 1 + m * 1) (.bool v) = rbC { s with en := s.en.set m v } := by
  have h1 : m < s.en.length := by rw [h]; exact hm
  have e2 : 0 + 1 + m * 1 = m + 1 := by omega
  rw [rbC, e2, List.set_cons_succ, List.set_append, List.length_map, if_pos h1]
  simp [rbC, List.map_set]
theorem rset_f (A : Option Addr) (c : Nat) (l : List Flt) : (rbC s).set (0 + 257) (.slice A l.length c) = rbC { s with fA := A, fc := c, fl := l } := by
  rw [rbC]
  show (Value.slice s.mA s.ms.length s.mc :: (s.en.map Value.bool ++ _)).set 257 _ = _
  rw [List.set_cons_succ, List.set_append, List.length_map, h, if_neg (by decide)]; rfl
theorem rset_t (A : Option Addr) (c : Nat) (l : List Trc) : (rbC s).set (0 + 258) (.slice A l.length c) = rbC { s with tA := A, tc := c, tr := l } := by
  rw [rbC]
  show (Value.slice s.mA s.ms.length s.mc :: (s.en.map Value.bool ++ _)).set 258 _ = _
  rw [List.set_cons_succ, List.set_append, List.length_map, h, if_neg (by decide)]; rfl
end
/-- A range has an address. -/
def hasR (b l x : Int) : Prop := b ≤ x ∧ x - b < l
instance (b l x : Int) : Decidable (hasR b l x) := inferInstanceAs (Decidable (_ ∧ _))
def ovR (b l b2 l2 : Int) : Prop := hasR b l b2 ∨ hasR b2 l2 b
instance (b l b2 l2 : Int) : Decidable (ovR b l b2 l2) := inferInstanceAs (Decidable (_ ∨ _))
def hitR (ms : List RH) (z x : Int) (i : Nat) : Prop := (rh ms i).sp = z ∧ hasR (rh ms i).base (rh ms i).len x
instance (ms : List RH) (z x : Int) (i : Nat) : Decidable (hitR ms z x i) := inferInstanceAs (Decidable (_ ∧ _))
/-- The index that the reference finds, or -1. -/
def fR (ms : List RH) (z x : Int) : Int := match (List.range ms.length).find? (fun i => decide (hitR ms z x i)) with
  | some i => i
  | none => -1
theorem fR_yes {ms : List RH} {z x : Int} {j : Nat} (hj : j < ms.length) (h : hitR ms z x j) (h2 : ∀ k, k < j → ¬ hitR ms z x k) : fR ms z x = j := by
  have : (List.range ms.length).find? (fun i => decide (hitR ms z x i)) = some j := by
    rw [List.find?_range_eq_some]
    exact ⟨decide_eq_true h, by simpa using hj, fun k hk => by simpa using h2 k hk⟩
  rw [fR, this]
theorem fR_no {ms : List RH} {z x : Int} (h2 : ∀ k, k < ms.length → ¬ hitR ms z x k) : fR ms z x = -1 := by
  have : (List.range ms.length).find? (fun i => decide (hitR ms z x i)) = none := by
    rw [List.find?_eq_none]
    intro k hk
    simpa using h2 k (by simpa using hk)
  rw [fR, this]
theorem fR_cases (ms : List RH) (z x : Int) : (fR ms z x = -1 ∧ ∀ k, k < ms.length → ¬ hitR ms z x k) ∨ ∃ j : Nat, fR ms z x = j ∧ j < ms.length ∧ hitR ms z x j ∧ ∀ k, k < j → ¬ hitR ms z x k := by
  by_cases h : ∃ j, j < ms.length ∧ hitR ms z x j
  · have key : ∀ n, (∃ j, j < n ∧ j < ms.length ∧ hitR ms z x j) → ∃ j, j < ms.length ∧ hitR ms z x j ∧ ∀ k, k < j → ¬ hitR ms z x k := by
      intro n
      induction n with
      | zero => rintro ⟨j, h1, _⟩; omega
      | succ n ih =>
        rintro ⟨j, h1, h2, h3⟩
        by_cases hk : ∃ k, k < j ∧ hitR ms z x k
        · obtain ⟨k, hk1, hk2⟩ := hk
          exact ih ⟨k, by omega, by omega, hk2⟩
        · exact ⟨j, h2, h3, fun k hk1 hk2 => hk ⟨k, hk1, hk2⟩⟩
    obtain ⟨j, h1, h2⟩ := h
    obtain ⟨j, h3, h4, h5⟩ := key ms.length ⟨j, h1, h1, h2⟩
    exact .inr ⟨j, fR_yes h3 h4 h5, h3, h4, h5⟩
  · have h2 : ∀ k, k < ms.length → ¬ hitR ms z x k := fun k hk hk2 => h ⟨k, hk, hk2⟩
    exact .inl ⟨fR_no h2, h2⟩
theorem rngR {w : World} {A : Option Addr} {ms : List RH} (h : RS w rhK A ms) {i : Nat} (hi : i < ms.length) : ∀ j v, [Value.int .u64 (rh ms i).base, Value.int .u64 (rh ms i).len][j]? = some v → w.cell? ⟨bk A, of A + i * 5 + 1 + j, none⟩ = some v
  | 0, v, hv => h.cell (j := 1) hi hv
  | 1, v, hv => h.cell (j := 2) hi hv
  | j + 2, v, hv => by simp at hv
theorem rngF {w : World} {A : Option Addr} {ms : List Flt} (h : RS w fltK A ms) {i : Nat} (hi : i < ms.length) : ∀ j v, [Value.int .u64 (ms.getD i fltK.d).base, Value.int .u64 (ms.getD i fltK.d).len][j]? = some v → w.cell? ⟨bk A, of A + i * 4 + 1 + j, none⟩ = some v
  | 0, v, hv => h.cell (j := 1) hi hv
  | 1, v, hv => h.cell (j := 2) hi hv
  | j + 2, v, hv => by simp at hv
theorem fR_pos {ms : List RH} {z x : Int} (h : 0 ≤ fR ms z x) : ∃ i : Nat, fR ms z x = i ∧ i < ms.length ∧ hitR ms z x i ∧ ∀ k, k < i → ¬ hitR ms z x k := by
  rcases fR_cases ms z x with ⟨e, _⟩ | h1
  · omega
  · exact h1
theorem fR_neg {ms : List RH} {z x : Int} (h : ¬ 0 ≤ fR ms z x) : fR ms z x = -1 ∧ ∀ k, k < ms.length → ¬ hitR ms z x k := by
  rcases fR_cases ms z x with h1 | ⟨j, e, _⟩
  · exact h1
  · omega
def ownR (ms : List RH) (z x : Int) : Int := if 0 ≤ fR ms z x then (rh ms (fR ms z x).toNat).own else -1
def pkR (ms : List RH) (z x : Int) : Int := if 0 ≤ fR ms z x then (rh ms (fR ms z x).toNat).bs.getD (x - (rh ms (fR ms z x).toNat).base).toNat 0 else 0
theorem ownR_at {ms : List RH} {z x : Int} {i : Nat} (h : fR ms z x = i) : ownR ms z x = (rh ms i).own := by rw [ownR, if_pos (by omega), h, Int.toNat_natCast]
theorem pkR_at {ms : List RH} {z x : Int} {i : Nat} (h : fR ms z x = i) : pkR ms z x = (rh ms i).bs.getD (x - (rh ms i).base).toNat 0 := by rw [pkR, if_pos (by omega), h, Int.toNat_natCast]
theorem byR {I0 : Ids} {w0 w : World} {L : List Assn} (h : Hp I0 w0 L w) (k : Nat) {ms : List RH} (hk : L[k]? = some (Big rhA ms)) {i : Nat} (hi : i < ms.length) : RS w (intK .u8) (ms.getD i rhK.d).A (ms.getD i rhK.d).bs :=
  h.bigOS (G := fun r w => RS w (intK .u8) r.A r.bs) rhK.d hk hi fun _ r hb => OS.rs (show (OS 5 (intK .u8) r.A r.c r.bs).sat w _ from hb)
end Go.Ios
set_option linter.unusedSimpArgs false
set_option linter.unusedVariables false
namespace Go.Ios
open Go.Sv
theorem OS.same {α : Type} {e : TypeId} {K : Enc α} {A : Option Addr} {c : Nat} {ys zs : List α} {w : World} {i : Ids} (hl : zs.length = ys.length) (hf : flat K zs = flat K ys) (h : (OS e K A c ys).sat w i) : (OS e K A c zs).sat w i := by
  rcases h with ⟨h1, h2, h3⟩ | ⟨g, cur, h1, h2, h3, h4, h5, h6, h7⟩
  · refine .inl ⟨h1, ?_, h3⟩
    subst h2
    exact List.length_eq_zero_iff.1 hl
  · exact .inr ⟨g, cur, h1, h2, h3, by omega, h5, h6, by rw [hl, hf]; exact h7⟩
theorem flat_same {α : Type} {K : Enc α} {ys : List α} {i : Nat} {d y : α} (hi : i < ys.length) (h : K.f y = K.f (ys.getD i d)) : flat K (ys.set i y) = flat K ys := by
  unfold flat
  rw [List.flatMap_def, List.flatMap_def, List.map_set, h]
  congr 1
  refine set_self ?_
  simp [List.getD, hi]
def setB (s : RB) (i : Nat) (l : List Int) : RB := { s with ms := s.ms.set i { s.ms.getD i rhK.d with bs := l } }
section
variable {I0 : Ids} {w0 w : World} {b : Nat} {s : RB} {i : Nat}
theorem openR (h : Hp I0 w0 (rbL b s) w) (hi : i < s.ms.length) :
    Hp I0 w0 [Blk b (.cells (rbC s).toArray 56 (0, 0)), OS 94 rhK s.mA s.mc s.ms, OS 5 (intK .u8) (s.ms.getD i rhK.d).A (s.ms.getD i rhK.d).c (s.ms.getD i rhK.d).bs, OS 97 fltK s.fA s.fc s.fl, OS 63 trcK s.tA s.tc s.tr, Big rhA (s.ms.eraseIdx i)] w :=
  Hp.focus h rhK.d (k := 2) rfl hi
theorem closeR {l : List Int} (h : Hp I0 w0 [Blk b (.cells (rbC s).toArray 56 (0, 0)), OS 94 rhK s.mA s.mc s.ms, OS 5 (intK .u8) (s.ms.getD i rhK.d).A (s.ms.getD i rhK.d).c l, OS 97 fltK s.fA s.fc s.fl, OS 63 trcK s.tA s.tc s.tr, Big rhA (s.ms.eraseIdx i)] w) (hi : i < s.ms.length) (hl : l.length = (s.ms.getD i rhK.d).bs.length) :
    Hp I0 w0 (rbL b (setB s i l)) w := by
  have h1 : Hp I0 w0 ([Blk b (.cells (rbC s).toArray 56 (0, 0)), OS 94 rhK s.mA s.mc s.ms, rhA { s.ms.getD i rhK.d with bs := l }, OS 97 fltK s.fA s.fc s.fl, OS 63 trcK s.tA s.tc s.tr] ++ [Big rhA (s.ms.eraseIdx i)]) w := h
  have h2 := h1.unfocus (k := 2) rfl hi
  have h3 : Hp I0 w0 (([Blk b (.cells (rbC s).toArray 56 (0, 0)), Big rhA (s.ms.set i { s.ms.getD i rhK.d with bs := l }), OS 97 fltK s.fA s.fc s.fl, OS 63 trcK s.tA s.tc s.tr]) ++ [OS 94 rhK s.mA s.mc s.ms]) w := h2.sel [0, 1, 1, 1, 0] rfl
  have h4 := h3.last (B := OS 94 rhK s.mA s.mc (s.ms.set i { s.ms.getD i rhK.d with bs := l })) fun J hJ => OS.same (List.length_set ..) (flat_same (d := rhK.d) hi (by show [_, _, _, _, Value.slice _ l.length _] = [_, _, _, _, Value.slice _ _ _]; rw [hl])) hJ
  have h5 := h4.sel [0, 3, 0, 0, 0] rfl
  have e : rbC (setB s i l) = rbC s := by
    rw [rbC, rbC, setB]
    show Value.slice s.mA (s.ms.set i _).length s.mc :: _ = _
    rw [List.length_set]
  rw [rbL, e]
  exact h5
end
def lvC (l : List Flt) : Nat → Nat
  | 0 => 0
  | j + 1 => lvC l j + if 0 < (l.getD j fltK.d).cnt then 1 else 0
theorem lvC_t {l : List Flt} {j : Nat} (h : 0 < (l.getD j fltK.d).cnt) : (lvC l j : Int) + 1 = (lvC l (j + 1) : Nat) := by rw [lvC, if_pos h]; omega
theorem lvC_f {l : List Flt} {j : Nat} (h : ¬ 0 < (l.getD j fltK.d).cnt) : (lvC l j : Int) = (lvC l (j + 1) : Nat) := by rw [lvC, if_neg h]; omega
theorem lvC_le (l : List Flt) : ∀ j, lvC l j ≤ j
  | 0 => Nat.le_refl _
  | j + 1 => by rw [lvC]; have := lvC_le l j; split <;> omega
def rflt (s : RB) (f : Flt) (A : Option Addr) (c : Nat) : RB := { s with fA := A, fc := c, fl := s.fl ++ [f] }
def hitG (f : Flt) (a : Acs) : Prop := 0 < f.cnt ∧ f.space = a.space ∧ ovR f.base f.len a.addr a.width
def decF (s : RB) (j : Nat) : RB := { s with fl := s.fl.set j { s.fl.getD j fltK.d with cnt := (s.fl.getD j fltK.d).cnt - 1 } }
theorem rbL_decF (b : Nat) (s : RB) (j : Nat) : rbL b (decF s j) = [Blk b (.cells (rbC s).toArray 56 (0, 0)), OS 94 rhK s.mA s.mc s.ms, Big rhA s.ms, OS 97 fltK s.fA s.fc (s.fl.set j { s.fl.getD j fltK.d with cnt := (s.fl.getD j fltK.d).cnt - 1 }), OS 63 trcK s.tA s.tc s.tr] := by
  have e : rbC (decF s j) = rbC s := by
    rw [rbC, rbC, decF]
    show _ :: (_ ++ [Value.slice s.fA (s.fl.set j _).length s.fc, _]) = _
    rw [List.length_set]
  rw [rbL, e]; rfl
def rnew (z p0 q0 o : Int) (A : Option Addr) : RH := ⟨z, p0, q0, o, A, q0.toNat, List.replicate q0.toNat 0⟩
def radd (s : RB) (r : RH) (A : Option Addr) (c : Nat) : RB := { s with mA := A, mc := c, ms := s.ms ++ [r] }
def busyR (ms : List RH) (z p0 q0 : Int) (i : Nat) : Prop := (rh ms i).sp = z ∧ ovR (rh ms i).base (rh ms i).len p0 q0
theorem addR {I0 : Ids} {w0 w : World} {B0 B1 X1 X2 : Assn} {ms : List RH} {r : RH} (h : Hp I0 w0 [B0, B1, Big rhA ms, X1, X2, OS 5 (intK .u8) r.A r.c r.bs] w) : Hp I0 w0 [B0, B1, Big rhA (ms ++ [r]), X1, X2] w := by
  have h1 : Hp I0 w0 ([rhA r, Big rhA ms] ++ [B0, B1, X1, X2]) w := h.sel [5, 2, 0, 0, 0, 0] rfl
  have h2 := h1.bundle (A := Big rhA (ms ++ [r])) fun i hi => by
    obtain ⟨i1, j1, hI, hd, k1, i2, j2, hJ, hd2, k2, k3⟩ := hi
    have hs2 : Sep (rhA r :: ms.map rhA) i w := ⟨i1, j1, hI, hd, k1, k2.ext fun x => by rw [hJ x]; exact ⟨.inl, fun e => e.elim id fun e2 => absurd e2 (k3 x)⟩⟩
    have hp : (r :: ms).Perm (ms ++ [r]) := (List.perm_append_singleton r ms).symm
    exact Sep.perm (hp.map rhA) hs2
  exact h2.sel [1, 1, 0, 0, 0] rfl
def rdel (s : RB) (j : Nat) (A : Option Addr) (c : Nat) : RB := { s with mA := A, mc := c, ms := delL s.ms j }
theorem delR {I0 : Ids} {w0 w : World} {B0 B1 X1 X2 : Assn} {ms : List RH} {j : Nat} (h : Hp I0 w0 [B0, B1, Big rhA ms, X1, X2] w) (hj : j < ms.length) : Hp I0 w0 [B0, B1, Big rhA (delL ms j), X1, X2] w := by
  have h1 := h.focus rhK.d (k := 2) rfl hj
  have h2 := h1.sel [0, 0, 3, 1, 1] rfl
  have e : ms.eraseIdx j = delL ms j := List.eraseIdx_eq_take_drop_succ ..
  rw [e] at h2
  exact h2
end Go.Ios
set_option linter.unusedSimpArgs false
set_option linter.unusedVariables false
namespace Go.Ios
open Go.Sv
theorem rdL_front (l : List Int) (k : Nat) : ∀ n, rdL l k (n + 1) = byt l k + 256 * rdL l (k + 1) n
  | 0 => by simp [rdL, pw]
  | n + 1 => by
    rw [rdL, rdL_front l k n, rdL, pw_succ, show k + 1 + n = k + (n + 1) by omega, Int.mul_add]
    have : byt l (k + (n + 1)) * (256 * pw n) = 256 * (byt l (k + (n + 1)) * pw n) := by rw [Int.mul_left_comm]
    omega
/-- Writing from the top byte down. -/
def wrD (l : List Int) (o : Nat) (v : Int) (n : Nat) : Nat → List Int
  | 0 => l
  | j + 1 => (wrD l o v n j).set (o + (n - (j + 1))) (byo v (n - (j + 1)))
theorem wrD_length (l : List Int) (o : Nat) (v : Int) (n : Nat) : ∀ j, (wrD l o v n j).length = l.length
  | 0 => rfl
  | j + 1 => by rw [wrD, List.length_set, wrD_length l o v n j]
def mskV (a : Acs) : Int := ((a.val.toNat &&& (onesM a.width).toNat : Nat) : Int)
def rlv (s : RB) (a : Acs) : Prop := 0 ≤ fR s.ms a.space a.addr ∧ fR s.ms a.space a.addr = fR s.ms a.space (a.addr + (a.width - 1)) ∧ s.en.getD (rh s.ms (fR s.ms a.space a.addr).toNat).own.toNat false = true
instance (s : RB) (a : Acs) : Decidable (rlv s a) := inferInstanceAs (Decidable (_ ∧ _ ∧ _))
def rtr (s : RB) (t : Trc) (A : Option Addr) (c : Nat) : RB := { s with tA := A, tc := c, tr := s.tr ++ [t] }
/-- What an access does to the mappings and faults, the value it records, and whether it failed. -/
structure RAx (s : RB) (a : Acs) (s2 : RB) (v : Int) (lv fl : Bool) : Prop where
  live : lv = decide (rlv s a)
  dead : lv = false → s2 = s ∧ fl = false ∧ v = if a.wr = true then mskV a else onesM a.width
  fail : lv = true → fl = true → (∃ j : Nat, j < s.fl.length ∧ hitG (s.fl.getD j fltK.d) a ∧ (∀ k, k < j → ¬ hitG (s.fl.getD k fltK.d) a) ∧ s2 = decF s j) ∧ v = if a.wr = true then mskV a else 0
  good : lv = true → fl = false → (∀ k, k < s.fl.length → ¬ hitG (s.fl.getD k fltK.d) a) ∧ ∃ i : Nat, fR s.ms a.space a.addr = i ∧ i < s.ms.length ∧ (if a.wr = true then v = mskV a ∧ s2 = setB s i (wrD (s.ms.getD i rhK.d).bs (a.addr - (s.ms.getD i rhK.d).base).toNat (mskV a) a.width.toNat a.width.toNat) else v = rdL (s.ms.getD i rhK.d).bs (a.addr - (s.ms.getD i rhK.d).base).toNat a.width.toNat ∧ s2 = s)
  tr : s2.tr = s.tr ∧ s2.tA = s.tA ∧ s2.tc = s.tc ∧ s2.en = s.en
structure RFx (s : RB) (a : Acs) (f : Bool) (s2 : RB) : Prop where
  yes : f = true → ∃ j : Nat, j < s.fl.length ∧ hitG (s.fl.getD j fltK.d) a ∧ (∀ k, k < j → ¬ hitG (s.fl.getD k fltK.d) a) ∧ s2 = decF s j
  no : f = false → (∀ k, k < s.fl.length → ¬ hitG (s.fl.getD k fltK.d) a) ∧ s2 = s
theorem RFx.at {s s2 : RB} {a : Acs} {f : Bool} {v : Int} (h : RFx s { a with val := v } f s2) : RFx s a f s2 := ⟨h.yes, h.no⟩
/-- The bytes and the value after j steps. -/
def LB (s : RB) (a : Acs) (i j : Nat) : List Int := if a.wr = true then wrD (s.ms.getD i rhK.d).bs (a.addr - (s.ms.getD i rhK.d).base).toNat (mskV a) a.width.toNat j else (s.ms.getD i rhK.d).bs
def VB (s : RB) (a : Acs) (i j : Nat) : Int := if a.wr = true then mskV a else rdL (s.ms.getD i rhK.d).bs ((a.addr - (s.ms.getD i rhK.d).base).toNat + (a.width.toNat - j)) j
theorem LB_len (s : RB) (a : Acs) (i j : Nat) : (LB s a i j).length = (s.ms.getD i rhK.d).bs.length := by
  unfold LB
  split
  · exact wrD_length ..
  · rfl
theorem setB_self {s : RB} {i : Nat} (hi : i < s.ms.length) : setB s i (s.ms.getD i rhK.d).bs = s := by
  have e : s.ms.set i { s.ms.getD i rhK.d with bs := (s.ms.getD i rhK.d).bs } = s.ms := set_self (by simp [List.getD, hi])
  rw [setB, e]
theorem mskU {a : Acs} (h : isU a.val) : isU (mskV a) := by
  unfold mskV isU
  unfold isU at h
  have : a.val.toNat &&& (onesM a.width).toNat ≤ a.val.toNat := Nat.and_le_left
  omega
section
variable {s : RB} {a : Acs} {i j : Nat}
theorem LB_wr (h : a.wr = true) : LB s a i (j + 1) = (LB s a i j).set ((a.addr - (s.ms.getD i rhK.d).base).toNat + (a.width.toNat - (j + 1))) (byo (mskV a) (a.width.toNat - (j + 1))) := by
  unfold LB; rw [if_pos h, if_pos h, wrD]
theorem LB_rd (h : a.wr = false) (j : Nat) : LB s a i j = (s.ms.getD i rhK.d).bs := by
  unfold LB; rw [if_neg (by rw [h]; decide)]
theorem LB_0 : LB s a i 0 = (s.ms.getD i rhK.d).bs := by unfold LB; split <;> rfl
theorem VB_wr (h : a.wr = true) (j : Nat) : VB s a i j = mskV a := by unfold VB; rw [if_pos h]
theorem VB_0 : VB s a i 0 = if a.wr = true then mskV a else 0 := by
  unfold VB; split
  · rfl
  · rfl
theorem VB_rd (h : a.wr = false) (hj : j < a.width.toNat) : VB s a i (j + 1) = 256 * VB s a i j + byt (s.ms.getD i rhK.d).bs ((a.addr - (s.ms.getD i rhK.d).base).toNat + (a.width.toNat - (j + 1))) := by
  unfold VB
  rw [if_neg (by rw [h]; decide), if_neg (by rw [h]; decide), rdL_front, show (a.addr - (s.ms.getD i rhK.d).base).toNat + (a.width.toNat - (j + 1)) + 1 = (a.addr - (s.ms.getD i rhK.d).base).toNat + (a.width.toNat - j) by omega]
  omega
theorem VB_bd (h : a.wr = false) (hy : okB (s.ms.getD i rhK.d).bs) : 0 ≤ VB s a i j ∧ VB s a i j < pw j := by
  unfold VB; rw [if_neg (by rw [h]; decide)]
  exact rdL_bd hy _ _
theorem shl8 {v : Int} {j : Nat} (h0 : 0 ≤ v) (h1 : v < pw j) (hj : j < 8) : IntKind.u64.wrap (v * 2 ^ min (8 : Int).toNat IntKind.u64.bits) = 256 * v := by
  have e : (2 : Int) ^ min (8 : Int).toNat IntKind.u64.bits = 256 := by decide
  have h2 := pw_le (j := j + 1) (by omega)
  rw [pw_succ] at h2
  rw [e, Int.mul_comm]
  exact wU64 (by omega) (by omega)
theorem or8 {v y : Int} {j : Nat} (h0 : 0 ≤ v) (h1 : v < pw j) (hj : j < 8) (g0 : 0 ≤ y) (g1 : y ≤ 255) : IntKind.u64.wrap ((BitVec.ofInt IntKind.u64.bits (256 * v) ||| BitVec.ofInt IntKind.u64.bits y).toNat) = 256 * v + y := by
  have h2 := pw_le (j := j + 1) (by omega)
  rw [pw_succ] at h2
  show IntKind.u64.wrap ((BitVec.ofInt 64 (256 * v) ||| BitVec.ofInt 64 y).toNat) = 256 * v + y
  rw [or_u64 (by omega) (by omega) g0 (by omega)]
  obtain ⟨x, rfl⟩ := Int.eq_ofNat_of_zero_le h0
  obtain ⟨b, rfl⟩ := Int.eq_ofNat_of_zero_le g0
  have e : (256 * (x : Int)).toNat = 2 ^ 8 * x := by omega
  rw [e, Int.toNat_natCast, ← Nat.two_pow_add_eq_or_of_lt (show b < 2 ^ 8 by omega)]
  omega
theorem rlv_t {m : Nat} (e1 : 0 ≤ fR s.ms a.space a.addr) (e2 : fR s.ms a.space a.addr = fR s.ms a.space (a.addr + (a.width - 1))) (hfi : fR s.ms a.space a.addr = (m : Int)) : decide (rlv s a) = s.en.getD (s.ms.getD m rhK.d).own.toNat false := by
  have e : (fR s.ms a.space a.addr).toNat = m := by omega
  cases hb : s.en.getD (s.ms.getD m rhK.d).own.toNat false with
  | true => exact decide_eq_true ⟨e1, e2, by rw [e]; exact hb⟩
  | false => exact decide_eq_false fun k => by have := k.2.2; rw [e, hb] at this; cases this
theorem rax_dead {v : Int} (h : decide (rlv s a) = false) (hv : v = if a.wr = true then mskV a else onesM a.width) : RAx s a s v (decide (rlv s a)) false :=
  ⟨rfl, fun _ => ⟨rfl, rfl, hv⟩, fun k => (by rw [h] at k; cases k), fun k => (by rw [h] at k; cases k), rfl, rfl, rfl, rfl⟩
theorem rax_fail {v : Int} {s2 : RB} (h : decide (rlv s a) = true) (hF : RFx s a true s2) (hv : v = if a.wr = true then mskV a else 0) : RAx s a s2 v (decide (rlv s a)) true := by
  obtain ⟨j, h1, h2, h3, h4⟩ := hF.yes rfl
  refine ⟨rfl, fun k => (by rw [h] at k; cases k), fun _ _ => ⟨⟨j, h1, h2, h3, h4⟩, hv⟩, fun _ k => (by cases k), ?_⟩
  rw [h4]; exact ⟨rfl, rfl, rfl, rfl⟩
theorem rax_good {s2 : RB} (h : decide (rlv s a) = true) (hF : RFx s a false s2) (hfi : fR s.ms a.space a.addr = (i : Int)) (hi : i < s.ms.length) : RAx s a (setB s i (LB s a i a.width.toNat)) (VB s a i a.width.toNat) (decide (rlv s a)) false := by
  refine ⟨rfl, fun k => (by rw [h] at k; cases k), fun _ k => (by cases k), fun _ _ => ⟨(hF.no rfl).1, i, hfi, hi, ?_⟩, rfl, rfl, rfl, rfl⟩
  by_cases hw : a.wr = true
  · rw [if_pos hw, VB_wr hw]
    refine ⟨rfl, ?_⟩
    unfold LB; rw [if_pos hw]
  · have hf : a.wr = false := by simpa using hw
    rw [if_neg hw, LB_rd hf, setB_self hi]
    refine ⟨?_, rfl⟩
    unfold VB
    rw [if_neg hw, Nat.sub_self, Nat.add_zero]
variable {I0 : Ids} {w0 w : World} {b : Nat} {X Y : Assn}
theorem openR2 (h : Hp I0 w0 (rbL b s ++ [X, Y]) w) (hi : i < s.ms.length) :
    Hp I0 w0 [Blk b (.cells (rbC s).toArray 56 (0, 0)), OS 94 rhK s.mA s.mc s.ms, OS 5 (intK .u8) (s.ms.getD i rhK.d).A (s.ms.getD i rhK.d).c (s.ms.getD i rhK.d).bs, OS 97 fltK s.fA s.fc s.fl, OS 63 trcK s.tA s.tc s.tr, X, Y, Big rhA (s.ms.eraseIdx i)] w :=
  Hp.focus h rhK.d (k := 2) rfl hi
theorem closeR2 {l : List Int} (h : Hp I0 w0 [Blk b (.cells (rbC s).toArray 56 (0, 0)), OS 94 rhK s.mA s.mc s.ms, OS 5 (intK .u8) (s.ms.getD i rhK.d).A (s.ms.getD i rhK.d).c l, OS 97 fltK s.fA s.fc s.fl, OS 63 trcK s.tA s.tc s.tr, X, Y, Big rhA (s.ms.eraseIdx i)] w) (hi : i < s.ms.length) (hl : l.length = (s.ms.getD i rhK.d).bs.length) :
    Hp I0 w0 (rbL b (setB s i l) ++ [X, Y]) w := by
  have h1 : Hp I0 w0 ([Blk b (.cells (rbC s).toArray 56 (0, 0)), OS 94 rhK s.mA s.mc s.ms, rhA { s.ms.getD i rhK.d with bs := l }, OS 97 fltK s.fA s.fc s.fl, OS 63 trcK s.tA s.tc s.tr, X, Y] ++ [Big rhA (s.ms.eraseIdx i)]) w := h
  have h2 := h1.unfocus (k := 2) rfl hi
  have h3 : Hp I0 w0 (([Blk b (.cells (rbC s).toArray 56 (0, 0)), Big rhA (s.ms.set i { s.ms.getD i rhK.d with bs := l }), OS 97 fltK s.fA s.fc s.fl, OS 63 trcK s.tA s.tc s.tr, X, Y]) ++ [OS 94 rhK s.mA s.mc s.ms]) w := h2.sel [0, 1, 1, 1, 1, 1, 0] rfl
  have h4 := h3.last (B := OS 94 rhK s.mA s.mc (s.ms.set i { s.ms.getD i rhK.d with bs := l })) fun J hJ => OS.same (List.length_set ..) (flat_same (d := rhK.d) hi (by show [_, _, _, _, Value.slice _ l.length _] = [_, _, _, _, Value.slice _ _ _]; rw [hl])) hJ
  have h5 := h4.sel [0, 5, 0, 0, 0, 0, 0] rfl
  have e : rbC (setB s i l) = rbC s := by
    rw [rbC, rbC, setB]
    show Value.slice s.mA (s.ms.set i _).length s.mc :: _ = _
    rw [List.length_set]
  rw [rbL, e]
  exact h5
end
end Go.Ios
