/-
  Bytes of a mapping as numbers.
-/
import Derived.Test.YthdpojggdodpfaaMdl3
set_option linter.unusedSimpArgs false
set_option linter.unusedVariables false
namespace Go.Ios
open Go.Sv
def byt (l : List Int) (k : Nat) : Int := l.getD k 0
def pw (j : Nat) : Int := ((2 ^ (8 * j) : Nat) : Int)
def rdL (l : List Int) (k : Nat) : Nat → Int
  | 0 => 0
  | j + 1 => rdL l k j + byt l (k + j) * pw j
def okB (l : List Int) : Prop := ∀ i, 0 ≤ l.getD i 0 ∧ l.getD i 0 ≤ 255
theorem pw_pos (j : Nat) : 0 < pw j := by unfold pw; have := Nat.two_pow_pos (8 * j); omega
theorem pw_succ (j : Nat) : pw (j + 1) = 256 * pw j := by
  unfold pw
  have : 2 ^ (8 * (j + 1)) = 256 * 2 ^ (8 * j) := by rw [show 8 * (j + 1) = 8 + 8 * j by omega, Nat.pow_add]
  rw [this]; omega
theorem pw_le {j : Nat} (h : j ≤ 8) : pw j ≤ 18446744073709551616 := by
  have : 2 ^ (8 * j) ≤ 2 ^ 64 := Nat.pow_le_pow_right (by omega) (by omega)
  unfold pw
  have e : 2 ^ 64 = 18446744073709551616 := by decide
  omega
theorem rdL_bd {l : List Int} (h : okB l) (k : Nat) : ∀ j, 0 ≤ rdL l k j ∧ rdL l k j < pw j
  | 0 => by simp [rdL, pw]
  | j + 1 => by
    have ih := rdL_bd h k j
    have hb := h (k + j)
    have hp := pw_pos j
    have h1 : byt l (k + j) * pw j ≤ 255 * pw j := Int.mul_le_mul_of_nonneg_right hb.2 (by omega)
    have h2 : 0 ≤ byt l (k + j) * pw j := Int.mul_nonneg hb.1 (by omega)
    rw [rdL, pw_succ]; omega
theorem rdL_nil (k j : Nat) : rdL [] k j = 0 := by
  induction j with
  | zero => rfl
  | succ j ih => rw [rdL, ih]; simp [byt]
theorem byt_mul {b : Int} {j : Nat} (h0 : 0 ≤ b) (h1 : b ≤ 255) (hj : j < 8) : 0 ≤ b * pw j ∧ b * pw j ≤ 18446744073709551615 := by
  have hp := pw_pos j
  have h2 : b * pw j ≤ 255 * pw j := Int.mul_le_mul_of_nonneg_right h1 (by omega)
  have h3 := pw_le (j := j + 1) (by omega)
  rw [pw_succ] at h3
  exact ⟨Int.mul_nonneg h0 (by omega), by omega⟩
theorem two_min {j : Nat} (hj : j < 8) : (2 : Int) ^ min (8 * (j : Int)).toNat IntKind.u64.bits = pw j := by
  have e : min (8 * (j : Int)).toNat IntKind.u64.bits = 8 * j := by
    have : IntKind.u64.bits = 64 := rfl
    omega
  rw [e]; unfold pw; push_cast; rfl
theorem shlB {b : Int} {j : Nat} (h0 : 0 ≤ b) (h1 : b ≤ 255) (hj : j < 8) : IntKind.u64.wrap (b * 2 ^ min (8 * (j : Int)).toNat IntKind.u64.bits) = b * pw j := by
  rw [two_min hj]
  have := byt_mul h0 h1 hj
  exact wU64 this.1 this.2
theorem orB {a b : Int} {j : Nat} (ha : 0 ≤ a) (ha2 : a < pw j) (h0 : 0 ≤ b) (h1 : b ≤ 255) (hj : j < 8) : IntKind.u64.wrap ((BitVec.ofInt IntKind.u64.bits a ||| BitVec.ofInt IntKind.u64.bits (b * pw j)).toNat) = a + b * pw j := by
  have hb := byt_mul h0 h1 hj
  have hp := pw_le (j := j) (by omega)
  show IntKind.u64.wrap ((BitVec.ofInt 64 a ||| BitVec.ofInt 64 (b * pw j)).toNat) = a + b * pw j
  rw [or_u64 ha (by omega) hb.1 hb.2]
  obtain ⟨x, rfl⟩ := Int.eq_ofNat_of_zero_le ha
  obtain ⟨y, rfl⟩ := Int.eq_ofNat_of_zero_le h0
  have hx : x < 2 ^ (8 * j) := by unfold pw at ha2; omega
  have e1 : ((y : Int) * pw j).toNat = 2 ^ (8 * j) * y := by
    unfold pw
    rw [show (y : Int) * ((2 ^ (8 * j) : Nat) : Int) = ((2 ^ (8 * j) * y : Nat) : Int) by rw [Int.natCast_mul, Int.mul_comm], Int.toNat_natCast]
  rw [e1, Int.toNat_natCast, Nat.or_comm, ← Nat.two_pow_add_eq_or_of_lt hx]
  unfold pw
  rw [Int.natCast_add, Int.natCast_mul, Int.mul_comm]; omega
/-- Byte j of a number. -/
def byo (v : Int) (j : Nat) : Int := (v / pw j) % 256
theorem byo_bd (v : Int) (j : Nat) : 0 ≤ byo v j ∧ byo v j ≤ 255 := by
  unfold byo
  omega
theorem u8B {v : Int} {j : Nat} (hj : j < 8) (hv : 0 ≤ v) : IntKind.u8.wrap (v.fdiv (2 ^ min (8 * (j : Int)).toNat IntKind.u64.bits)) = byo v j := by
  rw [two_min hj, Int.fdiv_eq_ediv_of_nonneg _ (by have := pw_pos j; omega), IntKind.wrap_u8]
  rfl
def wrK (l : List Int) (k : Nat) (v : Int) : Nat → List Int
  | 0 => l
  | j + 1 => (wrK l k v j).set (k + j) (byo v j)
theorem wrK_length (l : List Int) (k : Nat) (v : Int) (j : Nat) : (wrK l k v j).length = l.length := by
  induction j with
  | zero => rfl
  | succ j ih => rw [wrK, List.length_set, ih]
def raw0 (h : MH) : List Int := if h.bs = [] then List.replicate h.len.toNat 0 else h.bs
theorem raw0_byt {h : MH} (k : Nat) : byt (raw0 h) k = byt h.bs k := by
  unfold raw0
  split
  · rename_i e; rw [e]; simp [byt, List.getD, List.getElem?_replicate]; split <;> rfl
  · rfl
theorem raw0_len {h : MH} (ho : h.ok) : (raw0 h).length = h.len.toNat := by
  unfold raw0
  split
  · simp
  · rename_i e
    rcases ho.d with ⟨h1, _⟩ | ⟨h1, _⟩
    · exact absurd h1 e
    · exact h1
theorem wrK_byt {l : List Int} {k : Nat} (v : Int) : ∀ {j : Nat}, k + j ≤ l.length → ∀ i, byt (wrK l k v j) i = if k ≤ i ∧ i < k + j then byo v (i - k) else byt l i
  | 0, _, i => by rw [wrK, if_neg (by omega)]
  | j + 1, h, i => by
    have ih := wrK_byt (l := l) (k := k) v (j := j) (by omega) i
    rw [wrK]
    by_cases e : i = k + j
    · subst e
      rw [byt, getD_set_self _ _ _ _ (by rw [wrK_length]; omega), if_pos (by omega)]
      congr 1; omega
    · rw [byt, getD_set_other _ _ _ (show k + j ≠ i by omega)]
      show byt _ i = _
      rw [ih]
      by_cases h1 : k ≤ i ∧ i < k + j
      · rw [if_pos h1, if_pos (by omega)]
      · rw [if_neg h1, if_neg (by omega)]
end Go.Ios
namespace Go.Ios
open Go.Sv
theorem osSome {I0 : Ids} {w0 w : World} {L : List Assn} {α : Type} {K : Enc α} {A : Option Addr} {ys : List α} {e : TypeId} {c : Nat} (h : Hp I0 w0 L w) (k : Nat) (hk : L[k]? = some (OS e K A c ys)) (hne : 0 < ys.length) : A ≠ none := by
  obtain ⟨i, j, hA, _⟩ := h.at hk
  rcases hA with ⟨_, h0, _⟩ | ⟨g, cur, rfl, _⟩
  · rw [h0] at hne; simp at hne
  · simp
end Go.Ios
namespace Go.Sv
theorem KV.toRet {P : Program} {N : Nat} {fn : Func} {R : Ending → World → Prop} {E : Env} {S : World → Prop} (h : KV N (bodyPost P fn R .ret) E S) : KV N (bodyPost P fn R .normal) E S := fun a w hf hs => h a w hf hs
end Go.Sv
