/-
  What was written is read back.
-/
import Derived.Test.YthdpojggdodpfaaPl1
set_option linter.unusedSimpArgs false
set_option linter.unusedVariables false
namespace Go.Ios
open Go.Sv
theorem clr63N {n : Nat} (h : n < 2 ^ 64) : n &&& 18446744073709551552 = n / 64 * 64 := by
  have e : (18446744073709551552 : Nat) = (2 ^ 58 - 1) <<< 6 := by decide
  have e2 : n / 64 * 64 = (n >>> 6) <<< 6 := by rw [Nat.shiftRight_eq_div_pow, Nat.shiftLeft_eq]
  rw [e, e2]
  apply Nat.eq_of_testBit_eq
  intro i
  rw [Nat.testBit_and, Nat.testBit_shiftLeft, Nat.testBit_shiftLeft, Nat.testBit_two_pow_sub_one, Nat.testBit_shiftRight]
  by_cases h6 : i ≥ 6
  · have e3 : 6 + (i - 6) = i := by omega
    rw [e3]
    by_cases h64 : i < 64
    · simp [h6, show i - 6 < 58 by omega]
    · have : n.testBit i = false := Nat.testBit_lt_two_pow (Nat.lt_of_lt_of_le h (Nat.pow_le_pow_right (by omega) (by omega)))
      simp [this]
  · simp [h6]
theorem clr63 {v : Int} (h : isU v) : IntKind.u64.wrap ((BitVec.ofInt IntKind.u64.bits v &&& ~~~ BitVec.ofInt IntKind.u64.bits 63).toNat) = v / 64 * 64 := by
  show IntKind.u64.wrap ((BitVec.ofInt 64 v &&& ~~~ BitVec.ofInt 64 63).toNat) = v / 64 * 64
  have e : (~~~ BitVec.ofInt 64 63).toNat = 18446744073709551552 := by decide
  unfold isU at h
  rw [BitVec.toNat_and, bvN h.1 h.2, e, clr63N (by omega), IntKind.wrap_u64]
  omega
structure RI (s : BS) (h : MH) (m : Nat) (B : Int) (o w : Nat) (v : Int) (t : Nat) : Prop where
  ok : s.ok
  e : (s.sp m).hs = [h]
  b : h.base = B
  l : h.len = 64
  own : h.own = o
  en : s.en.getD o false = true
  fl : s.fl = []
  tr : s.tr.length ≤ t
  by' : ∀ j, j < w → byt h.bs (16 + j) = byo v j
theorem RI.acc {s s' : BS} {h : MH} {m o w t : Nat} {B v : Int} (F : RI s h m B o w v t) (hm : m < 3) (hw : w ≤ 8) {a : Acs} (hwf : wfA a) (hs : a.space = m) (h1 : B ≤ a.addr) (h2 : a.addr + a.width ≤ B + 64) (hout : a.wr = true → a.addr + a.width ≤ B + 16 ∨ B + 24 ≤ a.addr) (ht : t < 65536)
    {A : Option Addr} {c : Nat} {tA : Option Addr} {tc : Nat} (hA : wrs s a → A ≠ none) (hs' : accS s a A c tA tc = s') : ∃ h2 : MH, accE s a = 0 ∧ RI s' h2 m B o w v (t + 1) ∧ (a.wr = false → accV s a = rdL h.bs (a.addr - B).toNat a.width.toNat) := by
  have htr : s.tr.length ≠ 65536 := by have := F.tr; omega
  have hb := F.b
  have hl := F.l
  have hW1 : 1 ≤ a.width := by have := hwf.1; unfold isW at this; omega
  obtain ⟨k1, k2, k3, k4, k5, k6, k7, k8⟩ := accOne F.ok hm F.e hwf hs (by rw [hb]; exact h1) (by show a.addr + a.width - 1 ≤ h.base + (h.len - 1); omega) htr hA hs'
  have hlv : lvM s a = true := by rw [k6, F.own, Int.toNat_natCast]; exact F.en
  have hfm : flM s a = false := fl_nil F.fl
  have hho : h.ok := by have := (F.ok.sp m hm).each 0 (by rw [F.e]; simp); rw [F.e] at this; exact this
  refine ⟨if wrs s a then wrH h a A c else h, by rw [accE, hfm]; rfl, ⟨k1, k2, ?_, ?_, ?_, by rw [k3]; exact F.en, ?_, ?_, fun j hj => ?_⟩, fun hr => ?_⟩
  · split <;> exact hb
  · split <;> exact hl
  · split <;> exact F.own
  · rw [k4, F.fl, useL_nil]; split <;> rfl
  · rw [k5, List.length_append]; have := F.tr; simp; omega
  · split
    · rename_i hw2
      have hrl := raw0_len hho
      show byt (wrK (raw0 h) (a.addr - h.base).toNat a.val a.width.toNat) (16 + j) = byo v j
      have ho := hout hw2.1
      rw [wrK_byt _ (by rw [hrl, hl, hb]; omega), if_neg (by rw [hb]; omega), raw0_byt]; exact F.by' j hj
    · exact F.by' j hj
  · rw [accV, hfm, if_neg (by decide), if_neg (by rw [hr]; decide), vlM, if_neg (by rw [hr]; decide), if_pos hlv, hfm, if_neg (by decide), k7, hb]
theorem RI.first {s s' : BS} {h : MH} {m o w : Nat} {B v : Int} (hk : s.ok) (e : (s.sp m).hs = [h]) (hb : h.base = B) (hl : h.len = 64) (ho : h.own = o) (hen : s.en.getD o false = true) (hfl : s.fl = []) (htr : s.tr = []) (hm : m < 3) (hw : w ≤ 8) (hwf : wfA ⟨m, B + 16, w, true, v⟩)
    {A : Option Addr} {c : Nat} {tA : Option Addr} {tc : Nat} (hA : wrs s ⟨m, B + 16, w, true, v⟩ → A ≠ none) (hs' : accS s ⟨m, B + 16, w, true, v⟩ A c tA tc = s') : ∃ h2 : MH, accE s ⟨m, B + 16, w, true, v⟩ = 0 ∧ RI s' h2 m B o w v 1 := by
  obtain ⟨k1, k2, k3, k4, k5, k6, k7, k8⟩ := accOne hk hm e hwf rfl (by rw [hb]; show B ≤ B + 16; omega) (by show B + 16 + (w : Int) - 1 ≤ h.base + (h.len - 1); omega) (by rw [htr]; decide) hA hs'
  have hlv : lvM s ⟨m, B + 16, w, true, v⟩ = true := by rw [k6, ho, Int.toNat_natCast]; exact hen
  have hfm : flM s ⟨m, B + 16, w, true, v⟩ = false := fl_nil hfl
  have hho : h.ok := by have := (hk.sp m hm).each 0 (by rw [e]; simp); rw [e] at this; exact this
  have hw2 : wrs s ⟨m, B + 16, w, true, v⟩ := ⟨rfl, hlv, hfm⟩
  rw [if_pos hw2] at k2
  refine ⟨_, by rw [accE, hfm]; rfl, ⟨k1, k2, hb, hl, ho, by rw [k3]; exact hen, by rw [k4, hfl, useL_nil]; split <;> rfl, by rw [k5, htr]; simp, fun j hj => ?_⟩⟩
  have hrl := raw0_len hho
  show byt (wrK (raw0 h) (B + 16 - h.base).toNat v (w : Int).toNat) (16 + j) = byo v j
  have e1 : (B + 16 - h.base).toNat = 16 := by omega
  rw [e1, wrK_byt _ (by rw [hrl, hl]; omega), if_pos (by omega), show 16 + j - 16 = j by omega]
theorem rd_mod {l : List Int} {v : Int} (hv : 0 ≤ v) : ∀ {w : Nat}, (∀ j, j < w → byt l (16 + j) = byo v j) → rdL l 16 w = v % pw w
  | 0, _ => by simp [rdL, pw]
  | w + 1, h => by
    have ih := rd_mod hv (w := w) fun j hj => h j (by omega)
    rw [rdL, ih, h w (by omega), byo, pw_succ]
    obtain ⟨n, rfl⟩ := Int.eq_ofNat_of_zero_le hv
    unfold pw
    have e := Nat.mod_mul (a := 2 ^ (8 * w)) (b := 256) (x := n)
    rw [Nat.mul_comm (2 ^ (8 * w)) 256] at e
    have e2 : ((n % (256 * 2 ^ (8 * w)) : Nat) : Int) = ((n % 2 ^ (8 * w) + 2 ^ (8 * w) * (n / 2 ^ (8 * w) % 256) : Nat) : Int) := by rw [e]
    rw [Int.natCast_add, Int.natCast_mul] at e2
    have e3 : (256 : Int) * ((2 ^ (8 * w) : Nat) : Int) = ((256 * 2 ^ (8 * w) : Nat) : Int) := by rw [Int.natCast_mul]; rfl
    rw [e3]
    have e4 : ((n : Int) % ((256 * 2 ^ (8 * w) : Nat) : Int)) = ((n % (256 * 2 ^ (8 * w)) : Nat) : Int) := (Int.natCast_emod _ _).symm
    have e5 : ((n : Int) % ((2 ^ (8 * w) : Nat) : Int)) = ((n % 2 ^ (8 * w) : Nat) : Int) := (Int.natCast_emod _ _).symm
    have e6 : ((n : Int) / ((2 ^ (8 * w) : Nat) : Int)) % 256 = ((n / 2 ^ (8 * w) % 256 : Nat) : Int) := by rw [Int.natCast_emod, Int.natCast_ediv]; rfl
    rw [e4, e5, e6, e2, Int.mul_comm]
theorem and_ones {v : Int} {w : Nat} (hv : 0 ≤ v) (hw : isW w) : ((v.toNat &&& (onesM w).toNat : Nat) : Int) = v % pw w := by
  have key : ∀ k : Nat, ((v.toNat &&& (2 ^ (8 * k) - 1) : Nat) : Int) = v % pw k := fun k => by
    rw [Nat.and_two_pow_sub_one_eq_mod, pw, Int.natCast_emod, Int.toNat_of_nonneg hv]
  rcases hw with e | e | e | e
  · obtain rfl : w = 1 := by omega
    exact key 1
  · obtain rfl : w = 2 := by omega
    exact key 2
  · obtain rfl : w = 4 := by omega
    exact key 4
  · obtain rfl : w = 8 := by omega
    exact key 8
end Go.Ios
namespace Go.Ios
open Go.Sv
def okY (x : Int) : Prop := 0 ≤ x ∧ x ≤ 255
theorem okY_of {l : List Int} (h : ∀ i, i < l.length → okY (l.getD i (intK .u8).d)) : ∀ i, okY (l.getD i (intK .u8).d) := fun i => by
  by_cases hi : i < l.length
  · exact h i hi
  · have : l.getD i (intK .u8).d = (intK .u8).d := by simp [List.getD, List.getElem?_eq_none (Nat.le_of_not_lt hi)]
    rw [this]; unfold okY intK; simp
structure RZ where
  t : Nat
  s : BS
  h : MH
def wds : List Int := [1, 2, 4, 8]
theorem wds_at {k : Nat} (h : k < 4) : ∃ w : Nat, wds.getD k 0 = w ∧ isW w ∧ 1 ≤ w ∧ w ≤ 8 := by
  obtain rfl | rfl | rfl | rfl : k = 0 ∨ k = 1 ∨ k = 2 ∨ k = 3 := by omega
  · exact ⟨1, rfl, .inl rfl, by omega, by omega⟩
  · exact ⟨2, rfl, .inr (.inl rfl), by omega, by omega⟩
  · exact ⟨4, rfl, .inr (.inr (.inl rfl)), by omega, by omega⟩
  · exact ⟨8, rfl, .inr (.inr (.inr rfl)), by omega, by omega⟩
theorem wf16 {m w : Nat} {B v : Int} {wr : Bool} (hm : m < 3) (hw : isW w) (hB : 0 ≤ B) (hB2 : B % 64 = 0) : wfA ⟨m, B + 16, w, wr, v⟩ := by
  refine ⟨hw, ⟨by show (0 : Int) ≤ m; omega, by show (m : Int) < 3; omega⟩, ?_⟩
  show (B + 16).tmod (w : Int) = 0
  rw [Int.tmod_eq_emod_of_nonneg (by omega)]
  rcases hw with e | e | e | e <;> rw [e] <;> omega
theorem wf1 {m : Nat} {x v : Int} (hm : m < 3) (hx : 0 ≤ x) : wfA ⟨m, x, 1, true, v⟩ := by
  refine ⟨.inl rfl, ⟨by show (0 : Int) ≤ m; omega, by show (m : Int) < 3; omega⟩, ?_⟩
  show x.tmod 1 = 0
  rw [Int.tmod_eq_emod_of_nonneg hx]; omega
end Go.Ios
