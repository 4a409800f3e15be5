/-
  Texts joined: Pl1, Pl2, Pl3, Pl4.
-/
import Derived.Test.YthdpojggdodpfaaMdA
set_option linter.unusedSimpArgs false
set_option linter.unusedVariables false
namespace Go.Ios
open Go.Sv
theorem not_busy0 {m : Nat} (hm : m < 3) (x y : Int) : ¬ busy (bs0.sp m).hs x y := fun k => by
  have e : (bs0.sp m) = spD := by
    obtain rfl | rfl | rfl : m = 0 ∨ m = 1 ∨ m = 2 := by omega
    · rfl
    · rfl
    · rfl
  have := k.1
  rw [e] at this
  exact absurd this (Nat.not_lt_zero _)
theorem map0 {m : Nat} {h : MH} {A : Option Addr} {c : Nat} {s : BS} (hm : m < 3) (hh : h.ok) (e : mapG bs0 m h A c = s) : s.ok ∧ (s.sp m).hs = [h] ∧ s.en = bs0.en ∧ s.fl = [] ∧ s.tr = [] ∧ s.total = 1 := by
  subst e
  refine ⟨mapG_ok bs0_ok hm hh (not_busy0 hm _ _) (by decide) A c, ?_, rfl, rfl, rfl, rfl⟩
  rw [mapG_sp bs0_ok hm, if_pos rfl]
  have e : (bs0.sp m) = spD := by
    obtain rfl | rfl | rfl : m = 0 ∨ m = 1 ∨ m = 2 := by omega
    · rfl
    · rfl
    · rfl
  rw [e]; rfl
theorem newH_ok {bp : Nat} {x y o : Int} (hx : isU x) (hr : okR x y) (h1 : 0 ≤ o) (h2 : o < 256) : (⟨bp, x, y, o, none, 0, []⟩ : MH).ok := ⟨hx, hr, h1, h2, .inl ⟨rfl, rfl⟩, fun i => by simp⟩
theorem accOne {s s' : BS} {m : Nat} {h : MH} {a : Acs} (hk : s.ok) (hm : m < 3) (e : (s.sp m).hs = [h]) (hwf : wfA a) (hs : a.space = m) (h1 : h.base ≤ a.addr) (h2 : a.addr + a.width - 1 ≤ h.lst) (ht : s.tr.length ≠ 65536)
    {A : Option Addr} {c : Nat} {tA : Option Addr} {tc : Nat} (hA : wrs s a → A ≠ none) (hs' : accS s a A c tA tc = s') :
    s'.ok ∧ (s'.sp m).hs = [if wrs s a then wrH h a A c else h] ∧ s'.en = s.en ∧ s'.fl = (if lvM s a = true then useL s.fl a else s.fl) ∧ s'.tr = s.tr ++ [rec s a] ∧ lvM s a = s.en.getD h.own.toNat false ∧ fh s a = h ∧ ownM s a.space a.addr = h.own := by
  subst hs'
  have hW1 : 1 ≤ a.width := by have := hwf.1; unfold isW at this; omega
  obtain ⟨l1, l2, l3, l4⟩ := lv_one hm e hs h1 h2 hW1
  have h3 := acc_en s a A c tA tc
  refine ⟨accS_ok hk hwf hA tA tc ht, acc_one hk hm e hs l3 l4 A c tA tc, h3.1, h3.2.1, h3.2.2, l1, l3, ?_⟩
  rw [ownM, l2, hs, Int.toNat_natCast, e]; rfl
theorem fl_nil {s : BS} {a : Acs} (h : s.fl = []) : flM s a = false := by
  rw [flM, h]; simp [hitN]
theorem useL_nil (a : Acs) : useL [] a = [] := by simp [useL, hitN]
def pkM (s : BS) (z x : Int) : Int := match fnd s z x with
  | some i => byt (mh (s.sp z.toNat).hs i).bs (x - (mh (s.sp z.toNat).hs i).base).toNat
  | none => 0
theorem rdL_one (l : List Int) (k : Nat) : rdL l k 1 = byt l k := by
  rw [rdL, rdL]
  have : pw 0 = 1 := rfl
  rw [this]; simp
theorem pk_some {s : BS} {m i : Nat} {x : Int} (h : fnd s m x = some i) : pkM s m x = byt (mh (s.sp m).hs i).bs (x - (mh (s.sp m).hs i).base).toNat := by rw [pkM, h]; rfl
end Go.Ios
set_option linter.unusedSimpArgs false
set_option linter.unusedVariables false
namespace Go.Ios
open Go.Sv
structure FI (s : BS) (h : MH) (n f t : Nat) : Prop where
  ok : s.ok
  e : (s.sp 0).hs = [h]
  b : h.base = 0
  l : h.len = 16
  o : h.own = 7
  fl : s.fl = if f < n then [⟨0, 4, 4, ((n - f : Nat) : Int)⟩] else []
  fn : f ≤ n
  n8 : n ≤ 8
  tr : s.tr.length = t
  by4 : f < n → byt h.bs 4 = 0
abbrev fa (q : Nat) : Acs := ⟨0, 4 * (q : Int), 4, true, 1⟩
theorem fa_wf {q : Nat} (h : q < 2) : wfA (fa q) := by
  obtain rfl | rfl : q = 0 ∨ q = 1 := by omega
  · exact ⟨by decide, by decide, by decide⟩
  · exact ⟨by decide, by decide, by decide⟩
theorem fa_u {q : Nat} (h : q < 2) : isU (fa q).addr := by unfold isU; show 0 ≤ 4 * (q : Int) ∧ 4 * (q : Int) ≤ _; omega
theorem FI.acc {s s' : BS} {h : MH} {n f t q : Nat} (F : FI s h n f t) {lv : Bool} (hen : s.en.getD 7 false = lv) (hq : q < 2) (ht : t < 65536) {A : Option Addr} {c : Nat} {tA : Option Addr} {tc : Nat} (hA : wrs s (fa q) → A ≠ none)
    (hs' : accS s (fa q) A c tA tc = s') : ∃ (E : Int) (f2 : Nat) (h2 : MH), accE s (fa q) = E ∧ (lv = true → q = 1 → f < n → E = 15 ∧ f2 = f + 1 ∧ pkM s' 0 4 = 0) ∧ (¬ (lv = true ∧ q = 1 ∧ f < n) → E = 0 ∧ f2 = f) ∧ FI s' h2 n f2 (t + 1) := by
  have htr : s.tr.length ≠ 65536 := by rw [F.tr]; omega
  have hb := F.b
  have hl := F.l
  obtain ⟨k1, k2, k3, k4, k5, k6, k7, k8⟩ := accOne F.ok (m := 0) (by decide) F.e (fa_wf hq) rfl (by rw [hb]; show (0 : Int) ≤ 4 * (q : Int); omega) (by show 4 * (q : Int) + 4 - 1 ≤ h.base + (h.len - 1); omega) htr hA hs'
  have hlv : lvM s (fa q) = lv := by rw [k6, F.o]; exact hen
  have hk5 : s'.tr.length = t + 1 := by rw [k5, List.length_append, F.tr]; rfl
  have hpk : ∀ h2 : MH, (s'.sp 0).hs = [h2] → h2.base = 0 → h2.len = 16 → pkM s' 0 4 = byt h2.bs 4 := fun h2 e2 b2 l2 => by
    have hf : fnd s' ((0 : Nat) : Int) 4 = some 0 := by rw [fnd_one (by decide) e2, if_pos ⟨by rw [b2]; decide, by show (4 : Int) ≤ h2.base + (h2.len - 1); rw [b2, l2]; decide⟩]
    have := pk_some hf
    rw [e2] at this
    rw [show (0 : Int) = ((0 : Nat) : Int) from rfl, this]
    show byt h2.bs (4 - h2.base).toNat = _
    rw [b2]; rfl
  by_cases hit : lv = true ∧ q = 1 ∧ f < n
  · obtain ⟨rfl, rfl, hf⟩ := hit
    have hfl : s.fl = [⟨0, 4, 4, ((n - f : Nat) : Int)⟩] := by rw [F.fl, if_pos hf]
    have hN : hitN s.fl (fa 1) = 0 := by
      rw [hfl]; exact hitN_at (fun j hj => by omega) (by simp) ⟨rfl, (show ovl 4 4 (4 * ((1 : Nat) : Int)) 4 by decide)⟩
    have hfm : flM s (fa 1) = true := by rw [flM, hlv, hN, hfl]; rfl
    have hnw : ¬ wrs s (fa 1) := fun k => by have := k.2.2; rw [hfm] at this; cases this
    rw [if_neg hnw] at k2
    rw [if_pos hlv] at k4
    refine ⟨15, f + 1, h, by rw [accE, if_pos hfm], fun _ _ _ => ⟨rfl, rfl, by rw [hpk h k2 hb hl]; exact F.by4 hf⟩, fun hn => absurd ⟨rfl, rfl, hf⟩ hn, ⟨k1, k2, hb, hl, F.o, ?_, by omega, F.n8, hk5, fun _ => F.by4 hf⟩⟩
    rw [k4]
    by_cases hc : ((n - f : Nat) : Int) = 1
    · rw [use_del hN (by rw [hfl]; simp) (by rw [hfl]; exact hc), hfl, if_neg (by omega)]; rfl
    · rw [use_dec hN (by rw [hfl]; simp) (by rw [hfl]; exact hc), hfl, if_pos (by omega)]
      show [(⟨0, 4, 4, ((n - f : Nat) : Int) - 1⟩ : Flt)] = _
      congr 2; omega
  · have hNn : lv = true → hitN s.fl (fa q) = s.fl.length := fun hlt => hitN_none fun j hj hh => by
      rw [F.fl] at hj hh
      by_cases hf : f < n
      · rw [if_pos hf] at hj hh
        have j0 : j = 0 := by simp at hj; omega
        subst j0
        have h9 : ovl 4 4 (4 * (q : Int)) 4 := hh.2
        unfold ovl at h9
        exact hit ⟨hlt, by omega, hf⟩
      · rw [if_neg hf] at hj; simp at hj
    have hfm : flM s (fa q) = false := by
      rw [flM, hlv]
      cases hlt : lv with
      | false => rfl
      | true => rw [hNn hlt]; simp
    have hfl2 : s'.fl = s.fl := by
      rw [k4, hlv]
      cases hlt : lv with
      | false => rfl
      | true => rw [if_pos rfl, use_no (hNn hlt)]
    refine ⟨0, f, if wrs s (fa q) then wrH h (fa q) A c else h, by rw [accE, hfm]; rfl, fun a1 a2 a3 => absurd ⟨a1, a2, a3⟩ hit, fun _ => ⟨rfl, rfl⟩, ⟨k1, k2, ?_, ?_, ?_, by rw [hfl2]; exact F.fl, F.fn, F.n8, hk5, fun hf => ?_⟩⟩
    · split <;> exact hb
    · split <;> exact hl
    · split <;> exact F.o
    · split
      · rename_i hw
        have hq0 : q = 0 := by
          have : lv = true := by rw [← hlv]; exact hw.2.1
          rcases Nat.lt_or_ge q 1 with h1 | h1
          · omega
          · exact absurd ⟨this, by omega, hf⟩ hit
        subst hq0
        have hrl : (raw0 h).length = h.len.toNat := raw0_len (by have := (F.ok.sp 0 (by decide)).each 0 (by rw [F.e]; simp); rw [F.e] at this; exact this)
        show byt (wrK (raw0 h) ((4 * ((0 : Nat) : Int)) - h.base).toNat 1 4) 4 = 0
        rw [hb, wrK_byt _ (by rw [hrl, hl]; decide), if_neg (by decide), raw0_byt]; exact F.by4 hf
      · exact F.by4 hf
end Go.Ios
namespace Go.Ios
open Go.Sv
structure FZ where
  f : Nat
  s : BS
  h : MH
theorem FI.en {s : BS} {h : MH} {n f t : Nat} (F : FI s h n f t) (v : Bool) : FI { s with en := s.en.set 7 v } h n f t ∧ ({ s with en := s.en.set 7 v } : BS).en.getD 7 false = v :=
  ⟨⟨F.ok.en 7 v, F.e, F.b, F.l, F.o, F.fl, F.fn, F.n8, F.tr, F.by4⟩, getD_set_self _ _ _ _ (by rw [F.ok.wf.en]; decide)⟩
theorem FI.start {bp n : Nat} {A : Option Addr} {c : Nat} {s s2 : BS} {A2 : Option Addr} {c2 : Nat} (hs : mapG bs0 0 ⟨bp, 0, 16, 7, none, 0, []⟩ A c = s) (h1 : 1 ≤ n) (h8 : n ≤ 8) (hs2 : fltG s ⟨((0 : Nat) : Int), 4, 4, n⟩ A2 c2 = s2) : FI s2 ⟨bp, 0, 16, 7, none, 0, []⟩ n 0 0 := by
  obtain ⟨k1, k2, k3, k4, k5, k6⟩ := map0 (by decide) (newH_ok (by unfold isU; decide) (by decide) (by decide) (by decide)) hs
  subst hs2
  refine ⟨k1.flt (by show isU 4; unfold isU; decide) (by show okR 4 4; decide) (by show (1 : Int) ≤ n; omega) (by show (n : Int) ≤ 64; omega) (by rw [k4]; decide) A2 c2, k2, rfl, rfl, rfl, ?_, Nat.zero_le _, h8, by show s.tr.length = 0; rw [k5]; rfl, fun _ => rfl⟩
  show s.fl ++ _ = _
  rw [k4, if_pos (by omega)]; rfl
end Go.Ios
set_option linter.unusedSimpArgs false
set_option linter.unusedVariables false
namespace Go.Ios
open Go.Sv
theorem clr63N {n : Nat} (h : n < 2 ^ 64) : n &&& 18446744073709551552 = n / 64 * 64 := by
  have e : (18446744073709551552 : Nat) = (2 ^ 58 - 1) <<< 6 := by decide
  have e2 : n / 64 * 64 = (n >>> 6) <<< 6 := by rw [Nat.shiftRight_eq_div_pow, Nat.shiftLeft_eq]
  rw [e, e2]
  apply Nat.eq_of_testBit_eq
  intro i
  rw [Nat.testBit_and, Nat.testBit_shiftLeft, Nat.testBit_shiftLeft, Nat.testBit_two_pow_sub_one, Nat.testBit_shiftRight]
  by_cases h6 : i ≥ 6
  · have e3 : 6 + (i - 6) = i := by omega
    rw [e3]
    by_cases h64 : i < 64
    · simp [h6, show i - 6 < 58 by omega]
    · have : n.testBit i = false := Nat.testBit_lt_two_pow (Nat.lt_of_lt_of_le h (Nat.pow_le_pow_right (by omega) (by omega)))
      simp [this]
  · simp [h6]
theorem clr63 {v : Int} (h : isU v) : IntKind.u64.wrap ((BitVec.ofInt IntKind.u64.bits v &&& ~~~ BitVec.ofInt IntKind.u64.bits 63).toNat) = v / 64 * 64 := by
  show IntKind.u64.wrap ((BitVec.ofInt 64 v &&& ~~~ BitVec.ofInt 64 63).toNat) = v / 64 * 64
  have e : (~~~ BitVec.ofInt 64 63).toNat = 18446744073709551552 := by decide
  unfold isU at h
  rw [BitVec.toNat_and, bvN h.1 h.2, e, clr63N (by omega), IntKind.wrap_u64]
  omega
structure RI (s : BS) (h : MH) (m : Nat) (B : Int) (o w : Nat) (v : Int) (t : Nat) : Prop where
  ok : s.ok
  e : (s.sp m).hs = [h]
  b : h.base = B
  l : h.len = 64
  own : h.own = o
  en : s.en.getD o false = true
  fl : s.fl = []
  tr : s.tr.length ≤ t
  by' : ∀ j, j < w → byt h.bs (16 + j) = byo v j
theorem RI.acc {s s' : BS} {h : MH} {m o w t : Nat} {B v : Int} (F : RI s h m B o w v t) (hm : m < 3) (hw : w ≤ 8) {a : Acs} (hwf : wfA a) (hs : a.space = m) (h1 : B ≤ a.addr) (h2 : a.addr + a.width ≤ B + 64) (hout : a.wr = true → a.addr + a.width ≤ B + 16 ∨ B + 24 ≤ a.addr) (ht : t < 65536)
    {A : Option Addr} {c : Nat} {tA : Option Addr} {tc : Nat} (hA : wrs s a → A ≠ none) (hs' : accS s a A c tA tc = s') : ∃ h2 : MH, accE s a = 0 ∧ RI s' h2 m B o w v (t + 1) ∧ (a.wr = false → accV s a = rdL h.bs (a.addr - B).toNat a.width.toNat) := by
  have htr : s.tr.length ≠ 65536 := by have := F.tr; omega
  have hb := F.b
  have hl := F.l
  have hW1 : 1 ≤ a.width := by have := hwf.1; unfold isW at this; omega
  obtain ⟨k1, k2, k3, k4, k5, k6, k7, k8⟩ := accOne F.ok hm F.e hwf hs (by rw [hb]; exact h1) (by show a.addr + a.width - 1 ≤ h.base + (h.len - 1); omega) htr hA hs'
  have hlv : lvM s a = true := by rw [k6, F.own, Int.toNat_natCast]; exact F.en
  have hfm : flM s a = false := fl_nil F.fl
  have hho : h.ok := by have := (F.ok.sp m hm).each 0 (by rw [F.e]; simp); rw [F.e] at this; exact this
  refine ⟨if wrs s a then wrH h a A c else h, by rw [accE, hfm]; rfl, ⟨k1, k2, ?_, ?_, ?_, by rw [k3]; exact F.en, ?_, ?_, fun j hj => ?_⟩, fun hr => ?_⟩
  · split <;> exact hb
  · split <;> exact hl
  · split <;> exact F.own
  · rw [k4, F.fl, useL_nil]; split <;> rfl
  · rw [k5, List.length_append]; have := F.tr; simp; omega
  · split
    · rename_i hw2
      have hrl := raw0_len hho
      show byt (wrK (raw0 h) (a.addr - h.base).toNat a.val a.width.toNat) (16 + j) = byo v j
      have ho := hout hw2.1
      rw [wrK_byt _ (by rw [hrl, hl, hb]; omega), if_neg (by rw [hb]; omega), raw0_byt]; exact F.by' j hj
    · exact F.by' j hj
  · rw [accV, hfm, if_neg (by decide), if_neg (by rw [hr]; decide), vlM, if_neg (by rw [hr]; decide), if_pos hlv, hfm, if_neg (by decide), k7, hb]
theorem RI.first {s s' : BS} {h : MH} {m o w : Nat} {B v : Int} (hk : s.ok) (e : (s.sp m).hs = [h]) (hb : h.base = B) (hl : h.len = 64) (ho : h.own = o) (hen : s.en.getD o false = true) (hfl : s.fl = []) (htr : s.tr = []) (hm : m < 3) (hw : w ≤ 8) (hwf : wfA ⟨m, B + 16, w, true, v⟩)
    {A : Option Addr} {c : Nat} {tA : Option Addr} {tc : Nat} (hA : wrs s ⟨m, B + 16, w, true, v⟩ → A ≠ none) (hs' : accS s ⟨m, B + 16, w, true, v⟩ A c tA tc = s') : ∃ h2 : MH, accE s ⟨m, B + 16, w, true, v⟩ = 0 ∧ RI s' h2 m B o w v 1 := by
  obtain ⟨k1, k2, k3, k4, k5, k6, k7, k8⟩ := accOne hk hm e hwf rfl (by rw [hb]; show B ≤ B + 16; omega) (by show B + 16 + (w : Int) - 1 ≤ h.base + (h.len - 1); omega) (by rw [htr]; decide) hA hs'
  have hlv : lvM s ⟨m, B + 16, w, true, v⟩ = true := by rw [k6, ho, Int.toNat_natCast]; exact hen
  have hfm : flM s ⟨m, B + 16, w, true, v⟩ = false := fl_nil hfl
  have hho : h.ok := by have := (hk.sp m hm).each 0 (by rw [e]; simp); rw [e] at this; exact this
  have hw2 : wrs s ⟨m, B + 16, w, true, v⟩ := ⟨rfl, hlv, hfm⟩
  rw [if_pos hw2] at k2
  refine ⟨_, by rw [accE, hfm]; rfl, ⟨k1, k2, hb, hl, ho, by rw [k3]; exact hen, by rw [k4, hfl, useL_nil]; split <;> rfl, by rw [k5, htr]; simp, fun j hj => ?_⟩⟩
  have hrl := raw0_len hho
  show byt (wrK (raw0 h) (B + 16 - h.base).toNat v (w : Int).toNat) (16 + j) = byo v j
  have e1 : (B + 16 - h.base).toNat = 16 := by omega
  rw [e1, wrK_byt _ (by rw [hrl, hl]; omega), if_pos (by omega), show 16 + j - 16 = j by omega]
theorem rd_mod {l : List Int} {v : Int} (hv : 0 ≤ v) : ∀ {w : Nat}, (∀ j, j < w → byt l (16 + j) = byo v j) → rdL l 16 w = v % pw w
  | 0, _ => by simp [rdL, pw]
  | w + 1, h => by
    have ih := rd_mod hv (w := w) fun j hj => h j (by omega)
    rw [rdL, ih, h w (by omega), byo, pw_succ]
    obtain ⟨n, rfl⟩ := Int.eq_ofNat_of_zero_le hv
    unfold pw
    have e := Nat.mod_mul (a := 2 ^ (8 * w)) (b := 256) (x := n)
    rw [Nat.mul_comm (2 ^ (8 * w)) 256] at e
    have e2 : ((n % (256 * 2 ^ (8 * w)) : Nat) : Int) = ((n % 2 ^ (8 * w) + 2 ^ (8 * w) * (n / 2 ^ (8 * w) % 256) : Nat) : Int) := by rw [e]
    rw [Int.natCast_add, Int.natCast_mul] at e2
    have e3 : (256 : Int) * ((2 ^ (8 * w) : Nat) : Int) = ((256 * 2 ^ (8 * w) : Nat) : Int) := by rw [Int.natCast_mul]; rfl
    rw [e3]
    have e4 : ((n : Int) % ((256 * 2 ^ (8 * w) : Nat) : Int)) = ((n % (256 * 2 ^ (8 * w)) : Nat) : Int) := (Int.natCast_emod _ _).symm
    have e5 : ((n : Int) % ((2 ^ (8 * w) : Nat) : Int)) = ((n % 2 ^ (8 * w) : Nat) : Int) := (Int.natCast_emod _ _).symm
    have e6 : ((n : Int) / ((2 ^ (8 * w) : Nat) : Int)) % 256 = ((n / 2 ^ (8 * w) % 256 : Nat) : Int) := by rw [Int.natCast_emod, Int.natCast_ediv]; rfl
    rw [e4, e5, e6, e2, Int.mul_comm]
theorem and_ones {v : Int} {w : Nat} (hv : 0 ≤ v) (hw : isW w) : ((v.toNat &&& (onesM w).toNat : Nat) : Int) = v % pw w := by
  have key : ∀ k : Nat, ((v.toNat &&& (2 ^ (8 * k) - 1) : Nat) : Int) = v % pw k := fun k => by
    rw [Nat.and_two_pow_sub_one_eq_mod, pw, Int.natCast_emod, Int.toNat_of_nonneg hv]
  rcases hw with e | e | e | e
  · obtain rfl : w = 1 := by omega
    exact key 1
  · obtain rfl : w = 2 := by omega
    exact key 2
  · obtain rfl : w = 4 := by omega
    exact key 4
  · obtain rfl : w = 8 := by omega
    exact key 8
end Go.Ios
namespace Go.Ios
open Go.Sv
def okY (x : Int) : Prop := 0 ≤ x ∧ x ≤ 255
theorem okY_of {l : List Int} (h : ∀ i, i < l.length → okY (l.getD i (intK .u8).d)) : ∀ i, okY (l.getD i (intK .u8).d) := fun i => by
  by_cases hi : i < l.length
  · exact h i hi
  · have : l.getD i (intK .u8).d = (intK .u8).d := by simp [List.getD, List.getElem?_eq_none (Nat.le_of_not_lt hi)]
    rw [this]; unfold okY intK; simp
structure RZ where
  t : Nat
  s : BS
  h : MH
def wds : List Int := [1, 2, 4, 8]
theorem wds_at {k : Nat} (h : k < 4) : ∃ w : Nat, wds.getD k 0 = w ∧ isW w ∧ 1 ≤ w ∧ w ≤ 8 := by
  obtain rfl | rfl | rfl | rfl : k = 0 ∨ k = 1 ∨ k = 2 ∨ k = 3 := by omega
  · exact ⟨1, rfl, .inl rfl, by omega, by omega⟩
  · exact ⟨2, rfl, .inr (.inl rfl), by omega, by omega⟩
  · exact ⟨4, rfl, .inr (.inr (.inl rfl)), by omega, by omega⟩
  · exact ⟨8, rfl, .inr (.inr (.inr rfl)), by omega, by omega⟩
theorem wf16 {m w : Nat} {B v : Int} {wr : Bool} (hm : m < 3) (hw : isW w) (hB : 0 ≤ B) (hB2 : B % 64 = 0) : wfA ⟨m, B + 16, w, wr, v⟩ := by
  refine ⟨hw, ⟨by show (0 : Int) ≤ m; omega, by show (m : Int) < 3; omega⟩, ?_⟩
  show (B + 16).tmod (w : Int) = 0
  rw [Int.tmod_eq_emod_of_nonneg (by omega)]
  rcases hw with e | e | e | e <;> rw [e] <;> omega
theorem wf1 {m : Nat} {x v : Int} (hm : m < 3) (hx : 0 ≤ x) : wfA ⟨m, x, 1, true, v⟩ := by
  refine ⟨.inl rfl, ⟨by show (0 : Int) ≤ m; omega, by show (m : Int) < 3; omega⟩, ?_⟩
  show x.tmod 1 = 0
  rw [Int.tmod_eq_emod_of_nonneg hx]; omega
end Go.Ios
set_option linter.unusedSimpArgs false
set_option linter.unusedVariables false
namespace Go.Ios
open Go.Sv
def ownH (hs : List MH) (x : Int) : Int := match findM hs x with
  | some i => (mh hs i).own
  | none => -1
theorem ownM_eq {s : BS} {m : Nat} (hm : m < 3) (x : Int) : ownM s m x = ownH (s.sp m).hs x := by
  rw [ownM, fnd_ok hm]; rfl
theorem ownH_at {hs : List MH} (h : okS hs) {x : Int} {i : Nat} (hi : i < hs.length) (h1 : (mh hs i).base ≤ x) (h2 : x ≤ (mh hs i).lst) : ownH hs x = (mh hs i).own := by rw [ownH, findM_at h hi h1 h2]
theorem ownH_none {hs : List MH} {x : Int} (h : ∀ i, i < hs.length → ¬ ((mh hs i).base ≤ x ∧ x ≤ (mh hs i).lst)) : ownH hs x = -1 := by
  rw [ownH]
  cases hf : findM hs x with
  | none => rfl
  | some i => have := findM_some hf; exact absurd ⟨this.2.1, this.2.2⟩ (h i this.1)
theorem ownH_cases {hs : List MH} (h : okS hs) (x : Int) : (ownH hs x = -1 ∧ ∀ i, i < hs.length → ¬ ((mh hs i).base ≤ x ∧ x ≤ (mh hs i).lst)) ∨ ∃ i, i < hs.length ∧ (mh hs i).base ≤ x ∧ x ≤ (mh hs i).lst ∧ ownH hs x = (mh hs i).own := by
  cases hf : findM hs x with
  | none => exact .inl ⟨by rw [ownH, hf], fun i hi => findM_none h hf hi⟩
  | some i => have := findM_some hf; exact .inr ⟨i, this.1, this.2.1, this.2.2, by rw [ownH, hf]⟩
theorem ownH_ins {hs : List MH} (ho : okS hs) {h : MH} (hh : h.ok) (hb : ¬ busy hs h.base h.len) (x : Int) : ownH (insL hs (aftM hs h.base) h) x = if h.base ≤ x ∧ x ≤ h.lst then h.own else ownH hs x := by
  have hok := insL_ok ho hh hb
  have h1 := (aft_spec hs h.base).1
  have hl : (insL hs (aftM hs h.base) h).length = hs.length + 1 := insL_length h h1
  have hget : ∀ k, mh (insL hs (aftM hs h.base) h) k = if k < aftM hs h.base then mh hs k else if k = aftM hs h.base then h else mh hs (k - 1) := fun k => insL_getD h mhD h1 k
  by_cases hx : h.base ≤ x ∧ x ≤ h.lst
  · rw [if_pos hx]
    have e : mh (insL hs (aftM hs h.base) h) (aftM hs h.base) = h := by rw [hget, if_neg (Nat.lt_irrefl _), if_pos rfl]
    rw [ownH_at hok (i := aftM hs h.base) (by omega) (by rw [e]; exact hx.1) (by rw [e]; exact hx.2), e]
  · rw [if_neg hx]
    rcases ownH_cases ho x with ⟨e, hn⟩ | ⟨i, hi, h2, h3, e⟩
    · rw [e]
      refine ownH_none fun k hk => ?_
      rw [hl] at hk
      rw [hget k]
      split
      · exact hn k (by omega)
      · split
        · exact hx
        · exact hn (k - 1) (by omega)
    · rw [e]
      by_cases hlt : i < aftM hs h.base
      · have e2 : mh (insL hs (aftM hs h.base) h) i = mh hs i := by rw [hget, if_pos hlt]
        rw [ownH_at hok (i := i) (by omega) (by rw [e2]; exact h2) (by rw [e2]; exact h3), e2]
      · have e2 : mh (insL hs (aftM hs h.base) h) (i + 1) = mh hs i := by rw [hget, if_neg (by omega), if_neg (by omega)]; rfl
        rw [ownH_at hok (i := i + 1) (by omega) (by rw [e2]; exact h2) (by rw [e2]; exact h3), e2]
theorem busy_iff {hs : List MH} (ho : okS hs) {p n : Int} (hn : 1 ≤ n) : busy hs p n ↔ ∃ x, p ≤ x ∧ x < p + n ∧ ¬ ownH hs x = -1 := by
  obtain ⟨h1, h2, h3⟩ := aft_spec hs p
  constructor
  · rintro ⟨ha, hv⟩
    unfold ovl at hv
    have hr := (ho.each _ ha).r
    have ho1 := (ho.each _ ha).o1
    unfold okR at hr
    have h4 : p ≤ (mh hs (aftM hs p)).base + ((mh hs (aftM hs p)).len - 1) := h3 ha
    refine ⟨max p (mh hs (aftM hs p)).base, by omega, by omega, ?_⟩
    rw [ownH_at ho ha (by omega) (by show max p _ ≤ (mh hs (aftM hs p)).base + ((mh hs (aftM hs p)).len - 1); omega)]
    omega
  · rintro ⟨x, hx1, hx2, hx3⟩
    rcases ownH_cases ho x with ⟨e, _⟩ | ⟨i, hi, h4, h5, e⟩
    · exact absurd e hx3
    · have hle : aftM hs p ≤ i := by
        rcases Nat.lt_or_ge i (aftM hs p) with h6 | h6
        · have := h2 i h6; omega
        · exact h6
      have hbs : (mh hs (aftM hs p)).base ≤ (mh hs i).base := by
        by_cases e2 : aftM hs p = i
        · rw [e2]; exact Int.le_refl _
        · have h7 : (mh hs (aftM hs p)).base + ((mh hs (aftM hs p)).len - 1) < (mh hs i).base := ho.sort _ i (by omega) hi
          have h8 := (ho.each (aftM hs p) (by omega)).r
          unfold okR at h8
          omega
      have h9 : p ≤ (mh hs (aftM hs p)).base + ((mh hs (aftM hs p)).len - 1) := h3 (by omega)
      exact ⟨by omega, by unfold ovl; omega⟩
def frB (ow : List Int) (p : Nat) (n : Nat) (c : Nat) : Bool := decide (0 < n ∧ ∀ x, x < c → ow.getD (p + x) 0 = 0)
theorem frB_zero (ow : List Int) (p n : Nat) : frB ow p n 0 = decide (0 < n) := decide_eq_decide.2 ⟨fun h => h.1, fun h => ⟨h, fun x hx => by omega⟩⟩
theorem frB_t {ow : List Int} {p n c : Nat} (h : frB ow p n c = true) (h2 : ow.getD (p + c) 0 = 0) : true = frB ow p n (c + 1) := by
  have := of_decide_eq_true h
  exact (decide_eq_true ⟨this.1, fun x hx => by by_cases e : x = c; (subst e; exact h2); exact this.2 x (by omega)⟩).symm
theorem frB_f1 {ow : List Int} {p n c : Nat} (h : frB ow p n c = false) : false = frB ow p n (c + 1) := by
  have := of_decide_eq_false h
  exact (decide_eq_false fun k => this ⟨k.1, fun x hx => k.2 x (by omega)⟩).symm
theorem frB_f2 {ow : List Int} {p n c : Nat} (h2 : ¬ ow.getD (p + c) 0 = 0) : false = frB ow p n (c + 1) :=
  (decide_eq_false fun k => h2 (k.2 c (by omega))).symm
def setR (ow : List Int) (p : Nat) (v : Int) : Nat → List Int
  | 0 => ow
  | c + 1 => (setR ow p v c).set (p + c) v
theorem setR_len (ow : List Int) (p : Nat) (v : Int) (c : Nat) : (setR ow p v c).length = ow.length := by
  induction c with
  | zero => rfl
  | succ c ih => rw [setR, List.length_set, ih]
theorem setR_get {ow : List Int} {p : Nat} (v : Int) : ∀ {c : Nat}, p + c ≤ ow.length → ∀ x, (setR ow p v c).getD x 0 = if p ≤ x ∧ x < p + c then v else ow.getD x 0
  | 0, _, x => by rw [setR, if_neg (by omega)]
  | c + 1, h, x => by
    rw [setR, getD_set _ _ _ _ _ (by rw [setR_len]; omega), setR_get v (c := c) (by omega) x]
    by_cases e : x = p + c
    · rw [if_pos e, if_pos (by omega)]
    · rw [if_neg e]
      by_cases h1 : p ≤ x ∧ x < p + c
      · rw [if_pos h1, if_pos (by omega)]
      · rw [if_neg h1, if_neg (by omega)]
/-- The bus and the list of owners agree. -/
structure MI (s : BS) (ow : List Int) (j : Nat) : Prop where
  ok : s.ok
  len : ow.length = 128
  tot : s.total ≤ j
  own : ∀ x : Nat, x < 128 → ownH (s.sp 1).hs x = ow.getD x 0 - 1
theorem MI.free {s : BS} {ow : List Int} {j p n : Nat} (F : MI s ow j) (h : p + n ≤ 128) (hn : 0 < n) : busy (s.sp 1).hs p n ↔ frB ow p n n = false := by
  rw [busy_iff (F.ok.sp 1 (by decide)) (by omega), frB, decide_eq_false_iff_not]
  constructor
  · rintro ⟨x, h1, h2, h3⟩ ⟨_, k⟩
    obtain ⟨y, rfl⟩ := Int.eq_ofNat_of_zero_le (show 0 ≤ x by omega)
    have h4 := F.own y (by omega)
    have h5 := k (y - p) (by omega)
    rw [show p + (y - p) = y by omega] at h5
    rw [h4, h5] at h3
    exact h3 (by omega)
  · intro k
    refine Classical.byContradiction fun h0 => k ⟨hn, fun x hx => ?_⟩
    refine Classical.byContradiction fun h1 => h0 ⟨((p + x : Nat) : Int), by omega, by omega, ?_⟩
    rw [F.own (p + x) (by omega)]
    omega
theorem MI.put {s : BS} {ow : List Int} {j p n bp : Nat} {A : Option Addr} {c : Nat} (F : MI s ow j) (h : p + n ≤ 128) (hn : 0 < n) (hn2 : n < 28) (hb : ¬ busy (s.sp 1).hs p n) (hj : j < 30) :
    MI (mapG s 1 ⟨bp, p, n, j, none, 0, []⟩ A c) (setR ow p (j + 1) n) (j + 1) := by
  have hh : (⟨bp, p, n, j, none, 0, []⟩ : MH).ok := newH_ok (by unfold isU; omega) (by unfold okR; omega) (by omega) (by omega)
  have ht := F.tot
  refine ⟨mapG_ok F.ok (by decide) hh hb (by omega) A c, by rw [setR_len]; exact F.len, by show s.total + 1 ≤ ((j + 1 : Nat) : Int); omega, fun x hx => ?_⟩
  rw [mapG_sp F.ok (by decide), if_pos rfl, ownH_ins (F.ok.sp 1 (by decide)) hh hb, setR_get _ (by rw [F.len]; exact h)]
  by_cases hc : p ≤ x ∧ x < p + n
  · rw [if_pos hc, if_pos ⟨by show (p : Int) ≤ x; omega, by show (x : Int) ≤ (p : Int) + ((n : Int) - 1); omega⟩]
    show (j : Int) = (j : Int) + 1 - 1; omega
  · rw [if_neg hc, if_neg (fun k => hc ⟨by have := k.1; show p ≤ x; have h1 : (p : Int) ≤ x := this; omega, by have h2 : (x : Int) ≤ (p : Int) + ((n : Int) - 1) := k.2; omega⟩)]
    exact F.own x hx
theorem MI.start : MI bs0 (List.replicate 128 0) 0 :=
  ⟨bs0_ok, by simp, by decide, fun x hx => by
    have e : ownH (bs0.sp 1).hs x = -1 := ownH_none fun i hi => absurd hi (Nat.not_lt_zero _)
    rw [e, show (List.replicate 128 (0:Int)).getD x 0 = 0 from by rw [List.getD, List.getElem?_replicate, if_pos hx]; rfl]; rfl⟩
theorem MI.up {s : BS} {ow : List Int} {j : Nat} (F : MI s ow j) : MI s ow (j + 1) := ⟨F.ok, F.len, by have := F.tot; omega, F.own⟩
structure Op where
  kind : Int
  space : Int
  addr : Int
  len : Int
  width : Int
  own : Int
  wr : Bool
  val : Int
  raw : Bool
def opK : Enc Op where
  f r := [.int .i64 r.kind, .int .i64 r.space, .int .u64 r.addr, .int .u64 r.len, .int .i64 r.width, .int .i64 r.own, .bool r.wr, .int .u64 r.val, .bool r.raw]
  sz := 9
  d := ⟨0, 0, 0, 0, 0, 0, false, 0, false⟩
  len _ := rfl
  pos := by decide
  one r v hv := by simp at hv; rcases hv with rfl | rfl | rfl | rfl | rfl | rfl | rfl | rfl | rfl <;> rfl
def okO (r : Op) : Prop := isU r.addr ∧ isU r.len ∧ isU r.val
theorem okO_of {l : List Op} (h : ∀ i, i < l.length → okO (l.getD i opK.d)) : ∀ i, okO (l.getD i opK.d) := fun i => by
  by_cases hi : i < l.length
  · exact h i hi
  · have : l.getD i opK.d = opK.d := by simp [List.getD, List.getElem?_eq_none (Nat.le_of_not_lt hi)]
    rw [this]; unfold okO isU opK; simp
structure MZ where
  s : BS
  ow : List Int
end Go.Ios
