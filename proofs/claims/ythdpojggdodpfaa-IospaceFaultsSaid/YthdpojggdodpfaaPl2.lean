/-
  Planned faults, plainly.
-/
import Derived.Test.YthdpojggdodpfaaPl1
set_option linter.unusedSimpArgs false
set_option linter.unusedVariables false
namespace Go.Ios
open Go.Sv
structure FI (s : BS) (h : MH) (n f t : Nat) : Prop where
  ok : s.ok
  e : (s.sp 0).hs = [h]
  b : h.base = 0
  l : h.len = 16
  o : h.own = 7
  fl : s.fl = if f < n then [⟨0, 4, 4, ((n - f : Nat) : Int)⟩] else []
  fn : f ≤ n
  n8 : n ≤ 8
  tr : s.tr.length = t
  by4 : f < n → byt h.bs 4 = 0
abbrev fa (q : Nat) : Acs := ⟨0, 4 * (q : Int), 4, true, 1⟩
theorem fa_wf {q : Nat} (h : q < 2) : wfA (fa q) := by
  obtain rfl | rfl : q = 0 ∨ q = 1 := by omega
  · exact ⟨by decide, by decide, by decide⟩
  · exact ⟨by decide, by decide, by decide⟩
theorem fa_u {q : Nat} (h : q < 2) : isU (fa q).addr := by unfold isU; show 0 ≤ 4 * (q : Int) ∧ 4 * (q : Int) ≤ _; omega
theorem FI.acc {s s' : BS} {h : MH} {n f t q : Nat} (F : FI s h n f t) {lv : Bool} (hen : s.en.getD 7 false = lv) (hq : q < 2) (ht : t < 65536) {A : Option Addr} {c : Nat} {tA : Option Addr} {tc : Nat} (hA : wrs s (fa q) → A ≠ none)
    (hs' : accS s (fa q) A c tA tc = s') : ∃ (E : Int) (f2 : Nat) (h2 : MH), accE s (fa q) = E ∧ (lv = true → q = 1 → f < n → E = 15 ∧ f2 = f + 1 ∧ pkM s' 0 4 = 0) ∧ (¬ (lv = true ∧ q = 1 ∧ f < n) → E = 0 ∧ f2 = f) ∧ FI s' h2 n f2 (t + 1) := by
  have htr : s.tr.length ≠ 65536 := by rw [F.tr]; omega
  have hb := F.b
  have hl := F.l
  obtain ⟨k1, k2, k3, k4, k5, k6, k7, k8⟩ := accOne F.ok (m := 0) (by decide) F.e (fa_wf hq) rfl (by rw [hb]; show (0 : Int) ≤ 4 * (q : Int); omega) (by show 4 * (q : Int) + 4 - 1 ≤ h.base + (h.len - 1); omega) htr hA hs'
  have hlv : lvM s (fa q) = lv := by rw [k6, F.o]; exact hen
  have hk5 : s'.tr.length = t + 1 := by rw [k5, List.length_append, F.tr]; rfl
  have hpk : ∀ h2 : MH, (s'.sp 0).hs = [h2] → h2.base = 0 → h2.len = 16 → pkM s' 0 4 = byt h2.bs 4 := fun h2 e2 b2 l2 => by
    have hf : fnd s' ((0 : Nat) : Int) 4 = some 0 := by rw [fnd_one (by decide) e2, if_pos ⟨by rw [b2]; decide, by show (4 : Int) ≤ h2.base + (h2.len - 1); rw [b2, l2]; decide⟩]
    have := pk_some hf
    rw [e2] at this
    rw [show (0 : Int) = ((0 : Nat) : Int) from rfl, this]
    show byt h2.bs (4 - h2.base).toNat = _
    rw [b2]; rfl
  by_cases hit : lv = true ∧ q = 1 ∧ f < n
  · obtain ⟨rfl, rfl, hf⟩ := hit
    have hfl : s.fl = [⟨0, 4, 4, ((n - f : Nat) : Int)⟩] := by rw [F.fl, if_pos hf]
    have hN : hitN s.fl (fa 1) = 0 := by
      rw [hfl]; exact hitN_at (fun j hj => by omega) (by simp) ⟨rfl, (show ovl 4 4 (4 * ((1 : Nat) : Int)) 4 by decide)⟩
    have hfm : flM s (fa 1) = true := by rw [flM, hlv, hN, hfl]; rfl
    have hnw : ¬ wrs s (fa 1) := fun k => by have := k.2.2; rw [hfm] at this; cases this
    rw [if_neg hnw] at k2
    rw [if_pos hlv] at k4
    refine ⟨15, f + 1, h, by rw [accE, if_pos hfm], fun _ _ _ => ⟨rfl, rfl, by rw [hpk h k2 hb hl]; exact F.by4 hf⟩, fun hn => absurd ⟨rfl, rfl, hf⟩ hn, ⟨k1, k2, hb, hl, F.o, ?_, by omega, F.n8, hk5, fun _ => F.by4 hf⟩⟩
    rw [k4]
    by_cases hc : ((n - f : Nat) : Int) = 1
    · rw [use_del hN (by rw [hfl]; simp) (by rw [hfl]; exact hc), hfl, if_neg (by omega)]; rfl
    · rw [use_dec hN (by rw [hfl]; simp) (by rw [hfl]; exact hc), hfl, if_pos (by omega)]
      show [(⟨0, 4, 4, ((n - f : Nat) : Int) - 1⟩ : Flt)] = _
      congr 2; omega
  · have hNn : lv = true → hitN s.fl (fa q) = s.fl.length := fun hlt => hitN_none fun j hj hh => by
      rw [F.fl] at hj hh
      by_cases hf : f < n
      · rw [if_pos hf] at hj hh
        have j0 : j = 0 := by simp at hj; omega
        subst j0
        have h9 : ovl 4 4 (4 * (q : Int)) 4 := hh.2
        unfold ovl at h9
        exact hit ⟨hlt, by omega, hf⟩
      · rw [if_neg hf] at hj; simp at hj
    have hfm : flM s (fa q) = false := by
      rw [flM, hlv]
      cases hlt : lv with
      | false => rfl
      | true => rw [hNn hlt]; simp
    have hfl2 : s'.fl = s.fl := by
      rw [k4, hlv]
      cases hlt : lv with
      | false => rfl
      | true => rw [if_pos rfl, use_no (hNn hlt)]
    refine ⟨0, f, if wrs s (fa q) then wrH h (fa q) A c else h, by rw [accE, hfm]; rfl, fun a1 a2 a3 => absurd ⟨a1, a2, a3⟩ hit, fun _ => ⟨rfl, rfl⟩, ⟨k1, k2, ?_, ?_, ?_, by rw [hfl2]; exact F.fl, F.fn, F.n8, hk5, fun hf => ?_⟩⟩
    · split <;> exact hb
    · split <;> exact hl
    · split <;> exact F.o
    · split
      · rename_i hw
        have hq0 : q = 0 := by
          have : lv = true := by rw [← hlv]; exact hw.2.1
          rcases Nat.lt_or_ge q 1 with h1 | h1
          · omega
          · exact absurd ⟨this, by omega, hf⟩ hit
        subst hq0
        have hrl : (raw0 h).length = h.len.toNat := raw0_len (by have := (F.ok.sp 0 (by decide)).each 0 (by rw [F.e]; simp); rw [F.e] at this; exact this)
        show byt (wrK (raw0 h) ((4 * ((0 : Nat) : Int)) - h.base).toNat 1 4) 4 = 0
        rw [hb, wrK_byt _ (by rw [hrl, hl]; decide), if_neg (by decide), raw0_byt]; exact F.by4 hf
      · exact F.by4 hf
end Go.Ios
namespace Go.Ios
open Go.Sv
structure FZ where
  f : Nat
  s : BS
  h : MH
theorem FI.en {s : BS} {h : MH} {n f t : Nat} (F : FI s h n f t) (v : Bool) : FI { s with en := s.en.set 7 v } h n f t ∧ ({ s with en := s.en.set 7 v } : BS).en.getD 7 false = v :=
  ⟨⟨F.ok.en 7 v, F.e, F.b, F.l, F.o, F.fl, F.fn, F.n8, F.tr, F.by4⟩, getD_set_self _ _ _ _ (by rw [F.ok.wf.en]; decide)⟩
theorem FI.start {bp n : Nat} {A : Option Addr} {c : Nat} {s s2 : BS} {A2 : Option Addr} {c2 : Nat} (hs : mapG bs0 0 ⟨bp, 0, 16, 7, none, 0, []⟩ A c = s) (h1 : 1 ≤ n) (h8 : n ≤ 8) (hs2 : fltG s ⟨((0 : Nat) : Int), 4, 4, n⟩ A2 c2 = s2) : FI s2 ⟨bp, 0, 16, 7, none, 0, []⟩ n 0 0 := by
  obtain ⟨k1, k2, k3, k4, k5, k6⟩ := map0 (by decide) (newH_ok (by unfold isU; decide) (by decide) (by decide) (by decide)) hs
  subst hs2
  refine ⟨k1.flt (by show isU 4; unfold isU; decide) (by show okR 4 4; decide) (by show (1 : Int) ≤ n; omega) (by show (n : Int) ≤ 64; omega) (by rw [k4]; decide) A2 c2, k2, rfl, rfl, rfl, ?_, Nat.zero_le _, h8, by show s.tr.length = 0; rw [k5]; rfl, fun _ => rfl⟩
  show s.fl ++ _ = _
  rw [k4, if_pos (by omega)]; rfl
end Go.Ios
