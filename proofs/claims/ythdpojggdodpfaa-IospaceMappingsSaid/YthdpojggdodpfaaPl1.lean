/-
  A bus with one mapping: what maps, accesses and enabling make of it.
-/
import Derived.Test.YthdpojggdodpfaaMdl7
set_option linter.unusedSimpArgs false
set_option linter.unusedVariables false
namespace Go.Ios
open Go.Sv
theorem not_busy0 {m : Nat} (hm : m < 3) (x y : Int) : ¬ busy (bs0.sp m).hs x y := fun k => by
  have e : (bs0.sp m) = spD := by
    obtain rfl | rfl | rfl : m = 0 ∨ m = 1 ∨ m = 2 := by omega
    · rfl
    · rfl
    · rfl
  have := k.1
  rw [e] at this
  exact absurd this (Nat.not_lt_zero _)
theorem map0 {m : Nat} {h : MH} {A : Option Addr} {c : Nat} {s : BS} (hm : m < 3) (hh : h.ok) (e : mapG bs0 m h A c = s) : s.ok ∧ (s.sp m).hs = [h] ∧ s.en = bs0.en ∧ s.fl = [] ∧ s.tr = [] ∧ s.total = 1 := by
  subst e
  refine ⟨mapG_ok bs0_ok hm hh (not_busy0 hm _ _) (by decide) A c, ?_, rfl, rfl, rfl, rfl⟩
  rw [mapG_sp bs0_ok hm, if_pos rfl]
  have e : (bs0.sp m) = spD := by
    obtain rfl | rfl | rfl : m = 0 ∨ m = 1 ∨ m = 2 := by omega
    · rfl
    · rfl
    · rfl
  rw [e]; rfl
theorem newH_ok {bp : Nat} {x y o : Int} (hx : isU x) (hr : okR x y) (h1 : 0 ≤ o) (h2 : o < 256) : (⟨bp, x, y, o, none, 0, []⟩ : MH).ok := ⟨hx, hr, h1, h2, .inl ⟨rfl, rfl⟩, fun i => by simp⟩
theorem accOne {s s' : BS} {m : Nat} {h : MH} {a : Acs} (hk : s.ok) (hm : m < 3) (e : (s.sp m).hs = [h]) (hwf : wfA a) (hs : a.space = m) (h1 : h.base ≤ a.addr) (h2 : a.addr + a.width - 1 ≤ h.lst) (ht : s.tr.length ≠ 65536)
    {A : Option Addr} {c : Nat} {tA : Option Addr} {tc : Nat} (hA : wrs s a → A ≠ none) (hs' : accS s a A c tA tc = s') :
    s'.ok ∧ (s'.sp m).hs = [if wrs s a then wrH h a A c else h] ∧ s'.en = s.en ∧ s'.fl = (if lvM s a = true then useL s.fl a else s.fl) ∧ s'.tr = s.tr ++ [rec s a] ∧ lvM s a = s.en.getD h.own.toNat false ∧ fh s a = h ∧ ownM s a.space a.addr = h.own := by
  subst hs'
  have hW1 : 1 ≤ a.width := by have := hwf.1; unfold isW at this; omega
  obtain ⟨l1, l2, l3, l4⟩ := lv_one hm e hs h1 h2 hW1
  have h3 := acc_en s a A c tA tc
  refine ⟨accS_ok hk hwf hA tA tc ht, acc_one hk hm e hs l3 l4 A c tA tc, h3.1, h3.2.1, h3.2.2, l1, l3, ?_⟩
  rw [ownM, l2, hs, Int.toNat_natCast, e]; rfl
theorem fl_nil {s : BS} {a : Acs} (h : s.fl = []) : flM s a = false := by
  rw [flM, h]; simp [hitN]
theorem useL_nil (a : Acs) : useL [] a = [] := by simp [useL, hitN]
def pkM (s : BS) (z x : Int) : Int := match fnd s z x with
  | some i => byt (mh (s.sp z.toNat).hs i).bs (x - (mh (s.sp z.toNat).hs i).base).toNat
  | none => 0
theorem rdL_one (l : List Int) (k : Nat) : rdL l k 1 = byt l k := by
  rw [rdL, rdL]
  have : pw 0 = 1 := rfl
  rw [this]; simp
theorem pk_some {s : BS} {m i : Nat} {x : Int} (h : fnd s m x = some i) : pkM s m x = byt (mh (s.sp m).hs i).bs (x - (mh (s.sp m).hs i).base).toNat := by rw [pkM, h]; rfl
end Go.Ios
