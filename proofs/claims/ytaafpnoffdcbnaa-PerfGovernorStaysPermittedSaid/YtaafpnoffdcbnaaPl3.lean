/-
  The governor stays within its limits.
-/
import Derived.Test.YtaafpnoffdcbnaaPl2
set_option linter.unusedSimpArgs false
set_option linter.unusedVariables false
namespace Go.Perf
open Go.Sv
/-- A governor of table T with its thresholds and limits. -/
structure StO (g : Gov) (T : List Pt) (U : Int) (D : Nat) (p h : Nat) : Prop where
  ok : g.ok
  ys : g.ys = T
  up : g.up = U
  dn : g.dn = D
  lo : g.lo = p
  hi : g.hi = h
theorem lim_st {T : List Pt} {U : Int} {D S p q : Nat} (h : okT T) (hg : (gov0 T U D S).ok) (hpq : p + q < T.length) : limE (gov0 T U D S) p (p + q) = 0 ∧ StO (limG (gov0 T U D S) p (p + q)) T U D p (p + q) := by
  have hb : ¬ badL (gov0 T U D S) p (p + q) := by unfold badL; simp only [gov0]; omega
  refine ⟨if_neg hb, limG_ok hg _ _, ?_, ?_, ?_, ?_, ?_⟩ <;> rw [limG, if_neg hb]
  · rfl
  · rfl
  · rfl
  · rfl
  · show ((p : Int) + (q : Int)).toNat = p + q; omega
theorem StO.next {g : Gov} {T : List Pt} {U : Int} {D p h : Nat} (k : StO g T U D p h) (x : Int) : StO (sampG g x) T U D p h := by
  obtain ⟨h1, h2, h3, h4, h5⟩ := samp_prm g x
  exact ⟨samp_ok k.ok x, (samp_ys g x).trans k.ys, h1.trans k.up, h2.trans k.dn, h4.trans k.lo, h5.trans k.hi⟩
theorem StO.bd {g : Gov} {T : List Pt} {U : Int} {D p h : Nat} (k : StO g T U D p h) : p ≤ g.cu ∧ g.cu ≤ h ∧ h < T.length := by
  have h1 := k.ok.l1
  have h2 := k.ok.l2
  have h3 := k.ok.l3
  rw [k.lo] at h1; rw [k.hi] at h2 h3; rw [k.ys] at h3
  exact ⟨h1, h2, h3⟩
theorem StO.high {g : Gov} {T : List Pt} {U : Int} {D p h : Nat} (k : StO g T U D p h) {x : Int} (hx : okX x) (h1 : U < x) : (sampG g x).cu = h := by
  rw [(samp_hi hx (by rw [k.up]; exact h1)).1]; exact k.hi
theorem StO.mid {g : Gov} {T : List Pt} {U : Int} {D p h : Nat} (k : StO g T U D p h) {x : Int} (hx : okX x) (h1 : ¬ U < x) (h2 : (D : Int) ≤ x) : (sampG g x).cu = g.cu := by
  rw [(samp_mid hx (by rw [k.up]; exact h1) (by rw [k.dn]; omega)).1]
theorem StO.low {g : Gov} {T : List Pt} {U : Int} {D p h : Nat} (k : StO g T U D p h) {x : Int} (hx : okX x) (h1 : ¬ U < x) (h2 : ¬ (D : Int) ≤ x) :
    (sampG g x).cu ≤ g.cu ∧ x * (T.getD g.cu ptK.d).f ≤ U * (T.getD (sampG g x).cu ptK.d).f := by
  have hd : x < g.dn := by rw [k.dn]; omega
  have hu : ¬ g.up < x := by rw [k.up]; exact h1
  have hc : x * (T.getD g.cu ptK.d).f ≤ U * (T.getD g.cu ptK.d).f := by
    have := good_cu k.ok hd
    unfold good Gov.f pt at this
    rw [k.ys, k.up] at this; exact this
  by_cases h3 : g.sm ≤ g.n + 1
  · have hb := suf_bd k.ok hd
    rw [(samp_suf hx hu hd h3).1]
    refine ⟨hb.1.2, ?_⟩
    have := hb.2.1
    unfold good Gov.f pt at this
    rw [k.ys, k.up] at this; exact this
  · rw [(samp_wait hx hu hd h3).1]; exact ⟨Nat.le_refl _, hc⟩
end Go.Perf
