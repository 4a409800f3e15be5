/-
  Plain laws of the governor.
-/
import Derived.Test.YtaafpnoffdcbnaaPl1
set_option linter.unusedSimpArgs false
set_option linter.unusedVariables false
set_option linter.unusedSectionVars false
namespace Go.Perf
open Go.Sv
theorem prmN (u d s : Int) : ∃ (U : Int) (D S : Nat), prmM u d s = ⟨U, D, S⟩ ∧ 1 ≤ U ∧ U ≤ 100 ∧ (D : Int) < U ∧ 1 ≤ S ∧ S ≤ 4 := by
  have h1 := modM_lt u (n := 100) (by omega)
  obtain ⟨D, hD, hD2⟩ := modN d (n := (1 + modM u 100).toNat) (by omega)
  obtain ⟨S, hS, hS2⟩ := modN s (n := 4) (by omega)
  refine ⟨1 + modM u 100, D, 1 + S, ?_, by omega, by omega, by omega, by omega, by omega⟩
  rw [prmM, hD, hS]; congr 1
def gW (T : List Pt) (U : Int) (D S : Nat) (j : Nat) : Gov := ⟨T, U, D, S, 0, T.length - 1, T.length - 1, j⟩
section
variable {T : List Pt} (h : okT T) {U : Int} {D S : Nat} (h1 : 1 ≤ U) (h2 : U ≤ 100) (h3 : (D : Int) < U) (h4 : 1 ≤ S) (h5 : S ≤ 4)
include h h1 h2 h3 h4 h5
theorem newE_zero : newE T U D S = 0 := newE_ok (if_pos h) (by unfold badPr; omega)
theorem gW_ok {j : Nat} (hj : j < S) : (gW T U D S j).ok := by
  have := h.1
  exact ⟨h, h1, h2, by show (0 : Int) ≤ D; omega, h3, by show (1 : Int) ≤ S; omega, by show (S : Int) ≤ 1000; omega, Nat.zero_le _, Nat.le_refl _, by show T.length - 1 < T.length; omega, by show (0 : Int) ≤ j; omega, by show (j : Int) < S; omega⟩
theorem wait0 (hU : ¬ U = 100) : sampG (gov0 T U D S) 100 = gW T U D S 0 ∧ sampV (gov0 T U D S) 100 = ((T.length - 1 : Nat) : Int) ∧ sampE 100 = 0 :=
  samp_hi (g := gov0 T U D S) (x := 100) (by unfold okX; omega) (by show U < 100; omega)
theorem waitS {x j : Nat} (hx : x < D) (hj : j + 1 < S) : sampG (gW T U D S j) x = gW T U D S (j + 1) ∧ sampV (gW T U D S j) x = ((T.length - 1 : Nat) : Int) ∧ sampE x = 0 :=
  samp_wait (g := gW T U D S j) (x := x) (by unfold okX; omega) (by show ¬ U < (x : Int); omega) (by show (x : Int) < D; omega) (by show ¬ (S : Int) ≤ (j : Int) + 1; omega)
theorem waitE {x j : Nat} (hx : x < D) (hj : j + 1 = S) : ∃ m : Nat, sampV (gW T U D S j) x = m ∧ sampE x = 0 ∧ m ≤ T.length - 1 ∧ (x : Int) * (T.getD (T.length - 1) ptK.d).f ≤ U * (T.getD m ptK.d).f ∧ ∀ i, i < m → ¬ (x : Int) * (T.getD (T.length - 1) ptK.d).f ≤ U * (T.getD i ptK.d).f := by
  have hs := samp_suf (g := gW T U D S j) (x := x) (by unfold okX; omega) (by show ¬ U < (x : Int); omega) (by show (x : Int) < D; omega) (by show (S : Int) ≤ (j : Int) + 1; omega)
  have hb := suf_bd (gW_ok h h1 h2 h3 h4 h5 (show j < S by omega)) (x := x) (by show (x : Int) < D; omega)
  exact ⟨_, hs.2.1, hs.2.2, hb.1.2, hb.2.1, fun i hi => hb.2.2 i (Nat.zero_le _) hi⟩
end
end Go.Perf
namespace Go.Perf
open Go.Sv
theorem samp_ys (g : Gov) (x : Int) : (sampG g x).ys = g.ys := by
  unfold sampG
  repeat' split
  all_goals rfl
theorem samp_v (g : Gov) {x : Int} (h : okX x) : sampV g x = (sampG g x).cu ∧ sampE x = 0 := ⟨if_pos h, if_pos h⟩
theorem samp_prm (g : Gov) (x : Int) : (sampG g x).up = g.up ∧ (sampG g x).dn = g.dn ∧ (sampG g x).sm = g.sm ∧ (sampG g x).lo = g.lo ∧ (sampG g x).hi = g.hi := by
  unfold sampG
  repeat' split
  all_goals exact ⟨rfl, rfl, rfl, rfl, rfl⟩
structure SwS where
  g : Gov
  acc : List POp
  A : Option Addr
  c : Nat
structure SwS.ok (z : SwS) (T : List Pt) (j : Nat) : Prop where
  g : z.g.ok
  ys : z.g.ys = T
  run : ∀ r, sP T (z.acc ++ r) 0 (pt T 0).v = sP T r z.g.cu (pt T z.g.cu).v
  len : z.acc.length ≤ 2 * j
theorem SwS.ok.cu {z : SwS} {T : List Pt} {j : Nat} (h : z.ok T j) : z.g.cu < T.length := by
  have h1 := h.g.l2
  have h2 := h.g.l3
  rw [h.ys] at h2; omega
theorem SwS.ok.next {z : SwS} {T : List Pt} {j : Nat} (h : z.ok T j) (hT : okT T) (x : Int) (A : Option Addr) (c : Nat) :
    SwS.ok ⟨sampG z.g x, z.acc ++ (transM T z.g.cu (sampG z.g x).cu).1, A, c⟩ T (j + 1) := by
  have hk := samp_ok h.g x
  have hy : (sampG z.g x).ys = T := (samp_ys _ _).trans h.ys
  have hc2 : (sampG z.g x).cu < T.length := by have h1 := hk.l2; have h2 := hk.l3; rw [hy] at h2; omega
  refine ⟨hk, hy, fun r => ?_, ?_⟩
  · show sP T (z.acc ++ _ ++ r) 0 _ = _
    rw [List.append_assoc, h.run, tr_run hT h.cu hc2]
  · show (z.acc ++ _).length ≤ _
    have := transM_len T z.g.cu (sampG z.g x).cu
    have := h.len
    rw [List.length_append]; omega
theorem SwS.ok.next_cu {z : SwS} {T : List Pt} {j : Nat} (h : z.ok T j) (x : Int) : (sampG z.g x).cu < T.length := by
  have hk := samp_ok h.g x
  have hy : (sampG z.g x).ys = T := (samp_ys _ _).trans h.ys
  have h1 := hk.l2
  have h2 := hk.l3
  rw [hy] at h2; omega
theorem SwS.ok.safe {z : SwS} {T : List Pt} {j : Nat} (h : z.ok T j) (hT : okT T) : safeM T 0 z.acc = true := by
  have := h.run []
  rw [List.append_nil] at this
  have h0 := hT.1
  rw [safeM, if_pos ⟨hT, by unfold isI; omega⟩]
  exact this.trans rfl
end Go.Perf
