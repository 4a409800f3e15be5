/-
  What is known of powers, loads and budget along a law (plain).
-/
import Derived.Test.YtdfkpdcpegcieaaGreatDoorLa
set_option linter.unusedSimpArgs false
set_option linter.unusedVariables false
namespace Go.Ctl
open Go.Sv Go.Perf
structure Bdg (l : List RB) (lim base bd : Int) (T : TS) (lds : List Int) : Prop where
  n : T.ds.length = l.length
  ok : T.ok lim
  base : T.base = base
  bud : T.bud = bd
  hd : ∀ k, k < l.length → hdA T.D k = (l.getD k rbK.d).h
  ys : ∀ k, k < l.length → (dmA T.ds k).ys = (l.getD k rbK.d).ys
  ld : ∀ k, k < l.length → (dmA T.ds k).ld = lds.getD k (intK .i64).d
  ll : lds.length = l.length
theorem Bdg.new {l : List RB} {M : List HL} {base lim bd : Int} (h : ClOk l M base lim bd) : Bdg l lim base bd (newTS (l.map RB.bd) M base lim bd) (List.replicate l.length 0) := by
  have hg : ∀ k, k < l.length → dmA (newTS (l.map RB.bd) M base lim bd).ds k = mkD base lim (l.getD k rbK.d).bd := fun k hk => by simp [dmA, newTS, List.getD, hk]
  refine ⟨by simp [newTS], h.ts, rfl, rfl, fun k hk => ?_, fun k hk => ?_, fun k hk => ?_, List.length_replicate⟩
  · simp [hdA, newTS, List.getD, hk]; rfl
  · rw [hg k hk]; rfl
  · rw [hg k hk]
    have : (List.replicate l.length (0 : Int)).getD k (intK .i64).d = 0 := by simp [List.getD, hk]
    rw [this]; rfl
theorem Bdg.sl {l : List RB} {base lim bd : Int} {t : PT} {lds : List Int} (h : Bdg l lim base bd t.T lds) {k : Nat} {ld : Int} (hs : slOk t k ld) : Bdg l lim base bd (slT t k ld).T (lds.set k ld) := by
  have hk : k < t.ds.length := by have := hs.1.2; omega
  have hn : t.ds.length = l.length := by have := h.n; simpa [PT.T] using this
  have hg : ∀ i, i < l.length → dmA (slT t k ld).T.ds i = if k = i then { (pdA t.ds k).x with ld := ld } else (pdA t.ds i).x := fun i hi => by
    have e : dmA (slT t k ld).T.ds i = ((t.ds.set k (ldP (pdA t.ds k) ld)).getD i domK.d).x := dm_of (t.ds.set k (ldP (pdA t.ds k) ld)) (by rw [List.length_set]; omega)
    rw [e, getD_set_pd' _ _ hk]
    split
    · rfl
    · rfl
  have hg0 : ∀ i, i < l.length → dmA t.T.ds i = (pdA t.ds i).x := fun i hi => dm_of _ (by omega)
  refine ⟨?_, slT_ok (dm := k) h.ok hs, h.base, h.bud, h.hd, fun i hi => ?_, fun i hi => ?_, by rw [List.length_set]; exact h.ll⟩
  · rw [← hn]; simp [PT.T, slT]
  · have h1 := h.ys i hi
    rw [hg0 i hi] at h1
    rw [hg i hi]
    split
    · rename_i e; subst e; exact h1
    · exact h1
  · have h1 := h.ld i hi
    rw [hg0 i hi] at h1
    rw [hg i hi]
    by_cases e : k = i
    · subst e
      rw [if_pos rfl, getD_set_self _ _ _ _ (by rw [h.ll]; exact hi)]
    · rw [if_neg e, getD_set_other _ _ _ e]; exact h1
theorem Bdg.run {l : List RB} {base lim bd md : Int} {T T2 : TS} {lds : List Int} (h : Bdg l lim base bd T lds) (hR : RunR md T T2) : Bdg l lim base bd T2 lds :=
  ⟨hR.n.trans h.n, hR.ok h.ok, hR.base.trans h.base, hR.bud.trans h.bud, fun k hk => by rw [hR.D]; exact h.hd k hk, fun k hk => (hR.d k (by rw [h.n]; exact hk)).2.2.1.trans (h.ys k hk), fun k hk => (hR.d k (by rw [h.n]; exact hk)).2.2.2.1.trans (h.ld k hk), h.ll⟩
theorem Bdg.y1 {l : List RB} {base lim bd : Int} {T : TS} {lds : List Int} (h : Bdg l lim base bd T lds) {k : Nat} (hk : k < l.length) : 1 ≤ (l.getD k rbK.d).ys.length := by
  have h1 := (h.ok.d k (by rw [h.n]; exact hk)).t.1.1
  rw [h.ys k hk] at h1
  exact h1
structure PwB (l : List RB) (lim base bd md : Int) (lds p : List Int) : Prop where
  len : p.length = l.length
  lo : ∀ j, j < l.length → 0 ≤ p.getD j (intK .i64).d
  gr : ∀ j, j < l.length → p.getD j (intK .i64).d ≤ (l.getD j rbK.d).h.amb * (lim - base)
  g2 : ∀ j, j < l.length → p.getD j (intK .i64).d ≤ 16777216
  top : ∀ j, j < l.length → p.getD j (intK .i64).d ≤ ((l.getD j rbK.d).ys.getD ((l.getD j rbK.d).ys.length - 1) ptK.d).p
  off : ∀ j, j < l.length → (lds.getD j (intK .i64).d = 0 ∨ md ≠ 1) → p.getD j (intK .i64).d = 0
  s0 : ∀ j, j ≤ l.length → 0 ≤ sumK p j
  s1 : ∀ j, j ≤ l.length → sumK p j ≤ bd
theorem Bdg.pw {l : List RB} {base lim bd md : Int} {T T2 : TS} {lds : List Int} (h : Bdg l lim base bd T lds) (hR : RunR md T T2) : PwB l lim base bd md lds T2.p := by
  have hw := hR.pw h.ok
  have hn := h.n
  have hlo : ∀ j, j < l.length → 0 ≤ T2.p.getD j 0 := fun j hj => hw.lo j (by omega)
  have hgr : ∀ j, j < l.length → T2.p.getD j 0 ≤ grM (l.getD j rbK.d).h base lim := fun j hj => by
    have h1 := hw.gr j (by omega)
    rw [h.ok.gr j (by omega), h.hd j hj, h.base] at h1
    exact h1
  have hs0 : ∀ j, j ≤ l.length → 0 ≤ sumK T2.p j := by
    intro j
    induction j with
    | zero => intro _; exact Int.le_refl _
    | succ j ih =>
      intro hj
      have h1 := ih (by omega)
      have h2 := hlo j (by omega)
      rw [sumK]; omega
  have hs1 : ∀ d, d ≤ l.length → sumK T2.p (l.length - d) ≤ sumK T2.p l.length := by
    intro d
    induction d with
    | zero => intro _; exact Int.le_refl _
    | succ d ih =>
      intro hd
      have h1 := ih (by omega)
      have h2 := hlo (l.length - (d + 1)) (by omega)
      have e : l.length - d = (l.length - (d + 1)) + 1 := by omega
      rw [e, sumK] at h1
      omega
  have hsum := hw.sum
  rw [hn, h.bud] at hsum
  refine ⟨hw.len.trans hn, hlo, fun j hj => ?_, fun j hj => ?_, fun j hj => ?_, fun j hj hz => ?_, hs0, fun j hj => ?_⟩
  · have := hgr j hj
    unfold grM at this
    show T2.p.getD j 0 ≤ _
    omega
  · have := hgr j hj
    unfold grM at this
    show T2.p.getD j 0 ≤ _
    omega
  · have h1 := hw.top j (by omega)
    rw [h.ys j hj] at h1
    exact h1
  · refine hw.off j (by omega) ?_
    unfold ldM
    split
    · rename_i e
      rw [h.ld j hj]
      rcases hz with hz | hz
      · exact hz
      · exact absurd e hz
    · rfl
  · have h1 := hs1 (l.length - j) (by omega)
    rw [show l.length - (l.length - j) = j by omega] at h1
    omega
end Go.Ctl
