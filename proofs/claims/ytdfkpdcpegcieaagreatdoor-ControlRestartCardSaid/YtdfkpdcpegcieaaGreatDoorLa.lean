/-
  The control's calls in the shape that the laws use.
-/
import Derived.Test.YtdfkpdcpegcieaaGreatDoorW13
set_option linter.unusedSimpArgs false
set_option linter.unusedVariables false
namespace Go.Proofs.YtdfkpdcpegcieaaGreatDoor
open Go.Sv Go.Perf Go.Ctl
/-- What a change of domains keeps of a control. -/
structure KpT (lim : Int) (t t2 : PT) : Prop where
  a : t2.a = t.a
  n : t2.ds.length = t.ds.length
  ok : t2.T.ok lim
  D : t2.D = t.D
  E : t2.E = t.E
  p : t2.p = t.p
  base : t2.base = t.base
  bud : t2.bud = t.bud
theorem KpT.refl {lim : Int} {t : PT} (h : t.T.ok lim) : KpT lim t t := ⟨rfl, rfl, h, rfl, rfl, rfl, rfl, rfl⟩
theorem slA_fn (t : PT) {lim : Int} (hT : t.T.ok lim) (dm ld : Int) {w : World} : Fx Tryz.prog 16 [.pointer (some ⟨t.a.b, 0, none⟩), .int .i64 dm, .int .i64 ld] w (tobj t) no (fun v L => ∃ t2 : PT, KpT lim t t2 ∧ (∃ e, v = .int .i64 e) ∧ L = tobj t2) :=
  (setLoad_fn t dm ld).mono fun v L h => by
    by_cases k : slOk t dm ld
    · obtain ⟨rfl, rfl⟩ := h.1 k
      exact ⟨slT t dm.toNat ld, ⟨rfl, List.length_set .., slT_ok hT k, rfl, rfl, rfl, rfl, rfl⟩, ⟨_, rfl⟩, rfl⟩
    · obtain ⟨he, rfl⟩ := h.2 k
      exact ⟨t, KpT.refl hT, he, rfl⟩
theorem resA_fn (t : PT) {lim : Int} (hT : t.T.ok lim) {w : World} : Fx Tryz.prog 22 [.pointer (some ⟨t.a.b, 0, none⟩)] w (tobj t) no (fun v L => ∃ t2 : PT, KpT lim t t2 ∧ cuK t2.ds t2.ds.length = List.replicate t2.ds.length 0 ∧ L = tobj t2) :=
  (restartT_fn t hT).mono fun v L h => by
    obtain ⟨y, hy, hx, rfl⟩ := h
    refine ⟨{ t with ds := y }, ⟨rfl, hy, res_ok hT hy hx, rfl, rfl, rfl, rfl, rfl⟩, ?_, rfl⟩
    refine ext0 (by rw [cuK_len, List.length_replicate]) fun k hk => ?_
    rw [cuK_len] at hk
    have hk2 : k < y.length := hk
    rw [cuK_get _ _ hk, if_pos hk]
    have e : (pdA y k).x = resD (pdA t.ds k).x := hx k (by omega)
    rw [show (pdA y k).x.g.cu = 0 by rw [e]; rfl]
    simp [List.getD, hk2]
theorem runA_fn (t : PT) {lim : Int} (hT : t.T.ok lim) (hn0 : 0 < t.ds.length) (md : Int) {w : World} : Fx Tryz.prog 17 [.pointer (some ⟨t.a.b, 0, none⟩), .int .i64 md] w (tobj t) no (fun v L => ∃ t2 : PT, RunR md t.T t2.T ∧ t2.a = t.a ∧ t2.ds.length = t.ds.length ∧ t2.T.ok lim ∧ t2.base = t.base ∧ L = tobj t2) :=
  (run_fn t hT hn0 md).mono fun v L h => by
    obtain ⟨t2, hR, ha, rfl⟩ := h
    exact ⟨t2, hR, ha, by have := hR.n; simpa [PT.T] using this, hR.ok hT, hR.base, rfl⟩
theorem newA_fn {A : Option Addr} {n c : Nat} {l : List RB} {w : World} {B : Option Addr} {m d : Nat} {M : List HL} {base lim bud : Int} (hr : RS w rbK A l) (hn : n = l.length) (hp0 : ∀ i, i < l.length → (l.getD i rbK.d).rs w) (hr2 : RS w hlK B M) (hm : m = M.length) (hc : ClOk l M base lim bud) :
    Fx Tryz.prog 11 [.slice A n c, .slice B m d, .int .i64 base, .int .i64 lim, .int .u64 bud] w [] no (fun v L => ∃ t : PT, v = .tuple #[.pointer (some ⟨t.a.b, 0, none⟩), .int .i64 0] ∧ t.T = newTS (l.map RB.bd) M base lim bud ∧ t.T.ok lim ∧ t.ds.length = l.length ∧ t.base = base ∧ L = tobj t) :=
  (newThermal_fn hr hn (by have := hc.n2; omega) hp0 (fun i hi => by obtain ⟨x, hx⟩ := hc.r i hi; have h1 := hx.y; have h2 := hx.r; omega) hr2 hm (by have := hc.m; omega) base lim bud).mono fun v L h => by
    obtain ⟨t, rfl, ht, rfl⟩ := (h.1 hc.ok).1 hc.n1
    have hT : t.T.ok lim := by rw [ht]; exact hc.ts
    refine ⟨t, rfl, ht, hT, ?_, ?_, rfl⟩
    · have h1 := congrArg (fun T => T.ds.length) ht
      simpa [PT.T, newTS] using h1
    · exact congrArg TS.base ht
theorem tm_bd {t : PT} {lim : Int} (h : t.T.ok lim) : ∀ j, j < t.ds.length → t.base ≤ (tmps t.D t.E).getD j (intK .i64).d ∧ (tmps t.D t.E).getD j (intK .i64).d ≤ lim := fun j hj => by
  have hd := h.dl'
  have h1 : (tmps t.D t.E).getD j (intK .i64).d = tmp t.D t.E j := tmps_at (by omega)
  rw [h1]
  exact h.tm j (show j < t.D.length by omega)
end Go.Proofs.YtdfkpdcpegcieaaGreatDoor
