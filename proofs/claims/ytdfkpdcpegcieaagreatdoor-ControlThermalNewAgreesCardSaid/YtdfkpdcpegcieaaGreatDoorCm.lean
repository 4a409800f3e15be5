/-
  A climate that has been spoilt (plain).
-/
import Derived.Test.YtdfkpdcpegcieaaGreatDoorObA
set_option linter.unusedSimpArgs false
set_option linter.unusedVariables false
namespace Go.Ctl
open Go.Sv Go.Perf
structure CMg where
  l1 : List RB
  l : List RB
  A : Option Addr
  c : Nat
  M : List HL
  mn : Nat
  B : Option Addr
  d : Nat
  base : Int
  lim : Int
  bud : Int
abbrev xUp (r : RB) (k : Int) : RB := { r with up := IntKind.i64.wrap (modM k 104 - 2) }
abbrev xPt (r : RB) : RB := { r with A := none, c := 0, ys := [] }
abbrev xCp (r : RB) (k : Int) : RB := { r with h := ⟨IntKind.i64.wrap (r.h.cap - IntKind.i64.wrap ((IntKind.u64.wrap k).tmod 3)), r.h.amb⟩ }
abbrev zS (l : List RB) (A : Option Addr) (c : Nat) (M : List HL) (B : Option Addr) (d : Nat) (base lim bud : Int) : CMg := ⟨l, l, A, c, M, M.length, B, d, base, lim, bud⟩
structure CmOk (A3 : Option Addr) (l : List RB) (B3 : Option Addr) (M : List HL) (z : CMg) : Prop where
  rd : ∀ w, RS w rbK A3 z.l1 → (∀ i, i < l.length → (l.getD i rbK.d).rs w) → RS w rbK z.A z.l ∧ ∀ i, i < z.l.length → (z.l.getD i rbK.d).rs w
  rm : ∀ w, RS w hlK B3 M → RS w hlK z.B z.M
  n : z.l.length ≤ 5
  sz : ∀ i, i < z.l.length → (z.l.getD i rbK.d).ys.length ≤ 1000000 ∧ (z.l.getD i rbK.d).tr.length ≤ 1000000
  m : z.mn = z.M.length
  m2 : z.M.length ≤ 12
theorem cl_sz {l : List RB} {M : List HL} {base lim bd : Int} (h : ClOk l M base lim bd) {i : Nat} (hi : i < l.length) : (l.getD i rbK.d).ys.length ≤ 1000000 ∧ (l.getD i rbK.d).tr.length ≤ 1000000 := by
  obtain ⟨x, hx⟩ := h.r i hi
  have h1 := hx.y
  have h2 := hx.r
  omega
theorem CmOk.same {A3 B3 : Option Addr} {c3 d3 : Nat} {l : List RB} {M : List HL} {base lim bd : Int} (h : ClOk l M base lim bd) {b2 l2 u2 : Int} : CmOk A3 l B3 M ⟨l, l, A3, c3, M, M.length, B3, d3, b2, l2, u2⟩ :=
  ⟨fun w h1 h2 => ⟨h1, h2⟩, fun w h => h, h.n2, fun i hi => cl_sz h hi, rfl, h.m⟩
theorem CmOk.set {A3 B3 : Option Addr} {c3 d3 : Nat} {l : List RB} {M : List HL} {base lim bd : Int} (h : ClOk l M base lim bd) {b2 l2 u2 : Int} {i : Nat} (hi : i < l.length) {x : RB} (hx : ∀ w, (l.getD i rbK.d).rs w → x.rs w) (h1 : x.ys.length ≤ 1000000) (h2 : x.tr.length ≤ 1000000) :
    CmOk A3 l B3 M ⟨l.set i x, l.set i x, A3, c3, M, M.length, B3, d3, b2, l2, u2⟩ := by
  have hg : ∀ k, (l.set i x).getD k rbK.d = if i = k then x else l.getD k rbK.d := fun k => by
    by_cases e : i = k
    · subst e; rw [if_pos rfl, getD_set_self _ _ _ _ hi]
    · rw [if_neg e, getD_set_other _ _ _ e]
  refine ⟨fun w k1 k2 => ⟨k1, fun k hk => ?_⟩, fun w h => h, by rw [List.length_set]; exact h.n2, fun k hk => ?_, rfl, h.m⟩
  · show ((l.set i x).getD k rbK.d).rs w
    rw [hg k]
    split
    · exact hx w (k2 i hi)
    · exact k2 k (by simpa using hk)
  · show ((l.set i x).getD k rbK.d).ys.length ≤ 1000000 ∧ ((l.set i x).getD k rbK.d).tr.length ≤ 1000000
    rw [hg k]
    split
    · exact ⟨h1, h2⟩
    · exact cl_sz h (by simpa using hk)
theorem CmOk.set0 {A3 B3 : Option Addr} {c3 d3 : Nat} {l : List RB} {M : List HL} {base lim bd : Int} (h : ClOk l M base lim bd) {b2 l2 u2 : Int} {i : Nat} (hi : i < l.length) {x : RB} (hx : ∀ w, (l.getD i rbK.d).rs w → x.rs w) (h1 : x.ys = (l.getD i rbK.d).ys) (h2 : x.tr = (l.getD i rbK.d).tr) :
    CmOk A3 l B3 M ⟨l.set i x, l.set i x, A3, c3, M, M.length, B3, d3, b2, l2, u2⟩ := CmOk.set h hi hx (by rw [h1]; exact (cl_sz h hi).1) (by rw [h2]; exact (cl_sz h hi).2)
theorem CmOk.none {A3 B3 : Option Addr} {d3 : Nat} {l : List RB} {M : List HL} {base lim bd : Int} (h : ClOk l M base lim bd) {b2 l2 u2 : Int} {q : Nat} (hq : q ≤ M.length) : CmOk A3 l B3 M ⟨l, [], Option.none, 0, M.take q, q, B3, d3, b2, l2, u2⟩ := by
  have e : (M.take q).length = q := by rw [List.length_take]; omega
  refine ⟨fun w k1 k2 => ⟨.inl rfl, fun i hi => absurd hi (Nat.not_lt_zero _)⟩, fun w h => h.take q, Nat.zero_le _, fun i hi => absurd hi (Nat.not_lt_zero _), e.symm, ?_⟩
  show (M.take q).length ≤ 12
  have := h.m
  omega
open Classical in
noncomputable def erN (P : Prop) : Int := if P then 0 else 1
open Classical in
theorem erN_iff {P : Prop} : erN P = 0 ↔ P := by
  unfold erN
  split
  · rename_i h; exact ⟨fun _ => h, fun _ => rfl⟩
  · rename_i h; exact ⟨fun k => absurd k (by decide), fun k => absurd k h⟩
theorem erN_t {P : Prop} (h : P) : erN P = 0 := erN_iff.2 h
open Classical in
theorem erN_f {P : Prop} (h : ¬ P) : erN P = 1 := by unfold erN; rw [if_neg h]
theorem er_bad {P : Prop} {p : Option Addr} (h : p = none ↔ ¬ P) (h1 : p = none) (h2 : ¬ ¬ erN P = 0) : False := h.1 h1 (erN_iff.1 (Classical.not_not.1 h2))
theorem er_eq {P : Prop} {p : Option Addr} (h : p = none ↔ ¬ P) : decide (p = none) = decide (¬ erN P = 0) := decide_eq_decide.2 (h.trans (not_congr erN_iff.symm))
theorem er_bad2 {P : Prop} {p : Option Addr} (h : p = none ↔ ¬ P) (h1 : ¬ p = none) (h2 : ¬ erN P = 0) : False := h1 (h.2 fun k => h2 (erN_iff.2 k))
end Go.Ctl
