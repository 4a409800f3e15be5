/-
  A night's entries; a walk over two kinds of heap.
-/
import Derived.Test.YtdfkpdcpegcieaaGreatDoorNt
set_option linter.unusedSimpArgs false
set_option linter.unusedVariables false
namespace Go.Sv
theorem KV.or {N : NN} {K : Act → World → Prop} {E : Env} {S T : World → Prop} (h1 : KV N K E S) (h2 : KV N K E T) : KV N K E (fun w => S w ∨ T w) := fun a w hf hs => hs.elim (h1 a w hf) (h2 a w hf)
end Go.Sv
namespace Go.Ctl
open Go.Sv Go.Perf
abbrev esN (L : Int) : List Int := (List.replicate 3 (0 : Int)).set 1 (max ((List.replicate 3 (0 : Int)).getD 1 (intK .u64).d) L)
theorem esN_le {L x : Int} (hL : 0 ≤ L) (hx : 0 ≤ x) : allLe (esN L) x (esN L).length = true ↔ L ≤ x := by
  unfold allLe
  rw [decide_eq_true_iff]
  have e : esN L = [0, max 0 L, 0] := rfl
  rw [e]
  constructor
  · intro h
    have := h 1 (by show 1 < 3; decide)
    simp at this
    omega
  · intro h i hi
    have hi3 : i < 3 := hi
    match i, hi3 with
    | 0, _ => simpa using hx
    | 1, _ => simp; omega
    | 2, _ => simpa using hx
end Go.Ctl
namespace Go.Ctl
open Go.Sv Go.Perf
/-- A sequence over no devices, and a freezer's clock. -/
structure QG where
  q : Nat
  A : Option Addr
  c : Nat
  rest : List Value
  ck : Int
end Go.Ctl
