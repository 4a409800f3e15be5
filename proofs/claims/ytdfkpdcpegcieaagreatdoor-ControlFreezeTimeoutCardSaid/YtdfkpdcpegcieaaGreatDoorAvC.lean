/-
  Points that many orders of a region reach (for the general rule).
-/
import Derived.Test.YtdfkpdcpegcieaaGreatDoorSvA
import Derived.Test.YtdfkpdcpegcieaaGreatDoorSvB
set_option linter.unusedSimpArgs false
set_option linter.unusedVariables false
namespace Go.Sv
section
variable {P : Program} {N : NN} {ops : Array Oper} {Q : Exit → Act → World → Prop} {E E0 : Env} {S S0 S1 : World → Prop}
/-- What follows from a point that many orders reach is shown once. -/
theorem AV.cutAt {α : Type} {fuel : Nat} {listed : Array Bool} (lt : Array Bool) (ft : Nat) (G : α → Env) (T : α → World → Prop) (ht : ∀ z, AV P N ops Q S0 ft lt (G z) (T z)) (hm : (∀ z, AV P N ops Q S0 ft lt (G z) (T z)) → AV P N ops Q S0 fuel listed E S) : AV P N ops Q S0 fuel listed E S := hm ht
theorem AV.to {fuel : Nat} {listed : Array Bool} (h : AV P N ops Q S0 fuel listed E0 S1) (hE : Sub E0 E) (hS : ∀ w, S w → S1 w) : AV P N ops Q S0 fuel listed E S := KV.env _ hE (KV.heap hS h)
/-- Addresses of things made. -/
structure G5 where
  a : Option Addr
  b : Option Addr
  c : Option Addr
  d : Option Addr
  e : Option Addr
  n : Nat
end
end Go.Sv
