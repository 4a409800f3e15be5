/-
  No cell of these rows narrows 'for every input' (looked for: loops, veiled, ifaces, maps, wideKeys, modest, calm, conditions, laid).
  DERIVED. THE GIVEN ROWS OF THIS SEAT. 9 by the template 'for every input the law returns true; each argument reads behind the call as it read before'; 0 by the template 'total and deterministic' (their statements: YtcmalbkflbfidaaTotals.lean).
  GIVEN WITH THE SEED: the statements are not yours to turn. If you find one false, say at which input.
  Laid BY PROGRAM, IN A SANDBOX (cutbox-rows.mjs): the forced cells as the released guide's own fill.sh prints them over the translation 20276245644eaefa… (all of the seat's roots in one cut). By AI agents, Wed Nov 11 2026. No macro, syntax, notation, axiom, sorry.
-/
import Derived.Test.YtcmalbkflbfidaaChecked
import GoSem.Claim
import GoSem.ClaimJoined
import GoSem.ClaimMapViews
import Derived.JoinedTies
import Derived.KernelRfl
namespace Go.Proofs.Ytcmalbkflbfidaa
/- THE CELL 'sum', in the pinned program and in every row, IS THE sha256 OF THE DUMP (.gsa) THAT YtcmalbkflbfidaaProg.lean LOADS. Nothing in Lean hashes anything: it is a label: what it is worth is what the hold of that sum in a sandbox is worth. -/
noncomputable def Try.pinned : Pinned := { name := "ytcmalbkflbfidaa", sum := "20276245644eaefa93d7a361b16c774e02e74849e95f85f6fd4fe6c83cca53ea", checked := Try.checked }
namespace Rows
def none {H : Type} : Left H := { results := [], args := [] }

/-- 'platformfwlaw25.RailsNewAgrees': WHATEVER THE INPUT: true; the input reads as it did. -/
def railsNewAgreesSpec : ChangeSpec := { name := "railsNewAgrees", fn := fun _ => fun
  | [d1, d2, d3] => { results := [.lit (.bool true)], args := [d1, d2, d3] }
  | _ => none }
def railsNewAgreesRow : OpenClaim := { program := "ytcmalbkflbfidaa", sum := "20276245644eaefa93d7a361b16c774e02e74849e95f85f6fd4fe6c83cca53ea", func := "platformfw/platformfwlaw25.RailsNewAgrees", spec := "railsNewAgrees", recurses := true, plainKeys := false, apart := false }
def RailsNewAgreesSaid : Prop := railsNewAgreesRow.holds Try.pinned (OpenSpec.ofChange railsNewAgreesSpec)

/-- ITS FALSE NEIGHBOUR: 'it returns false'. Refute it at one input. -/
def railsNewAgreesWrong : ChangeSpec := { name := "railsNewAgrees", fn := fun _ => fun
  | [d1, d2, d3] => { results := [.lit (.bool false)], args := [d1, d2, d3] }
  | _ => none }
def RailsNewAgreesWrongFalsely : Prop := railsNewAgreesRow.holds Try.pinned (OpenSpec.ofChange railsNewAgreesWrong)

/-- 'platformfwlaw25.RailsOperationsAlternate': WHATEVER THE INPUT: true; the input reads as it did. -/
def railsOperationsAlternateSpec : ChangeSpec := { name := "railsOperationsAlternate", fn := fun _ => fun
  | [d1, d2] => { results := [.lit (.bool true)], args := [d1, d2] }
  | _ => none }
def railsOperationsAlternateRow : OpenClaim := { program := "ytcmalbkflbfidaa", sum := "20276245644eaefa93d7a361b16c774e02e74849e95f85f6fd4fe6c83cca53ea", func := "platformfw/platformfwlaw25.RailsOperationsAlternate", spec := "railsOperationsAlternate", recurses := true, plainKeys := false, apart := false }
def RailsOperationsAlternateSaid : Prop := railsOperationsAlternateRow.holds Try.pinned (OpenSpec.ofChange railsOperationsAlternateSpec)

/-- ITS FALSE NEIGHBOUR: 'it returns false'. Refute it at one input. -/
def railsOperationsAlternateWrong : ChangeSpec := { name := "railsOperationsAlternate", fn := fun _ => fun
  | [d1, d2] => { results := [.lit (.bool false)], args := [d1, d2] }
  | _ => none }
def RailsOperationsAlternateWrongFalsely : Prop := railsOperationsAlternateRow.holds Try.pinned (OpenSpec.ofChange railsOperationsAlternateWrong)

/-- 'platformfwlaw25.RailsSupplyIsOn': WHATEVER THE INPUT: true; the input reads as it did. -/
def railsSupplyIsOnSpec : ChangeSpec := { name := "railsSupplyIsOn", fn := fun _ => fun
  | [d1, d2] => { results := [.lit (.bool true)], args := [d1, d2] }
  | _ => none }
def railsSupplyIsOnRow : OpenClaim := { program := "ytcmalbkflbfidaa", sum := "20276245644eaefa93d7a361b16c774e02e74849e95f85f6fd4fe6c83cca53ea", func := "platformfw/platformfwlaw25.RailsSupplyIsOn", spec := "railsSupplyIsOn", recurses := true, plainKeys := false, apart := false }
def RailsSupplyIsOnSaid : Prop := railsSupplyIsOnRow.holds Try.pinned (OpenSpec.ofChange railsSupplyIsOnSpec)

/-- ITS FALSE NEIGHBOUR: 'it returns false'. Refute it at one input. -/
def railsSupplyIsOnWrong : ChangeSpec := { name := "railsSupplyIsOn", fn := fun _ => fun
  | [d1, d2] => { results := [.lit (.bool false)], args := [d1, d2] }
  | _ => none }
def RailsSupplyIsOnWrongFalsely : Prop := railsSupplyIsOnRow.holds Try.pinned (OpenSpec.ofChange railsSupplyIsOnWrong)

/-- 'platformfwlaw25.RailsPoweredChain': WHATEVER THE INPUT: true; the input reads as it did. -/
def railsPoweredChainSpec : ChangeSpec := { name := "railsPoweredChain", fn := fun _ => fun
  | [d1, d2, d3] => { results := [.lit (.bool true)], args := [d1, d2, d3] }
  | _ => none }
def railsPoweredChainRow : OpenClaim := { program := "ytcmalbkflbfidaa", sum := "20276245644eaefa93d7a361b16c774e02e74849e95f85f6fd4fe6c83cca53ea", func := "platformfw/platformfwlaw25.RailsPoweredChain", spec := "railsPoweredChain", recurses := true, plainKeys := false, apart := false }
def RailsPoweredChainSaid : Prop := railsPoweredChainRow.holds Try.pinned (OpenSpec.ofChange railsPoweredChainSpec)

/-- ITS FALSE NEIGHBOUR: 'it returns false'. Refute it at one input. -/
def railsPoweredChainWrong : ChangeSpec := { name := "railsPoweredChain", fn := fun _ => fun
  | [d1, d2, d3] => { results := [.lit (.bool false)], args := [d1, d2, d3] }
  | _ => none }
def RailsPoweredChainWrongFalsely : Prop := railsPoweredChainRow.holds Try.pinned (OpenSpec.ofChange railsPoweredChainWrong)

/-- 'platformfwlaw25.RailsCallsAgree': WHATEVER THE INPUT: true; the input reads as it did. -/
def railsCallsAgreeSpec : ChangeSpec := { name := "railsCallsAgree", fn := fun _ => fun
  | [d1, d2, d3] => { results := [.lit (.bool true)], args := [d1, d2, d3] }
  | _ => none }
def railsCallsAgreeRow : OpenClaim := { program := "ytcmalbkflbfidaa", sum := "20276245644eaefa93d7a361b16c774e02e74849e95f85f6fd4fe6c83cca53ea", func := "platformfw/platformfwlaw25.RailsCallsAgree", spec := "railsCallsAgree", recurses := true, plainKeys := false, apart := false }
def RailsCallsAgreeSaid : Prop := railsCallsAgreeRow.holds Try.pinned (OpenSpec.ofChange railsCallsAgreeSpec)

/-- ITS FALSE NEIGHBOUR: 'it returns false'. Refute it at one input. -/
def railsCallsAgreeWrong : ChangeSpec := { name := "railsCallsAgree", fn := fun _ => fun
  | [d1, d2, d3] => { results := [.lit (.bool false)], args := [d1, d2, d3] }
  | _ => none }
def RailsCallsAgreeWrongFalsely : Prop := railsCallsAgreeRow.holds Try.pinned (OpenSpec.ofChange railsCallsAgreeWrong)

/-- 'platformfwlaw25.RailsCountUses': WHATEVER THE INPUT: true; the input reads as it did. -/
def railsCountUsesSpec : ChangeSpec := { name := "railsCountUses", fn := fun _ => fun
  | [d1, d2] => { results := [.lit (.bool true)], args := [d1, d2] }
  | _ => none }
def railsCountUsesRow : OpenClaim := { program := "ytcmalbkflbfidaa", sum := "20276245644eaefa93d7a361b16c774e02e74849e95f85f6fd4fe6c83cca53ea", func := "platformfw/platformfwlaw25.RailsCountUses", spec := "railsCountUses", recurses := true, plainKeys := false, apart := false }
def RailsCountUsesSaid : Prop := railsCountUsesRow.holds Try.pinned (OpenSpec.ofChange railsCountUsesSpec)

/-- ITS FALSE NEIGHBOUR: 'it returns false'. Refute it at one input. -/
def railsCountUsesWrong : ChangeSpec := { name := "railsCountUses", fn := fun _ => fun
  | [d1, d2] => { results := [.lit (.bool false)], args := [d1, d2] }
  | _ => none }
def RailsCountUsesWrongFalsely : Prop := railsCountUsesRow.holds Try.pinned (OpenSpec.ofChange railsCountUsesWrong)

/-- 'platformfwlaw25.RailsReadyAtLastOperation': WHATEVER THE INPUT: true; the input reads as it did. -/
def railsReadyAtLastOperationSpec : ChangeSpec := { name := "railsReadyAtLastOperation", fn := fun _ => fun
  | [d1, d2, d3] => { results := [.lit (.bool true)], args := [d1, d2, d3] }
  | _ => none }
def railsReadyAtLastOperationRow : OpenClaim := { program := "ytcmalbkflbfidaa", sum := "20276245644eaefa93d7a361b16c774e02e74849e95f85f6fd4fe6c83cca53ea", func := "platformfw/platformfwlaw25.RailsReadyAtLastOperation", spec := "railsReadyAtLastOperation", recurses := true, plainKeys := false, apart := false }
def RailsReadyAtLastOperationSaid : Prop := railsReadyAtLastOperationRow.holds Try.pinned (OpenSpec.ofChange railsReadyAtLastOperationSpec)

/-- ITS FALSE NEIGHBOUR: 'it returns false'. Refute it at one input. -/
def railsReadyAtLastOperationWrong : ChangeSpec := { name := "railsReadyAtLastOperation", fn := fun _ => fun
  | [d1, d2, d3] => { results := [.lit (.bool false)], args := [d1, d2, d3] }
  | _ => none }
def RailsReadyAtLastOperationWrongFalsely : Prop := railsReadyAtLastOperationRow.holds Try.pinned (OpenSpec.ofChange railsReadyAtLastOperationWrong)

/-- 'platformfwlaw25.RailsCopiesAreIndependent': WHATEVER THE INPUT: true; the input reads as it did. -/
def railsCopiesAreIndependentSpec : ChangeSpec := { name := "railsCopiesAreIndependent", fn := fun _ => fun
  | [d1, d2, d3] => { results := [.lit (.bool true)], args := [d1, d2, d3] }
  | _ => none }
def railsCopiesAreIndependentRow : OpenClaim := { program := "ytcmalbkflbfidaa", sum := "20276245644eaefa93d7a361b16c774e02e74849e95f85f6fd4fe6c83cca53ea", func := "platformfw/platformfwlaw25.RailsCopiesAreIndependent", spec := "railsCopiesAreIndependent", recurses := true, plainKeys := false, apart := false }
def RailsCopiesAreIndependentSaid : Prop := railsCopiesAreIndependentRow.holds Try.pinned (OpenSpec.ofChange railsCopiesAreIndependentSpec)

/-- ITS FALSE NEIGHBOUR: 'it returns false'. Refute it at one input. -/
def railsCopiesAreIndependentWrong : ChangeSpec := { name := "railsCopiesAreIndependent", fn := fun _ => fun
  | [d1, d2, d3] => { results := [.lit (.bool false)], args := [d1, d2, d3] }
  | _ => none }
def RailsCopiesAreIndependentWrongFalsely : Prop := railsCopiesAreIndependentRow.holds Try.pinned (OpenSpec.ofChange railsCopiesAreIndependentWrong)

/-- 'platformfwlaw25.RailsReleaseUndoesAcquire': WHATEVER THE INPUT: true; the input reads as it did. -/
def railsReleaseUndoesAcquireSpec : ChangeSpec := { name := "railsReleaseUndoesAcquire", fn := fun _ => fun
  | [d1, d2, d3] => { results := [.lit (.bool true)], args := [d1, d2, d3] }
  | _ => none }
def railsReleaseUndoesAcquireRow : OpenClaim := { program := "ytcmalbkflbfidaa", sum := "20276245644eaefa93d7a361b16c774e02e74849e95f85f6fd4fe6c83cca53ea", func := "platformfw/platformfwlaw25.RailsReleaseUndoesAcquire", spec := "railsReleaseUndoesAcquire", recurses := true, plainKeys := false, apart := false }
def RailsReleaseUndoesAcquireSaid : Prop := railsReleaseUndoesAcquireRow.holds Try.pinned (OpenSpec.ofChange railsReleaseUndoesAcquireSpec)

/-- ITS FALSE NEIGHBOUR: 'it returns false'. Refute it at one input. -/
def railsReleaseUndoesAcquireWrong : ChangeSpec := { name := "railsReleaseUndoesAcquire", fn := fun _ => fun
  | [d1, d2, d3] => { results := [.lit (.bool false)], args := [d1, d2, d3] }
  | _ => none }
def RailsReleaseUndoesAcquireWrongFalsely : Prop := railsReleaseUndoesAcquireRow.holds Try.pinned (OpenSpec.ofChange railsReleaseUndoesAcquireWrong)

/- THE SECOND FORM. 'bulk': how many values and letters a reading holds, each counted each time it is reached (what is shared counts as often as it is met; a slice's spare places count too). A statement '..UptoSaid' is the law's where the arguments, and the package variables that the reading takes, are together of bulk at most 1048576: NARROWER than '..Said'. Prove '..Said' where nothing that the law and all that it calls make is longer than what came in: it says more and counts as full. Else prove '..UptoSaid'. A law counts once. -/
mutual
def uptoBulk {H : Type} : DataW H → Nat
  | .lit (.string bytes) => bytes.length + 1
  | .lit _ => 1
  | .nil => 1
  | .ptr d => uptoBulk d + 1
  | .slice elems spare => uptoBulkAll elems + uptoBulkAll spare + 1
  | .agg parts => uptoBulkAll parts + 1
  | .iface _ d => uptoBulk d + 1
  | .map entries => uptoBulkEntries entries + 1
  | .held _ => 1
def uptoBulkAll {H : Type} : List (DataW H) → Nat
  | [] => 0
  | d :: r => uptoBulk d + uptoBulkAll r
def uptoBulkEntries {H : Type} : List (Lit × DataW H) → Nat
  | [] => 0
  | x :: r => uptoBulkEntry x + uptoBulkEntries r
def uptoBulkEntry {H : Type} : Lit × DataW H → Nat
  | (.string bytes, d) => bytes.length + uptoBulk d + 1
  | (_, d) => uptoBulk d + 1
 end
def uptoSmall : (H : Type) → List (DataW H) → Bool := fun _ ds => decide (uptoBulkAll ds ≤ 1048576)
def OpenSpec.upto (s : _root_.Go.ChangeSpec) : _root_.Go.OpenSpec := { _root_.Go.OpenSpec.ofChange s with cond := some uptoSmall }

/-- 'platformfwlaw25.RailsNewAgrees', WHERE WHAT IT READS IS OF BULK AT MOST 1048576: true; the input reads as it did. -/
def railsNewAgreesUptoRow : OpenClaim := { program := "ytcmalbkflbfidaa", sum := "20276245644eaefa93d7a361b16c774e02e74849e95f85f6fd4fe6c83cca53ea", func := "platformfw/platformfwlaw25.RailsNewAgrees", spec := "railsNewAgrees", recurses := true, plainKeys := false, apart := false, narrowed := true }
def RailsNewAgreesUptoSaid : Prop := railsNewAgreesUptoRow.holds Try.pinned (OpenSpec.upto railsNewAgreesSpec)

/-- 'platformfwlaw25.RailsOperationsAlternate', WHERE WHAT IT READS IS OF BULK AT MOST 1048576: true; the input reads as it did. -/
def railsOperationsAlternateUptoRow : OpenClaim := { program := "ytcmalbkflbfidaa", sum := "20276245644eaefa93d7a361b16c774e02e74849e95f85f6fd4fe6c83cca53ea", func := "platformfw/platformfwlaw25.RailsOperationsAlternate", spec := "railsOperationsAlternate", recurses := true, plainKeys := false, apart := false, narrowed := true }
def RailsOperationsAlternateUptoSaid : Prop := railsOperationsAlternateUptoRow.holds Try.pinned (OpenSpec.upto railsOperationsAlternateSpec)

/-- 'platformfwlaw25.RailsSupplyIsOn', WHERE WHAT IT READS IS OF BULK AT MOST 1048576: true; the input reads as it did. -/
def railsSupplyIsOnUptoRow : OpenClaim := { program := "ytcmalbkflbfidaa", sum := "20276245644eaefa93d7a361b16c774e02e74849e95f85f6fd4fe6c83cca53ea", func := "platformfw/platformfwlaw25.RailsSupplyIsOn", spec := "railsSupplyIsOn", recurses := true, plainKeys := false, apart := false, narrowed := true }
def RailsSupplyIsOnUptoSaid : Prop := railsSupplyIsOnUptoRow.holds Try.pinned (OpenSpec.upto railsSupplyIsOnSpec)

/-- 'platformfwlaw25.RailsPoweredChain', WHERE WHAT IT READS IS OF BULK AT MOST 1048576: true; the input reads as it did. -/
def railsPoweredChainUptoRow : OpenClaim := { program := "ytcmalbkflbfidaa", sum := "20276245644eaefa93d7a361b16c774e02e74849e95f85f6fd4fe6c83cca53ea", func := "platformfw/platformfwlaw25.RailsPoweredChain", spec := "railsPoweredChain", recurses := true, plainKeys := false, apart := false, narrowed := true }
def RailsPoweredChainUptoSaid : Prop := railsPoweredChainUptoRow.holds Try.pinned (OpenSpec.upto railsPoweredChainSpec)

/-- 'platformfwlaw25.RailsCallsAgree', WHERE WHAT IT READS IS OF BULK AT MOST 1048576: true; the input reads as it did. -/
def railsCallsAgreeUptoRow : OpenClaim := { program := "ytcmalbkflbfidaa", sum := "20276245644eaefa93d7a361b16c774e02e74849e95f85f6fd4fe6c83cca53ea", func := "platformfw/platformfwlaw25.RailsCallsAgree", spec := "railsCallsAgree", recurses := true, plainKeys := false, apart := false, narrowed := true }
def RailsCallsAgreeUptoSaid : Prop := railsCallsAgreeUptoRow.holds Try.pinned (OpenSpec.upto railsCallsAgreeSpec)

/-- 'platformfwlaw25.RailsCountUses', WHERE WHAT IT READS IS OF BULK AT MOST 1048576: true; the input reads as it did. -/
def railsCountUsesUptoRow : OpenClaim := { program := "ytcmalbkflbfidaa", sum := "20276245644eaefa93d7a361b16c774e02e74849e95f85f6fd4fe6c83cca53ea", func := "platformfw/platformfwlaw25.RailsCountUses", spec := "railsCountUses", recurses := true, plainKeys := false, apart := false, narrowed := true }
def RailsCountUsesUptoSaid : Prop := railsCountUsesUptoRow.holds Try.pinned (OpenSpec.upto railsCountUsesSpec)

/-- 'platformfwlaw25.RailsReadyAtLastOperation', WHERE WHAT IT READS IS OF BULK AT MOST 1048576: true; the input reads as it did. -/
def railsReadyAtLastOperationUptoRow : OpenClaim := { program := "ytcmalbkflbfidaa", sum := "20276245644eaefa93d7a361b16c774e02e74849e95f85f6fd4fe6c83cca53ea", func := "platformfw/platformfwlaw25.RailsReadyAtLastOperation", spec := "railsReadyAtLastOperation", recurses := true, plainKeys := false, apart := false, narrowed := true }
def RailsReadyAtLastOperationUptoSaid : Prop := railsReadyAtLastOperationUptoRow.holds Try.pinned (OpenSpec.upto railsReadyAtLastOperationSpec)

/-- 'platformfwlaw25.RailsCopiesAreIndependent', WHERE WHAT IT READS IS OF BULK AT MOST 1048576: true; the input reads as it did. -/
def railsCopiesAreIndependentUptoRow : OpenClaim := { program := "ytcmalbkflbfidaa", sum := "20276245644eaefa93d7a361b16c774e02e74849e95f85f6fd4fe6c83cca53ea", func := "platformfw/platformfwlaw25.RailsCopiesAreIndependent", spec := "railsCopiesAreIndependent", recurses := true, plainKeys := false, apart := false, narrowed := true }
def RailsCopiesAreIndependentUptoSaid : Prop := railsCopiesAreIndependentUptoRow.holds Try.pinned (OpenSpec.upto railsCopiesAreIndependentSpec)

/-- 'platformfwlaw25.RailsReleaseUndoesAcquire', WHERE WHAT IT READS IS OF BULK AT MOST 1048576: true; the input reads as it did. -/
def railsReleaseUndoesAcquireUptoRow : OpenClaim := { program := "ytcmalbkflbfidaa", sum := "20276245644eaefa93d7a361b16c774e02e74849e95f85f6fd4fe6c83cca53ea", func := "platformfw/platformfwlaw25.RailsReleaseUndoesAcquire", spec := "railsReleaseUndoesAcquire", recurses := true, plainKeys := false, apart := false, narrowed := true }
def RailsReleaseUndoesAcquireUptoSaid : Prop := railsReleaseUndoesAcquireUptoRow.holds Try.pinned (OpenSpec.upto railsReleaseUndoesAcquireSpec)

end Rows
end Go.Proofs.Ytcmalbkflbfidaa
