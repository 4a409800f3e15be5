/-
  No cell of these rows narrows 'for every input' (looked for: loops, veiled, ifaces, maps, wideKeys, modest, calm, conditions, laid).
  DERIVED. THE GIVEN ROWS OF THIS SEAT. 5 by the template 'for every input the law returns true; each argument reads behind the call as it read before'; 0 by the template 'total and deterministic' (their statements: YthdpojggdodpfaaTotals.lean).
  GIVEN WITH THE SEED: the statements are not yours to turn. If you find one false, say at which input.
  Laid BY PROGRAM, IN A SANDBOX (cutbox-rows.mjs): the forced cells as the released guide's own fill.sh prints them over the translation be81e31747fd40a0… (all of the seat's roots in one cut). By AI agents, Wed Nov 11 2026. No macro, syntax, notation, axiom, sorry.
-/
import Derived.Test.YthdpojggdodpfaaChecked
import GoSem.Claim
import GoSem.ClaimJoined
import GoSem.ClaimMapViews
import Derived.JoinedTies
import Derived.KernelRfl
namespace Go.Proofs.Ythdpojggdodpfaa
/- THE CELL 'sum', in the pinned program and in every row, IS THE sha256 OF THE DUMP (.gsa) THAT YthdpojggdodpfaaProg.lean LOADS. Nothing in Lean hashes anything: it is a label: what it is worth is what the hold of that sum in a sandbox is worth. -/
noncomputable def Try.pinned : Pinned := { name := "ythdpojggdodpfaa", sum := "be81e31747fd40a028cd483086ec0214f005518acc217c51a9ee675b485b7576", checked := Try.checked }
namespace Rows
def none {H : Type} : Left H := { results := [], args := [] }

/-- 'platformfwlaw09.IospaceReadsBack': WHATEVER THE INPUT: true; the input reads as it did. -/
def iospaceReadsBackSpec : ChangeSpec := { name := "iospaceReadsBack", fn := fun _ => fun
  | [d1, d2, d3, d4, d5, d6] => { results := [.lit (.bool true)], args := [d1, d2, d3, d4, d5, d6] }
  | _ => none }
def iospaceReadsBackRow : OpenClaim := { program := "ythdpojggdodpfaa", sum := "be81e31747fd40a028cd483086ec0214f005518acc217c51a9ee675b485b7576", func := "platformfw/platformfwlaw09.IospaceReadsBack", spec := "iospaceReadsBack", inPlace := ["slices.overlaps[*platformfw/iospace.mapping]"], unfollowed := true, recurses := true, apart := false }
def IospaceReadsBackSaid : Prop := iospaceReadsBackRow.holds Try.pinned (OpenSpec.ofChange iospaceReadsBackSpec)

/-- ITS FALSE NEIGHBOUR: 'it returns false'. Refute it at one input. -/
def iospaceReadsBackWrong : ChangeSpec := { name := "iospaceReadsBack", fn := fun _ => fun
  | [d1, d2, d3, d4, d5, d6] => { results := [.lit (.bool false)], args := [d1, d2, d3, d4, d5, d6] }
  | _ => none }
def IospaceReadsBackWrongFalsely : Prop := iospaceReadsBackRow.holds Try.pinned (OpenSpec.ofChange iospaceReadsBackWrong)

/-- 'platformfwlaw09.IospaceMappings': WHATEVER THE INPUT: true; the input reads as it did. -/
def iospaceMappingsSpec : ChangeSpec := { name := "iospaceMappings", fn := fun _ => fun
  | [d] => { results := [.lit (.bool true)], args := [d] }
  | _ => none }
def iospaceMappingsRow : OpenClaim := { program := "ythdpojggdodpfaa", sum := "be81e31747fd40a028cd483086ec0214f005518acc217c51a9ee675b485b7576", func := "platformfw/platformfwlaw09.IospaceMappings", spec := "iospaceMappings", inPlace := ["slices.overlaps[*platformfw/iospace.mapping]"], unfollowed := true, recurses := true, apart := false }
def IospaceMappingsSaid : Prop := iospaceMappingsRow.holds Try.pinned (OpenSpec.ofChange iospaceMappingsSpec)

/-- ITS FALSE NEIGHBOUR: 'it returns false'. Refute it at one input. -/
def iospaceMappingsWrong : ChangeSpec := { name := "iospaceMappings", fn := fun _ => fun
  | [d] => { results := [.lit (.bool false)], args := [d] }
  | _ => none }
def IospaceMappingsWrongFalsely : Prop := iospaceMappingsRow.holds Try.pinned (OpenSpec.ofChange iospaceMappingsWrong)

/-- 'platformfwlaw09.IospaceFaults': WHATEVER THE INPUT: true; the input reads as it did. -/
def iospaceFaultsSpec : ChangeSpec := { name := "iospaceFaults", fn := fun _ => fun
  | [d1, d2, d3] => { results := [.lit (.bool true)], args := [d1, d2, d3] }
  | _ => none }
def iospaceFaultsRow : OpenClaim := { program := "ythdpojggdodpfaa", sum := "be81e31747fd40a028cd483086ec0214f005518acc217c51a9ee675b485b7576", func := "platformfw/platformfwlaw09.IospaceFaults", spec := "iospaceFaults", inPlace := ["slices.overlaps[*platformfw/iospace.mapping]"], unfollowed := true, recurses := true, apart := false }
def IospaceFaultsSaid : Prop := iospaceFaultsRow.holds Try.pinned (OpenSpec.ofChange iospaceFaultsSpec)

/-- ITS FALSE NEIGHBOUR: 'it returns false'. Refute it at one input. -/
def iospaceFaultsWrong : ChangeSpec := { name := "iospaceFaults", fn := fun _ => fun
  | [d1, d2, d3] => { results := [.lit (.bool false)], args := [d1, d2, d3] }
  | _ => none }
def IospaceFaultsWrongFalsely : Prop := iospaceFaultsRow.holds Try.pinned (OpenSpec.ofChange iospaceFaultsWrong)

/-- 'platformfwlaw09.IospaceMatchesModel': WHATEVER THE INPUT: true; the input reads as it did. -/
def iospaceMatchesModelSpec : ChangeSpec := { name := "iospaceMatchesModel", fn := fun _ => fun
  | [d] => { results := [.lit (.bool true)], args := [d] }
  | _ => none }
def iospaceMatchesModelRow : OpenClaim := { program := "ythdpojggdodpfaa", sum := "be81e31747fd40a028cd483086ec0214f005518acc217c51a9ee675b485b7576", func := "platformfw/platformfwlaw09.IospaceMatchesModel", spec := "iospaceMatchesModel", inPlace := ["slices.overlaps[*platformfw/iospace.mapping]"], unfollowed := true, recurses := true, apart := false }
def IospaceMatchesModelSaid : Prop := iospaceMatchesModelRow.holds Try.pinned (OpenSpec.ofChange iospaceMatchesModelSpec)

/-- ITS FALSE NEIGHBOUR: 'it returns false'. Refute it at one input. -/
def iospaceMatchesModelWrong : ChangeSpec := { name := "iospaceMatchesModel", fn := fun _ => fun
  | [d] => { results := [.lit (.bool false)], args := [d] }
  | _ => none }
def IospaceMatchesModelWrongFalsely : Prop := iospaceMatchesModelRow.holds Try.pinned (OpenSpec.ofChange iospaceMatchesModelWrong)

/-- 'platformfwlaw09.IospaceDeadAccesses': WHATEVER THE INPUT: true; the input reads as it did. -/
def iospaceDeadAccessesSpec : ChangeSpec := { name := "iospaceDeadAccesses", fn := fun _ => fun
  | [d1, d2] => { results := [.lit (.bool true)], args := [d1, d2] }
  | _ => none }
def iospaceDeadAccessesRow : OpenClaim := { program := "ythdpojggdodpfaa", sum := "be81e31747fd40a028cd483086ec0214f005518acc217c51a9ee675b485b7576", func := "platformfw/platformfwlaw09.IospaceDeadAccesses", spec := "iospaceDeadAccesses", inPlace := ["slices.overlaps[*platformfw/iospace.mapping]"], unfollowed := true, recurses := true, apart := false }
def IospaceDeadAccessesSaid : Prop := iospaceDeadAccessesRow.holds Try.pinned (OpenSpec.ofChange iospaceDeadAccessesSpec)

/-- ITS FALSE NEIGHBOUR: 'it returns false'. Refute it at one input. -/
def iospaceDeadAccessesWrong : ChangeSpec := { name := "iospaceDeadAccesses", fn := fun _ => fun
  | [d1, d2] => { results := [.lit (.bool false)], args := [d1, d2] }
  | _ => none }
def IospaceDeadAccessesWrongFalsely : Prop := iospaceDeadAccessesRow.holds Try.pinned (OpenSpec.ofChange iospaceDeadAccessesWrong)

/- THE SECOND FORM. 'bulk': how many values and letters a reading holds, each counted each time it is reached (what is shared counts as often as it is met; a slice's spare places count too). A statement '..UptoSaid' is the law's where the arguments, and the package variables that the reading takes, are together of bulk at most 1048576: NARROWER than '..Said'. Prove '..Said' where nothing that the law and all that it calls make is longer than what came in: it says more and counts as full. Else prove '..UptoSaid'. A law counts once. -/
mutual
def uptoBulk {H : Type} : DataW H → Nat
  | .lit (.string bytes) => bytes.length + 1
  | .lit _ => 1
  | .nil => 1
  | .ptr d => uptoBulk d + 1
  | .slice elems spare => uptoBulkAll elems + uptoBulkAll spare + 1
  | .agg parts => uptoBulkAll parts + 1
  | .iface _ d => uptoBulk d + 1
  | .map entries => uptoBulkEntries entries + 1
  | .held _ => 1
def uptoBulkAll {H : Type} : List (DataW H) → Nat
  | [] => 0
  | d :: r => uptoBulk d + uptoBulkAll r
def uptoBulkEntries {H : Type} : List (Lit × DataW H) → Nat
  | [] => 0
  | x :: r => uptoBulkEntry x + uptoBulkEntries r
def uptoBulkEntry {H : Type} : Lit × DataW H → Nat
  | (.string bytes, d) => bytes.length + uptoBulk d + 1
  | (_, d) => uptoBulk d + 1
 end
def uptoSmall : (H : Type) → List (DataW H) → Bool := fun _ ds => decide (uptoBulkAll ds ≤ 1048576)
def OpenSpec.upto (s : _root_.Go.ChangeSpec) : _root_.Go.OpenSpec := { _root_.Go.OpenSpec.ofChange s with cond := some uptoSmall }

/-- 'platformfwlaw09.IospaceReadsBack', WHERE WHAT IT READS IS OF BULK AT MOST 1048576: true; the input reads as it did. -/
def iospaceReadsBackUptoRow : OpenClaim := { program := "ythdpojggdodpfaa", sum := "be81e31747fd40a028cd483086ec0214f005518acc217c51a9ee675b485b7576", func := "platformfw/platformfwlaw09.IospaceReadsBack", spec := "iospaceReadsBack", inPlace := ["slices.overlaps[*platformfw/iospace.mapping]"], unfollowed := true, recurses := true, apart := false, narrowed := true }
def IospaceReadsBackUptoSaid : Prop := iospaceReadsBackUptoRow.holds Try.pinned (OpenSpec.upto iospaceReadsBackSpec)

/-- 'platformfwlaw09.IospaceMappings', WHERE WHAT IT READS IS OF BULK AT MOST 1048576: true; the input reads as it did. -/
def iospaceMappingsUptoRow : OpenClaim := { program := "ythdpojggdodpfaa", sum := "be81e31747fd40a028cd483086ec0214f005518acc217c51a9ee675b485b7576", func := "platformfw/platformfwlaw09.IospaceMappings", spec := "iospaceMappings", inPlace := ["slices.overlaps[*platformfw/iospace.mapping]"], unfollowed := true, recurses := true, apart := false, narrowed := true }
def IospaceMappingsUptoSaid : Prop := iospaceMappingsUptoRow.holds Try.pinned (OpenSpec.upto iospaceMappingsSpec)

/-- 'platformfwlaw09.IospaceFaults', WHERE WHAT IT READS IS OF BULK AT MOST 1048576: true; the input reads as it did. -/
def iospaceFaultsUptoRow : OpenClaim := { program := "ythdpojggdodpfaa", sum := "be81e31747fd40a028cd483086ec0214f005518acc217c51a9ee675b485b7576", func := "platformfw/platformfwlaw09.IospaceFaults", spec := "iospaceFaults", inPlace := ["slices.overlaps[*platformfw/iospace.mapping]"], unfollowed := true, recurses := true, apart := false, narrowed := true }
def IospaceFaultsUptoSaid : Prop := iospaceFaultsUptoRow.holds Try.pinned (OpenSpec.upto iospaceFaultsSpec)

/-- 'platformfwlaw09.IospaceMatchesModel', WHERE WHAT IT READS IS OF BULK AT MOST 1048576: true; the input reads as it did. -/
def iospaceMatchesModelUptoRow : OpenClaim := { program := "ythdpojggdodpfaa", sum := "be81e31747fd40a028cd483086ec0214f005518acc217c51a9ee675b485b7576", func := "platformfw/platformfwlaw09.IospaceMatchesModel", spec := "iospaceMatchesModel", inPlace := ["slices.overlaps[*platformfw/iospace.mapping]"], unfollowed := true, recurses := true, apart := false, narrowed := true }
def IospaceMatchesModelUptoSaid : Prop := iospaceMatchesModelUptoRow.holds Try.pinned (OpenSpec.upto iospaceMatchesModelSpec)

/-- 'platformfwlaw09.IospaceDeadAccesses', WHERE WHAT IT READS IS OF BULK AT MOST 1048576: true; the input reads as it did. -/
def iospaceDeadAccessesUptoRow : OpenClaim := { program := "ythdpojggdodpfaa", sum := "be81e31747fd40a028cd483086ec0214f005518acc217c51a9ee675b485b7576", func := "platformfw/platformfwlaw09.IospaceDeadAccesses", spec := "iospaceDeadAccesses", inPlace := ["slices.overlaps[*platformfw/iospace.mapping]"], unfollowed := true, recurses := true, apart := false, narrowed := true }
def IospaceDeadAccessesUptoSaid : Prop := iospaceDeadAccessesUptoRow.holds Try.pinned (OpenSpec.upto iospaceDeadAccessesSpec)

end Rows
end Go.Proofs.Ythdpojggdodpfaa
