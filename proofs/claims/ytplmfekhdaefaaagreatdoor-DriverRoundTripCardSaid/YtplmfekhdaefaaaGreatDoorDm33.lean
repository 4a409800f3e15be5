/-
  Drivers in memory: the transitions of the model, the ranges of their numbers, what Format answers.
-/
import Derived.Test.YtplmfekhdaefaaaGreatDoorDmA
import Derived.Test.YtplmfekhdaefaaaGreatDoorDmD
set_option linter.unusedSimpArgs false
set_option linter.unusedVariables false
namespace Go.Drv
open Go.Sv
theorem rg_at {ops : List Ro} (hr : ∀ o ∈ ops, rgO o) {j : Nat} (hj : j < ops.length) : rgO (ops.getD j roK.d) := hr _ (by simp [List.getD, hj])
theorem ts_at (d : DH) (i : Nat) : d.d.ts.getD i tr0 = (d.hs.getD i thK.d).t := map_getD d.hs i
theorem ts_len (d : DH) : d.d.ts.length = d.hs.length := by show (d.hs.map (·.t)).length = _; rw [List.length_map]
theorem ts_mem (d : DH) {i : Nat} (h : i < d.hs.length) : (d.hs.getD i thK.d).t ∈ d.d.ts := by
  refine List.mem_map.2 ⟨d.hs.getD i thK.d, ?_, rfl⟩
  simp [List.getD, h]
def fmtR (d : Dv) : Bs := if chkM d = 0 then fmtM d else []
end Go.Drv
