/-
  What Parse answers is small.
-/
import Derived.Test.YtplmfekhdaefaaaGreatDoorDmB
set_option linter.unusedSimpArgs false
set_option linter.unusedVariables false
namespace Go.Drv
open Go.Sv
def smallD (d : Dv) : Prop := d.ss.length ≤ 32 ∧ d.ts.length ≤ 128 ∧ OpsLe d.ts
theorem small0 : smallD dv0 := ⟨Nat.zero_le _, Nat.zero_le _, fun i => by
  have : trA ([] : List Tr) i = tr0 := by simp [trA]
  show (trA [] i).ops.length ≤ 16
  rw [this]; decide⟩
theorem small_chk {d : Dv} (h : chkM d = 0) : smallD d := ⟨(chk_s h).2.1, (chk_s h).2.2, opsLe_of h⟩
theorem fin_small (p : PS) : smallD (finM p).2 := by
  unfold finM
  split
  · exact small0
  · split
    · exact small0
    · split
      · exact small0
      · split
        · rename_i h; exact small_chk h
        · exact small0
theorem parse_small (s : Bs) : smallD (parseM s).2 := by
  unfold parseM
  split
  · exact small0
  · exact fin_small _
structure SmH (d : DH) : Prop where
  s : d.ss.length ≤ 1000000
  t : d.hs.length ≤ 1000000
  o : ∀ i, i < d.hs.length → (d.hs.getD i thK.d).t.ops.length ≤ 1000000
theorem smH {d : DH} (h : smallD d.d) : SmH d := by
  obtain ⟨h1, h2, h3⟩ := h
  have e1 : d.d.ss = d.ss := rfl
  have e2 : d.d.ts.length = d.hs.length := List.length_map _
  refine ⟨by rw [e1] at h1; omega, by omega, fun i hi => ?_⟩
  have := h3 i
  rw [show trA d.d.ts i = (d.hs.getD i thK.d).t from trA_th d.hs i] at this
  omega
end Go.Drv
