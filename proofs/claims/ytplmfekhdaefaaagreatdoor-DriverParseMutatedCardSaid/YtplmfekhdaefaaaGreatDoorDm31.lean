/-
  Numerals: the row that is written, the text that is read off it.
-/
import Derived.Test.YtplmfekhdaefaaaGreatDoorDmD
import Derived.Test.YtplmfekhdaefaaaGreatDoorSv24
import Derived.Lib.ItoaMem
set_option linter.unusedSimpArgs false
set_option linter.unusedVariables false
namespace Go.Drv
open Go.Sv Go.Lib Go.Sort
abbrev u8E : UInt8 → Value := fun b => Value.int .u8 (b.toNat : Int)
theorem fmt_hp {I0 : Ids} {w0 w : World} {a n : Nat} {t : TypeId} {dk : Array UInt8} (h : Hp I0 w0 [Blk a (.cells zeros24 t (0, 0))] w) :
    Hp I0 w0 [Blk a (.cells (putCells u8E 0 dk zeros24) t (0, 0))] ((putRow u8E w a 0 dk).drewN n) := by
  have hb := h.blk 0 rfl
  refine Hp.modify (k := 0) (o' := .cells (putCells u8E 0 dk zeros24) t (0, 0)) h rfl ?_ ?_ (fun x hx => ?_) rfl rfl rfl
  · show (putRow u8E w a 0 dk).heap[a]? = _
    simp [putRow, mapBlock, Array.getElem?_modify, hb, onCells]
  · show (putRow u8E w a 0 dk).heap.size = _
    simp [putRow, mapBlock]
  · show (putRow u8E w a 0 dk).heap[x]? = _
    simp [putRow, mapBlock, Array.getElem?_modify, Ne.symm hx]
theorem zeros_holds {w : World} {a nd : Nat} {t : TypeId} (hb : w.heap[a]? = some (.cells zeros24 t (0, 0))) (hnd : nd ≤ 24) : Holds u8E w a 0 (Array.replicate nd 0) := by
  intro j hj
  rw [Array.size_replicate] at hj
  constructor
  · rw [cell_of hb, Nat.zero_add, zeros24_at j (by omega)]
    simp [hj]
  · simp [World.frozen?, hb]
def decI (u : Nat) : List Int := (Lib.decDigits u).map fun b => (b.toNat : Int)
theorem decI_back (u : Nat) : (decI u).map (fun n => UInt8.ofNat n.toNat) = Lib.decDigits u := by
  unfold decI
  rw [List.map_map]
  have : ((fun n : Int => UInt8.ofNat n.toNat) ∘ fun b : UInt8 => (b.toNat : Int)) = id := by
    funext b
    simp
  rw [this, List.map_id]
theorem decI_len (u : Nat) : (decI u).length = nDigits u := by unfold decI; rw [List.length_map, Lib.decDigits_length]
theorem fmt_rs {w : World} {a u v' : Nat} {t : TypeId} {dk : Array UInt8} (hb : w.heap[a]? = some (.cells (putCells u8E 0 dk zeros24) t (0, 0))) (hF : FmtInv (nDigits u) u 0 v' dk) (hnd : nDigits u ≤ 24) :
    RS w (intK .u8) (some ⟨a, 0, none⟩) (decI u) := by
  refine .inr ⟨_, t, (0, 0), rfl, hb, fun j v hv => ?_⟩
  show (putCells u8E 0 dk zeros24)[0 + j]? = _
  have hfl : flat (intK .u8) (decI u) = (Lib.decDigits u).map u8E := by
    unfold decI flat
    generalize Lib.decDigits u = l
    induction l with
    | nil => rfl
    | cons a l ih => rw [List.map_cons, List.flatMap_cons, List.map_cons, ih]; rfl
  rw [hfl, List.getElem?_map] at hv
  have hj : j < (Lib.decDigits u).length := by
    refine Decidable.byContradiction fun k => ?_
    rw [List.getElem?_eq_none (by omega)] at hv
    cases hv
  have hj2 : j < nDigits u := by rw [Lib.decDigits_length] at hj; exact hj
  rw [List.getElem?_eq_getElem hj] at hv
  simp only [Option.map_some, Option.some.injEq] at hv
  rw [row_is_numeral hF j hj] at hv
  rw [Nat.zero_add]
  unfold putCells
  rw [Array.getElem?_mapIdx, zeros24_at j (by omega), Option.map_some, if_pos ⟨Nat.zero_le _, by rw [hF.size]; omega⟩, Nat.sub_zero]
  exact congrArg some hv
end Go.Drv
