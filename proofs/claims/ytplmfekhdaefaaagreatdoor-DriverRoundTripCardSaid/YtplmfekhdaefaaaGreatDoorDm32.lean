/-
  Drivers: a padded text, byte by byte; a text with one byte turned.
-/
import Derived.Test.YtplmfekhdaefaaaGreatDoorDmD
set_option linter.unusedSimpArgs false
set_option linter.unusedVariables false
namespace Go.Drv
open Go.Sv
def spL : List Bs := [[32], [32, 32], [9]]
theorem spL_ok {p : Nat} (h : p < 3) : (∀ x ∈ spL.getD p [], spB x = true) ∧ spL.getD p [] ≠ [] ∧ (spL.getD p []).length ≤ 2 := by
  match p, h with
  | 0, _ => decide
  | 1, _ => decide
  | 2, _ => decide
def padP (note sp s : Bs) (i : Nat) : Bs := (([35] ++ note) ++ [10, 10]) ++ (s.take i).flatMap (padC note sp)
theorem padP_zero (note sp s : Bs) : padP note sp s 0 = ([35] ++ note) ++ [10, 10] := by simp [padP]
theorem padP_all (note sp s : Bs) : padP note sp s s.length = padM note sp s := by
  unfold padP padM
  rw [List.take_length]
theorem takeB {s : Bs} {i : Nat} (h : i < s.length) : s.take (i + 1) = s.take i ++ [s.getD i 0] := by
  rw [List.take_add_one, List.getD, List.getElem?_eq_getElem h]; rfl
theorem padP_succ {note sp s : Bs} {i : Nat} (h : i < s.length) : padP note sp s (i + 1) = padP note sp s i ++ padC note sp (s.getD i 0) := by
  unfold padP
  rw [takeB h, List.flatMap_append]
  simp
theorem toNat10 {c : UInt8} (h : (c.toNat : Int) = 10) : c = 10 := UInt8.toNat_inj.1 (show c.toNat = 10 by omega)
theorem toNat32 {c : UInt8} (h : (c.toNat : Int) = 32) : c = 32 := UInt8.toNat_inj.1 (show c.toNat = 32 by omega)
theorem padP_nl {note sp s : Bs} {i : Nat} (h : i < s.length) (hc : ((s.getD i 0).toNat : Int) = 10) : padP note sp s (i + 1) = ((padP note sp s i ++ [32, 35]) ++ note) ++ [10, 32, 9, 10] := by
  rw [padP_succ h, padC, if_pos (toNat10 hc)]
  simp
theorem padP_sp {note sp s : Bs} {i : Nat} (h : i < s.length) (hc : ((s.getD i 0).toNat : Int) = 32) : padP note sp s (i + 1) = padP note sp s i ++ sp := by
  rw [padP_succ h, padC, if_neg (by rw [toNat32 hc]; decide), if_pos (toNat32 hc)]
theorem padP_other {note sp s : Bs} {i : Nat} (h : i < s.length) (h1 : ¬ ((s.getD i 0).toNat : Int) = 10) (h2 : ¬ ((s.getD i 0).toNat : Int) = 32) : padP note sp s (i + 1) = padP note sp s i ++ (s.take (i + 1)).drop i := by
  rw [padP_succ h, padC, if_neg (fun e => h1 (by rw [e]; rfl)), if_neg (fun e => h2 (by rw [e]; rfl)), one_at h]
theorem padP_len {note sp s : Bs} (hn : note.length ≤ 60) (hs : sp.length ≤ 2) (hl : s.length ≤ 7300) (i : Nat) : (padP note sp s i).length ≤ 600000 := by
  have h1 := pad_len hn hs (s.take i)
  have h2 : (s.take i).length ≤ s.length := by rw [List.length_take]; omega
  unfold padP
  simp only [List.length_append, List.length_cons, List.length_nil]
  omega
theorem note_no {note : Bs} (h : ∀ k, k < note.length → ¬ ((note.getD k 0).toNat : Int) = 10) : ∀ x ∈ note, x ≠ 10 := by
  intro x hx e
  obtain ⟨k, hk, rfl⟩ := List.getElem_of_mem hx
  refine h k hk ?_
  rw [List.getD, List.getElem?_eq_getElem hk]
  show ((note[k]).toNat : Int) = 10
  rw [e]; rfl
end Go.Drv
