/-
  Plain: the operations, one after the other.
-/
import Derived.Test.YtcmalbkflbfidaaPl4
set_option linter.unusedSimpArgs false
set_option linter.unusedVariables false
namespace Go.Rails
open Go.Sv
def trS (σ : Sg) (ops : List ROp) (k : Nat) : Sg := (ops.take k).foldl stp σ
theorem trS_succ {σ : Sg} {ops : List ROp} {k : Nat} (h : k < ops.length) : trS σ ops (k + 1) = stp (trS σ ops k) (ops.getD k opK.d) := by
  unfold trS
  rw [take_succ_getD ops k opK.d h, List.foldl_append]
  rfl
theorem Tr.get {s : List Rail} : ∀ {ops : List ROp} {σ τ : Sg}, Tr s σ ops τ → (∀ k, k < ops.length → OkOp s (trS σ ops k) (ops.getD k opK.d)) ∧ trS σ ops ops.length = τ
  | [], _, _, h => ⟨fun k hk => absurd hk (Nat.not_lt_zero _), h⟩
  | o :: r, σ, τ, h => by
    obtain ⟨h1, h2⟩ := Tr.get h.2
    refine ⟨fun k hk => ?_, h2⟩
    cases k with
    | zero => exact h.1
    | succ k => exact h1 k (Nat.lt_of_succ_lt_succ hk)
theorem Tr.named {s : List Rail} {ops : List ROp} {σ τ : Sg} (h : Tr s σ ops τ) : namedM ops s.length := fun k hk => by
  obtain ⟨i, h1, h2, _⟩ := h.get.1 k hk
  omega
theorem stp_len (σ : Sg) (o : ROp) : (stp σ o).1.length = σ.1.length ∧ (stp σ o).2.length = σ.2.length := by simp [stp]
theorem trS_len (σ : Sg) (ops : List ROp) : ∀ k, (trS σ ops k).1.length = σ.1.length ∧ (trS σ ops k).2.length = σ.2.length
  | 0 => ⟨rfl, rfl⟩
  | k + 1 => by
    by_cases h : k < ops.length
    · rw [trS_succ h, (stp_len _ _).1, (stp_len _ _).2]; exact trS_len σ ops k
    · have e : trS σ ops (k + 1) = trS σ ops k := by unfold trS; rw [List.take_of_length_le (by omega), List.take_of_length_le (by omega)]
      rw [e]; exact trS_len σ ops k
theorem Tr.named' {s : List Rail} {ops : List ROp} {σ τ : Sg} (h : Tr s σ ops τ) {k : Nat} (hk : k < ops.length) : ∃ q : Nat, (ops.getD k opK.d).rail = q ∧ q < s.length := by
  obtain ⟨i, h1, h2, _⟩ := h.get.1 k hk
  exact ⟨i, h1, h2⟩
theorem trS_done {σ : Sg} {ops : List ROp} {k q : Nat} (h : k < ops.length) (hq : (ops.getD k opK.d).rail = q) : (trS σ ops (k + 1)).2 = (trS σ ops k).2.set q (ops.getD k opK.d).done := by
  rw [trS_succ h]; simp only [stp, hq, Int.toNat_natCast]
theorem trS_on {σ : Sg} {ops : List ROp} {k q : Nat} (h : k < ops.length) (hq : (ops.getD k opK.d).rail = q) : (trS σ ops (k + 1)).1 = (trS σ ops k).1.set q (ops.getD k opK.d).on := by
  rw [trS_succ h]; simp only [stp, hq, Int.toNat_natCast]
theorem bl : (∀ n : Nat, ((n : Int)).toNat = n) ∧ (∀ (p : Prop) [Decidable p], (decide p = true) = p) ∧ (∀ (p : Prop) [Decidable p], (decide p = false) = ¬ p) ∧ (∀ (p : Prop) [Decidable p], (true = decide p) = p) ∧ (∀ (p : Prop) [Decidable p], (false = decide p) = ¬ p) ∧
    (∀ (p q : Prop) [Decidable p] [Decidable q], (decide p = decide q) = (p ↔ q)) ∧ (∀ b : Bool, ((!b) = true) = (b = false)) ∧ (∀ b : Bool, ((!b) = false) = (b = true)) ∧ ((true = false) = False) ∧ ((false = true) = False) ∧ ((¬ True) = False) ∧ ((¬ False) = True) :=
  ⟨fun _ => by simp, fun _ => by simp, fun _ => by simp, fun _ => by simp, fun _ => by simp, fun _ _ => by simp, fun _ => by simp, fun _ => by simp, by simp, by simp, by simp, by simp⟩
instance (ops : List ROp) (n : Int) : Decidable (namedM ops n) := inferInstanceAs (Decidable (∀ i, i < ops.length → _))
end Go.Rails
