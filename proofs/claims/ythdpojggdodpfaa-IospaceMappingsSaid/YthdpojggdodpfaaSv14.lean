/-
  Elements of arrays in memory; shifts and bitwise operations.
-/
import Derived.Test.YthdpojggdodpfaaSv6
set_option linter.unusedSimpArgs false
set_option linter.unusedVariables false
namespace Go.Sv
section
variable {P : Program} {N : Nat} {E : Env} {S : World → Prop}
variable {dd : Option Nat} {ty : TypeId} {pos : String} {af : Array Edge} {g : Option (Nat × Bool)} {x y : Operand} {e t t2 : TypeId} {k k' : IntKind} {m n r : Int}
theorem Step.idxArr {ze : Value} {sz by_ b o q : Nat} {i : Int} (hu : P.underlying t = some (.array q e)) (hi : TI P e ze sz by_) (hx : ev E x = some (.pointer (some ⟨b, o, none⟩))) (hy : ev E y = some (.int k i)) (l : Nat) (hl : i = (l : Int)) (hlt : l < q) :
    Step P N E S ⟨dd, .indexAddr t x y, ty, pos, af, g⟩ (.pointer (some ⟨b, o + l * sz, none⟩)) := by
  subst hl
  refine Step.indexAddr hx hy fun w => ?_
  have h0 : 0 ≤ (l : Int) ∧ (l : Int) < (q : Int) := by omega
  simp only [Instr.indexAt, asIntOf, Sem.run_bind, Sem.run_pure, Result.andThen_ok, run_underlying hu, h0, and_self, if_true, hi.sizeOf, Int.toNat_natCast, Instr.sureAddr]
  by_cases hz : l * sz = 0
  · simp [hz, Addr.add]
  · simp [Addr.add, hz]
theorem Step.shr (hx : ev E x = some (.int k m)) (hy : ev E y = some (.int k' n)) (hn : 0 ≤ n) (hr : m.fdiv (2 ^ min n.toNat k.bits) = r) : Step P N E S ⟨dd, .binOp .shr t x y t2, ty, pos, af, g⟩ (.int k r) :=
  step_bin hx hy rfl fun w => by simp [binOp, Op.shift, show ¬ n < 0 by omega, hr]
theorem Step.shl (hx : ev E x = some (.int k m)) (hy : ev E y = some (.int k' n)) (hn : 0 ≤ n) (hr : k.wrap (m * 2 ^ min n.toNat k.bits) = r) : Step P N E S ⟨dd, .binOp .shl t x y t2, ty, pos, af, g⟩ (.int k r) :=
  step_bin hx hy rfl fun w => by simp [binOp, Op.shift, show ¬ n < 0 by omega, hr]
theorem Step.band (hx : ev E x = some (.int k m)) (hy : ev E y = some (.int k n)) (hr : k.wrap ((BitVec.ofInt k.bits m &&& BitVec.ofInt k.bits n).toNat) = r) : Step P N E S ⟨dd, .binOp .and t x y t2, ty, pos, af, g⟩ (.int k r) :=
  step_bin hx hy rfl fun w => by simp only [binOp, Op.intBits, ne_eq, not_true_eq_false, if_false]; rw [hr]; rfl
theorem Step.bor (hx : ev E x = some (.int k m)) (hy : ev E y = some (.int k n)) (hr : k.wrap ((BitVec.ofInt k.bits m ||| BitVec.ofInt k.bits n).toNat) = r) : Step P N E S ⟨dd, .binOp .or t x y t2, ty, pos, af, g⟩ (.int k r) :=
  step_bin hx hy rfl fun w => by simp only [binOp, Op.intBits, ne_eq, not_true_eq_false, if_false]; rw [hr]; rfl
theorem Step.bandNot (hx : ev E x = some (.int k m)) (hy : ev E y = some (.int k n)) (hr : k.wrap ((BitVec.ofInt k.bits m &&& ~~~ BitVec.ofInt k.bits n).toNat) = r) : Step P N E S ⟨dd, .binOp .andNot t x y t2, ty, pos, af, g⟩ (.int k r) :=
  step_bin hx hy rfl fun w => by simp only [binOp, Op.intBits, ne_eq, not_true_eq_false, if_false]; rw [hr]; rfl
end
theorem bvN {m : Int} (h0 : 0 ≤ m) (h1 : m ≤ 18446744073709551615) : (BitVec.ofInt 64 m).toNat = m.toNat := by
  have e : ((2 ^ 64 : Nat) : Int) = 18446744073709551616 := by decide
  rw [BitVec.toNat_ofInt, e, Int.emod_eq_of_lt h0 (by omega)]
theorem and_u64 {m n : Int} (h0 : 0 ≤ m) (h1 : m ≤ 18446744073709551615) (g0 : 0 ≤ n) (g1 : n ≤ 18446744073709551615) : IntKind.u64.wrap ((BitVec.ofInt 64 m &&& BitVec.ofInt 64 n).toNat) = ((m.toNat &&& n.toNat : Nat) : Int) := by
  rw [BitVec.toNat_and, bvN h0 h1, bvN g0 g1, IntKind.wrap_u64]
  have : m.toNat &&& n.toNat ≤ m.toNat := Nat.and_le_left
  omega
theorem or_u64 {m n : Int} (h0 : 0 ≤ m) (h1 : m ≤ 18446744073709551615) (g0 : 0 ≤ n) (g1 : n ≤ 18446744073709551615) : IntKind.u64.wrap ((BitVec.ofInt 64 m ||| BitVec.ofInt 64 n).toNat) = ((m.toNat ||| n.toNat : Nat) : Int) := by
  rw [BitVec.toNat_or, bvN h0 h1, bvN g0 g1, IntKind.wrap_u64]
  have : m.toNat ||| n.toNat < 2 ^ 64 := Nat.or_lt_two_pow (by omega) (by omega)
  omega
end Go.Sv
