/-
  Plain models of the statements' helpers.
-/
import Derived.Test.YtcmalbkflbfidaaMdl2
set_option linter.unusedSimpArgs false
set_option linter.unusedVariables false
namespace Go.Rails
open Go.Sv
structure RCall where
  rel : Bool
  rail : Int
  wait : Int
  raw : Bool
def callK : Enc RCall where
  f r := [.bool r.rel, .int .i64 r.rail, .int .u64 r.wait, .bool r.raw]
  sz := 4
  d := ⟨false, 0, 0, false⟩
  len _ := rfl
  pos := by decide
  one r v hv := by simp at hv; rcases hv with rfl | rfl | rfl | rfl <;> rfl
def callV (c : RCall) : Value := .agg #[.bool c.rel, .int .i64 c.rail, .int .u64 c.wait, .bool c.raw]
def modM (v : Int) (n : Nat) : Int := (IntKind.u64.wrap v) % n
theorem modM_lt (v : Int) {n : Nat} (h : 0 < n) : 0 ≤ modM v n ∧ modM v n < n := ⟨Int.emod_nonneg _ (by omega), Int.emod_lt_of_pos _ (by omega)⟩
def atM (c : RCall) (n : Nat) (now : Int) : Int × Int :=
  if c.raw then (c.rail, c.wait) else if n = 0 then (0, IntKind.u64.wrap (now + c.wait.tmod 30)) else (modM c.rail n, IntKind.u64.wrap (now + c.wait.tmod 30))
def doM (f : Nat) (st : St) (c : RCall) (n : Nat) (now : Int) : Res := if c.rel then relM f st (atM c n now).1 (atM c n now).2 else acqM f st (atM c n now).1 (atM c n now).2
def doR (f : Nat) (st : St) (c : RCall) (n : Nat) (now : Int) : Res := if c.rel then relR f st (atM c n now).1 (atM c n now).2 else acqR f st (atM c n now).1 (atM c n now).2
def sm1 (raw : List Rail) : Nat → List Rail
  | 0 => []
  | k + 1 => sm1 raw k ++ [⟨modM (raw.getD k railK.d).supply (k + 1) - 1, (raw.getD k railK.d).up.tmod 20, (raw.getD k railK.d).down.tmod 20⟩]
theorem sm1_length (raw : List Rail) (k : Nat) : (sm1 raw k).length = k := by
  induction k with
  | zero => rfl
  | succ k ih => simp [sm1, ih]
theorem sm1_get (raw : List Rail) {k i : Nat} (h : i < k) : (sm1 raw k).getD i railK.d = ⟨modM (raw.getD i railK.d).supply (i + 1) - 1, (raw.getD i railK.d).up.tmod 20, (raw.getD i railK.d).down.tmod 20⟩ := by
  induction k with
  | zero => omega
  | succ k ih =>
    simp only [sm1]
    by_cases e : i = k
    · subst e; simp [List.getD, List.getElem?_append_right, sm1_length]
    · have hl : i < (sm1 raw k).length := by rw [sm1_length]; omega
      rw [← ih (by omega)]
      simp [List.getD, List.getElem?_append_left hl]
theorem sm1_sup (raw : List Rail) {k i : Nat} (h : i < k) : -1 ≤ ((sm1 raw k).getD i railK.d).supply ∧ ((sm1 raw k).getD i railK.d).supply < i := by
  rw [sm1_get raw h]
  have := modM_lt (raw.getD i railK.d).supply (n := i + 1) (by omega)
  simp only []; omega
def turn (n : Nat) (r : Rail) : Rail := if 0 ≤ r.supply then { r with supply := n - 1 - r.supply } else r
def someM (raw : List Rail) : List Rail :=
  let n := min raw.length 8
  if n % 2 = 1 then (List.range n).map fun p => turn n ((sm1 raw n).getD (n - 1 - p) railK.d) else sm1 raw n
def namedM (ops : List ROp) (n : Int) : Prop := ∀ i, i < ops.length → 0 ≤ (ops.getD i opK.d).rail ∧ (ops.getD i opK.d).rail < n
theorem back_ext {n : Nat} {out z : List Rail} (hz : z.length = n) (h : ∀ i, i < n → z.getD (n - 1 - i) railK.d = turn n (out.getD i railK.d)) : z = (List.range n).map fun p => turn n (out.getD (n - 1 - p) railK.d) := by
  apply List.ext_getElem (by simp [hz])
  intro p h1 h2
  have hp : p < n := by omega
  have := h (n - 1 - p) (by omega)
  rw [show n - 1 - (n - 1 - p) = p from by omega] at this
  simp only [List.getD, List.getElem?_eq_getElem h1, Option.getD_some] at this
  simp [this, List.getD]
theorem op_eq {a b : ROp} (h : a.rail = b.rail ∧ a.on = b.on ∧ a.start = b.start ∧ a.done = b.done) : a = b := by cases a; cases b; simp at h; simp [h]
theorem op_ext {xs ys : List ROp} (hl : xs.length = ys.length) (h : ∀ i, i < xs.length → xs.getD i opK.d = ys.getD i opK.d) : xs = ys := by
  apply List.ext_getElem hl
  intro i h1 h2
  have := h i h1
  simpa [List.getD, h1, h2] using this
/-- What the reading of an argument tells of a rail, of a call. -/
def okRail (r : Rail) : Prop := (-9223372036854775808 ≤ r.supply ∧ r.supply ≤ 9223372036854775807) ∧ (0 ≤ r.up ∧ r.up ≤ 18446744073709551615) ∧ 0 ≤ r.down ∧ r.down ≤ 18446744073709551615
def okCall (c : RCall) : Prop := (-9223372036854775808 ≤ c.rail ∧ c.rail ≤ 9223372036854775807) ∧ 0 ≤ c.wait ∧ c.wait ≤ 18446744073709551615
end Go.Rails
