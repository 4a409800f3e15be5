/-
  Faults, accesses.
-/
import Derived.Test.YthdpojggdodpfaaMdl4
set_option linter.unusedSimpArgs false
set_option linter.unusedVariables false
namespace Go.Sv
theorem OV.clearTail0 {P : Program} {N : Nat} {Q : Exit → Act → World → Prop} {E : Env} {ops : Array Oper} {ty : TypeId} {pos : String} {af : Array Edge} {g : Option (Nat × Bool)} {x : Operand} {KK : Act → World → Prop} {I0 : Ids} {w0 : World} {L : List Assn} {α : Type} {K : Enc α} {A : Option Addr} {ys : List α} {e t : TypeId} {c : Nat}
    (k l : Nat) {ze : Value} {by_ n cA : Nat} (hu : P.underlying t = some (.slice e)) (hi : TI P e ze K.sz by_) (hze : ze.cells.size = K.sz) (h1 : ∀ v ∈ ze.cells.toList, v.oneCell' = true) (hk : L[k]? = some (OS e K A c ys))
    (hx : ev E x = some (.slice (shA A l K.sz c) n cA)) (hl : ys.length ≤ l) (hn : l + n ≤ c) (hg : Yes N ops ⟨none, .call ⟨.builtin .clear, #[x], #[t]⟩, ty, pos, af, g⟩ E) (kk : KV N KK E (Hp I0 w0 L)) :
    OV P N ops Q ⟨none, .call ⟨.builtin .clear, #[x], #[t]⟩, ty, pos, af, g⟩ E (Hp I0 w0 L) KK :=
  OV.clearTail k l hu hi hze h1 hk hx hl hn hg fun a w hf hs => kk a w (hf.put_none (.tuple #[])) hs
end Go.Sv
namespace Go.Ios
open Go.Sv
def delL {β : Type} (l : List β) (i : Nat) : List β := l.take i ++ l.drop (i + 1)
theorem delL_length {β : Type} {l : List β} {i : Nat} (h : i < l.length) : (delL l i).length = l.length - 1 := by
  simp only [delL, List.length_append, List.length_take, List.length_drop]; omega
def isW (w : Int) : Prop := w = 1 ∨ w = 2 ∨ w = 4 ∨ w = 8
instance (w : Int) : Decidable (isW w) := inferInstanceAs (Decidable (_ ∨ _ ∨ _ ∨ _))
def wfA (a : Acs) : Prop := isW a.width ∧ (0 ≤ a.space ∧ a.space < 3) ∧ a.addr.tmod a.width = 0
instance (a : Acs) : Decidable (wfA a) := inferInstanceAs (Decidable (_ ∧ (_ ∧ _) ∧ _))
theorem wfA_rng {a : Acs} (h : wfA a) (hu : isU a.addr) : okR a.addr a.width := by
  obtain ⟨h1, _, h2⟩ := h
  unfold isU at hu
  unfold okR
  rcases h1 with e | e | e | e <;> rw [e] at h2 ⊢
  · omega
  · have : a.addr.tmod 2 = a.addr % 2 := Int.tmod_eq_emod_of_nonneg hu.1
    omega
  · have : a.addr.tmod 4 = a.addr % 4 := Int.tmod_eq_emod_of_nonneg hu.1
    omega
  · have : a.addr.tmod 8 = a.addr % 8 := Int.tmod_eq_emod_of_nonneg hu.1
    omega
def hitF (f : Flt) (a : Acs) : Prop := f.space = a.space ∧ ovl f.base f.len a.addr a.width
instance (f : Flt) (a : Acs) : Decidable (hitF f a) := inferInstanceAs (Decidable (_ ∧ _))
def hitN (l : List Flt) (a : Acs) : Nat := firstN (fun i => decide (hitF (l.getD i fltK.d) a)) l.length
def useL (l : List Flt) (a : Acs) : List Flt :=
  if hitN l a < l.length then
    if (l.getD (hitN l a) fltK.d).cnt = 1 then delL l (hitN l a)
    else l.set (hitN l a) { l.getD (hitN l a) fltK.d with cnt := (l.getD (hitN l a) fltK.d).cnt - 1 }
  else l
theorem hitN_at {l : List Flt} {a : Acs} {i : Nat} (h : ∀ j, j < i → ¬ hitF (l.getD j fltK.d) a) (hi : i < l.length) (hh : hitF (l.getD i fltK.d) a) : hitN l a = i :=
  firstN_at (p := fun i => decide (hitF (l.getD i fltK.d) a)) (fun j hj => decide_eq_false (h j hj)) (decide_eq_true hh) hi
theorem hitN_none {l : List Flt} {a : Acs} (h : ∀ j, j < l.length → ¬ hitF (l.getD j fltK.d) a) : hitN l a = l.length :=
  firstN_none (p := fun i => decide (hitF (l.getD i fltK.d) a)) fun j hj => decide_eq_false (h j hj)
theorem use_del {l : List Flt} {a : Acs} {i : Nat} (h : hitN l a = i) (hi : i < l.length) (hc : (l.getD i fltK.d).cnt = 1) : useL l a = delL l i := by rw [useL, h, if_pos hi, if_pos hc]
theorem use_dec {l : List Flt} {a : Acs} {i : Nat} (h : hitN l a = i) (hi : i < l.length) (hc : ¬ (l.getD i fltK.d).cnt = 1) : useL l a = l.set i { l.getD i fltK.d with cnt := (l.getD i fltK.d).cnt - 1 } := by rw [useL, h, if_pos hi, if_neg hc]
theorem use_no {l : List Flt} {a : Acs} (h : hitN l a = l.length) : useL l a = l := by rw [useL, h, if_neg (Nat.lt_irrefl _)]
def onesM (w : Int) : Int := if w = 1 then 255 else if w = 2 then 65535 else if w = 4 then 4294967295 else 18446744073709551615
theorem onesB {w : Int} (h : isW w) : (18446744073709551615 : Int).fdiv (2 ^ min (64 - 8 * w).toNat IntKind.u64.bits) = onesM w := by
  rcases h with rfl | rfl | rfl | rfl <;> decide
theorem ones_bd {w : Int} (h : isW w) : 0 ≤ onesM w ∧ onesM w ≤ 18446744073709551615 := by
  rcases h with rfl | rfl | rfl | rfl <;> decide
end Go.Ios
namespace Go.Ios
open Go.Sv
theorem hc_sub {S : World → Prop} {p : Nat} {a b c d : Value} (h : ∀ w, S w → ∀ j v, [a, b, c, d][j]? = some v → w.cell? ⟨p, 0 + j, none⟩ = some v) : ∀ w, S w → ∀ j v, [b, c][j]? = some v → w.cell? ⟨p, 0 + 1 + j, none⟩ = some v := fun w hs j v hv => by
  have e : 0 + 1 + j = 0 + (j + 1) := by omega
  rw [e]
  refine h w hs (j + 1) v ?_
  match j, hv with
  | 0, hv => exact hv
  | 1, hv => exact hv
end Go.Ios
