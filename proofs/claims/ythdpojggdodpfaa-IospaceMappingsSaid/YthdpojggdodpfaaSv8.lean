/-
  Operations whose guard's own operation was passed over: they are passed over too.
-/
import Derived.Test.YthdpojggdodpfaaSv6
set_option linter.unusedSimpArgs false
set_option linter.unusedVariables false
namespace Go.Sv
section
variable {P : Program} {N : Nat} {Q : Exit → Act → World → Prop} {E : Env} {S S0 : World → Prop} {ops : Array Oper} {rest : List Oper} {T : Act → World → Prop} {K : Act → World → Prop} {d : Nat} {op : Op} {ty : TypeId} {pos : String} {af : Array Edge}
def noneE (ops : Array Oper) (E : Env) (j : Nat) : Bool :=
  match (ops[j]?).bind (·.dst) with
  | some d => match get E d with
    | some (.tuple _) => true
    | _ => false
  | none => false
theorem wanted_none_of {a : Act} (h : Fits N a E) {o : Oper} {j : Nat} {want : Bool} (hg : o.guard = some (j, want)) (hw : noneE ops E j = true) : Region.wanted o (yielded ops a.tmps) = false := by
  unfold noneE at hw
  simp only [Region.wanted, hg]
  cases hd : (ops[j]?).bind (·.dst) with
  | none => rw [hd] at hw; simp at hw
  | some d =>
    rw [hd] at hw
    simp only [] at hw
    cases hv : get E d with
    | none => rw [hv] at hw; simp at hw
    | some v =>
      rw [hv] at hw
      cases v <;> simp at hw
      have : yielded ops a.tmps j = none := by
        simp only [yielded, hd, Option.bind_some, h.slot d _ hv]
      rw [this]
      cases want <;> rfl
theorem OV.skipU {j : Nat} {b : Bool} (hg : noneE ops E j = true) (hN : Nat.blt d N = true)
    (k : KV N K (set E d undef) S) : OV P N ops Q ⟨some d, op, ty, pos, af, some (j, b)⟩ E S K := fun a w hf hs => by
  rw [if_neg (by rw [wanted_none_of hf rfl hg]; decide)]
  exact k _ w (hf.put undef hN) hs
theorem SV.skipU {j : Nat} {b : Bool} (hg : noneE ops E j = true) (hN : Nat.blt d N = true) (k : SV P N ops T rest (set E d undef) S) : SV P N ops T (⟨some d, op, ty, pos, af, some (j, b)⟩ :: rest) E S := fun a w hf hs => by
  unfold wpStill
  rw [if_neg (by rw [wanted_none_of hf rfl hg]; decide)]
  exact k _ w (hf.put undef hN) hs
theorem AV.takeSkipU (i : Nat) {j : Nat} {b : Bool} {fuel : Nat} {listed : Array Bool} (listed' : Array Bool) (hi : ops[i]? = some ⟨some d, op, ty, pos, af, some (j, b)⟩)
    (hs : Region.noSelect ops = true) (hfr : Region.free .any ops listed i = true) (hr : (Region.ready .any ops listed).contains i = true)
    (hQ : ∀ c a w, Q (.panic c) (a.put (some d) undef) w → Q (.panic c) a w) (hg : noneE ops E j = true) (hN : Nat.blt d N = true) (hS : ∀ w, S w → S0 w)
    (hl : listed.setIfInBounds i true = listed') (k : AV P N ops Q S0 fuel listed' (set E d undef) S) : AV P N ops Q S0 (fuel + 1) listed E S := fun a w hf hs' => by
  subst hl
  exact wpAnyH_take hi hs hfr hr hQ (.inr ⟨wanted_none_of hf rfl hg, rfl⟩) (hS w hs') (k _ w (hf.put undef hN) hs')
end
end Go.Sv
