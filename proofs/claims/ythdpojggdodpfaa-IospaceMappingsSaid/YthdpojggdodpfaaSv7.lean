/-
  From a contract to the row: the call's end, and the arguments as they are read.
-/
import Derived.Test.YthdpojggdodpfaaSv6
import Derived.Deep.Slices
import Derived.Deep.Fields
import Derived.ChangeSame
import Derived.Below
set_option linter.unusedSimpArgs false
set_option linter.unusedVariables false
namespace Go.Sv
open Go.ChangeShapes Go.WideShapes Go.Deep Go.RowKit
theorem Fx.top {P : Program} {f : FuncId} {vs : List Value} {w : World} {L : List Assn} (h : Fx P f vs w [] no (fun v L' => v = .bool true ∧ L' = L)) :
    Calls P f vs.toArray w (fun e w' => e = .returned (.bool true) ∧ Below w.heap.size w w') := by
  refine (h (fun _ => False) (fun _ h => h) (fun _ h => h.elim)).mono ?_
  rintro e w' ⟨v, L', rfl, ⟨rfl, _⟩, _, _, hx, _⟩
  exact ⟨rfl, hx.os, hx.tape, hx.output, hx.size, fun x hx' => hx.block x hx' (fun h => h)⟩
section
variable {H : Type} {enc : TypeId × Value → H} {P : Program} {w : World} {base : Nat} {spare : Nat → Bool} {held : Bool}
theorem open_slice_fields {t e : TypeId} {fs : Array Field} {fuel : Nat} {cs : List Value} {x : DataW H × List MemPlace} (ht : P.underlying t = some (.slice e)) (he : P.underlying e = some (.struct fs))
    (hone : oneCellFields P fs = true) (hC : P.cellsOf e = fs.size) (h : DataW.trod enc P w base spare held fuel t cs = some x) :
    (cs = [.slice none 0 0] ∧ x = (.nil, [])) ∨
    ∃ (a : Addr) (len cap m : Nat), cs = [.slice (some a) len cap] ∧ len ≤ cap ∧ cap ≤ maxLen ∧ m = (if spare a.block then cap else len) ∧
      ∀ i, i < m → ∃ (n : Nat), ∀ (j : Nat) (f : Field), fs[j]? = some f → ∃ (v : Value) (y : DataW H × List MemPlace), w.cell? (a.add (i * fs.size + j)) = some v ∧ DataW.trod enc P w base spare held n f.type [v] = some y := by
  rcases open_slice ht h with h0 | ⟨a, len, cap, m, n, D, Pl, hcs, hb, hl, hm, hmm, hx, hi⟩
  · exact .inl h0
  · refine .inr ⟨a, len, cap, m, hcs, hl, hm, hmm, fun i him => ?_⟩
    obtain ⟨cs', hc, ht'⟩ := hi i him
    rw [hC] at hc
    obtain ⟨ys, n', hn', hy, hlen, hyl, hf⟩ := DataW.trod_struct he ht'
    obtain ⟨_, hcl, hat⟩ := World.cells?_some hc
    refine ⟨n', fun j f hj => ?_⟩
    obtain ⟨ho, hk⟩ := hone_of hone j f hj
    have hjl : j < fs.size := (Array.getElem?_eq_some_iff.1 hj).1
    have hcell := hat j hjl
    have hv : cs'[j]? = some (cs'[j]'(by omega)) := List.getElem?_eq_getElem (by omega)
    have h1 := hf j f hj
    rw [ho, hk] at h1
    have hone' : (cs'.drop j).take 1 = [cs'[j]'(by omega)] := by
      rw [List.drop_eq_getElem_cons (by omega)]
      rfl
    rw [hone'] at h1
    have hys : ys[j]? = some (ys[j]'(by omega)) := List.getElem?_eq_getElem (by omega)
    refine ⟨_, _, ?_, h1.trans hys⟩
    rw [← Go.Deep.add_add, hcell, hv]
end
/-- A slice whose elements all read as such is readable as a list. -/
theorem RS.ofCells {α : Type} (K : Enc α) (ok : α → Prop) {w : World} {a : Addr} {len : Nat} (h : ∀ i, i < len → ∃ y : α, ok y ∧ ∀ j v, (K.f y)[j]? = some v → w.cell? (a.add (i * K.sz + j)) = some v) :
    ∃ ys : List α, ys.length = len ∧ RS w K (some a) ys ∧ ∀ i, i < len → ok (ys.getD i K.d) := by
  by_cases hl : len = 0
  · subst hl; exact ⟨[], rfl, .inl rfl, fun i hi => by omega⟩
  have hc : ∀ i, ∃ y : α, i < len → ok y ∧ ∀ j v, (K.f y)[j]? = some v → w.cell? (a.add (i * K.sz + j)) = some v := fun i => by
    by_cases hi : i < len
    · obtain ⟨y, hy⟩ := h i hi; exact ⟨y, fun _ => hy⟩
    · exact ⟨K.d, fun x => absurd x hi⟩
  let g : Nat → α := fun i => Classical.choose (hc i)
  have hg : ∀ i, i < len → ok (g i) ∧ ∀ j v, (K.f (g i))[j]? = some v → w.cell? (a.add (i * K.sz + j)) = some v := fun i hi => Classical.choose_spec (hc i) hi
  have hget : ∀ i, i < len → ((List.range len).map g).getD i K.d = g i := fun i hi => by simp [List.getD, hi]
  refine ⟨(List.range len).map g, by simp, ?_, fun i hi => by rw [hget i hi]; exact (hg i hi).1⟩
  have h00 := (hg 0 (by omega)).2 0 ((K.f (g 0))[0]'(by rw [K.len]; exact K.pos)) (List.getElem?_eq_getElem _)
  have hspot : a.spot = none := by
    have := World.cell?_spot h00
    simpa [Addr.add] using this
  obtain ⟨b, o, s⟩ := a
  simp only [] at hspot
  subst hspot
  have hadd : ∀ n, (⟨b, o, none⟩ : Addr).add n = ⟨b, o + n, none⟩ := fun n => by
    by_cases hn : n = 0
    · subst hn; rfl
    · simp [Addr.add, hn]
  have hblk : ∃ cur t fz, w.heap[b]? = some (.cells cur t fz) := by
    rw [hadd] at h00
    unfold World.cell? at h00
    cases hb : w.heap[b]? with
    | none => simp [hb] at h00
    | some ob => cases ob <;> simp [hb] at h00; exact ⟨_, _, _, rfl⟩
  obtain ⟨cur, t, fz, hb⟩ := hblk
  refine .inr ⟨cur, t, fz, rfl, hb, fun j v hv => ?_⟩
  have hjl := (List.getElem?_eq_some_iff.1 hv).1
  rw [flat_length] at hjl
  simp only [List.length_map, List.length_range] at hjl
  have hp := K.pos
  have hm : j / K.sz < len := by rw [Nat.div_lt_iff_lt_mul hp]; exact hjl
  have hmod : j % K.sz < (K.f (g (j / K.sz))).length := by rw [K.len]; exact Nat.mod_lt _ hp
  have hf := flat_get K (ys := (List.range len).map g) (m := j / K.sz) (j := j % K.sz) (y := g (j / K.sz)) (v := (K.f (g (j / K.sz)))[j % K.sz]) (by simp [hm]) (List.getElem?_eq_getElem hmod)
  have hdm : j / K.sz * K.sz + j % K.sz = j := by rw [Nat.mul_comm]; exact Nat.div_add_mod j K.sz
  rw [hdm, hv] at hf
  have hcell := (hg _ hm).2 (j % K.sz) v (by rw [List.getElem?_eq_getElem hmod]; exact hf.symm)
  rw [hdm, hadd, cell_of hb] at hcell
  exact hcell
end Go.Sv
