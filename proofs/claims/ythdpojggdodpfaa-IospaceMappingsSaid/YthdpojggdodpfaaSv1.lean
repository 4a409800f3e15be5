/-
  Separation-style layer over the kit's weakest preconditions: environments of known slots, assertions with footprints, judgements.
-/
import Derived.WalkKit
import Derived.OrdersHeld
import Derived.StillTail
import Derived.Deep.LoopGhost
set_option linter.unusedSimpArgs false
set_option linter.unusedVariables false
namespace Go.Sv

/-! ### Known slots -/
abbrev Env := List (Nat × Value)
def get : Env → Nat → Option Value
  | [], _ => none
  | (k, v) :: r, t => bif Nat.beq k t then some v else get r t
@[reducible] def set (E : Env) (t : Nat) (v : Value) : Env := (t, v) :: E
theorem get_set_same (E : Env) (t : Nat) (v : Value) : get (set E t v) t = some v := by simp [get, set]
theorem get_set_ne (E : Env) {t s : Nat} (v : Value) (h : s ≠ t) : get (set E t v) s = get E s := by
  have hb : Nat.beq t s = false := by rw [← Bool.not_eq_true, Nat.beq_eq]; exact fun e => h e.symm
  simp [get, set, hb]
structure Fits (N : Nat) (a : Act) (E : Env) : Prop where
  defers : a.defers = []
  size : a.tmps.size = N
  slot : ∀ t v, get E t = some v → a.tmps[t]? = some v
def ev (E : Env) : Operand → Option Value
  | .tmp t => get E t
  | .const v => some v
  | .global g => some (.pointer (some ⟨g, 0, none⟩))
  | .func f => some (.func (.func f) #[] #[])
theorem Fits.ev {N : Nat} {a : Act} {E : Env} (h : Fits N a E) {x : Operand} {v : Value} (hx : ev E x = some v) : a.eval x = v := by
  cases x with
  | tmp t =>
    have := h.slot t v hx
    simp [Act.eval, this]
  | const u => simpa [Sv.ev, Act.eval] using hx
  | global g => simpa [Sv.ev, Act.eval] using hx
  | func f => simpa [Sv.ev, Act.eval] using hx
theorem Fits.put {N : Nat} {a : Act} {E : Env} (h : Fits N a E) {d : Nat} (v : Value) (hd : Nat.blt d N = true) : Fits N (a.put (some d) v) (set E d v) := by
  have hd' : d < N := by simpa [Nat.blt_eq] using hd
  refine ⟨h.defers, by simp [Act.put, h.size], fun t u hu => ?_⟩
  by_cases e : t = d
  · subst e
    rw [get_set_same] at hu
    simp [Act.put, h.size, hd', ← Option.some.inj hu]
  · rw [get_set_ne E v e] at hu
    simp [Act.put, Array.getElem?_setIfInBounds_ne (fun x => e x.symm), h.slot t u hu]
theorem Fits.put_none {N : Nat} {a : Act} {E : Env} (h : Fits N a E) (v : Value) : Fits N (a.put none v) E := h
def Sub : Env → Env → Prop
  | [], _ => True
  | (k, v) :: r, E => get E k = some v ∧ Sub r E
theorem Sub.get {E' E : Env} (h : Sub E' E) {t : Nat} {v : Value} (hv : get E' t = some v) : get E t = some v := by
  induction E' with
  | nil => simp [Sv.get] at hv
  | cons p r ih =>
    obtain ⟨k, u⟩ := p
    by_cases hk : k = t
    · subst hk
      simp [Sv.get] at hv
      rw [← hv]; exact h.1
    · have hb : Nat.beq k t = false := by rw [← Bool.not_eq_true, Nat.beq_eq]; exact hk
      simp only [Sv.get, hb, cond_false] at hv
      exact ih h.2 hv
theorem Fits.sub {N : Nat} {a : Act} {E E' : Env} (h : Fits N a E) (hs : Sub E' E) : Fits N a E' :=
  ⟨h.defers, h.size, fun t v hv => h.slot t v (hs.get hv)⟩
def evs (E : Env) : List Operand → Option (List Value)
  | [] => some []
  | x :: r => match ev E x, evs E r with
    | some v, some vs => some (v :: vs)
    | _, _ => none
theorem Fits.evs {N : Nat} {a : Act} {E : Env} (h : Fits N a E) : ∀ {xs : List Operand} {vs : List Value}, evs E xs = some vs → xs.map a.eval = vs
  | [], vs, hx => by simp [Sv.evs] at hx; simp [← hx]
  | x :: r, vs, hx => by
    simp only [Sv.evs] at hx
    cases h1 : Sv.ev E x with
    | none => simp [h1] at hx
    | some v =>
      cases h2 : Sv.evs E r with
      | none => simp [h1, h2] at hx
      | some us =>
        simp [h1, h2] at hx
        rw [← hx, List.map_cons, h.ev h1, h.evs h2]

/-! ### Assertions -/
abbrev Ids := Nat → Prop
structure Assn where
  sat : World → Ids → Prop
  lt : ∀ {w : World} {I : Ids}, sat w I → ∀ x, I x → x < w.heap.size
  keep : ∀ {w w' : World} {I : Ids}, sat w I → (∀ x, I x → w'.heap[x]? = w.heap[x]?) → sat w' I
def Sep : List Assn → Ids → World → Prop
  | [], I, _ => ∀ x, ¬ I x
  | A :: L, I, w => ∃ i j : Ids, (∀ x, I x ↔ i x ∨ j x) ∧ (∀ x, i x → ¬ j x) ∧ A.sat w i ∧ Sep L j w
theorem lt_of_some {w : World} {b : Nat} {o : Obj} (h : w.heap[b]? = some o) : b < w.heap.size := by
  rcases Nat.lt_or_ge b w.heap.size with h' | h'
  · exact h'
  · rw [Array.getElem?_eq_none h'] at h; cases h
def Blk (b : Nat) (o : Obj) : Assn where
  sat w I := (∀ x, I x ↔ x = b) ∧ w.heap[b]? = some o
  lt h x hx := by rw [(h.1 x).1 hx]; exact lt_of_some h.2
  keep h hk := ⟨h.1, by rw [hk _ ((h.1 _).2 rfl)]; exact h.2⟩
theorem Sep.lt : ∀ {L : List Assn} {I : Ids} {w : World}, Sep L I w → ∀ x, I x → x < w.heap.size
  | [], _, _, h, x, hx => absurd hx (h x)
  | A :: L, I, w, ⟨i, j, hI, _, hA, hL⟩, x, hx => by
    rcases (hI x).1 hx with h | h
    · exact A.lt hA x h
    · exact hL.lt x h
theorem Sep.keep : ∀ {L : List Assn} {I : Ids} {w w' : World}, Sep L I w → (∀ x, I x → w'.heap[x]? = w.heap[x]?) → Sep L I w'
  | [], _, _, _, h, _ => h
  | A :: _, _, _, _, ⟨i, j, hI, hd, hA, hL⟩, hk =>
    ⟨i, j, hI, hd, A.keep hA (fun x hx => hk x ((hI x).2 (.inl hx))), hL.keep (fun x hx => hk x ((hI x).2 (.inr hx)))⟩
theorem Sep.ext : ∀ {L : List Assn} {I J : Ids} {w : World}, Sep L I w → (∀ x, I x ↔ J x) → Sep L J w
  | [], _, _, _, h, e => fun x hx => h x ((e x).2 hx)
  | _ :: _, _, _, _, ⟨i, j, hI, hd, hA, hL⟩, e => ⟨i, j, fun x => (e x).symm.trans (hI x), hd, hA, hL⟩
theorem Sep.swap {A B : Assn} {L : List Assn} {I : Ids} {w : World} (h : Sep (A :: B :: L) I w) : Sep (B :: A :: L) I w := by
  obtain ⟨i, j, hI, hd, hA, i2, j2, hJ, hd2, hB, hL⟩ := h
  refine ⟨i2, fun x => i x ∨ j2 x, fun x => ?_, fun x hx hy => ?_, hB, i, j2, fun _ => Iff.rfl, fun x hx hy => hd x hx ((hJ x).2 (.inr hy)), hA, hL⟩
  · rw [hI x, hJ x]; constructor <;> (rintro (h | h | h) <;> simp [h])
  · rcases hy with hy | hy
    · exact hd x hy ((hJ x).2 (.inl hx))
    · exact hd2 x hx hy
theorem Sep.perm {L L' : List Assn} (hp : L.Perm L') : ∀ {I : Ids} {w : World}, Sep L I w → Sep L' I w := by
  induction hp with
  | nil => exact fun h => h
  | cons A _ ih => exact fun ⟨i, j, hI, hd, hA, hL⟩ => ⟨i, j, hI, hd, hA, ih hL⟩
  | swap A B L => exact fun h => h.swap
  | trans _ _ ih1 ih2 => exact fun h => ih2 (ih1 h)
theorem Sep.append : ∀ {L M : List Assn} {I : Ids} {w : World}, Sep (L ++ M) I w ↔ ∃ i j : Ids, (∀ x, I x ↔ i x ∨ j x) ∧ (∀ x, i x → ¬ j x) ∧ Sep L i w ∧ Sep M j w
  | [], M, I, w => by
    constructor
    · intro h; exact ⟨fun _ => False, I, fun x => by simp, fun _ h => h.elim, fun _ h => h, h⟩
    · rintro ⟨i, j, hI, _, hi, hM⟩
      refine hM.ext fun x => ?_
      rw [hI x]; constructor
      · exact .inr
      · rintro (h | h)
        · exact absurd h (hi x)
        · exact h
  | A :: L, M, I, w => by
    constructor
    · rintro ⟨i, j, hI, hd, hA, h⟩
      obtain ⟨i2, j2, hJ, hd2, hL, hM⟩ := Sep.append.1 h
      refine ⟨fun x => i x ∨ i2 x, j2, fun x => ?_, ?_, ⟨i, i2, fun _ => Iff.rfl, fun x hx hy => hd x hx ((hJ x).2 (.inl hy)), hA, hL⟩, hM⟩
      · rw [hI x, hJ x]; constructor <;> (intro h; simp only [or_assoc] at *; exact h)
      · rintro x (hx | hx) hy
        · exact hd x hx ((hJ x).2 (.inr hy))
        · exact hd2 x hx hy
    · rintro ⟨i, j, hI, hd, ⟨i1, i2, hi, hd1, hA, hL⟩, hM⟩
      refine ⟨i1, fun x => i2 x ∨ j x, fun x => ?_, ?_, hA, Sep.append.2 ⟨i2, j, fun _ => Iff.rfl, fun x hx hy => hd x ((hi x).2 (.inr hx)) hy, hL, hM⟩⟩
      · rw [hI x, hi x]; simp only [or_assoc]
      · rintro x hx (hy | hy)
        · exact hd1 x hx hy
        · exact hd x ((hi x).2 (.inl hx)) hy
/-- What has become of the memory outside I: nothing. -/
structure Ext (I : Ids) (w w' : World) : Prop where
  os : w'.os = w.os
  tape : w'.tape = w.tape
  output : w'.output = w.output
  size : w.heap.size ≤ w'.heap.size
  block : ∀ x, x < w.heap.size → ¬ I x → w'.heap[x]? = w.heap[x]?
theorem Ext.refl (I : Ids) (w : World) : Ext I w w := ⟨rfl, rfl, rfl, Nat.le_refl _, fun _ _ _ => rfl⟩
theorem Ext.trans {I J : Ids} {a b c : World} (h : Ext I a b) (k : Ext J b c) (hJ : ∀ x, J x → I x ∨ a.heap.size ≤ x) : Ext I a c :=
  ⟨k.os.trans h.os, k.tape.trans h.tape, k.output.trans h.output, Nat.le_trans h.size k.size, fun x hx hn => by
    rw [k.block x (Nat.lt_of_lt_of_le hx h.size) (fun hj => (hJ x hj).elim hn (fun h' => by omega)), h.block x hx hn]⟩
theorem Ext.drew {I : Ids} {w w' : World} (h : Ext I w w') : Ext I w w'.drew := ⟨h.os, h.tape, h.output, h.size, h.block⟩
/-- The state of a walk: what is owned, and what has happened since world w0 (in which the call owned I0). -/
def Hp (I0 : Ids) (w0 : World) (L : List Assn) (w : World) : Prop :=
  ∃ I : Ids, Sep L I w ∧ Ext I0 w0 w ∧ ∀ x, I x → I0 x ∨ w0.heap.size ≤ x
theorem Hp.start {I : Ids} {w : World} {L : List Assn} (h : Sep L I w) : Hp I w L w := ⟨I, h, Ext.refl I w, fun _ h => .inl h⟩
theorem Hp.perm {I0 : Ids} {w0 w : World} {L L' : List Assn} (h : Hp I0 w0 L w) (hp : L.Perm L') : Hp I0 w0 L' w :=
  let ⟨I, hs, he, hi⟩ := h; ⟨I, hs.perm hp, he, hi⟩
theorem Hp.sub {I0 : Ids} {w0 w : World} {L M : List Assn} (h : Hp I0 w0 (L ++ M) w) : Hp I0 w0 L w := by
  obtain ⟨I, hs, he, hi⟩ := h
  obtain ⟨i, j, hI, _, hL, _⟩ := Sep.append.1 hs
  exact ⟨i, hL, he, fun x hx => hi x ((hI x).2 (.inl hx))⟩
theorem World.drew_heap (w : World) : w.drew.heap = w.heap := rfl
theorem Sep.drew {L : List Assn} {I : Ids} {w : World} (h : Sep L I w) : Sep L I w.drew := h.keep fun _ _ => rfl
theorem Hp.drew {I0 : Ids} {w0 w : World} {L : List Assn} (h : Hp I0 w0 L w) : Hp I0 w0 L w.drew :=
  let ⟨I, hs, he, hi⟩ := h; ⟨I, hs.drew, he.drew, hi⟩
theorem perm_erase {α : Type} : ∀ {L : List α} {k : Nat} {A : α}, L[k]? = some A → L.Perm (A :: L.eraseIdx k)
  | [], _, _, h => by simp at h
  | B :: L, 0, A, h => by simp at h; subst h; simp
  | B :: L, k + 1, A, h => by
    simp only [List.getElem?_cons_succ] at h
    simp only [List.eraseIdx_cons_succ]
    exact (List.Perm.cons B (perm_erase h)).trans (List.Perm.swap A B _)
theorem perm_set {α : Type} : ∀ {L : List α} {k : Nat} {A : α} (B : α), L[k]? = some A → (B :: L.eraseIdx k).Perm (L.set k B)
  | [], _, _, _, h => by simp at h
  | C :: L, 0, A, B, _ => by simp
  | C :: L, k + 1, A, B, h => by
    simp only [List.getElem?_cons_succ] at h
    simp only [List.eraseIdx_cons_succ, List.set_cons_succ]
    exact (List.Perm.swap C B _).trans (List.Perm.cons C (perm_set B h))
/-- Assertion number k, apart from the others. -/
theorem Hp.at {I0 : Ids} {w0 w : World} {L : List Assn} (h : Hp I0 w0 L w) {k : Nat} {A : Assn} (hk : L[k]? = some A) :
    ∃ i j : Ids, A.sat w i ∧ Sep (L.eraseIdx k) j w ∧ (∀ x, i x → ¬ j x) ∧ Ext I0 w0 w ∧ (∀ x, i x → I0 x ∨ w0.heap.size ≤ x) ∧ (∀ x, j x → I0 x ∨ w0.heap.size ≤ x) := by
  obtain ⟨I, hs, he, hi⟩ := h.perm (perm_erase hk)
  obtain ⟨i, j, hI, hd, hA, hL⟩ := hs
  exact ⟨i, j, hA, hL, hd, he, fun x hx => hi x ((hI x).2 (.inl hx)), fun x hx => hi x ((hI x).2 (.inr hx))⟩
theorem Hp.blk {I0 : Ids} {w0 w : World} {L : List Assn} (h : Hp I0 w0 L w) (k : Nat) {b : Nat} {o : Obj} (hk : L[k]? = some (Blk b o)) : w.heap[b]? = some o := by
  obtain ⟨i, j, hA, _⟩ := h.at hk
  exact hA.2
theorem cell_of {w : World} {b : Nat} {cs : Array Value} {t : TypeId} {fz : Nat × Nat} (h : w.heap[b]? = some (.cells cs t fz)) (o : Nat) : w.cell? ⟨b, o, none⟩ = cs[o]? := by
  simp [World.cell?, h]
theorem Hp.cell {I0 : Ids} {w0 w : World} {L : List Assn} (h : Hp I0 w0 L w) (k : Nat) {b o : Nat} {cs : Array Value} {t : TypeId} {fz : Nat × Nat} {v : Value}
    (hk : L[k]? = some (Blk b (.cells cs t fz))) (hv : cs.toList[o]? = some v) : w.cell? ⟨b, o, none⟩ = some v := by
  rw [cell_of (h.blk k hk), ← hv, Array.getElem?_toList]
/-- A block that the call does not own is as it was. -/
theorem Hp.ro {I0 : Ids} {w0 w : World} {L : List Assn} (h : Hp I0 w0 L w) {b : Nat} {o : Obj} (hb : w0.heap[b]? = some o) (hn : ¬ I0 b) : w.heap[b]? = some o := by
  obtain ⟨_, _, he, _⟩ := h
  rw [he.block b (lt_of_some hb) hn, hb]
theorem Hp.alloc {I0 : Ids} {w0 w w' : World} {L : List Assn} {o : Obj} (h : Hp I0 w0 L w) (hw : w'.heap = w.heap.push o) (h1 : w'.os = w.os) (h2 : w'.tape = w.tape) (h3 : w'.output = w.output) :
    Hp I0 w0 (L ++ [Blk w.heap.size o]) w' := by
  obtain ⟨I, hs, he, hi⟩ := h
  have hkeep : ∀ x, x < w.heap.size → w'.heap[x]? = w.heap[x]? := fun x hx => by rw [hw, Array.getElem?_push_lt hx, Array.getElem?_eq_getElem hx]
  refine ⟨fun x => I x ∨ x = w.heap.size, Sep.append.2 ⟨I, fun x => x = w.heap.size, fun _ => Iff.rfl, fun x hx e => ?_, hs.keep (fun x hx => hkeep x (hs.lt x hx)), ?_⟩, ⟨h1.trans he.os, h2.trans he.tape, h3.trans he.output, ?_, ?_⟩, ?_⟩
  · have := hs.lt x hx; omega
  · exact ⟨fun x => x = w.heap.size, fun _ => False, fun x => by simp, fun _ _ h => h, ⟨fun _ => Iff.rfl, by rw [hw]; simp⟩, fun _ h => h⟩
  · rw [hw, Array.size_push]; have := he.size; omega
  · intro x hx hn
    rw [hkeep x (Nat.lt_of_lt_of_le hx he.size), he.block x hx hn]
  · rintro x (hx | rfl)
    · exact hi x hx
    · exact .inr he.size
/-- A change of one owned block. -/
theorem Hp.modify {I0 : Ids} {w0 w w' : World} {L : List Assn} (h : Hp I0 w0 L w) {k b : Nat} {o o' : Obj} (hk : L[k]? = some (Blk b o)) (hb : w'.heap[b]? = some o') (hs : w'.heap.size = w.heap.size)
    (hx : ∀ x, x ≠ b → w'.heap[x]? = w.heap[x]?) (h1 : w'.os = w.os) (h2 : w'.tape = w.tape) (h3 : w'.output = w.output) : Hp I0 w0 (L.set k (Blk b o')) w' := by
  obtain ⟨i, j, hA, hL, hd, he, hi, hj⟩ := h.at hk
  refine Hp.perm ?_ (perm_set _ hk)
  refine ⟨fun x => x = b ∨ j x, ⟨fun x => x = b, j, fun _ => Iff.rfl, fun x e hxj => ?_, ⟨fun _ => Iff.rfl, hb⟩, hL.keep fun x hx' => hx x ?_⟩, ⟨h1.trans he.os, h2.trans he.tape, h3.trans he.output, by rw [hs]; exact he.size, fun x hlt hn => ?_⟩, ?_⟩
  · subst e; exact hd x ((hA.1 x).2 rfl) hxj
  · rintro rfl; exact hd x ((hA.1 x).2 rfl) hx'
  · have hne : x ≠ b := by
      rintro rfl
      rcases hi x ((hA.1 x).2 rfl) with h' | h'
      · exact hn h'
      · omega
    rw [hx x hne, he.block x hlt hn]
  · rintro x (rfl | hx)
    · exact hi x ((hA.1 x).2 rfl)
    · exact hj x hx

/-! ### Judgements -/
/-- What a continuation asks of a state. -/
def KV (N : Nat) (K : Act → World → Prop) (E : Env) (S : World → Prop) : Prop := ∀ a w, Fits N a E → S w → K a w
abbrev CV (P : Program) (N : Nat) (c : Code) (Q : Exit → Act → World → Prop) (E : Env) (S : World → Prop) : Prop := KV N (c.wp P Q) E S
abbrev RV (P : Program) (N : Nat) (ops : Array Oper) (Q : Exit → Act → World → Prop) (rest : List Oper) (E : Env) (S : World → Prop) : Prop := KV N (wpList P ops Q rest) E S
section
variable {P : Program} {N : Nat} {Q : Exit → Act → World → Prop} {E E' : Env} {S S' : World → Prop} {ops : Array Oper} {rest : List Oper}
theorem CV.seq {x y : Code} (h : CV P N x (Exit.then (y.wp P Q) Q) E S) : CV P N (.seq x y) Q E S := fun a w hf hs => wp_seq (h a w hf hs)
theorem CV.skip (h : KV N (Q .normal) E S) : CV P N .skip Q E S := fun a w hf hs => wp_skip (h a w hf hs)
theorem CV.exit {id : Nat} (h : KV N (Q (.exit id)) E S) : CV P N (.exit id) Q E S := fun a w hf hs => wp_exit (h a w hf hs)
theorem CV.ret (h : KV N (Q .ret) E S) : CV P N .ret Q E S := fun a w hf hs => wp_ret (h a w hf hs)
theorem CV.block {id : Nat} {c : Code} (h : CV P N c (Exit.inBlock id Q) E S) : CV P N (.block id c) Q E S := fun a w hf hs => wp_block (h a w hf hs)
theorem CV.cond_t {c : Operand} {x y : Code} (hc : ev E c = some (.bool true)) (h : CV P N x Q E S) : CV P N (.cond c x y) Q E S := fun a w hf hs => wp_cond_true (hf.ev hc) (h a w hf hs)
theorem CV.cond_f {c : Operand} {x y : Code} (hc : ev E c = some (.bool false)) (h : CV P N y Q E S) : CV P N (.cond c x y) Q E S := fun a w hf hs => wp_cond_false (hf.ev hc) (h a w hf hs)
theorem CV.cond {c : Operand} {x y : Code} {b : Bool} (hc : ev E c = some (.bool b)) (h1 : b = true → CV P N x Q E S) (h2 : b = false → CV P N y Q E S) : CV P N (.cond c x y) Q E S :=
  fun a w hf hs => wp_cond_split (hf.ev hc) (fun e => h1 e a w hf hs) (fun e => h2 e a w hf hs)
theorem CV.region {id : Nat} {l : List Oper} (h : RV P N l.toArray Q l E S) : CV P N (.region id l.toArray false) Q E S := fun a w hf hs => wp_region_lit (h a w hf hs)
theorem CV.weak {c : Code} (hE : Sub E' E) (hS : ∀ w, S w → S' w) (h : CV P N c Q E' S') : CV P N c Q E S := fun a w hf hs => h a w (hf.sub hE) (hS w hs)
theorem CV.env {c : Code} (E' : Env) (hE : Sub E' E) (h : CV P N c Q E' S) : CV P N c Q E S := fun a w hf hs => h a w (hf.sub hE) hs
theorem RV.env (E' : Env) (hE : Sub E' E) (h : RV P N ops Q rest E' S) : RV P N ops Q rest E S := fun a w hf hs => h a w (hf.sub hE) hs
theorem KV.env {K : Act → World → Prop} (E' : Env) (hE : Sub E' E) (h : KV N K E' S) : KV N K E S := fun a w hf hs => h a w (hf.sub hE) hs
theorem RV.nil (h : KV N (Q .normal) E S) : RV P N ops Q [] E S := fun a w hf hs => wpList_nil (h a w hf hs)
theorem KV.wp {y : Code} (h : CV P N y Q E S) : KV N (y.wp P Q) E S := h
theorem KV.then_n {next : Act → World → Prop} (h : KV N next E S) : KV N (Exit.then next Q .normal) E S := h
theorem KV.then_exit {next : Act → World → Prop} {id : Nat} (h : KV N (Q (.exit id)) E S) : KV N (Exit.then next Q (.exit id)) E S := h
theorem KV.then_ret {next : Act → World → Prop} (h : KV N (Q .ret) E S) : KV N (Exit.then next Q .ret) E S := h
theorem KV.block_n {id : Nat} (h : KV N (Q .normal) E S) : KV N (Exit.inBlock id Q .normal) E S := h
theorem KV.block_ret {id : Nat} (h : KV N (Q .ret) E S) : KV N (Exit.inBlock id Q .ret) E S := h
theorem KV.block_hit {id : Nat} (h : KV N (Q .normal) E S) : KV N (Exit.inBlock id Q (.exit id)) E S := fun a w hf hs => by simp only [Exit.inBlock, if_true]; exact h a w hf hs
theorem KV.block_miss {id id' : Nat} (hne : Nat.beq id' id = false) (h : KV N (Q (.exit id')) E S) : KV N (Exit.inBlock id Q (.exit id')) E S := fun a w hf hs => by
  have : id' ≠ id := fun e => by rw [e] at hne; simp at hne
  simp only [Exit.inBlock, this, if_false]; exact h a w hf hs
/-- A state handed on under a name. -/
theorem CV.ex {α : Sort _} {F : α → World → Prop} {c : Code} (h : ∀ x, CV P N c Q E (F x)) : CV P N c Q E (fun w => ∃ x, F x w) := fun a w hf ⟨x, hs⟩ => h x a w hf hs
theorem CV.have {c : Code} {p : Prop} (hp : ∀ w, S w → p) (h : p → CV P N c Q E S) : CV P N c Q E S := fun a w hf hs => h (hp w hs) a w hf hs
theorem RV.have {p : Prop} (hp : ∀ w, S w → p) (h : p → RV P N ops Q rest E S) : RV P N ops Q rest E S := fun a w hf hs => h (hp w hs) a w hf hs
theorem CV.heap {c : Code} (hS : ∀ w, S w → S' w) (h : CV P N c Q E S') : CV P N c Q E S := fun a w hf hs => h a w hf (hS w hs)
theorem RV.heap (hS : ∀ w, S w → S' w) (h : RV P N ops Q rest E S') : RV P N ops Q rest E S := fun a w hf hs => h a w hf (hS w hs)
theorem RV.heapEx {α : Sort _} {F : α → World → Prop} (hS : ∀ w, S w → ∃ x, F x w) (h : ∀ x, RV P N ops Q rest E (F x)) : RV P N ops Q rest E S := fun a w hf hs => let ⟨x, hx⟩ := hS w hs; h x a w hf hx
theorem CV.heapEx {α : Sort _} {F : α → World → Prop} {c : Code} (hS : ∀ w, S w → ∃ x, F x w) (h : ∀ x, CV P N c Q E (F x)) : CV P N c Q E S := fun a w hf hs => let ⟨x, hx⟩ := hS w hs; h x a w hf hx
/-- Ways that meet again: x leads into one of the states G y, the rest goes on from there. -/
theorem CV.join {α : Type} {x y : Code} (G : α → Env) (T : α → World → Prop)
    (h1 : CV P N x (Exit.then (fun a w => ∃ z, Fits N a (G z) ∧ T z w) Q) E S) (h2 : ∀ z, CV P N y Q (G z) (T z)) : CV P N (.seq x y) Q E S :=
  fun a w hf hs => wp_seq (wp_mono (h1 a w hf hs) fun e a' w' hq => by
    cases e <;> first | exact hq | (obtain ⟨z, hz, ht⟩ := hq; exact h2 z a' w' hz ht))
theorem KV.join {α : Type} {G : α → Env} {T : α → World → Prop} (z : α) (hE : Sub (G z) E) (hT : ∀ w, S w → T z w) : KV N (fun a w => ∃ z, Fits N a (G z) ∧ T z w) E S :=
  fun _ w hf hs => ⟨z, hf.sub hE, hT w hs⟩
theorem CV.loop {α : Type} {c : Code} (m : α → Nat) (G : α → Env) (T : α → World → Prop) (z0 : α) (hE : Sub (G z0) E) (hT : ∀ w, S w → T z0 w)
    (round : ∀ z, CV P N c (Exit.then (fun a w => ∃ z', m z' < m z ∧ Fits N a (G z') ∧ T z' w) Q) (G z) (T z)) : CV P N (.loop c) Q E S := by
  intro a w hf hs
  refine wp_loop_ghost (fun n a w => ∃ z, m z = n ∧ Fits N a (G z) ∧ T z w) (m z0) ⟨z0, rfl, hf.sub hE, hT w hs⟩ ?_
  rintro n a w ⟨z, rfl, hf, ht⟩
  refine wp_mono (round z a w hf ht) fun e a' w' hq => ?_
  cases e <;> first | exact hq | (obtain ⟨z', hlt, hf', ht'⟩ := hq; exact ⟨m z', hlt, z', rfl, hf', ht'⟩)
theorem KV.loop {α : Type} {m : α → Nat} {G : α → Env} {T : α → World → Prop} {z : α} (z' : α) (hlt : m z' < m z) (hE : Sub (G z') E) (hT : ∀ w, S w → T z' w) :
    KV N (fun a w => ∃ z', m z' < m z ∧ Fits N a (G z') ∧ T z' w) E S := fun _ w hf hs => ⟨z', hlt, hf.sub hE, hT w hs⟩
end
end Go.Sv
