/-
  Steps: operations that yield a value and leave the world alone; rules for the judgements.
-/
import Derived.Test.YthdpojggdodpfaaSv1
import Derived.IntWalk
import Derived.LaidEql
set_option linter.unusedSimpArgs false
set_option linter.unusedVariables false
namespace Go.Sv

/-- In every state that fits, the operation yields v and leaves the world as it is. -/
def Step (P : Program) (N : Nat) (E : Env) (S : World → Prop) (o : Oper) (v : Value) : Prop := ∀ a w, Fits N a E → S w → (execOp a.eval o).run P w = .ok (.value v) w
/-- Type t: its zero value, its cells, its bytes. -/
def TI (P : Program) (t : TypeId) (z : Value) (sz by_ : Nat) : Prop := (P.info? t).map (fun i => (i.zero, i.size, i.bytes)) = some (some z, sz, by_)
theorem TI.get {P : Program} {t : TypeId} {z : Value} {sz by_ : Nat} (h : TI P t z sz by_) : ∃ i, P.info? t = some i ∧ i.zero = some z ∧ i.size = sz ∧ i.bytes = by_ := by
  unfold TI at h
  cases hi : P.info? t with
  | none => rw [hi] at h; simp at h
  | some i => rw [hi] at h; simp at h; exact ⟨i, rfl, h.1, h.2.1, h.2.2⟩
theorem TI.sizeOf {P : Program} {t : TypeId} {z : Value} {sz by_ : Nat} (h : TI P t z sz by_) (w : World) : (sizeOf t).run P w = .ok sz w := by
  obtain ⟨i, hi, _, hs, _⟩ := h.get
  simp [Go.sizeOf, typeInfo, hi, hs]
theorem TI.zeroValue {P : Program} {t : TypeId} {z : Value} {sz by_ : Nat} (h : TI P t z sz by_) (w : World) : (zeroValue t).run P w = .ok z w := by
  obtain ⟨i, hi, hz, _, _⟩ := h.get
  simp [Go.zeroValue, typeInfo, hi, hz]

def wantsE (ops : Array Oper) (E : Env) (j : Nat) : Option Bool :=
  match (ops[j]?).bind (·.dst) with
  | some d => match get E d with
    | some (.bool b) => some b
    | _ => none
  | none => none
theorem wanted_of {N : Nat} {a : Act} {E : Env} {ops : Array Oper} (h : Fits N a E) {o : Oper} {j : Nat} {want b : Bool} (hg : o.guard = some (j, want)) (hw : wantsE ops E j = some b) :
    Region.wanted o (yielded ops a.tmps) = (b == want) := by
  unfold wantsE at hw
  simp only [Region.wanted, hg]
  cases hd : (ops[j]?).bind (·.dst) with
  | none => rw [hd] at hw; simp at hw
  | some d =>
    rw [hd] at hw
    simp only [] at hw
    cases hv : get E d with
    | none => rw [hv] at hw; simp at hw
    | some v =>
      rw [hv] at hw
      cases v <;> simp at hw
      subst hw
      have : yielded ops a.tmps j = some (by assumption) := by
        simp only [yielded, hd, Option.bind_some, h.slot d _ hv]
      rw [this]
      rename_i b'
      cases b' <;> cases want <;> rfl

section
variable {P : Program} {N : Nat} {Q : Exit → Act → World → Prop} {E : Env} {S : World → Prop} {ops : Array Oper} {rest : List Oper} {o : Oper}
theorem wpList_val {a : Act} {w w' : World} {v : Value} (hw : Region.wanted o (yielded ops a.tmps) = true) (h : (execOp a.eval o).run P w = .ok (.value v) w') (k : wpList P ops Q rest (a.put o.dst v) w') :
    wpList P ops Q (o :: rest) a w := by
  unfold wpList
  rw [if_pos hw]
  exact .inl (by unfold Oper.wp; rw [h]; exact k)
theorem wanted_none {f : Nat → Option Bool} (hg : o.guard = none) : Region.wanted o f = true := by simp [Region.wanted, hg]
/-- One operation, and what asks on. -/
def OV (P : Program) (N : Nat) (ops : Array Oper) (Q : Exit → Act → World → Prop) (o : Oper) (E : Env) (S : World → Prop) (K : Act → World → Prop) : Prop :=
  ∀ a w, Fits N a E → S w → if Region.wanted o (yielded ops a.tmps) = true then Oper.wp P o a w K Q else K (a.put o.dst undef) w
theorem RV.op (h : OV P N ops Q o E S (wpList P ops Q rest)) : RV P N ops Q (o :: rest) E S := fun a w hf hs => by
  have := h a w hf hs
  unfold wpList
  split
  · rename_i hw; rw [if_pos hw] at this; exact .inl this
  · rename_i hw; rw [if_neg hw] at this; exact this
variable {K : Act → World → Prop}
/-- The guard of an operation says yes. -/
def Yes (N : Nat) (ops : Array Oper) (o : Oper) (E : Env) : Prop := ∀ a, Fits N a E → Region.wanted o (yielded ops a.tmps) = true
theorem gno {d : Option Nat} {op : Op} {ty : TypeId} {pos : String} {af : Array Edge} : Yes N ops ⟨d, op, ty, pos, af, none⟩ E := fun _ _ => rfl
theorem gyes {d : Option Nat} {op : Op} {ty : TypeId} {pos : String} {af : Array Edge} {j : Nat} {b : Bool} (hg : wantsE ops E j = some b) : Yes N ops ⟨d, op, ty, pos, af, some (j, b)⟩ E :=
  fun _ hf => by rw [wanted_of hf rfl hg]; simp
theorem OV.run {v : Value} {w' : World} {a : Act} {w : World} (hw : Region.wanted o (yielded ops a.tmps) = true) (h : (execOp a.eval o).run P w = .ok (.value v) w') (k : K (a.put o.dst v) w') :
    if Region.wanted o (yielded ops a.tmps) = true then Oper.wp P o a w K Q else K (a.put o.dst undef) w := by
  rw [if_pos hw]; unfold Oper.wp; rw [h]; exact k
theorem OV.step {d : Nat} {v : Value} {op : Op} {ty : TypeId} {pos : String} {af : Array Edge} {g : Option (Nat × Bool)} (hg : Yes N ops ⟨some d, op, ty, pos, af, g⟩ E) (h : Step P N E S ⟨some d, op, ty, pos, af, g⟩ v) (hN : Nat.blt d N = true)
    (k : KV N K (set E d v) S) : OV P N ops Q ⟨some d, op, ty, pos, af, g⟩ E S K :=
  fun a w hf hs => OV.run (hg a hf) (h a w hf hs) (k _ w (hf.put v hN) hs)
/-- An operation whose guard says no. -/
theorem OV.skip {d j : Nat} {b : Bool} {op : Op} {ty : TypeId} {pos : String} {af : Array Edge} (hg : wantsE ops E j = some (!b)) (hN : Nat.blt d N = true)
    (k : KV N K (set E d undef) S) : OV P N ops Q ⟨some d, op, ty, pos, af, some (j, b)⟩ E S K := fun a w hf hs => by
  rw [if_neg (by rw [wanted_of hf rfl hg]; cases b <;> decide)]
  exact k _ w (hf.put undef hN) hs
/-- A test that parts the walk. -/
theorem OV.split {d : Nat} {c : Prop} [Decidable c] {op : Op} {ty : TypeId} {pos : String} {af : Array Edge} {g : Option (Nat × Bool)} (hg : Yes N ops ⟨some d, op, ty, pos, af, g⟩ E) (h : Step P N E S ⟨some d, op, ty, pos, af, g⟩ (.bool (decide c)))
    (hN : Nat.blt d N = true) (k1 : c → KV N K (set E d (.bool true)) S) (k2 : ¬ c → KV N K (set E d (.bool false)) S) : OV P N ops Q ⟨some d, op, ty, pos, af, g⟩ E S K := fun a w hf hs => by
  have h' := h a w hf hs
  by_cases hc : c
  · rw [decide_eq_true hc] at h'
    exact OV.run (hg a hf) h' (k1 hc _ w (hf.put _ hN) hs)
  · rw [decide_eq_false hc] at h'
    exact OV.run (hg a hf) h' (k2 hc _ w (hf.put _ hN) hs)
/-- An operation that makes a block. -/
theorem OV.new {I0 : Ids} {w0 : World} {L : List Assn} {d : Nat} {op : Op} {ty : TypeId} {pos : String} {af : Array Edge} {g : Option (Nat × Bool)} {val : Nat → Value} {ob : Obj} (hg : Yes N ops ⟨some d, op, ty, pos, af, g⟩ E)
    (h : ∀ a w, Fits N a E → Hp I0 w0 L w → (execOp a.eval ⟨some d, op, ty, pos, af, g⟩).run P w = .ok (.value (val w.heap.size)) (w.alloc ob)) (hN : Nat.blt d N = true)
    (k : ∀ nb, KV N K (set E d (val nb)) (Hp I0 w0 (L ++ [Blk nb ob]))) : OV P N ops Q ⟨some d, op, ty, pos, af, g⟩ E (Hp I0 w0 L) K :=
  fun a w hf hs => OV.run (hg a hf) (h a w hf hs) (k w.heap.size _ _ (hf.put _ hN) (hs.alloc rfl rfl rfl rfl))

/-! ### Steps -/
variable {d : Option Nat} {ty : TypeId} {pos : String} {af : Array Edge} {g : Option (Nat × Bool)} {x y z : Operand} {u v u' : Value}
theorem Step.move (hx : ev E x = some v) : Step P N E S ⟨d, .move x, ty, pos, af, g⟩ v := fun a w hf _ => by simp [execOp, hf.ev hx]
theorem Step.assign (hx : ev E x = some v) : Step P N E S ⟨d, .assign x, ty, pos, af, g⟩ v := fun a w hf _ => by simp [execOp, hf.ev hx]
theorem Step.pick_t (hx : ev E x = some (.bool true)) (hy : ev E y = some v) : Step P N E S ⟨d, .pick x y z, ty, pos, af, g⟩ v := fun a w hf _ => by
  simp [execOp, hf.ev hx, hf.ev hy, asBool]
theorem Step.pick_f (hx : ev E x = some (.bool false)) (hz : ev E z = some v) : Step P N E S ⟨d, .pick x y z, ty, pos, af, g⟩ v := fun a w hf _ => by
  simp [execOp, hf.ev hx, hf.ev hz, asBool]
theorem Step.nilCheck {p : Addr} (hx : ev E x = some (.pointer (some p))) : Step P N E S ⟨d, .nilCheck x, ty, pos, af, g⟩ (.pointer (some p)) := fun a w hf _ => by simp [execOp, hf.ev hx]
theorem Step.fieldAddr {t : TypeId} {j : Nat} (hx : ev E x = some u) (h : ∀ w, (Instr.fieldAt t u j).run P w = .ok v w) : Step P N E S ⟨d, .fieldAddr t x j, ty, pos, af, g⟩ v := fun a w hf _ => by
  simp only [execOp, hf.ev hx, Sem.run_bind, h, Result.andThen_ok, Sem.run_pure]
theorem Step.field {t : TypeId} {j : Nat} (hx : ev E x = some u) (h : ∀ w, (Instr.field t u j).run P w = .ok v w) : Step P N E S ⟨d, .field t x j, ty, pos, af, g⟩ v := fun a w hf _ => by
  simp only [execOp, hf.ev hx, Sem.run_bind, h, Result.andThen_ok, Sem.run_pure]
theorem Step.extract {j : Nat} (hx : ev E x = some u) (h : ∀ w, (Instr.extract u j).run P w = .ok v w) : Step P N E S ⟨d, .extract x j, ty, pos, af, g⟩ v := fun a w hf _ => by
  simp only [execOp, hf.ev hx, Sem.run_bind, h, Result.andThen_ok, Sem.run_pure]
theorem Step.extract0 {vs : List Value} {j : Nat} (hx : ev E x = some (.tuple vs.toArray)) (hj : vs[j]? = some v) : Step P N E S ⟨d, .extract x j, ty, pos, af, g⟩ v :=
  Step.extract hx fun w => by simp [Instr.extract, hj]
theorem Step.indexAddr {t : TypeId} (hx : ev E x = some u) (hy : ev E y = some u') (h : ∀ w, (Instr.indexAt t u u').run P w = .ok v w) : Step P N E S ⟨d, .indexAddr t x y, ty, pos, af, g⟩ v := fun a w hf _ => by
  simp only [execOp, hf.ev hx, hf.ev hy, Sem.run_bind, h, Result.andThen_ok, Sem.run_pure]
theorem Step.index {t : TypeId} (hx : ev E x = some u) (hy : ev E y = some u') (h : ∀ w, (Instr.index t u u').run P w = .ok v w) : Step P N E S ⟨d, .index t x y, ty, pos, af, g⟩ v := fun a w hf _ => by
  simp only [execOp, hf.ev hx, hf.ev hy, Sem.run_bind, h, Result.andThen_ok, Sem.run_pure]
theorem run_index_slice {t e : TypeId} {ze : Value} {sz by_ : Nat} (hu : P.underlying t = some (.slice e)) (hi : TI P e ze sz by_) (b o n c : Nat) {k : IntKind} {i : Int} (m : Nat) (hm : i = (m : Int)) (hlt : m < n) (w : World) :
    (Instr.indexAt t (.slice (some ⟨b, o, none⟩) n c) (.int k i)).run P w = .ok (.pointer (some ⟨b, o + m * sz, none⟩)) w := by
  subst hm
  have h0 : 0 ≤ (m : Int) ∧ (m : Int) < (n : Int) := by omega
  simp only [Instr.indexAt, asIntOf, Sem.run_bind, Sem.run_pure, Result.andThen_ok, run_underlying hu, h0, and_self, if_true, hi.sizeOf, Int.toNat_natCast]
  by_cases hz : m * sz = 0
  · simp [hz, Addr.add]
  · simp [Addr.add, hz]
/-- The address of element m of a slice. -/
theorem Step.indexSl {t e : TypeId} {ze : Value} {sz by_ b o n c : Nat} {A : Option Addr} {k : IntKind} {i : Int} (hu : P.underlying t = some (.slice e)) (hi : TI P e ze sz by_)
    (hx : ev E x = some (.slice A n c)) (hy : ev E y = some (.int k i)) (hA : A = some ⟨b, o, none⟩) (m : Nat) (hm : i = (m : Int)) (hlt : m < n) : Step P N E S ⟨d, .indexAddr t x y, ty, pos, af, g⟩ (.pointer (some ⟨b, o + m * sz, none⟩)) := by
  subst hA
  exact Step.indexAddr hx hy (run_index_slice hu hi b o n c m hm hlt)
def aggD : TypeDesc → Bool
  | .struct _ | .array _ _ => true
  | _ => false
/-- A load of one cell. -/
theorem Step.load {t : TypeId} {D : TypeDesc} {p : Addr} (hu : P.underlying t = some D) (hD : aggD D = false) (hx : ev E x = some (.pointer (some p))) (hc : ∀ w, S w → w.cell? p = some v) :
    Step P N E S ⟨d, .load t x, ty, pos, af, g⟩ v := fun a w hf hs => by
  have hag : (isAgg t).run P w = .ok false w := by
    simp only [isAgg, Sem.run_bind, run_underlying hu, Result.andThen_ok]
    cases D <;> first | rfl | (simp [aggD] at hD)
  have hl : (Go.load p).run P w = .ok v w := by simp [Go.load, Sem.run, hc w hs]
  simp only [execOp, hf.ev hx, Instr.loadAt, Instr.sureAddr, loadVar, Sem.run_bind, Sem.run_pure, Result.andThen_ok, hag, Bool.false_eq_true, if_false, hl]
/-- A load of a struct. -/
theorem Step.loadN {t : TypeId} {D : TypeDesc} {b o : Nat} {ze : Value} {sz by_ : Nat} (vs : List Value) (hu : P.underlying t = some D) (hD : aggD D = true) (hi : TI P t ze sz by_) (hsz : vs.length = sz)
    (hx : ev E x = some (.pointer (some ⟨b, o, none⟩))) (hc : ∀ w, S w → ∀ j v, vs[j]? = some v → w.cell? ⟨b, o + j, none⟩ = some v) :
    Step P N E S ⟨d, .load t x, ty, pos, af, g⟩ (.agg vs.toArray) := fun a w hf hs => by
  have hag : (isAgg t).run P w = .ok true w := by
    simp only [isAgg, Sem.run_bind, run_underlying hu, Result.andThen_ok]
    cases D <;> first | rfl | (simp [aggD] at hD)
  have hl := run_loadCells_list (P := P) w ⟨b, o, none⟩ vs (fun j v hv => by
    have := hc w hs j v hv
    by_cases hj : j = 0
    · subst hj; simpa [Addr.add] using this
    · simpa [Addr.add, hj] using this)
  rw [hsz] at hl
  simp only [execOp, hf.ev hx, Instr.loadAt, Instr.sureAddr, loadVar, Sem.run_bind, Sem.run_pure, Result.andThen_ok, hag, if_true, hi.sizeOf, hl]
section
variable {k : IntKind} {m n r : Int} {t t2 : TypeId}
theorem step_bin {op : BinOp} (hx : ev E x = some u) (hy : ev E y = some u') (hgd : eqGuard op t x y u u' = pure ()) (h : ∀ w, (binOp op t u u').run P w = .ok v w) : Step P N E S ⟨d, .binOp op t x y t2, ty, pos, af, g⟩ v := fun a w hf _ => by
  simp only [execOp, hf.ev hx, hf.ev hy, hgd, Sem.run_bind, Sem.run_pure, Result.andThen_ok, h]
theorem Step.add (hx : ev E x = some (.int k m)) (hy : ev E y = some (.int k n)) (hr : k.wrap (m + n) = r) : Step P N E S ⟨d, .binOp .add t x y t2, ty, pos, af, g⟩ (.int k r) :=
  step_bin hx hy rfl fun w => by simp [binOp, Op.intArith, hr]
theorem Step.sub (hx : ev E x = some (.int k m)) (hy : ev E y = some (.int k n)) (hr : k.wrap (m - n) = r) : Step P N E S ⟨d, .binOp .sub t x y t2, ty, pos, af, g⟩ (.int k r) :=
  step_bin hx hy rfl fun w => by simp [binOp, Op.intArith, hr]
theorem Step.mul (hx : ev E x = some (.int k m)) (hy : ev E y = some (.int k n)) (hr : k.wrap (m * n) = r) : Step P N E S ⟨d, .binOp .mul t x y t2, ty, pos, af, g⟩ (.int k r) :=
  step_bin hx hy rfl fun w => by simp [binOp, Op.intArith, hr]
theorem Step.rem (hx : ev E x = some (.int k m)) (hy : ev E y = some (.int k n)) (hn : n ≠ 0) (hr : m.tmod n = r) : Step P N E S ⟨d, .binOp .rem t x y t2, ty, pos, af, g⟩ (.int k r) :=
  step_bin hx hy rfl fun w => by simp [binOp, Op.intDiv, hn, hr]
theorem Step.quo (hx : ev E x = some (.int k m)) (hy : ev E y = some (.int k n)) (hn : n ≠ 0) (hr : k.wrap (m.tdiv n) = r) : Step P N E S ⟨d, .binOp .quo t x y t2, ty, pos, af, g⟩ (.int k r) :=
  step_bin hx hy rfl fun w => by simp [binOp, Op.intDiv, hn, hr]
theorem Step.eql (hx : ev E x = some (.int k m)) (hy : ev E y = some (.int k n)) : Step P N E S ⟨d, .binOp .eql t x y t2, ty, pos, af, g⟩ (.bool (decide (m = n))) :=
  step_bin hx hy rfl fun w => by simp [binOp, Op.intCmp]; rfl
theorem Step.neq (hx : ev E x = some (.int k m)) (hy : ev E y = some (.int k n)) : Step P N E S ⟨d, .binOp .neq t x y t2, ty, pos, af, g⟩ (.bool (decide (¬ m = n))) :=
  step_bin hx hy rfl fun w => by simp [binOp, Op.intCmp, bne]; rfl
theorem Step.lss (hx : ev E x = some (.int k m)) (hy : ev E y = some (.int k n)) : Step P N E S ⟨d, .binOp .lss t x y t2, ty, pos, af, g⟩ (.bool (decide (m < n))) :=
  step_bin hx hy rfl fun w => by simp [binOp, Op.intCmp]
theorem Step.leq (hx : ev E x = some (.int k m)) (hy : ev E y = some (.int k n)) : Step P N E S ⟨d, .binOp .leq t x y t2, ty, pos, af, g⟩ (.bool (decide (m ≤ n))) :=
  step_bin hx hy rfl fun w => by simp [binOp, Op.intCmp]
theorem Step.gtr (hx : ev E x = some (.int k m)) (hy : ev E y = some (.int k n)) : Step P N E S ⟨d, .binOp .gtr t x y t2, ty, pos, af, g⟩ (.bool (decide (n < m))) :=
  step_bin hx hy rfl fun w => by simp [binOp, Op.intCmp]
theorem Step.geq (hx : ev E x = some (.int k m)) (hy : ev E y = some (.int k n)) : Step P N E S ⟨d, .binOp .geq t x y t2, ty, pos, af, g⟩ (.bool (decide (n ≤ m))) :=
  step_bin hx hy rfl fun w => by simp [binOp, Op.intCmp]
theorem Step.eqlB {a b : Bool} (hx : ev E x = some (.bool a)) (hy : ev E y = some (.bool b)) (hr : ∀ w, (binOp .eql t (.bool a) (.bool b)).run P w = .ok (.bool (a == b)) w) : Step P N E S ⟨d, .binOp .eql t x y t2, ty, pos, af, g⟩ (.bool (a == b)) :=
  step_bin hx hy rfl hr
theorem Step.not {b : Bool} (hx : ev E x = some (.bool b)) : Step P N E S ⟨d, .unOp .not t x, ty, pos, af, g⟩ (.bool (!b)) := fun a w hf _ => by
  simp [execOp, hf.ev hx, Op.unary]
theorem Step.convI {src dst : TypeId} {k' : IntKind} {D : TypeDesc} (hs : P.underlying src = some D) (hd : P.underlying dst = some (.int k')) (hx : ev E x = some (.int k m)) (hr : k'.wrap m = r) :
    Step P N E S ⟨d, .convert src dst x, ty, pos, af, g⟩ (.int k' r) := fun a w hf _ => by
  simp only [execOp, hf.ev hx, Sem.run_bind, convert, run_underlying hs, run_underlying hd, Result.andThen_ok, Conv.intToInt, Sem.run_pure, hr]
end
theorem Step.lenSl {t e : TypeId} {A : Option Addr} {n c : Nat} (hu : P.underlying t = some (.slice e)) (hx : ev E x = some (.slice A n c)) :
    Step P N E S ⟨d, .call ⟨.builtin .len, #[x], #[t]⟩, ty, pos, af, g⟩ (.int .i64 n) := fun a w hf _ => by
  simp [execOp, resolve, invoke, builtin, hf.ev hx, Builtin.len_, Builtin.lenOf, run_underlying hu, goInt]
theorem Step.max2 {k : IntKind} {m n : Int} {ts : Array TypeId} (hx : ev E x = some (.int k m)) (hy : ev E y = some (.int k n)) :
    Step P N E S ⟨d, .call ⟨.builtin .max, #[x, y], ts⟩, ty, pos, af, g⟩ (.int k (max m n)) := fun a w hf _ => by
  have e : (if n > m then n else m) = max m n := by rw [Int.max_def]; split <;> split <;> omega
  simp [execOp, resolve, invoke, builtin, hf.ev hx, hf.ev hy, Builtin.max_, Builtin.max2, e]
theorem Step.min2 {k : IntKind} {m n : Int} {ts : Array TypeId} (hx : ev E x = some (.int k m)) (hy : ev E y = some (.int k n)) :
    Step P N E S ⟨d, .call ⟨.builtin .min, #[x, y], ts⟩, ty, pos, af, g⟩ (.int k (min m n)) := fun a w hf _ => by
  have e : (if n < m then n else m) = min m n := by rw [Int.min_def]; split <;> split <;> omega
  simp [execOp, resolve, invoke, builtin, hf.ev hx, hf.ev hy, Builtin.min_, Builtin.min2, e]
def evp (E : Env) : List (Nat × Operand) → Option (List (Nat × Value))
  | [] => some []
  | (i, x) :: r => match ev E x, evp E r with
    | some v, some vs => some ((i, v) :: vs)
    | _, _ => none
theorem Fits.evp {a : Act} (h : Fits N a E) : ∀ {xs : List (Nat × Operand)} {vs : List (Nat × Value)}, evp E xs = some vs → xs.map (fun (i, x) => (i, a.eval x)) = vs
  | [], vs, hx => by simp [Sv.evp] at hx; simp [← hx]
  | (i, x) :: r, vs, hx => by
    simp only [Sv.evp] at hx
    cases h1 : Sv.ev E x with
    | none => simp [h1] at hx
    | some v =>
      cases h2 : Sv.evp E r with
      | none => simp [h1, h2] at hx
      | some us =>
        simp [h1, h2] at hx
        rw [← hx, List.map_cons, h.evp h2]; simp only [h.ev h1]
theorem Step.build {t : TypeId} {ps : List (Nat × Operand)} {vs : List (Nat × Value)} (hx : evp E ps = some vs) (h : ∀ w, (Instr.build t vs.toArray).run P w = .ok v w) : Step P N E S ⟨d, .build t ps.toArray, ty, pos, af, g⟩ v := fun a w hf _ => by
  have e : ps.toArray.map (fun (i, x) => (i, a.eval x)) = vs.toArray := by rw [← hf.evp hx]; simp
  simp only [execOp, e, Sem.run_bind, h, Result.andThen_ok, Sem.run_pure]
end
end Go.Sv
