/-
  Maps that the call owns, many owned things under one name, comparisons of structs, nil slices.
-/
import Derived.Test.YthdpojggdodpfaaSv5
import Derived.Lib.SliceRun
set_option linter.unusedSimpArgs false
set_option linter.unusedVariables false
namespace Go.Sv
section
variable {P : Program} {N : Nat} {Q : Exit → Act → World → Prop} {E : Env} {S : World → Prop} {ops : Array Oper} {K : Act → World → Prop} {I0 : Ids} {w0 : World} {L : List Assn}
variable {d : Option Nat} {ty : TypeId} {pos : String} {af : Array Edge} {g : Option (Nat × Bool)} {x y z : Operand} {u v u' : Value} {t t2 : TypeId}
theorem Step.binR {op : BinOp} (hx : ev E x = some u) (hy : ev E y = some u') (hgd : ∀ w, (eqGuard op t x y u u').run P w = .ok () w) (h : ∀ w, (binOp op t u u').run P w = .ok v w) : Step P N E S ⟨d, .binOp op t x y t2, ty, pos, af, g⟩ v := fun a w hf _ => by
  simp only [execOp, hf.ev hx, hf.ev hy, Sem.run_bind, hgd, Result.andThen_ok, h, Sem.run_pure]
theorem run_neq_of {p : Prop} [Decidable p] (ha : ∀ k m, u ≠ .int k m) (hs : ∀ s, u ≠ .string s) (hf : ∀ k m, u ≠ .float k m) (hc : ∀ k m n, u ≠ .complex k m n) (h : ∀ w, (Op.equal t u u').run P w = .ok (decide p) w) (w : World) : (binOp .neq t u u').run P w = .ok (.bool (decide (¬ p))) w := by
  cases u <;> first | exact absurd rfl (ha _ _) | exact absurd rfl (hs _) | exact absurd rfl (hf _ _) | exact absurd rfl (hc _ _ _) | (simp [binOp, h])
theorem run_eql_of {p : Prop} [Decidable p] (ha : ∀ k m, u ≠ .int k m) (hs : ∀ s, u ≠ .string s) (hf : ∀ k m, u ≠ .float k m) (hc : ∀ k m n, u ≠ .complex k m n) (h : ∀ w, (Op.equal t u u').run P w = .ok (decide p) w) (w : World) : (binOp .eql t u u').run P w = .ok (.bool (decide p)) w := by
  cases u <;> first | exact absurd rfl (ha _ _) | exact absurd rfl (hs _) | exact absurd rfl (hf _ _) | exact absurd rfl (hc _ _ _) | (simp [binOp, h])
theorem equalIn_int (dp : Nat) {k k' : IntKind} (h : P.underlying t = some (.int k')) (a b : Int) (w : World) : (Op.equalIn (dp + 1) t (.int k a) (.int k b)).run P w = .ok (decide (a = b)) w := by
  simp [Op.equalIn, run_underlying h]; rfl
theorem equalIn_bool (dp : Nat) (h : P.underlying t = some .bool) (a b : Bool) (w : World) : (Op.equalIn (dp + 1) t (.bool a) (.bool b)).run P w = .ok (decide (a = b)) w := by
  simp [Op.equalIn, run_underlying h]; cases a <;> cases b <;> rfl
theorem equalIn_ptr (dp : Nat) {e : TypeId} (h : P.underlying t = some (.pointer e)) (p : Option Addr) (w : World) : (Op.equalIn (dp + 1) t (.pointer p) (.pointer none)).run P w = .ok (decide (p = none)) w := by
  cases p <;> simp [Op.equalIn, run_underlying h]
theorem Step.nilSl {e : TypeId} {A : Option Addr} {n c : Nat} (hu : P.underlying t = some (.slice e)) (hx : ev E x = some (.slice A n c)) (hy : ev E y = some (.slice none 0 0)) :
    Step P N E S ⟨d, .binOp .eql t x y t2, ty, pos, af, g⟩ (.bool (decide (A = none))) := step_bin hx hy rfl fun w => by
  rw [Lib.run_eql_slice_nil w t e A n c 0 0 hu]; cases A <;> simp
theorem Step.nnilSl {e : TypeId} {A : Option Addr} {n c : Nat} (hu : P.underlying t = some (.slice e)) (hx : ev E x = some (.slice A n c)) (hy : ev E y = some (.slice none 0 0)) :
    Step P N E S ⟨d, .binOp .neq t x y t2, ty, pos, af, g⟩ (.bool (decide (¬ A = none))) := step_bin hx hy rfl fun w => by
  simp only [binOp, Op.equal, Op.maxDepth, Sem.run_bind, Lib.run_equalIn_slice_nil w 9999 t e A n c 0 0 hu, Result.andThen_ok, Sem.run_pure]; cases A <;> simp
theorem Step.eqlP {p : Option Addr} {e : TypeId} (hu : P.underlying t = some (.pointer e)) (hx : ev E x = some (.pointer p)) (hy : ev E y = some (.pointer none)) : Step P N E S ⟨d, .binOp .eql t x y t2, ty, pos, af, g⟩ (.bool (decide (p = none))) :=
  step_bin hx hy rfl fun w => by
    simp only [binOp, Op.equal, Op.maxDepth, Sem.run_bind, equalIn_ptr 9999 hu, Result.andThen_ok, Sem.run_pure]
theorem Step.neqP {p : Option Addr} {e : TypeId} (hu : P.underlying t = some (.pointer e)) (hx : ev E x = some (.pointer p)) (hy : ev E y = some (.pointer none)) : Step P N E S ⟨d, .binOp .neq t x y t2, ty, pos, af, g⟩ (.bool (decide (¬ p = none))) :=
  step_bin hx hy rfl fun w => by
    simp only [binOp, Op.equal, Op.maxDepth, Sem.run_bind, equalIn_ptr 9999 hu, Result.andThen_ok, Sem.run_pure, decide_not]
theorem Step.eqlBool {a b : Bool} (hu : P.underlying t = some .bool) (hx : ev E x = some (.bool a)) (hy : ev E y = some (.bool b)) : Step P N E S ⟨d, .binOp .eql t x y t2, ty, pos, af, g⟩ (.bool (decide (a = b))) :=
  step_bin hx hy rfl fun w => by
    simp only [binOp, Op.equal, Op.maxDepth, Sem.run_bind, equalIn_bool 9999 hu, Result.andThen_ok, Sem.run_pure]
theorem Step.neqBool {a b : Bool} (hu : P.underlying t = some .bool) (hx : ev E x = some (.bool a)) (hy : ev E y = some (.bool b)) : Step P N E S ⟨d, .binOp .neq t x y t2, ty, pos, af, g⟩ (.bool (decide (¬ a = b))) :=
  step_bin hx hy rfl fun w => by
    simp only [binOp, Op.equal, Op.maxDepth, Sem.run_bind, equalIn_bool 9999 hu, Result.andThen_ok, Sem.run_pure, decide_not]
end
theorem RS.nil_of {α : Type} {K : Enc α} {w : World} {ys : List α} (h : RS w K none ys) : ys = [] := by
  rcases h with h | ⟨_, _, _, h, _⟩
  · exact h
  · cases h
/-! ### Many owned things -/
def Big {β : Type} (F : β → Assn) (hs : List β) : Assn where
  sat w I := Sep (hs.map F) I w
  lt h x hx := h.lt x hx
  keep h hk := h.keep hk
section
variable {I0 : Ids} {w0 w : World} {L : List Assn} {β : Type} {F : β → Assn} {hs : List β} {k m : Nat}
theorem Hp.splice {A : Assn} {M : List Assn} (h : Hp I0 w0 L w) (hk : L[k]? = some A) (hA : ∀ i, A.sat w i → Sep M i w) : Hp I0 w0 (M ++ L.eraseIdx k) w := by
  obtain ⟨i, j, h1, h2, hd, he, hi, hj⟩ := h.at hk
  exact ⟨fun x => i x ∨ j x, Sep.append.2 ⟨i, j, fun _ => Iff.rfl, hd, hA i h1, h2⟩, he, fun x hx => hx.elim (hi x) (hj x)⟩
theorem Hp.bundle {A : Assn} {M R : List Assn} (h : Hp I0 w0 (M ++ R) w) (hA : ∀ i, Sep M i w → A.sat w i) : Hp I0 w0 (A :: R) w := by
  obtain ⟨I, hs, he, hi⟩ := h
  obtain ⟨i, j, hI, hd, hM, hR⟩ := Sep.append.1 hs
  exact ⟨I, ⟨i, j, hI, hd, hA i hM, hR⟩, he, hi⟩
theorem Hp.focus (h : Hp I0 w0 L w) (d : β) (hk : L[k]? = some (Big F hs)) (hm : m < hs.length) : Hp I0 w0 (L.set k (F (hs.getD m d)) ++ [Big F (hs.eraseIdx m)]) w := by
  have h1 := h.splice (M := [F (hs.getD m d), Big F (hs.eraseIdx m)]) hk fun i hi => by
    have hp : (hs.map F).Perm ((F (hs.getD m d) :: (hs.eraseIdx m).map F)) := by
      have := (perm_erase (getD_get hm d)).map F
      simpa using this
    obtain ⟨a, b, h1, h2, h3, h4⟩ := Sep.perm hp hi
    exact ⟨a, b, h1, h2, h3, b, fun _ => False, fun x => by simp, fun _ _ h => h, h4, fun _ h => h⟩
  refine h1.perm ?_
  have hp := perm_set (F (hs.getD m d)) hk
  simp only [List.cons_append, List.nil_append]
  exact ((List.Perm.swap _ _ _).trans (List.Perm.cons _ hp)).trans (List.perm_append_singleton _ _).symm
theorem Hp.unfocus {h' : β} (h : Hp I0 w0 (L ++ [Big F (hs.eraseIdx m)]) w) (hk : L[k]? = some (F h')) (hm : m < hs.length) : Hp I0 w0 (L.set k (Big F (hs.set m h'))) w := by
  have hp1 : (L ++ [Big F (hs.eraseIdx m)]).Perm ([F h', Big F (hs.eraseIdx m)] ++ L.eraseIdx k) := by
    refine (List.perm_append_singleton _ _).trans ?_
    exact (List.Perm.cons _ (perm_erase hk)).trans (List.Perm.swap _ _ _)
  have h1 := (h.perm hp1).bundle (A := Big F (hs.set m h')) fun i hi => by
    obtain ⟨a, b, e1, e2, e3, c, d, e4, e5, e6, e7⟩ := hi
    have hp : (F h' :: (hs.eraseIdx m).map F).Perm ((hs.set m h').map F) := by
      have hd : hs[m]? = some (hs[m]'hm) := List.getElem?_eq_getElem hm
      have := (perm_set h' hd).map F
      simpa using this
    refine Sep.perm hp ⟨a, b, e1, e2, e3, ?_⟩
    exact Sep.ext e6 fun x => by rw [e4 x]; exact ⟨.inl, fun h => h.elim id fun h => absurd h (e7 x)⟩
  exact h1.perm (perm_set _ hk)
theorem Hp.newBig (h : Hp I0 w0 L w) (n : Nat) (h0 : β) (he : ∀ w, (F h0).sat w (fun _ => False)) : Hp I0 w0 (L ++ [Big F (List.replicate n h0)]) w := by
  obtain ⟨I, hs, hx, hi⟩ := h
  have hb : ∀ n, Sep ((List.replicate n h0).map F) (fun _ => False) w := by
    intro n
    induction n with
    | zero => exact fun _ h => h
    | succ n ih => exact ⟨fun _ => False, fun _ => False, fun x => by simp, fun _ h => h.elim, he w, ih⟩
  exact ⟨I, Sep.append.2 ⟨I, fun _ => False, fun x => by simp, fun _ _ h => h, hs, ⟨fun _ => False, fun _ => False, fun x => by simp, fun _ h => h.elim, hb n, fun _ h => h⟩⟩, hx, hi⟩
theorem OS.emp {α : Type} {e : TypeId} {K : Enc α} (w : World) : (OS e K none 0 []).sat w (fun _ => False) := .inl ⟨rfl, rfl, rfl, fun _ h => h⟩
theorem Hp.bigOS {G : β → World → Prop} (h : Hp I0 w0 L w) (d : β) (hk : L[k]? = some (Big F hs)) (hm : m < hs.length) (hG : ∀ i b, (F b).sat w i → G b w) : G (hs.getD m d) w := by
  have h1 := h.focus d hk hm
  have h2 : (L.set k (F (hs.getD m d)) ++ [Big F (hs.eraseIdx m)])[k]? = some (F (hs.getD m d)) := by
    have hlt := (List.getElem?_eq_some_iff.1 hk).1
    rw [List.getElem?_append_left (by simpa using hlt)]
    simp [hlt]
  obtain ⟨i, j, hA, _⟩ := h1.at h2
  exact hG i _ hA
theorem Hp.sel {R L' : List Assn} (h : Hp I0 w0 L w) (ks : List Nat) (hp : picks ks L = some (L', R)) : Hp I0 w0 L' w := (h.perm (picks_perm hp)).sub
section
variable {P : Program} {N : Nat} {Q : Exit → Act → World → Prop} {E : Env} {S : World → Prop} {ops : Array Oper} {K : Act → World → Prop}
theorem OV.heap {S' : World → Prop} {o : Oper} (hS : ∀ w, S w → S' w) (h : OV P N ops Q o E S' K) : OV P N ops Q o E S K := fun a w hf hs => h a w hf (hS w hs)
theorem CV.loop2 {α β : Type} {c : Code} (inv : α → β → Prop) (m : α → β → Nat) (G : α → β → Env) (T : α → β → World → Prop) (x0 : α) (y0 : β) (h0 : inv x0 y0) (hE : Sub (G x0 y0) E) (hT : ∀ w, S w → T x0 y0 w)
    (round : ∀ x y, inv x y → CV P N c (Exit.then (fun a w => ∃ x' y', (inv x' y' ∧ m x' y' < m x y) ∧ Fits N a (G x' y') ∧ T x' y' w) Q) (G x y) (T x y)) : CV P N (.loop c) Q E S :=
  CV.loopI (α := α × β) (fun z => inv z.1 z.2) (fun z => m z.1 z.2) (fun z => G z.1 z.2) (fun z => T z.1 z.2) (x0, y0) h0 hE hT fun z hz a w hf ht => wp_mono (round z.1 z.2 hz a w hf ht) fun e a' w' hq => by
    cases e <;> first | exact hq | (obtain ⟨x', y', h⟩ := hq; exact ⟨(x', y'), h⟩)
theorem KV.loop2 {α β : Type} {inv : α → β → Prop} {m : α → β → Nat} {G : α → β → Env} {T : α → β → World → Prop} {x : α} {y : β} (x' : α) (y' : β) (hi : inv x' y') (hlt : m x' y' < m x y) (hE : Sub (G x' y') E) (hT : ∀ w, S w → T x' y' w) :
    KV N (fun a w => ∃ x' y', (inv x' y' ∧ m x' y' < m x y) ∧ Fits N a (G x' y') ∧ T x' y' w) E S := fun _ w hf hs => ⟨x', y', ⟨hi, hlt⟩, hf.sub hE, hT w hs⟩
theorem CV.loop3 {α β γ : Type} {c : Code} (inv : α → β → γ → Prop) (m : α → β → γ → Nat) (G : α → β → γ → Env) (T : α → β → γ → World → Prop) (x0 : α) (y0 : β) (z0 : γ) (h0 : inv x0 y0 z0) (hE : Sub (G x0 y0 z0) E) (hT : ∀ w, S w → T x0 y0 z0 w)
    (round : ∀ x y z, inv x y z → CV P N c (Exit.then (fun a w => ∃ x' y' z', (inv x' y' z' ∧ m x' y' z' < m x y z) ∧ Fits N a (G x' y' z') ∧ T x' y' z' w) Q) (G x y z) (T x y z)) : CV P N (.loop c) Q E S :=
  CV.loopI (α := α × β × γ) (fun z => inv z.1 z.2.1 z.2.2) (fun z => m z.1 z.2.1 z.2.2) (fun z => G z.1 z.2.1 z.2.2) (fun z => T z.1 z.2.1 z.2.2) (x0, y0, z0) h0 hE hT fun z hz a w hf ht => wp_mono (round z.1 z.2.1 z.2.2 hz a w hf ht) fun e a' w' hq => by
    cases e <;> first | exact hq | (obtain ⟨x', y', z', h⟩ := hq; exact ⟨(x', y', z'), h⟩)
theorem KV.loop3 {α β γ : Type} {inv : α → β → γ → Prop} {m : α → β → γ → Nat} {G : α → β → γ → Env} {T : α → β → γ → World → Prop} {x : α} {y : β} {z : γ} (x' : α) (y' : β) (z' : γ) (hi : inv x' y' z') (hlt : m x' y' z' < m x y z) (hE : Sub (G x' y' z') E) (hT : ∀ w, S w → T x' y' z' w) :
    KV N (fun a w => ∃ x' y' z', (inv x' y' z' ∧ m x' y' z' < m x y z) ∧ Fits N a (G x' y' z') ∧ T x' y' z' w) E S := fun _ w hf hs => ⟨x', y', z', ⟨hi, hlt⟩, hf.sub hE, hT w hs⟩
end
end
/-! ### Maps -/
/-- The map in block b holds, in order of birth, the entries m. -/
def OM {κ ν : Type} (b : Nat) (kf : κ → Value) (vf : ν → Value) (m : List (κ × ν)) : Assn where
  sat w I := (∀ x, I x ↔ x = b) ∧ ∃ es clock, w.heap[b]? = some (.map es clock) ∧ es.toList.map (fun e => (e.key, e.val)) = m.map (fun p => (kf p.1, vf p.2))
  lt h x hx := by obtain ⟨h1, es, c, h2, _⟩ := h; rw [(h1 x).1 hx]; exact lt_of_some h2
  keep h hk := by obtain ⟨h1, es, c, h2, h3⟩ := h; exact ⟨h1, es, c, by rw [hk _ ((h1 _).2 rfl)]; exact h2, h3⟩
section
variable {P : Program} {κ ν : Type} {kt : TypeId} {N : Nat} {Q : Exit → Act → World → Prop} {E : Env} {ops : Array Oper} {K : Act → World → Prop} {I0 : Ids} {w0 : World} {L : List Assn}
variable {d : Nat} {ty : TypeId} {pos : String} {af : Array Edge} {g : Option (Nat × Bool)} {x : Operand} {t : TypeId}
theorem OV.makeMap (kf : κ → Value) (vf : ν → Value) {vt : TypeId} (hu : P.underlying t = some (.map kt vt)) {k : IntKind} {n : Int} (hx : ev E x = some (.int k n)) (hg : Yes N ops ⟨some d, .makeMap t (some x), ty, pos, af, g⟩ E) (hN : Nat.blt d N = true)
    (kk : ∀ nb, KV N K (set E d (.map (some nb))) (Hp I0 w0 (L ++ [OM nb kf vf []]))) : OV P N ops Q ⟨some d, .makeMap t (some x), ty, pos, af, g⟩ E (Hp I0 w0 L) K := by
  refine OV.new (val := fun nb => .map (some nb)) (ob := .map #[] 0) hg (fun a w hf _ => ?_) hN fun nb a w hf hs => kk nb a w hf (hs.last fun J hJ => ?_)
  · have hr : (Instr.makeMap t (some (.int k n))).run P w = .ok (.map (some w.heap.size)) (w.alloc (.map #[] 0)) := by simp [Instr.makeMap, run_underlying hu]; rfl
    simp only [execOp, Option.map_some, hf.ev hx, Sem.run_bind, hr, Result.andThen_ok, Sem.run_pure]
  · exact ⟨hJ.1, #[], 0, hJ.2, rfl⟩
theorem OV.makeMap0 (kf : κ → Value) (vf : ν → Value) (hg : Yes N ops ⟨some d, .makeMap t none, ty, pos, af, g⟩ E) (hN : Nat.blt d N = true)
    (kk : ∀ nb, KV N K (set E d (.map (some nb))) (Hp I0 w0 (L ++ [OM nb kf vf []]))) : OV P N ops Q ⟨some d, .makeMap t none, ty, pos, af, g⟩ E (Hp I0 w0 L) K := by
  refine OV.new (val := fun nb => .map (some nb)) (ob := .map #[] 0) hg (fun a w hf _ => ?_) hN fun nb a w hf hs => kk nb a w hf (hs.last fun J hJ => ?_)
  · have hr : (Instr.makeMap t none).run P w = .ok (.map (some w.heap.size)) (w.alloc (.map #[] 0)) := by rfl
    simp only [execOp, Option.map_none, Sem.run_bind, hr, Result.andThen_ok, Sem.run_pure]
  · exact ⟨hJ.1, #[], 0, hJ.2, rfl⟩
end
def mget {κ ν : Type} [DecidableEq κ] : List (κ × ν) → κ → Option ν
  | [], _ => none
  | p :: r, x => if x = p.1 then some p.2 else mget r x
/-- What is known of a key's type. -/
structure KeyT (P : Program) {κ : Type} [DecidableEq κ] (kt : TypeId) (kf : κ → Value) : Prop where
  check : ∀ em x w, (Instr.checkKey em 10000 kt (kf x)).run P w = .ok () w
  find : ∀ (x : κ) (es : List MapEntry) (m : List κ), es.map (·.key) = m.map kf → ∀ w, (Instr.findKey kt (kf x) es).run P w = .ok ((m.findIdx? (fun y => decide (x = y))).bind fun i => (es[i]?).map fun e => (i, e.val)) w
section
variable {P : Program} {κ ν : Type} [DecidableEq κ] {kt : TypeId} {kf : κ → Value} {vf : ν → Value} {m : List (κ × ν)} {b : Nat}
theorem findAsking_of {x : κ} (heq : ∀ x y w, (Op.equal kt (kf x) (kf y)).run P w = .ok (decide (x = y)) w) : ∀ (es : List MapEntry) (m : List κ) (i : Nat), es.map (·.key) = m.map kf → ∀ w,
    (Instr.findAsking kt (kf x) es i).run P w = .ok ((m.findIdx? (fun y => decide (x = y))).bind fun j => (es[j]?).map fun e => (i + j, e.val)) w
  | [], [], i, _, w => by simp [Instr.findAsking]
  | e :: es, y :: m, i, h, w => by
    simp only [List.map_cons, List.cons.injEq] at h
    simp only [Instr.findAsking, Sem.run_bind, h.1, heq, Result.andThen_ok, List.findIdx?_cons]
    by_cases hxy : x = y
    · simp [hxy]
    · simp only [hxy, decide_false, Bool.false_eq_true, if_false]
      rw [findAsking_of heq es m (i + 1) h.2 w]
      cases hf : m.findIdx? (fun y => decide (x = y)) with
      | none => simp
      | some j => simp [Nat.add_assoc, Nat.add_comm 1 j]
  | [], _ :: _, _, h, _ => by simp at h
  | _ :: _, [], _, h, _ => by simp at h
theorem KeyT.struct {fs : Array Field} (hu : P.underlying kt = some (.struct fs)) (hc : ∀ em x w, (Instr.checkKey em 10000 kt (kf x)).run P w = .ok () w) (heq : ∀ x y w, (Op.equal kt (kf x) (kf y)).run P w = .ok (decide (x = y)) w) : KeyT P kt kf where
  check := hc
  find x es m h w := by
    simp only [Instr.findKey, Sem.run_bind, run_underlying hu, Result.andThen_ok]
    cases es with
    | nil =>
      cases m with
      | nil => simp [Instr.findNow]
      | cons y m => simp at h
    | cons e es =>
      have hs : Instr.sameNow (.struct fs) (kf x) e.key = none := by simp [Instr.sameNow]
      simp only [Instr.findNow, hs]
      rw [findAsking_of heq (e :: es) m 0 h w]
      simp
theorem mget_find (x : κ) : ∀ (m : List (κ × ν)) (es : List MapEntry), es.map (fun e => (e.key, e.val)) = m.map (fun p => (kf p.1, vf p.2)) →
    (((m.map (·.1)).findIdx? (fun y => decide (x = y))).bind fun i => (es[i]?).map fun e => e.val) = (mget m x).map vf
  | [], [], _ => by simp [mget]
  | p :: m, e :: es, h => by
    simp only [List.map_cons, List.cons.injEq, Prod.mk.injEq] at h
    simp only [List.map_cons, List.findIdx?_cons, mget]
    by_cases hx : x = p.1
    · simp [hx, h.1.2]
    · simp only [hx, decide_false, Bool.false_eq_true, if_false]
      rw [← mget_find x m es h.2]
      cases hf : (m.map (·.1)).findIdx? (fun y => decide (x = y)) with
      | none => simp
      | some j => simp
  | [], _ :: _, h => by simp at h
  | _ :: _, [], h => by simp at h
variable {N : Nat} {Q : Exit → Act → World → Prop} {E : Env} {ops : Array Oper} {K : Act → World → Prop} {I0 : Ids} {w0 : World} {L : List Assn}
variable {d : Nat} {ty : TypeId} {pos : String} {af : Array Edge} {g : Option (Nat × Bool)} {x y z : Operand} {u v u' : Value} {t : TypeId}
theorem lookup_run {w : World} {I : Ids} {vt : TypeId} {zv : ν} {sz by_ : Nat} (hu : P.underlying t = some (.map kt vt)) (hk : KeyT P kt kf) (hz : TI P vt (vf zv) sz by_) (h : (OM b kf vf m).sat w I) (q : κ) (ok : Bool) :
    (Instr.lookup t (.map (some b)) (kf q) ok).run P w = .ok (if ok then .tuple #[vf ((mget m q).getD zv), .bool (mget m q).isSome] else vf ((mget m q).getD zv)) w := by
  obtain ⟨_, es, clock, hb, hm⟩ := h
  have hkeys : es.toList.map (·.key) = (m.map (·.1)).map kf := by
    have := congrArg (List.map (·.1)) hm
    simpa [List.map_map, Function.comp_def] using this
  have hg : (getObj b).run P w = .ok (.map es clock) w := by simp [getObj, Sem.run, hb]
  have hf := hk.find q es.toList (m.map (·.1)) hkeys w
  have hval := mget_find (kf := kf) (vf := vf) q m es.toList hm
  simp only [Instr.lookup, Sem.run_bind, run_underlying hu, Result.andThen_ok, hg, Sem.run_pure, hk.check, hf]
  cases hi : (m.map (·.1)).findIdx? (fun y => decide (q = y)) with
  | none =>
    rw [hi] at hval
    have : mget m q = none := by cases hg' : mget m q with | none => rfl | some _ => rw [hg'] at hval; simp at hval
    simp only [Option.bind_none, Sem.run_bind, hz.zeroValue, Result.andThen_ok, Sem.run_pure, this, Option.getD_none, Option.isSome_none]
  | some i =>
    rw [hi] at hval
    simp only [Option.bind_some] at hval ⊢
    cases he : es.toList[i]? with
    | none =>
      exfalso
      have h1 := (List.findIdx?_eq_some_iff_getElem.1 hi).1
      have h2 : es.toList.length = m.length := by have := congrArg List.length hm; simpa using this
      rw [List.getElem?_eq_none_iff] at he
      simp at h1; omega
    | some en =>
      rw [he] at hval
      simp only [Option.map_some] at hval ⊢
      cases hg' : mget m q with
      | none => rw [hg'] at hval; simp at hval
      | some vv =>
        rw [hg'] at hval
        simp only [Option.map_some, Option.some.injEq] at hval
        simp only [Sem.run_bind, Sem.run_pure, Result.andThen_ok, hval, Option.getD_some, Option.isSome_some]
theorem Step.lookup (k : Nat) {vt : TypeId} {zv : ν} {sz by_ : Nat} {dd : Option Nat} (q : κ) (hu : P.underlying t = some (.map kt vt)) (hkt : KeyT P kt kf) (hz : TI P vt (vf zv) sz by_) (hk : L[k]? = some (OM b kf vf m)) (hx : ev E x = some (.map (some b))) (hy : ev E y = some (kf q)) :
    Step P N E (Hp I0 w0 L) ⟨dd, .lookup t x y false, ty, pos, af, g⟩ (vf ((mget m q).getD zv)) := fun a w hf hs => by
  obtain ⟨i, j, hA, _⟩ := hs.at hk
  have := lookup_run hu hkt hz hA q false
  simp only [execOp, hf.ev hx, hf.ev hy, Sem.run_bind, this, Result.andThen_ok, Sem.run_pure, Bool.false_eq_true, if_false]
theorem Step.lookupOk (k : Nat) {vt : TypeId} {zv : ν} {sz by_ : Nat} {dd : Option Nat} (q : κ) (hu : P.underlying t = some (.map kt vt)) (hkt : KeyT P kt kf) (hz : TI P vt (vf zv) sz by_) (hk : L[k]? = some (OM b kf vf m)) (hx : ev E x = some (.map (some b))) (hy : ev E y = some (kf q)) :
    Step P N E (Hp I0 w0 L) ⟨dd, .lookup t x y true, ty, pos, af, g⟩ (.tuple #[vf ((mget m q).getD zv), .bool (mget m q).isSome]) := fun a w hf hs => by
  obtain ⟨i, j, hA, _⟩ := hs.at hk
  have := lookup_run hu hkt hz hA q true
  simp only [execOp, hf.ev hx, hf.ev hy, Sem.run_bind, this, Result.andThen_ok, Sem.run_pure, if_true]
/-- A new key. -/
theorem OV.mapInsert (k : Nat) {vt : TypeId} (q : κ) (r : ν) (hu : P.underlying t = some (.map kt vt)) (hkt : KeyT P kt kf) (hk : L[k]? = some (OM b kf vf m)) (hx : ev E x = some (.map (some b))) (hy : ev E y = some (kf q)) (hz : ev E z = some (vf r)) (hn : mget m q = none)
    (hg : Yes N ops ⟨none, .mapUpdate t x y z, ty, pos, af, g⟩ E) (kk : KV N K E (Hp I0 w0 (L.set k (OM b kf vf (m ++ [(q, r)]))))) : OV P N ops Q ⟨none, .mapUpdate t x y z, ty, pos, af, g⟩ E (Hp I0 w0 L) K := fun a w hf hs => by
  rw [if_pos (hg a hf)]
  obtain ⟨i, j, hA, _⟩ := hs.at hk
  obtain ⟨_, es, clock, hb, hm⟩ := hA
  have hkeys : es.toList.map (·.key) = (m.map (·.1)).map kf := by
    have := congrArg (List.map (·.1)) hm
    simpa [List.map_map, Function.comp_def] using this
  have hgo : (getObj b).run P w = .ok (.map es clock) w := by simp [getObj, Sem.run, hb]
  have hf' := hkt.find q es.toList (m.map (·.1)) hkeys w
  have hval := mget_find (kf := kf) (vf := vf) q m es.toList hm
  rw [hn] at hval
  have hnone : ((m.map (·.1)).findIdx? (fun y => decide (q = y))).bind (fun i => (es.toList[i]?).map fun e => (i, e.val)) = none := by
    cases hi : (m.map (·.1)).findIdx? (fun y => decide (q = y)) with
    | none => rfl
    | some i =>
      rw [hi] at hval
      simp only [Option.bind_some, Option.map_none, Option.map_eq_none_iff] at hval ⊢
      exact hval
  have hlt : b < w.heap.size := lt_of_some hb
  have hset : ∀ o, (setObj b o).run P w = .ok () { w with heap := w.heap.setIfInBounds b o } := fun o => by simp [setObj, Sem.run, hb]
  have hrun : (Instr.mapUpdate t (.map (some b)) (kf q) (vf r)).run P w = .ok () { w with heap := w.heap.setIfInBounds b (.map (es.push { key := kf q, val := vf r, born := clock }) (clock + 1)) } := by
    simp only [Instr.mapUpdate, Sem.run_bind, run_underlying hu, Result.andThen_ok, hgo, hkt.check, hf', hnone, hset]
  unfold Oper.wp
  simp only [execOp, hf.ev hx, hf.ev hy, hf.ev hz, Sem.run_bind, hrun, Result.andThen_ok, Sem.run_pure]
  refine kk _ _ (hf.put_none _) (hs.update hk fun i2 hA2 => ⟨i2, ⟨hA2.1, es.push { key := kf q, val := vf r, born := clock }, clock + 1, by simp [hlt], by simp [hm]⟩, fun _ h => .inl h, ?_⟩)
  exact ⟨rfl, rfl, rfl, by simp, fun x hxl hni => by
    have hne : x ≠ b := fun e => hni ((hA2.1 x).2 e)
    simp [Array.getElem?_setIfInBounds_ne (fun e => hne e.symm)]⟩
end
end Go.Sv
