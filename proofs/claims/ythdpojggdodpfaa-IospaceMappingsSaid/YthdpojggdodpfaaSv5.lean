/-
  Regions that draw their order: reads alone; reads and then a forced tail; the general case.
-/
import Derived.Test.YthdpojggdodpfaaSv4
set_option linter.unusedSimpArgs false
set_option linter.unusedVariables false
namespace Go.Sv
section
variable {P : Program} {N : Nat} {Q : Exit → Act → World → Prop} {E : Env} {S S0 : World → Prop} {ops : Array Oper} {rest : List Oper} {T : Act → World → Prop}
/-- A list of operations that only read, in the text's order. -/
def SV (P : Program) (N : Nat) (ops : Array Oper) (T : Act → World → Prop) (rest : List Oper) (E : Env) (S : World → Prop) : Prop := ∀ a w, Fits N a E → S w → wpStill P ops w (fun a' => T a' w) rest a
theorem SV.nil (h : KV N T E S) : SV P N ops T [] E S := fun a w hf hs => h a w hf hs
theorem still_val {a : Act} {w : World} {v : Value} {o : Oper} {R : Act → Prop} (hw : Region.wanted o (yielded ops a.tmps) = true) (h : (execOp a.eval o).run P w = .ok (.value v) w) (k : wpStill P ops w R rest (a.put o.dst v)) :
    wpStill P ops w R (o :: rest) a := by
  unfold wpStill
  rw [if_pos hw]
  unfold Oper.still
  rw [h]
  exact ⟨rfl, k⟩
section
variable {d : Nat} {v : Value} {op : Op} {ty : TypeId} {pos : String} {af : Array Edge} {g : Option (Nat × Bool)}
theorem SV.step (hg : Yes N ops ⟨some d, op, ty, pos, af, g⟩ E) (h : Step P N E S ⟨some d, op, ty, pos, af, g⟩ v) (hN : Nat.blt d N = true) (k : SV P N ops T rest (set E d v) S) : SV P N ops T (⟨some d, op, ty, pos, af, g⟩ :: rest) E S :=
  fun a w hf hs => still_val (hg a hf) (h a w hf hs) (k _ w (hf.put v hN) hs)
theorem SV.skip {j : Nat} {b : Bool} (hg : wantsE ops E j = some (!b)) (hN : Nat.blt d N = true) (k : SV P N ops T rest (set E d undef) S) : SV P N ops T (⟨some d, op, ty, pos, af, some (j, b)⟩ :: rest) E S := fun a w hf hs => by
  unfold wpStill
  rw [if_neg (by rw [wanted_of hf rfl hg]; cases b <;> decide)]
  exact k _ w (hf.put undef hN) hs
theorem SV.split {c : Prop} [Decidable c] (hg : Yes N ops ⟨some d, op, ty, pos, af, g⟩ E) (h : Step P N E S ⟨some d, op, ty, pos, af, g⟩ (.bool (decide c))) (hN : Nat.blt d N = true)
    (k1 : c → SV P N ops T rest (set E d (.bool true)) S) (k2 : ¬ c → SV P N ops T rest (set E d (.bool false)) S) : SV P N ops T (⟨some d, op, ty, pos, af, g⟩ :: rest) E S := fun a w hf hs => by
  have h' := h a w hf hs
  by_cases hc : c
  · rw [decide_eq_true hc] at h'
    exact still_val (hg a hf) h' (k1 hc _ w (hf.put _ hN) hs)
  · rw [decide_eq_false hc] at h'
    exact still_val (hg a hf) h' (k2 hc _ w (hf.put _ hN) hs)
end
/-- A function that only computes. -/
def FxP (P : Program) (f : FuncId) (vs : List Value) (v : Value) : Prop := ∀ w, Calls P f vs.toArray w (fun e w' => e = .returned v ∧ w' = w)
theorem SV.call {d : Nat} {f : FuncId} {fn : Func} {vs : List Value} {v : Value} {args : List Operand} {ts : Array TypeId} {ty : TypeId} {pos : String} {af : Array Edge} {g : Option (Nat × Bool)}
    (hfn : P.funcs[f]? = some fn) (hbody : fn.body.isSome = true) (hname : (fn.name == "runtime.NumGoroutine") = false) (ha : evs E args = some vs) (spec : FxP P f vs v) (hg : Yes N ops ⟨some d, .call ⟨.value (.func f), args.toArray, ts⟩, ty, pos, af, g⟩ E) (hN : Nat.blt d N = true)
    (k : SV P N ops T rest (set E d v) S) : SV P N ops T (⟨some d, .call ⟨.value (.func f), args.toArray, ts⟩, ty, pos, af, g⟩ :: rest) E S := fun a w hf hs => by
  have hbn : fn.body.isNone = false := by cases h : fn.body <;> simp_all
  have hrun : (execOp a.eval ⟨some d, .call ⟨.value (.func f), args.toArray, ts⟩, ty, pos, af, g⟩).run P w = .ok (.enter f vs.toArray) w := by
    have hv : a.eval (.func f) = .func (.func f) #[] #[] := rfl
    have hm : args.toArray.map a.eval = vs.toArray := by rw [← hf.evs ha]; simp
    have hn1 : ¬ fn.name = "runtime.NumGoroutine" := by simpa using hname
    have hn2 : ¬ fn.body = none := by intro h; rw [h] at hbn; simp at hbn
    simp [execOp, resolve, invoke, callFunc, hv, hfn, hn1, hn2, hm, Deferred.ofValue]
  unfold wpStill
  rw [if_pos (hg a hf)]
  unfold Oper.still
  rw [hrun]
  exact ⟨rfl, v, (spec w).mono fun e w' h => h, k _ w (hf.put v hN) hs⟩
theorem CV.still {id : Nat} {l : List Oper} (hm : P.follows .mixedOrders = true) (hB : Region.lexB .any l.toArray = true) (hd : ∀ w, S w → S w.drew) (h : SV P N l.toArray (Q .normal) l E S) : CV P N (.region id l.toArray true) Q E S :=
  fun a w hf hs => wp_region_still_lit hm hB (h a w.drew hf (hd w hs))
theorem CV.stillTail (n : Nat) {id : Nat} {l : List Oper} (hm : P.follows .mixedOrders = true) (hB : Region.lexTailB .any l.toArray n = true) (hd : ∀ w, S w → S w.drew)
    (h : SV P N l.toArray (wpList P l.toArray Q (l.drop n)) (l.take n) E S) : CV P N (.region id l.toArray true) Q E S :=
  fun a w hf hs => wp_region_still_tail n hm hB (h a w.drew hf (hd w hs))
/-! ### The general case -/
def AV (P : Program) (N : Nat) (ops : Array Oper) (Q : Exit → Act → World → Prop) (S0 : World → Prop) (fuel : Nat) (listed : Array Bool) (E : Env) (S : World → Prop) : Prop := KV N (wpAnyH P .any ops Q S0 fuel listed) E S
theorem CV.any {id : Nat} {l : List Oper} (S0 : World → Prop) (hm : P.follows .mixedOrders = true) (hd : ∀ w, S w → S w.drew) (n : Nat) (hn : l.length = n) (h : AV P N l.toArray Q S0 n (Array.replicate n false) E S) : CV P N (.region id l.toArray true) Q E S :=
  fun a w hf hs => wp_region_held (S := S0) hm (by subst hn; have := h a w.drew hf (hd w hs); simpa using this)
theorem AV.take (i : Nat) {d : Nat} {v : Value} {op : Op} {ty : TypeId} {pos : String} {af : Array Edge} {g : Option (Nat × Bool)} {fuel : Nat} {listed : Array Bool} (listed' : Array Bool) (hi : ops[i]? = some ⟨some d, op, ty, pos, af, g⟩)
    (hs : Region.noSelect ops = true) (hfr : Region.free .any ops listed i = true) (hr : (Region.ready .any ops listed).contains i = true)
    (hQ : ∀ c a w, Q (.panic c) (a.put (some d) v) w → Q (.panic c) a w) (hg : Yes N ops ⟨some d, op, ty, pos, af, g⟩ E) (h : Step P N E S0 ⟨some d, op, ty, pos, af, g⟩ v) (hN : Nat.blt d N = true) (hS : ∀ w, S w → S0 w)
    (hl : listed.setIfInBounds i true = listed') (k : AV P N ops Q S0 fuel listed' (set E d v) S) : AV P N ops Q S0 (fuel + 1) listed E S := fun a w hf hs' => by
  subst hl
  exact wpAnyH_take hi hs hfr hr hQ (.inl ⟨hg a hf, fun w' hw' => h a w' hf hw'⟩) (hS w hs') (k _ w (hf.put v hN) hs')
theorem AV.takeSkip (i : Nat) {d j : Nat} {b : Bool} {op : Op} {ty : TypeId} {pos : String} {af : Array Edge} {fuel : Nat} {listed : Array Bool} (listed' : Array Bool) (hi : ops[i]? = some ⟨some d, op, ty, pos, af, some (j, b)⟩)
    (hs : Region.noSelect ops = true) (hfr : Region.free .any ops listed i = true) (hr : (Region.ready .any ops listed).contains i = true)
    (hQ : ∀ c a w, Q (.panic c) (a.put (some d) undef) w → Q (.panic c) a w) (hg : wantsE ops E j = some (!b)) (hN : Nat.blt d N = true) (hS : ∀ w, S w → S0 w)
    (hl : listed.setIfInBounds i true = listed') (k : AV P N ops Q S0 fuel listed' (set E d undef) S) : AV P N ops Q S0 (fuel + 1) listed E S := fun a w hf hs' => by
  subst hl
  exact wpAnyH_take hi hs hfr hr hQ (.inr ⟨by rw [wanted_of hf rfl hg]; cases b <;> rfl, rfl⟩) (hS w hs') (k _ w (hf.put undef hN) hs')
/-- Each of the operations that may come up. -/
def AllA (P : Program) (N : Nat) (ops : Array Oper) (Q : Exit → Act → World → Prop) (S0 : World → Prop) (fuel : Nat) (listed : Array Bool) (E : Env) (S : World → Prop) : List Nat → Prop
  | [] => True
  | i :: r => (∃ o, ops[i]? = some o ∧ OV P N ops Q o E S (fun a' w' => S0 w' ∧ wpAnyH P .any ops Q S0 fuel (listed.setIfInBounds i true) a' w')) ∧ AllA P N ops Q S0 fuel listed E S r
theorem AllA.mem {fuel : Nat} {listed : Array Bool} : ∀ {rs : List Nat}, AllA P N ops Q S0 fuel listed E S rs → ∀ i ∈ rs, ∃ o, ops[i]? = some o ∧ OV P N ops Q o E S (fun a' w' => S0 w' ∧ wpAnyH P .any ops Q S0 fuel (listed.setIfInBounds i true) a' w')
  | [], _, _, h => by cases h
  | j :: r, ⟨h1, h2⟩, i, h => by
    rcases List.mem_cons.1 h with rfl | h
    · exact h1
    · exact h2.mem i h
theorem AV.all {fuel : Nat} {listed : Array Bool} (rs : List Nat) (hr : Region.ready .any ops listed = rs) (hne : rs ≠ []) (h : AllA P N ops Q S0 fuel listed E S rs) : AV P N ops Q S0 (fuel + 1) listed E S := fun a w hf hs => by
  refine wpAnyH_all hr hne fun i hi => ?_
  obtain ⟨o, ho, hov⟩ := h.mem i hi
  have := hov a w hf hs
  unfold wpOp
  simp only [ho]
  split
  · rename_i hw; rw [if_pos hw] at this; exact .inl this
  · rename_i hw; rw [if_neg hw] at this; exact this
theorem AV.next {fuel : Nat} {listed : Array Bool} {i : Nat} (listed' : Array Bool) (hl : listed.setIfInBounds i true = listed') (hS : ∀ w, S w → S0 w) (k : AV P N ops Q S0 fuel listed' E S) :
    KV N (fun a' w' => S0 w' ∧ wpAnyH P .any ops Q S0 fuel (listed.setIfInBounds i true) a' w') E S := fun a w hf hs => by
  subst hl
  exact ⟨hS w hs, k a w hf hs⟩
theorem AV.done {fuel : Nat} {listed : Array Bool} (hr : Region.ready .any ops listed = []) (h : KV N (Q .normal) E S) : AV P N ops Q S0 fuel listed E S := fun a w hf hs => wpAnyH_done hr (h a w hf hs) _
theorem KV.cases {K : Act → World → Prop} (t : Nat) {b : Bool} (hb : get E t = some (.bool b)) (h1 : b = true → KV N K (set E t (.bool true)) S) (h2 : b = false → KV N K (set E t (.bool false)) S) : KV N K E S := fun a w hf hs => by
  have key : ∀ c, b = c → Fits N a (set E t (.bool c)) := fun c hc => ⟨hf.defers, hf.size, fun s v hv => by
    by_cases e : s = t
    · subst e; rw [get_set_same] at hv; rw [hf.slot s _ hb, ← Option.some.inj hv, hc]
    · rw [get_set_ne E _ e] at hv; exact hf.slot s v hv⟩
  cases hc : b with
  | true => exact h1 hc a w (key true hc) hs
  | false => exact h2 hc a w (key false hc) hs
theorem SV.cases (t : Nat) {b : Bool} (hb : get E t = some (.bool b)) (h1 : b = true → SV P N ops T rest (set E t (.bool true)) S) (h2 : b = false → SV P N ops T rest (set E t (.bool false)) S) : SV P N ops T rest E S := fun a w hf hs => by
  have key : ∀ c, b = c → Fits N a (set E t (.bool c)) := fun c hc => ⟨hf.defers, hf.size, fun s v hv => by
    by_cases e : s = t
    · subst e; rw [get_set_same] at hv; rw [hf.slot s _ hb, ← Option.some.inj hv, hc]
    · rw [get_set_ne E _ e] at hv; exact hf.slot s v hv⟩
  cases hc : b with
  | true => exact h1 hc a w (key true hc) hs
  | false => exact h2 hc a w (key false hc) hs
theorem KV.sel {I0 : Ids} {w0 : World} {L R : List Assn} {K : Act → World → Prop} (ks : List Nat) (L' : List Assn) (hp : picks ks L = some (L', R)) (k : KV N K E (Hp I0 w0 L')) : KV N K E (Hp I0 w0 L) := fun a w hf hs => k a w hf (hs.perm (picks_perm hp)).sub
theorem KV.have {p : Prop} {K : Act → World → Prop} (hp : ∀ w, S w → p) (h : p → KV N K E S) : KV N K E S := fun a w hf hs => h (hp w hs) a w hf hs
theorem CV.loopI {α : Type} {c : Code} (inv : α → Prop) (m : α → Nat) (G : α → Env) (T : α → World → Prop) (z0 : α) (h0 : inv z0) (hE : Sub (G z0) E) (hT : ∀ w, S w → T z0 w)
    (round : ∀ z, inv z → CV P N c (Exit.then (fun a w => ∃ z', (inv z' ∧ m z' < m z) ∧ Fits N a (G z') ∧ T z' w) Q) (G z) (T z)) : CV P N (.loop c) Q E S :=
  CV.loop (α := {z : α // inv z}) (fun z => m z.1) (fun z => G z.1) (fun z => T z.1) ⟨z0, h0⟩ hE hT fun z a w hf ht => wp_mono (round z.1 z.2 a w hf ht) fun e a' w' hq => by
    cases e <;> first | exact hq | (obtain ⟨z', ⟨h1, h2⟩, h3⟩ := hq; exact ⟨⟨z', h1⟩, h2, h3⟩)
theorem KV.loopI {α : Type} {inv : α → Prop} {m : α → Nat} {G : α → Env} {T : α → World → Prop} {z : α} (z' : α) (hi : inv z') (hlt : m z' < m z) (hE : Sub (G z') E) (hT : ∀ w, S w → T z' w) :
    KV N (fun a w => ∃ z', (inv z' ∧ m z' < m z) ∧ Fits N a (G z') ∧ T z' w) E S := fun _ w hf hs => ⟨z', ⟨hi, hlt⟩, hf.sub hE, hT w hs⟩
theorem KV.heap {K : Act → World → Prop} {S' : World → Prop} (hS : ∀ w, S w → S' w) (h : KV N K E S') : KV N K E S := fun a w hf hs => h a w hf (hS w hs)
theorem Hp.nilOS {I0 : Ids} {w0 w : World} {L : List Assn} {α : Type} {K : Enc α} {e : TypeId} (h : Hp I0 w0 L w) : Hp I0 w0 (L ++ [OS e K none 0 []]) w := by
  obtain ⟨I, hs, he, hi⟩ := h
  exact ⟨I, Sep.append.2 ⟨I, fun _ => False, fun x => by simp, fun _ _ h => h, hs, ⟨fun _ => False, fun _ => False, fun x => by simp, fun _ h => h.elim, .inl ⟨rfl, rfl, rfl, fun _ h => h⟩, fun _ h => h⟩⟩, he, hi⟩
theorem FxP.fn {f : FuncId} {vs : List Value} {v : Value} (h : FxP P f vs v) (w : World) : Fx P f vs w [] no (fun u L => u = v ∧ L = []) := fun I hI _ =>
  (h w).mono fun _ _ ⟨h1, h2⟩ => by subst h2; exact ⟨v, [], h1, ⟨rfl, rfl⟩, Hp.start hI⟩
theorem FxP.body {f : FuncId} {vs : List Value} {v : Value} {fn : Func} {c : Code} (hf : P.funcs[f]? = some fn) (hb : fn.body = some c) (hN : fn.ntmps = N) (hl : Nat.ble vs.length N = true)
    (h : ∀ w, CV P N c (bodyPost P fn (fun e w' => e = .returned v ∧ w' = w)) (params 0 vs) (fun w' => w' = w)) : FxP P f vs v := by
  intro w
  refine calls_of_wp hf hb (h w _ _ ⟨rfl, ?_, fun t v ht => ?_⟩ rfl)
  · have hl' : vs.length ≤ N := by simpa using hl
    simp [hN]; omega
  · obtain ⟨_, h2⟩ := get_params vs 0 t v ht
    simp only [Nat.sub_zero] at h2
    have hlt := (List.getElem?_eq_some_iff.1 h2).1
    rw [Array.getElem?_append_left (by simpa using hlt)]
    simpa using h2
theorem KV.retP1 {fn : Func} {t : Tmp} {v u : Value} {w : World} (hr : fn.results = #[.tmp t]) (hv : get E t = some u) (hu : u = v) :
    KV N (bodyPost P fn (fun e w' => e = .returned v ∧ w' = w) .ret) E (fun w' => w' = w) := fun a w' hf hs =>
  ⟨hf.defers, u, by rw [results_tmp hr]; simp [hf.slot t u hv], by rw [hu], hs⟩
theorem wI64 {x : Int} (h1 : -9223372036854775808 ≤ x) (h2 : x ≤ 9223372036854775807) : IntKind.i64.wrap x = x := by rw [IntKind.wrap_i64]; omega
theorem wU64 {x : Int} (h1 : 0 ≤ x) (h2 : x ≤ 18446744073709551615) : IntKind.u64.wrap x = x := by rw [IntKind.wrap_u64]; omega
end
section
variable {α : Type} {K : Enc α} {w : World} {A : Option Addr} {ys : List α}
theorem RS.cell0 (h : RS w K A ys) {m : Nat} {v : Value} (hm : m < ys.length) (hv : (K.f (ys.getD m K.d))[0]? = some v) : w.cell? ⟨bk A, of A + m * K.sz, none⟩ = some v := h.cell (j := 0) hm hv
theorem RS.cells (h : RS w K A ys) {m : Nat} (hm : m < ys.length) : ∀ j v, (K.f (ys.getD m K.d))[j]? = some v → w.cell? ⟨bk A, of A + m * K.sz + j, none⟩ = some v := fun _ _ hv => h.cell hm hv
end
end Go.Sv
