/-
  Texts joined: Sv16, Sv17, Sv18, Sv19, Sv20, Sv21, Sv22, Sv23, Sv25.
-/
import Derived.Test.YtdfkpdcpegcieaaGreatDoorSvB
import Derived.Lib.Strings
import Derived.RangeFuncIn
import Derived.RangeFuncLeaves
import Derived.RangeFuncCalls
import Derived.RangeFuncRecord
import Derived.TacticsIn
import Derived.Laws.Externs
import Derived.Lib.Bytealg
set_option linter.unusedSimpArgs false
set_option linter.unusedVariables false
namespace Go.Sv
abbrev Bs := List UInt8
@[reducible] def bs (l : Bs) : ByteArray := ⟨l.toArray⟩
@[reducible] def by8 (l : Bs) (m : Nat) : Int := ((l.getD m 0).toNat : Int)
theorem bs_size (l : Bs) : (bs l).size = l.length := by simp [bs, ByteArray.size]
theorem bs_get (l : Bs) (m : Nat) : (bs l)[m]? = l[m]? := by
  by_cases h : m < l.length
  · have h2 : m < (bs l).size := by rw [bs_size]; exact h
    rw [getElem?_pos (bs l) m h2, List.getElem?_eq_getElem h]
    rfl
  · have h2 : ¬ m < (bs l).size := by rw [bs_size]; exact h
    rw [getElem?_neg (bs l) m h2, List.getElem?_eq_none (by omega)]
theorem bs_ext (l : Bs) (i j : Nat) : (bs l).extract i j = bs ((l.take j).drop i) := by
  apply ByteArray.ext
  rw [ByteArray.data_extract]
  simp [bs, List.extract_toArray, List.extract_eq_take_drop, List.drop_take]
theorem bs_append (a b : Bs) : bs a ++ bs b = bs (a ++ b) := by
  apply ByteArray.ext
  rw [ByteArray.data_append]
  simp [bs]
theorem bs_inj {a b : Bs} : bs a = bs b ↔ a = b := by
  constructor
  · intro h
    have := congrArg ByteArray.data h
    simpa [bs] using this
  · rintro rfl; rfl
theorem list_beq (a b : Bs) : (a == b) = decide (a = b) := by
  by_cases h : a = b
  · subst h; simp
  · rw [decide_eq_false h]; exact beq_eq_false_iff_ne.2 h
theorem bs_beq (a b : Bs) : (bs a == bs b) = decide (a = b) := by
  show (a.toArray == b.toArray) = _
  rw [← list_beq]; simp
theorem bs_toList (a : Bs) : (bs a).toList = a := by rw [ByteArray.toList_eq]
def strK : Enc Bs where
  f l := [.string (bs l)]
  sz := 1
  d := []
  len _ := rfl
  pos := by decide
  one r v hv := by simp at hv; subst hv; rfl
section
variable {P : Program} {N : NN} {E : Env} {S : World → Prop}
variable {dd : Option Nat} {ty : TypeId} {pos : String} {af : Array Edge} {g : Option (Nat × Bool)} {x y z : Operand} {t t2 : TypeId} {k k' : IntKind} {l l2 : Bs} {i j : Int}
theorem Step.lenStr (hu : P.underlying t = some .string) (hx : ev E x = some (.string (bs l))) :
    Step P N E S ⟨dd, .call ⟨.builtin .len, #[x], #[t]⟩, ty, pos, af, g⟩ (.int .i64 l.length) := fun a w hf _ => by
  simp [execOp, resolve, invoke, builtin, hf.ev hx, Builtin.len_, Builtin.lenOf, run_underlying hu, goInt, bs_size]
theorem Step.idxStr (hu : P.underlying t = some .string) (hx : ev E x = some (.string (bs l))) (hy : ev E y = some (.int k i)) (m : Nat) (hm : i = (m : Int)) (hlt : m < l.length) :
    Step P N E S ⟨dd, .index t x y, ty, pos, af, g⟩ (.int .u8 ((l.getD m 0).toNat : Int)) := by
  subst hm
  refine Step.index hx hy fun w => ?_
  have h0 : (0 : Int) ≤ (m : Int) := by omega
  have hg : l[m]? = some (l.getD m 0) := by simp [List.getD, List.getElem?_eq_getElem hlt]
  simp only [Instr.index, asIntOf, Sem.run_bind, Sem.run_pure, Result.andThen_ok, run_underlying hu, h0, if_true, Int.toNat_natCast, bs_get, hg]
theorem Step.slStrLH (hu : P.underlying t = some .string) (hx : ev E x = some (.string (bs l))) (hy : ev E y = some (.int k i)) (hz : ev E z = some (.int k' j)) (a b : Nat) (hi : i = (a : Int)) (hj : j = (b : Int)) (h1 : a ≤ b) (h2 : b ≤ l.length) :
    Step P N E S ⟨dd, .slice t x (some y) (some z) none, ty, pos, af, g⟩ (.string (bs ((l.take b).drop a))) := fun ac w hf _ => by
  subst hi; subst hj
  simp [execOp, Instr.sliceAt, Instr.slice, hf.ev hx, hf.ev hy, hf.ev hz, run_underlying hu, Instr.sliceBounds, Instr.sliceBound, asIntOf, bs_size, bs_ext, h1, h2]
theorem Step.slStrLo (hu : P.underlying t = some .string) (hx : ev E x = some (.string (bs l))) (hy : ev E y = some (.int k i)) (a : Nat) (hi : i = (a : Int)) (h1 : a ≤ l.length) :
    Step P N E S ⟨dd, .slice t x (some y) none none, ty, pos, af, g⟩ (.string (bs (l.drop a))) := fun ac w hf _ => by
  subst hi
  simp [execOp, Instr.sliceAt, Instr.slice, hf.ev hx, hf.ev hy, run_underlying hu, Instr.sliceBounds, Instr.sliceBound, asIntOf, bs_size, bs_ext, h1]
theorem Step.slStrHi (hu : P.underlying t = some .string) (hx : ev E x = some (.string (bs l))) (hz : ev E z = some (.int k' j)) (b : Nat) (hj : j = (b : Int)) (h2 : b ≤ l.length) :
    Step P N E S ⟨dd, .slice t x none (some z) none, ty, pos, af, g⟩ (.string (bs (l.take b))) := fun ac w hf _ => by
  subst hj
  simp [execOp, Instr.sliceAt, Instr.slice, hf.ev hx, hf.ev hz, run_underlying hu, Instr.sliceBounds, Instr.sliceBound, asIntOf, bs_size, bs_ext, h2]
theorem Step.addStr (hx : ev E x = some (.string (bs l))) (hy : ev E y = some (.string (bs l2))) (h : l.length + l2.length ≤ 9223372036854775807) :
    Step P N E S ⟨dd, .binOp .add t x y t2, ty, pos, af, g⟩ (.string (bs (l ++ l2))) :=
  step_bin hx hy rfl fun w => by
    have h1 : ¬ (((bs l).size + (bs l2).size : Nat) : Int) > IntKind.i64.max := by
      rw [bs_size, bs_size]
      have : IntKind.i64.max = 9223372036854775807 := rfl
      omega
    simp only [binOp, Op.stringOp, h1, if_false, bs_append, Sem.run_pure]
theorem Step.eqlStr (hx : ev E x = some (.string (bs l))) (hy : ev E y = some (.string (bs l2))) : Step P N E S ⟨dd, .binOp .eql t x y t2, ty, pos, af, g⟩ (.bool (decide (l = l2))) :=
  step_bin hx hy rfl fun w => by
    have e : ((bs l).toList == (bs l2).toList) = decide (l = l2) := by rw [bs_toList, bs_toList, list_beq]
    simp only [binOp, Op.stringOp, e, Sem.run_pure]
theorem Step.neqStr (hx : ev E x = some (.string (bs l))) (hy : ev E y = some (.string (bs l2))) : Step P N E S ⟨dd, .binOp .neq t x y t2, ty, pos, af, g⟩ (.bool (decide (¬ l = l2))) :=
  step_bin hx hy rfl fun w => by
    have e : ((bs l).toList == (bs l2).toList) = decide (l = l2) := by rw [bs_toList, bs_toList, list_beq]
    simp only [binOp, Op.stringOp, e, Sem.run_pure]
    by_cases h : l = l2 <;> simp [h]
end
theorem findNow_str (x : Bs) : ∀ (es : List MapEntry) (m : List Bs) (i : Nat), es.map (·.key) = m.map (fun l : Bs => Value.string (bs l)) →
    Instr.findNow .string (.string (bs x)) es i = some ((m.findIdx? (fun y => decide (x = y))).bind fun j => (es[j]?).map fun e => (i + j, e.val))
  | [], [], i, _ => by simp [Instr.findNow]
  | e :: es, y :: m, i, h => by
    simp only [List.map_cons, List.cons.injEq] at h
    have hs : Instr.sameNow .string (.string (bs x)) e.key = some (decide (x = y)) := by rw [h.1]; simp only [Instr.sameNow, bs_beq]
    simp only [Instr.findNow, hs, List.findIdx?_cons]
    by_cases hxy : x = y
    · simp [hxy]
    · simp only [hxy, decide_false, Bool.false_eq_true, if_false]
      rw [findNow_str x es m (i + 1) h.2]
      cases hf : m.findIdx? (fun y => decide (x = y)) with
      | none => simp
      | some j => simp [Nat.add_assoc, Nat.add_comm 1 j]
  | [], _ :: _, _, h => by simp at h
  | _ :: _, [], _, h => by simp at h
theorem KeyT.string {P : Program} {kt : TypeId} (hu : P.underlying kt = some .string) : KeyT P kt (fun l : Bs => Value.string (bs l)) where
  check em x w := by
    show (Instr.checkKey em (9999 + 1) kt _).run P w = _
    rw [Instr.checkKey]
    simp only [Sem.run_bind, run_underlying hu, Result.andThen_ok, Sem.run_pure]
  find x es ms h w := by
    simp only [Instr.findKey, Sem.run_bind, run_underlying hu, Result.andThen_ok, findNow_str x es ms 0 h, Nat.zero_add, Sem.run_pure]
end Go.Sv
set_option linter.unusedSimpArgs false
set_option linter.unusedVariables false
namespace Go.Sv
section
variable {P : Program} {N : NN} {Q : Exit → Act → World → Prop} {E : Env} {S : World → Prop} {ops : Array Oper} {KK : Act → World → Prop}
theorem OV.callP {d : Nat} {f : FuncId} {fn : Func} {vs : List Value} {v : Value} {args : List Operand} {ts : Array TypeId} {ty : TypeId} {pos : String} {af : Array Edge} {g : Option (Nat × Bool)}
    (hfn : P.funcs[f]? = some fn) (hbody : fn.body.isSome = true) (hname : (fn.name == "runtime.NumGoroutine") = false) (ha : evs E args = some vs) (spec : FxP P f vs v) (hg : Yes N ops ⟨some d, .call ⟨.value (.func f), args.toArray, ts⟩, ty, pos, af, g⟩ E) (hN : Nat.blt d N.n = true)
    (k : KV N KK (set E d v) S) : OV P N ops Q ⟨some d, .call ⟨.value (.func f), args.toArray, ts⟩, ty, pos, af, g⟩ E S KK := fun a w hf hs => by
  rw [if_pos (hg a hf)]
  unfold Oper.wp
  have hbn : fn.body.isNone = false := by cases h : fn.body <;> simp_all
  have hrun : (execOp a.eval ⟨some d, .call ⟨.value (.func f), args.toArray, ts⟩, ty, pos, af, g⟩).run P w = .ok (.enter f vs.toArray) w := by
    have hv : a.eval (.func f) = .func (.func f) #[] #[] := rfl
    have hm : args.toArray.map a.eval = vs.toArray := by rw [← hf.evs ha]; simp
    have hn1 : ¬ fn.name = "runtime.NumGoroutine" := by simpa using hname
    have hn2 : ¬ fn.body = none := by intro h; rw [h] at hbn; simp at hbn
    simp [execOp, resolve, invoke, callFunc, hv, hfn, hn1, hn2, hm, Deferred.ofValue]
  rw [hrun]
  simp only [Oper.upon]
  refine (spec w).mono ?_
  rintro e w' ⟨rfl, rfl⟩
  exact k _ _ (hf.put v hN) hs
end
end Go.Sv
set_option linter.unusedSimpArgs false
set_option linter.unusedVariables false
namespace Go.Sv
/-- The widest fence, in a round or not. -/
@[reducible] def fen (ro : Option Nat) : Fence := { Fence.wide with round := ro }
section
variable {P : Program} {N : NN} {Q : Exit → Act → World → Prop} {E : Env} {S : World → Prop} {ops : Array Oper} {rest : List Oper} {ro : Option Nat} {K : Act → World → Prop}
theorem wpIn_of_wp_op {o : Oper} {a : Act} {w : World} (hnd : ∀ c, o.op ≠ .defer c) (h : Oper.wp P o a w K Q) : Oper.wpIn (fen ro) 0 P o a w K Q := by
  refine ⟨fun _ _ => trivial, ?_⟩
  rw [show (fen ro).round = ro from rfl, Oper.semAt_eq _ _ _ hnd]
  unfold Oper.wp at h
  cases hr : (execOp a.eval o).run P w with
  | ok nx w' =>
    rw [hr] at h
    cases nx with
    | value v => exact h
    | skip => exact h
    | defer d => exact h
    | enter f args =>
      refine ⟨fun hh => (by cases hh), ?_⟩
      have h2 : CallsIn Fence.wide 0 P f args w' _ := callsIn_wide.2 h
      exact CallsIn.mono (F := fen ro) h2 fun e w'' he => by cases e <;> exact he
    | row row args =>
      refine ⟨fun hh => (by cases hh), fun c cs _ => ?_⟩
      obtain ⟨v, w3, r, s⟩ := h c cs
      exact ⟨v, w3, r, stepsIn_wide.2 s⟩
    | _ => exact h.elim
  | halt hh w' =>
    rw [hr] at h
    cases hh with
    | panic v => exact h
    | _ => exact h.elim
abbrev LI (ro : Option Nat) (P : Program) (N : NN) (ops : Array Oper) (Q : Exit → Act → World → Prop) (rest : List Oper) (E : Env) (S : World → Prop) : Prop := KV N (wpListIn (fen ro) 0 P ops Q rest) E S
abbrev CI (ro : Option Nat) (P : Program) (N : NN) (c : Code) (Q : Exit → Act → World → Prop) (E : Env) (S : World → Prop) : Prop := KV N (c.wpIn (fen ro) 0 P Q) E S
theorem LI.op {o : Oper} (hnd : ∀ c, o.op ≠ .defer c) (h : OV P N ops Q o E S (wpListIn (fen ro) 0 P ops Q rest)) : LI ro P N ops Q (o :: rest) E S := fun a w hf hs => by
  have h1 := h a w hf hs
  unfold wpListIn
  by_cases hw : Region.wanted o (yielded ops a.tmps) = true
  · rw [if_pos hw] at h1 ⊢; exact wpIn_of_wp_op hnd h1
  · rw [if_neg hw] at h1 ⊢; exact ⟨fun _ _ => trivial, h1⟩
theorem LI.nil (h : KV N (Q .normal) E S) : LI ro P N ops Q [] E S := fun a w hf hs => wpListIn_nil (h a w hf hs)
theorem CI.region {id : Nat} {l : List Oper} (h : LI ro P N l.toArray Q l E S) : CI ro P N (.region id l.toArray false) Q E S := fun a w hf hs => wpIn_region_lit (h a w hf hs)
theorem CI.seq {x y : Code} (h : CI ro P N x (Exit.then (y.wpIn (fen ro) 0 P Q) Q) E S) : CI ro P N (.seq x y) Q E S := fun a w hf hs => wpIn_seq (h a w hf hs)
theorem CI.skip (h : KV N (Q .normal) E S) : CI ro P N .skip Q E S := fun a w hf hs => wpIn_skip (h a w hf hs)
theorem CI.ret (h : KV N (Q .ret) E S) : CI ro P N .ret Q E S := fun a w hf hs => wpIn_ret (h a w hf hs)
theorem CI.block {id : Nat} {c : Code} (h : CI ro P N c (Exit.inBlock id Q) E S) : CI ro P N (.block id c) Q E S := fun a w hf hs => wpIn_block (h a w hf hs)
theorem CI.cond_t {c : Operand} {x y : Code} (hc : ev E c = some (.bool true)) (h : CI ro P N x Q E S) : CI ro P N (.cond c x y) Q E S := fun a w hf hs => wpIn_cond_true (hf.ev hc) (h a w hf hs)
theorem CI.cond_f {c : Operand} {x y : Code} (hc : ev E c = some (.bool false)) (h : CI ro P N y Q E S) : CI ro P N (.cond c x y) Q E S := fun a w hf hs => wpIn_cond_false (hf.ev hc) (h a w hf hs)
theorem CV.ofCI {c : Code} (h : CI none P N c Q E S) : CV P N c Q E S := fun a w hf hs => wpIn_wide.1 (h a w hf hs)
theorem CV.toCI {c : Code} (h : CV P N c Q E S) : CI none P N c Q E S := fun a w hf hs => wpIn_wide.2 (h a w hf hs)
end
section
variable {P : Program} {N : NN} {Q : Exit → Act → World → Prop} {E : Env} {ops : Array Oper} {rest : List Oper} {I0 : Ids} {w0 : World} {L Own F : List Assn}
/-- What a callee owns, apart; whatever it leaves goes back beside the rest. -/
theorem Hp.own {w : World} {ks : List Nat} (hp : picks ks L = some (Own, F)) (hs : Hp I0 w0 L w) : ∃ iO : Ids, Sep Own iO w ∧ (∀ b, RoOk I0 w0 F b → ¬ iO b) ∧ ∀ w' L', Hp iO w L' w' → Hp I0 w0 (F ++ L') w' := by
  obtain ⟨I, hsep, he, hi⟩ := hs.perm (picks_perm hp)
  obtain ⟨iO, iF, hI, hd, hO, hF⟩ := Sep.append.1 hsep
  refine ⟨iO, hO, fun b hb hbO => ?_, ?_⟩
  · rcases hb with ⟨h1, h2⟩ | ⟨j, A, hj, hA⟩
    · rcases hi b ((hI b).2 (.inl hbO)) with h3 | h3
      · exact h1 h3
      · omega
    · obtain ⟨i, j', hI2, _, hA2, _⟩ := hF.perm (perm_erase hj)
      exact hd b hbO ((hI2 b).2 (.inl (hA w i hA2)))
  rintro w' L' ⟨I', hL', hx, hI'⟩
  refine ⟨fun x => iF x ∨ I' x, Sep.append.2 ⟨iF, I', fun _ => Iff.rfl, fun x h1 h2 => ?_, hF.keep fun x hxF => hx.block x (hF.lt x hxF) fun hxO => hd x hxO hxF, hL'⟩, he.trans hx fun x hxO => hi x ((hI x).2 (.inl hxO)), ?_⟩
  · rcases hI' x h2 with h3 | h3
    · exact hd x h3 h1
    · have := hF.lt x h1; omega
  · rintro x (h1 | h1)
    · exact hi x ((hI x).2 (.inr h1))
    · rcases hI' x h1 with h3 | h3
      · exact hi x ((hI x).2 (.inl h3))
      · exact .inr (Nat.le_trans he.size h3)
/-- The contract of a round. -/
def RoundFx (P : Program) (l : Nat) (vs : List Value) (w : World) (Own : List Assn) (ro : Ids) (post : Value → List Assn → Prop) : Prop :=
  ∀ I : Ids, Sep Own I w → (∀ b, ro b → ¬ I b) → ∃ fn tmps assign body, (Instr.yield l vs.toArray).run P w = .ok (.round l fn tmps assign body) w ∧
    RoundIn Fence.wide 0 P l fn tmps assign body w (fun e w' => ∃ v L', e = .returned v ∧ post v L' ∧ Hp I w L' w')
/-- A call of yield. -/
theorem LI.yield (ks : List Nat) {d l : Nat} {x : Operand} {vs : List Value} {args : List Operand} {ts : Array TypeId} {ty : TypeId} {pos : String} {af : Array Edge} {g : Option (Nat × Bool)} {ro : Ids} {post : Value → List Assn → Prop}
    (hx : ev E x = some (.func (.yield l) #[] #[])) (ha : evs E args = some vs) (hp : picks ks L = some (Own, F)) (spec : ∀ w, Hp I0 w0 L w → RoundFx P l vs w Own ro post) (hro : ∀ b, ro b → RoOk I0 w0 F b)
    (hg : Yes N ops ⟨some d, .call ⟨.value x, args.toArray, ts⟩, ty, pos, af, g⟩ E) (hN : Nat.blt d N.n = true)
    (k : ∀ v L', post v L' → LI none P N ops Q rest (set E d v) (Hp I0 w0 (F ++ L'))) : LI none P N ops Q (⟨some d, .call ⟨.value x, args.toArray, ts⟩, ty, pos, af, g⟩ :: rest) E (Hp I0 w0 L) := fun a w hf hs => by
  unfold wpListIn
  rw [if_pos (hg a hf)]
  refine ⟨fun _ _ => trivial, ?_⟩
  obtain ⟨iO, hO, hnot, hback⟩ := hs.own hp
  obtain ⟨fn, tmps, assign, body, hy, hR⟩ := spec w hs iO hO fun b hb => hnot b (hro b hb)
  have hrun : (Oper.semAt none a.eval ⟨some d, .call ⟨.value x, args.toArray, ts⟩, ty, pos, af, g⟩).run P w = .ok (.round l fn tmps assign body) w := by
    have hv := hf.ev hx
    have hm : args.toArray.map a.eval = vs.toArray := by rw [← hf.evs ha]; simp
    rw [Oper.semAt_none]
    simp [execOp, resolve, invoke, hv, hm, Deferred.ofValue, hy]
  show Oper.uponIn (fen none) 0 P _ a _ Q ((Oper.semAt none a.eval _).run P w)
  rw [hrun]
  refine ⟨fun hh => (by cases hh), ?_⟩
  refine RoundIn.mono (F := Fence.wide) hR ?_
  rintro e w' ⟨v, L', rfl, hpost, hhp⟩
  exact k v L' hpost _ _ (hf.put v hN) (hback w' L' hhp)
/-- The mark of a range over a function among the deferred calls. -/
def mk (D : Nat) : Deferred := { target := .collected D, args := #[] }
theorem Hp.put {w : World} (h : Hp I0 w0 L w) {k b : Nat} {o : Obj} (o' : Obj) (hk : L[k]? = some (Blk b o)) : Hp I0 w0 (L.set k (Blk b o')) (w.putObj b o') := by
  have hb := h.blk k hk
  have hlt := lt_of_some hb
  exact h.modify hk (World.putObj_heap_same hlt) World.putObj_size (fun x hx => World.putObj_heap_other hx) rfl rfl rfl
def recL (fn : FuncId) (tm : Array Value) (ps : Array Tmp) (assign body : Code) (D : Nat) : Loop := { state := .ready, pending := none, fn := fn, tmps := tm, params := ps, assign := assign, body := body, defers := D }
/-- 'for x := range g { .. }', whose rounds end or return. -/
theorem CV.rangeFunc (ks : List Nat) (ro : Ids) {gt : Nat} {ps : Array Tmp} {assign body : Code} {f : FuncId} {fn' : Func} {caps : List Value} (hx : get E gt = some (.func (.func f) #[] caps.toArray))
    (hfn : P.funcs[f]? = some fn') (hbody : fn'.body.isSome = true) (hname : (fn'.name == "runtime.NumGoroutine") = false)
    (spec : ∀ (fn D l : Nat) (tm : Array Value), Fits ⟨N.n, []⟩ { tmps := tm, defers := [] } E → ∃ Own F post,
      picks ks (L ++ [Blk D (.deferred (some [])), Blk l (.loop (recL fn tm ps assign body D))]) = some (Own, F) ∧
      (∀ b, ro b → RoOk I0 w0 F b) ∧ (∀ w, Hp I0 w0 (L ++ [Blk D (.deferred (some [])), Blk l (.loop (recL fn tm ps assign body D))]) w → Fx P f (.func (.yield l) #[] #[] :: caps) w Own ro post) ∧
      ∀ v L', post v L' → ∃ r k, (F ++ L')[k]? = some (Blk l (.loop r)) ∧ r.state ≠ .busy ∧
        ((r.pending = none ∧ KV ⟨N.n, mk D :: N.D⟩ (Q .normal) E (Hp I0 w0 ((F ++ L').set k (Blk l (.loop { r with state := .exhausted }))))) ∨
         (r.pending = some .ret ∧ KV ⟨N.n, mk D :: N.D⟩ (Q .ret) E (Hp I0 w0 ((F ++ L').set k (Blk l (.loop { r with state := .exhausted }))))))) :
    CV P N (.rangeFunc (.tmp gt) ps assign body) Q E (Hp I0 w0 L) := fun a w hf hs => by
  refine (wpIn_wide (n := 0)).1 (wpIn_rangeFunc fun fn _ => ?_)
  have hfit : Fits ⟨N.n, []⟩ { tmps := a.tmps, defers := [] } E := ⟨rfl, hf.size, hf.slot⟩
  have hbn : fn'.body.isNone = false := by cases h : fn'.body <;> simp_all
  have hn1 : ¬ fn'.name = "runtime.NumGoroutine" := by simpa using hname
  have hn2 : ¬ fn'.body = none := by intro h; rw [h] at hbn; simp at hbn
  obtain ⟨Own, F, post, hp, hro, hspec, hend⟩ := spec fn w.heap.size (w.heap.size + 1) a.tmps hfit
  have hs1 : Hp I0 w0 (L ++ [Blk w.heap.size (.deferred (some []))]) (w.alloc (.deferred (some []))) := hs.alloc rfl rfl rfl rfl
  have hs2 : Hp I0 w0 (L ++ [Blk w.heap.size (.deferred (some [])), Blk (w.heap.size + 1) (.loop (recL fn a.tmps ps assign body w.heap.size))]) ((w.alloc (.deferred (some []))).alloc (.loop (recL fn a.tmps ps assign body w.heap.size))) := by
    have := hs1.alloc (w' := (w.alloc (.deferred (some []))).alloc (.loop (recL fn a.tmps ps assign body w.heap.size))) rfl rfl rfl rfl
    rw [List.append_assoc, World.size_alloc] at this
    exact this
  have hgv : a.eval (.tmp gt) = .func (.func f) #[] caps.toArray := hf.ev (x := .tmp gt) hx
  refine ⟨w.heap.size + 1, [mk w.heap.size], ((w.alloc (.deferred (some []))).alloc (.loop (recL fn a.tmps ps assign body w.heap.size))), ⟨.fn (.func f) caps.toArray, #[.func (.yield (w.heap.size + 1)) #[] #[]]⟩, ((w.alloc (.deferred (some []))).alloc (.loop (recL fn a.tmps ps assign body w.heap.size))), f, (.func (.yield (w.heap.size + 1)) #[] #[] :: caps).toArray, ((w.alloc (.deferred (some []))).alloc (.loop (recL fn a.tmps ps assign body w.heap.size))), run_enterLoop_outer fn a.tmps ps assign body, ?_, fun _ _ => trivial, ?_, fun hh => (by cases hh), callsIn_wide.2 ?_⟩
  · have hc : a.eval (.const (.func (.yield (w.heap.size + 1)) #[] #[])) = .func (.yield (w.heap.size + 1)) #[] #[] := rfl
    simp [resolve, Deferred.ofValue, hgv, hc]
  · simp [invoke, callFunc, hfn, hn1, hn2]
  · refine (Calls.frame hp hs2 hro (hspec _ hs2)).mono ?_
    rintro e w3 ⟨v, L', rfl, hpost, hhp⟩
    obtain ⟨r, k, hk, hst, hcase⟩ := hend v L' hpost
    have hb := hhp.blk k hk
    have hput := hhp.put (Obj.loop { r with state := .exhausted }) hk
    have hf2 : Fits ⟨N.n, mk w.heap.size :: N.D⟩ { a with defers := [mk w.heap.size] ++ a.defers } E := ⟨by show [mk w.heap.size] ++ a.defers = _; rw [hf.defers]; rfl, hf.size, hf.slot⟩
    rcases hcase with ⟨h1, h2⟩ | ⟨h1, h2⟩
    · exact ⟨none, w3.putObj (w.heap.size + 1) (Obj.loop { r with state := .exhausted }), (run_endLoop hb hst).trans (congrArg (fun j => Result.ok j (w3.putObj (w.heap.size + 1) (Obj.loop { r with state := .exhausted }))) h1), h2 _ _ hf2 hput⟩
    · exact ⟨some .ret, w3.putObj (w.heap.size + 1) (Obj.loop { r with state := .exhausted }), (run_endLoop hb hst).trans (congrArg (fun j => Result.ok j (w3.putObj (w.heap.size + 1) (Obj.loop { r with state := .exhausted }))) h1), wpIn_ret (h2 _ _ hf2 hput)⟩
/-- One round, by its walk. -/
theorem RoundFx.ofWalk {l : Nat} {vs : List Value} {w : World} {ro : Ids} {post : Value → List Assn → Prop} {k : Nat} {r : Loop} (hk : Own[k]? = some (Blk l (.loop r))) (hst : r.state = .ready) (hsz : vs.length = r.params.size)
    (h : ∀ I, (∀ b, ro b → ¬ I b) → CI (some l) P ⟨r.tmps.size, []⟩ r.assign (Exit.then (fun a w1 => ∃ w2, (Instr.beginRound l).run P w1 = .ok () w2 ∧ r.body.wpIn (fen (some l)) 0 P (roundPost P l (fun e w' => ∃ v L', e = .returned v ∧ post v L' ∧ Hp I w L' w')) a w2) (fun _ _ _ => False)) E (Hp I w Own))
    (hE : Fits ⟨r.tmps.size, []⟩ { tmps := ((r.params.zip vs.toArray).foldl (fun tmps (t, a) => tmps.setIfInBounds t a) r.tmps), defers := [] } E) : RoundFx P l vs w Own ro post := fun I hI hro => by
  have hb : w.heap[l]? = some (.loop r) := (Hp.start hI).blk k hk
  exact ⟨_, _, _, _, run_yield hb (by simpa using hsz), roundIn_of_wpIn (F := Fence.wide) trivial (h I hro _ w hE (Hp.start hI))⟩
theorem KV.begin {I : Ids} {w : World} {l k : Nat} {r : Loop} {body : Code} {R : Ending → World → Prop} (hk : L[k]? = some (Blk l (.loop r))) (hst : r.state = .ready) (h : CI (some l) P N body (roundPost P l R) E (Hp I w (L.set k (Blk l (.loop { r with state := .busy }))))) :
    KV N (fun a w1 => ∃ w2, (Instr.beginRound l).run P w1 = .ok () w2 ∧ body.wpIn (fen (some l)) 0 P (roundPost P l R) a w2) E (Hp I w L) := fun a w1 hf hs =>
  ⟨_, run_beginRound (hs.blk k hk) hst, h a _ hf (hs.put _ hk)⟩
theorem KV.round_n {I : Ids} {w : World} {l k : Nat} {r : Loop} {post : Value → List Assn → Prop} (hk : L[k]? = some (Blk l (.loop r))) (L' : List Assn) (hent : ∀ w', Hp I w (L.set k (Blk l (.loop { r with state := .ready, pending := none }))) w' → Hp I w L' w') (hp : post (.bool true) L') :
    KV N (roundPost P l (fun e w' => ∃ v L', e = .returned v ∧ post v L' ∧ Hp I w L' w') .normal) E (Hp I w L) := fun a w1 hf hs =>
  ⟨_, _, run_endRound none (hs.blk k hk), _, L', rfl, hp, hent _ (hs.put _ hk)⟩
theorem KV.round_ret {I : Ids} {w : World} {l k : Nat} {r : Loop} {post : Value → List Assn → Prop} (hk : L[k]? = some (Blk l (.loop r))) (L' : List Assn) (hent : ∀ w', Hp I w (L.set k (Blk l (.loop { r with state := .done, pending := some .ret }))) w' → Hp I w L' w') (hp : post (.bool false) L') :
    KV N (roundPost P l (fun e w' => ∃ v L', e = .returned v ∧ post v L' ∧ Hp I w L' w') .ret) E (Hp I w L) := fun a w1 hf hs =>
  ⟨_, _, run_endRound (some .ret) (hs.blk k hk), _, L', rfl, hp, hent _ (hs.put _ hk)⟩
end
/-! ### A body that holds such a statement -/
section
variable {P : Program} {f : FuncId} {vs : List Value} {w : World} {Own : List Assn} {ro : Ids} {post : Value → List Assn → Prop}
theorem Fx.bodyM {fn : Func} {c : Code} {N : Nat} (hf : P.funcs[f]? = some fn) (hb : fn.body = some c) (hN : fn.ntmps = N) (hl : Nat.ble vs.length N = true)
    (h : ∀ I : Ids, (∀ b, ro b → ¬ I b) → Sep Own I w → CV P ⟨N, []⟩ c (bodyPostM Fence.wide 0 P fn (fun e w' => ∃ v L', e = .returned v ∧ post v L' ∧ Hp I w L' w')) (params 0 vs) (Hp I w Own)) : Fx P f vs w Own ro post := by
  intro I hI hro
  refine (callsIn_wide (n := 0)).1 (callsIn_of_wp_marks hf hb trivial ((wpIn_wide (n := 0)).2 (h I hro hI _ _ ⟨rfl, ?_, fun t v ht => ?_⟩ (Hp.start hI))))
  · have hl' : vs.length ≤ N := by simpa using hl
    simp [hN]; omega
  · obtain ⟨_, h2⟩ := get_params vs 0 t v ht
    simp only [Nat.sub_zero] at h2
    have hlt := (List.getElem?_eq_some_iff.1 h2).1
    rw [Array.getElem?_append_left (by simpa using hlt)]
    simpa using h2
end
end Go.Sv
set_option linter.unusedSimpArgs false
set_option linter.unusedVariables false
namespace Go.Sv
theorem results_tmp3' {fn : Func} {t1 t2 t3 : Tmp} (h : fn.results = #[.tmp t1, .tmp t2, .tmp t3]) (tmps : Array Value) (P : Program) (w : World) :
    (results fn tmps).run P w = .ok (.tuple #[tmps.getD t1 undef, tmps.getD t2 undef, tmps.getD t3 undef]) w := by
  simp only [results, h]
  simp [Sem.run_bind, Result.andThen]
section
variable {P : Program} {N : Nat} {fn : Func} {I : Ids} {L L' : List Assn} {E : Env} {v u v1 v2 v3 : Value} {t t1 t2 t3 : Tmp} {w : World} {post : Value → List Assn → Prop}
theorem KV.ret3 (hr : fn.results = #[.tmp t1, .tmp t2, .tmp t3]) (h1 : get E t1 = some v1) (h2 : get E t2 = some v2) (h3 : get E t3 = some v3) (L') (hent : ∀ w', Hp I w L w' → Hp I w L' w') (hp : post (.tuple #[v1, v2, v3]) L') :
    KV ⟨N, []⟩ (bodyPost P fn (fun e w' => ∃ v L', e = .returned v ∧ post v L' ∧ Hp I w L' w') .ret) E (Hp I w L) := fun a w' hf hs =>
  ⟨hf.defers, .tuple #[v1, v2, v3], by rw [results_tmp3' hr]; simp [hf.slot t1 v1 h1, hf.slot t2 v2 h2, hf.slot t3 v3 h3], _, L', rfl, hp, hent w' hs⟩
theorem KV.retP2 (hr : fn.results = #[.tmp t1, .tmp t2]) (h1 : get E t1 = some v1) (h2 : get E t2 = some v2) (hu : .tuple #[v1, v2] = v) :
    KV ⟨N, []⟩ (bodyPost P fn (fun e w' => e = .returned v ∧ w' = w) .ret) E (fun w' => w' = w) := fun a w' hf hs =>
  ⟨hf.defers, .tuple #[v1, v2], by rw [results_tmp2 hr]; simp [hf.slot t1 v1 h1, hf.slot t2 v2 h2], by rw [hu], hs⟩
theorem KV.retP3 (hr : fn.results = #[.tmp t1, .tmp t2, .tmp t3]) (h1 : get E t1 = some v1) (h2 : get E t2 = some v2) (h3 : get E t3 = some v3) (hu : .tuple #[v1, v2, v3] = v) :
    KV ⟨N, []⟩ (bodyPost P fn (fun e w' => e = .returned v ∧ w' = w) .ret) E (fun w' => w' = w) := fun a w' hf hs =>
  ⟨hf.defers, .tuple #[v1, v2, v3], by rw [results_tmp3' hr]; simp [hf.slot t1 v1 h1, hf.slot t2 v2 h2, hf.slot t3 v3 h3], by rw [hu], hs⟩
end
/-- The place of a byte. -/
theorem idx_spec (c : UInt8) : ∀ l : Bs, (Lib.indexByte l c = -1 ∧ ∀ x ∈ l, x ≠ c) ∨ ∃ p r : Bs, l = p ++ c :: r ∧ Lib.indexByte l c = (p.length : Int) ∧ ∀ x ∈ p, x ≠ c
  | [] => .inl ⟨rfl, fun x hx => by cases hx⟩
  | b :: l => by
    rw [Lib.indexByte]
    by_cases hb : b = c
    · subst hb
      exact .inr ⟨[], l, rfl, by simp, fun x hx => by cases hx⟩
    · have hb2 : (b == c) = false := beq_eq_false_iff_ne.2 hb
      rcases idx_spec c l with ⟨h1, h2⟩ | ⟨p, r, rfl, h1, h2⟩
      · left
        rw [hb2, h1]
        refine ⟨rfl, fun x hx => ?_⟩
        rcases List.mem_cons.1 hx with rfl | hx
        · exact hb
        · exact h2 x hx
      · right
        refine ⟨b :: p, r, rfl, ?_, fun x hx => ?_⟩
        · rw [hb2, h1]
          have : ((p.length : Int) == -1) = false := beq_eq_false_iff_ne.2 (by omega)
          simp only [Bool.false_eq_true, if_false, this, List.length_cons]
          omega
        · rcases List.mem_cons.1 hx with rfl | hx
          · exact hb
          · exact h2 x hx
theorem u8_back (c : UInt8) : ((c.toNat : Int)).toNat.toUInt8 = c := by simp
end Go.Sv
set_option linter.unusedSimpArgs false
set_option linter.unusedVariables false
namespace Go.Sv
theorem results_cell_tmp2 {fn : Func} {p : Tmp} {ty : TypeId} {t2 t3 : Tmp} (h : fn.results = #[.cell p ty, .tmp t2, .tmp t3]) (tmps : Array Value) (P : Program) (w : World) :
    (results fn tmps).run P w = ((asAddr (tmps.getD p undef)).run P w).andThen fun a w1 => ((loadVar ty a).run P w1).andThen fun v w2 => .ok (.tuple #[v, tmps.getD t2 undef, tmps.getD t3 undef]) w2 := by
  simp only [results, h]
  simp [Sem.run_bind, Result.andThen]
section
variable {P : Program} {N : Nat} {fn : Func} {I : Ids} {L L' : List Assn} {E : Env} {v v1 v2 v3 : Value} {t t1 t2 t3 : Tmp} {w : World} {post : Value → List Assn → Prop}
theorem KV.retC3 {ty : TypeId} {D : TypeDesc} {b o : Nat} {ze : Value} {sz by_ : Nat} (vs : List Value) (hr : fn.results = #[.cell t ty, .tmp t2, .tmp t3]) (hv : get E t = some (.pointer (some ⟨b, o, none⟩))) (hv2 : get E t2 = some v2) (hv3 : get E t3 = some v3) (hu : P.underlying ty = some D) (hD : aggD D = true) (hi : TI P ty ze sz by_) (hsz : vs.length = sz)
    (hc : ∀ w', Hp I w L w' → ∀ j v, vs[j]? = some v → w'.cell? ⟨b, o + j, none⟩ = some v) (L') (hent : ∀ w', Hp I w L w' → Hp I w L' w') (hp : post (.tuple #[.agg vs.toArray, v2, v3]) L') :
    KV ⟨N, []⟩ (bodyPost P fn (fun e w' => ∃ v L', e = .returned v ∧ post v L' ∧ Hp I w L' w') .ret) E (Hp I w L) := fun a w' hf hs =>
  ⟨hf.defers, _, by
    rw [results_cell_tmp2 hr]
    have h1 : a.tmps.getD t undef = .pointer (some ⟨b, o, none⟩) := by simp [hf.slot t _ hv]
    have h3 : a.tmps.getD t2 undef = v2 := by simp [hf.slot t2 _ hv2]
    have h4 : a.tmps.getD t3 undef = v3 := by simp [hf.slot t3 _ hv3]
    have h2 : (asAddr (.pointer (some ⟨b, o, none⟩))).run P w' = .ok ⟨b, o, none⟩ w' := by simp [asAddr]
    rw [h1, h2, h3, h4, Result.andThen_ok, loadVar_run vs hu hD hi hsz (hc w' hs), Result.andThen_ok], _, L', rfl, hp, hent w' hs⟩
end
end Go.Sv
set_option linter.unusedSimpArgs false
set_option linter.unusedVariables false
namespace Go.Sv
theorem loadVar_run1 {P : Program} {t : TypeId} {D : TypeDesc} {p : Addr} {v : Value} {w : World} (hu : P.underlying t = some D) (hD : aggD D = false) (hc : w.cell? p = some v) : (loadVar t p).run P w = .ok v w := by
  have hag : (isAgg t).run P w = .ok false w := by
    simp only [isAgg, Sem.run_bind, run_underlying hu, Result.andThen_ok]
    cases D <;> first | rfl | (simp [aggD] at hD)
  have hl : (Go.load p).run P w = .ok v w := by simp [Go.load, Sem.run, hc]
  simp only [loadVar, Sem.run_bind, Sem.run_pure, Result.andThen_ok, hag, Bool.false_eq_true, if_false, hl]
theorem results_cell2 {fn : Func} {p p2 : Tmp} {ty ty2 : TypeId} (h : fn.results = #[.cell p ty, .cell p2 ty2]) {tmps : Array Value} {P : Program} {w : World} {a a2 : Addr} {v v2 : Value}
    (h1 : tmps.getD p undef = .pointer (some a)) (h2 : tmps.getD p2 undef = .pointer (some a2)) (h3 : (loadVar ty a).run P w = .ok v w) (h4 : (loadVar ty2 a2).run P w = .ok v2 w) : (results fn tmps).run P w = .ok (.tuple #[v, v2]) w := by
  have ha : (asAddr (.pointer (some a))).run P w = .ok a w := by simp [asAddr]
  have ha2 : (asAddr (.pointer (some a2))).run P w = .ok a2 w := by simp [asAddr]
  have h1' : tmps[p]?.getD undef = .pointer (some a) := by simpa using h1
  have h2' : tmps[p2]?.getD undef = .pointer (some a2) := by simpa using h2
  simp only [results, h]
  simp [Sem.run_bind, h1', h2', ha, ha2, h3, h4, Result.andThen]
section
variable {P : Program} {N : Nat} {fn : Func} {I : Ids} {L L' : List Assn} {E : Env} {v v1 v2 : Value} {t t1 t2 : Tmp} {w : World} {post : Value → List Assn → Prop}
theorem KV.retM2 {D : Nat} {ty ty2 : TypeId} {T T2 : TypeDesc} {b o b2 o2 : Nat} {ze : Value} {sz by_ : Nat} (vs : List Value) (k : Nat) (hr : fn.results = #[.cell t ty, .cell t2 ty2]) (hv : get E t = some (.pointer (some ⟨b, o, none⟩))) (hv2 : get E t2 = some (.pointer (some ⟨b2, o2, none⟩))) (hu : P.underlying ty = some T) (hD : aggD T = true) (hi : TI P ty ze sz by_) (hsz : vs.length = sz)
    (hu2 : P.underlying ty2 = some T2) (hD2 : aggD T2 = false) (hk : L[k]? = some (Blk D (.deferred (some []))))
    (hc : ∀ w', Hp I w (L.set k (Blk D (.deferred none))) w' → ∀ j v, vs[j]? = some v → w'.cell? ⟨b, o + j, none⟩ = some v) (hc2 : ∀ w', Hp I w (L.set k (Blk D (.deferred none))) w' → w'.cell? ⟨b2, o2, none⟩ = some v2)
    (L') (hent : ∀ w', Hp I w (L.set k (Blk D (.deferred none))) w' → Hp I w L' w') (hp : post (.tuple #[.agg vs.toArray, v2]) L') :
    KV ⟨N, [mk D]⟩ (bodyPostM Fence.wide 0 P fn (fun e w' => ∃ v L', e = .returned v ∧ post v L' ∧ Hp I w L' w') .ret) E (Hp I w L) := fun a w' hf hs => by
  have hput := hs.put (.deferred none) hk
  show LeavesInM Fence.wide 0 P fn a.tmps _ a.defers .returning w'
  rw [hf.defers]
  refine ⟨(fun h => by cases h), .inl ⟨D, _, rfl, run_takeDeferred (hs.blk k hk), ?_⟩⟩
  refine ⟨.tuple #[.agg vs.toArray, v2], ?_, _, L', rfl, hp, hent _ hput⟩
  exact results_cell2 hr (by simp [hf.slot t _ hv]) (by simp [hf.slot t2 _ hv2]) (loadVar_run vs hu hD hi hsz (hc _ hput)) (loadVar_run1 hu2 hD2 (hc2 _ hput))
end
end Go.Sv
set_option linter.unusedSimpArgs false
set_option linter.unusedVariables false
namespace Go.Sv
def Bun (M : List Assn) : Assn where
  sat w I := Sep M I w
  lt h x hx := h.lt x hx
  keep h hk := h.keep hk
section
variable {I0 : Ids} {w0 w : World} {L M R : List Assn} {k : Nat}
theorem Hp.bun (h : Hp I0 w0 (M ++ R) w) : Hp I0 w0 (Bun M :: R) w := h.bundle (A := Bun M) fun _ hi => hi
theorem Hp.unbun (h : Hp I0 w0 (Bun M :: R) w) : Hp I0 w0 (M ++ R) w := h.splice (k := 0) (M := M) rfl fun _ hi => hi
theorem picks_all : ∀ (O F : List Assn), picks (List.replicate O.length 0) (O ++ F) = some (O, F)
  | [], F => rfl
  | A :: O, F => by
    show picks (0 :: List.replicate O.length 0) (A :: (O ++ F)) = _
    simp [picks, picks_all O F]
end
section
variable {P : Program} {l : Nat} {vs : List Value} {w : World} {ro : Ids} {post post' : Value → List Assn → Prop} {M : List Assn}
theorem Sep.ofBun {I : Ids} (h : Sep [Bun M] I w) : Sep M I w := by
  obtain ⟨i, j, h1, h2, h3, h4⟩ := h
  exact Sep.ext h3 fun x => ⟨fun hx => (h1 x).2 (.inl hx), fun hx => ((h1 x).1 hx).elim id fun hj => absurd hj (h4 x)⟩
theorem RoundFx.bun (h : RoundFx P l vs w M ro post') (hp : ∀ v L', post' v L' → post v [Bun L']) : RoundFx P l vs w [Bun M] ro post := fun I hI hro => by
  obtain ⟨fn, tmps, assign, body, h1, h2⟩ := h I (Sep.ofBun hI) hro
  refine ⟨fn, tmps, assign, body, h1, RoundIn.mono (F := Fence.wide) h2 ?_⟩
  rintro e w' ⟨v, L', rfl, h3, h4⟩
  exact ⟨v, _, rfl, hp v L' h3, (show Hp I w (L' ++ []) w' by rw [List.append_nil]; exact h4).bun⟩
theorem RoundFx.ofWalkN {E : Env} {Own : List Assn} {k n : Nat} {r : Loop} (hn : r.tmps.size = n) (hk : Own[k]? = some (Blk l (.loop r))) (hst : r.state = .ready) (hsz : vs.length = r.params.size)
    (h : ∀ I, (∀ b, ro b → ¬ I b) → CI (some l) P ⟨n, []⟩ r.assign (Exit.then (fun a w1 => ∃ w2, (Instr.beginRound l).run P w1 = .ok () w2 ∧ r.body.wpIn (fen (some l)) 0 P (roundPost P l (fun e w' => ∃ v L', e = .returned v ∧ post v L' ∧ Hp I w L' w')) a w2) (fun _ _ _ => False)) E (Hp I w Own))
    (hE : Fits ⟨n, []⟩ { tmps := ((r.params.zip vs.toArray).foldl (fun tmps (t, a) => tmps.setIfInBounds t a) r.tmps), defers := [] } E) : RoundFx P l vs w Own ro post := by
  subst hn
  exact RoundFx.ofWalk hk hst hsz h hE
end
section
variable {P : Program} {N : NN} {Q : Exit → Act → World → Prop} {E : Env} {I0 : Ids} {w0 : World} {L : List Assn}
theorem CV.rangeFuncB (ro : Ids) {gt : Nat} {ps : Array Tmp} {assign body : Code} {f : FuncId} {fn' : Func} {caps : List Value} (hx : get E gt = some (.func (.func f) #[] caps.toArray))
    (hfn : P.funcs[f]? = some fn') (hbody : fn'.body.isSome = true) (hname : (fn'.name == "runtime.NumGoroutine") = false)
    (spec : ∀ (fn D l : Nat) (tm : Array Value) (rc : Loop), rc = recL fn tm ps assign body D → Fits ⟨N.n, []⟩ { tmps := tm, defers := [] } E → ∃ Own F post,
      (∀ w, Hp I0 w0 (L ++ [Blk D (.deferred (some [])), Blk l (.loop rc)]) w → Hp I0 w0 (Own ++ F) w) ∧
      (∀ b, ro b → RoOk I0 w0 F b) ∧ (∀ w, Hp I0 w0 (Own ++ F) w → Fx P f (.func (.yield l) #[] #[] :: caps) w Own ro post) ∧
      ∀ v L', post v L' → ∃ r L2 k, (∀ w, Hp I0 w0 (F ++ L') w → Hp I0 w0 L2 w) ∧ L2[k]? = some (Blk l (.loop r)) ∧ r.state ≠ .busy ∧
        ((r.pending = none ∧ KV ⟨N.n, mk D :: N.D⟩ (Q .normal) E (Hp I0 w0 (L2.set k (Blk l (.loop { r with state := .exhausted }))))) ∨
         (r.pending = some .ret ∧ KV ⟨N.n, mk D :: N.D⟩ (Q .ret) E (Hp I0 w0 (L2.set k (Blk l (.loop { r with state := .exhausted }))))))) :
    CV P N (.rangeFunc (.tmp gt) ps assign body) Q E (Hp I0 w0 L) := fun a w hf hs => by
  refine (wpIn_wide (n := 0)).1 (wpIn_rangeFunc fun fn _ => ?_)
  have hfit : Fits ⟨N.n, []⟩ { tmps := a.tmps, defers := [] } E := ⟨rfl, hf.size, hf.slot⟩
  have hbn : fn'.body.isNone = false := by cases h : fn'.body <;> simp_all
  have hn1 : ¬ fn'.name = "runtime.NumGoroutine" := by simpa using hname
  have hn2 : ¬ fn'.body = none := by intro h; rw [h] at hbn; simp at hbn
  obtain ⟨Own, F, post, hent, hro, hspec, hend⟩ := spec fn w.heap.size (w.heap.size + 1) a.tmps _ rfl hfit
  have hs1 : Hp I0 w0 (L ++ [Blk w.heap.size (.deferred (some []))]) (w.alloc (.deferred (some []))) := hs.alloc rfl rfl rfl rfl
  have hs2 : Hp I0 w0 (L ++ [Blk w.heap.size (.deferred (some [])), Blk (w.heap.size + 1) (.loop (recL fn a.tmps ps assign body w.heap.size))]) ((w.alloc (.deferred (some []))).alloc (.loop (recL fn a.tmps ps assign body w.heap.size))) := by
    have := hs1.alloc (w' := (w.alloc (.deferred (some []))).alloc (.loop (recL fn a.tmps ps assign body w.heap.size))) rfl rfl rfl rfl
    rw [List.append_assoc, World.size_alloc] at this
    exact this
  have hs3 := hent _ hs2
  have hgv : a.eval (.tmp gt) = .func (.func f) #[] caps.toArray := hf.ev (x := .tmp gt) hx
  refine ⟨w.heap.size + 1, [mk w.heap.size], ((w.alloc (.deferred (some []))).alloc (.loop (recL fn a.tmps ps assign body w.heap.size))), ⟨.fn (.func f) caps.toArray, #[.func (.yield (w.heap.size + 1)) #[] #[]]⟩, ((w.alloc (.deferred (some []))).alloc (.loop (recL fn a.tmps ps assign body w.heap.size))), f, (.func (.yield (w.heap.size + 1)) #[] #[] :: caps).toArray, ((w.alloc (.deferred (some []))).alloc (.loop (recL fn a.tmps ps assign body w.heap.size))), run_enterLoop_outer fn a.tmps ps assign body, ?_, fun _ _ => trivial, ?_, fun hh => (by cases hh), callsIn_wide.2 ?_⟩
  · have hc : a.eval (.const (.func (.yield (w.heap.size + 1)) #[] #[])) = .func (.yield (w.heap.size + 1)) #[] #[] := rfl
    simp [resolve, Deferred.ofValue, hgv, hc]
  · simp [invoke, callFunc, hfn, hn1, hn2]
  · refine (Calls.frame (picks_all Own F) hs3 hro (hspec _ hs3)).mono ?_
    rintro e w3 ⟨v, L', rfl, hpost, hhp⟩
    obtain ⟨r, L2, k, hent2, hk, hst, hcase⟩ := hend v L' hpost
    have hhp2 := hent2 _ hhp
    have hb := hhp2.blk k hk
    have hput := hhp2.put (Obj.loop { r with state := .exhausted }) hk
    have hf2 : Fits ⟨N.n, mk w.heap.size :: N.D⟩ { a with defers := [mk w.heap.size] ++ a.defers } E := ⟨by show [mk w.heap.size] ++ a.defers = _; rw [hf.defers]; rfl, hf.size, hf.slot⟩
    rcases hcase with ⟨h1, h2⟩ | ⟨h1, h2⟩
    · exact ⟨none, w3.putObj (w.heap.size + 1) (Obj.loop { r with state := .exhausted }), (run_endLoop hb hst).trans (congrArg (fun j => Result.ok j (w3.putObj (w.heap.size + 1) (Obj.loop { r with state := .exhausted }))) h1), h2 _ _ hf2 hput⟩
    · exact ⟨some .ret, w3.putObj (w.heap.size + 1) (Obj.loop { r with state := .exhausted }), (run_endLoop hb hst).trans (congrArg (fun j => Result.ok j (w3.putObj (w.heap.size + 1) (Obj.loop { r with state := .exhausted }))) h1), wpIn_ret (h2 _ _ hf2 hput)⟩
end
theorem Fits.one {n d : Nat} {tm : Array Value} {E : Env} (v : Value) (h : Fits ⟨n, []⟩ { tmps := tm, defers := [] } E) (hN : Nat.blt d n = true) : Fits ⟨n, []⟩ { tmps := ((#[d].zip [v].toArray).foldl (fun tmps (t, a) => tmps.setIfInBounds t a) tm), defers := [] } (set E d v) := by
  have := h.put v hN
  simpa [Act.put] using this
end Go.Sv
set_option linter.unusedSimpArgs false
set_option linter.unusedVariables false
namespace Go.Sv
open Go.ChangeShapes Go.WideShapes Go.Deep Go.RowKit
theorem Fx.topR {P : Program} {f : FuncId} {vs : List Value} {w : World} {L : List Assn} {ro : Ids} (h : Fx P f vs w [] ro (fun v L' => v = .bool true ∧ L' = L)) :
    Calls P f vs.toArray w (fun e w' => e = .returned (.bool true) ∧ Below w.heap.size w w') := by
  refine (h (fun _ => False) (fun _ h => h) (fun _ _ h => h)).mono ?_
  rintro e w' ⟨v, L', rfl, ⟨rfl, _⟩, _, _, hx, _⟩
  exact ⟨rfl, hx.os, hx.tape, hx.output, hx.size, fun x hx' => hx.block x hx' (fun h => h)⟩
section
variable {H : Type} {enc : TypeId × Value → H} {P : Program} {w : World} {base : Nat} {spare : Nat → Bool} {held : Bool}
theorem open_rs {α : Type} (K : Enc α) (G : α → Prop) {t e : TypeId} {fuel : Nat} {cs : List Value} {x : DataW H × List MemPlace} (ht : P.underlying t = some (.slice e)) (hsz : P.cellsOf e = K.sz)
    (hel : ∀ n cs' y, DataW.trod enc P w base spare held n e cs' = some y → ∃ a : α, cs' = K.f a ∧ G a) (h : DataW.trod enc P w base spare held fuel t cs = some x) :
    ∃ (A : Option Addr) (n c : Nat) (ys : List α), cs = [.slice A n c] ∧ ys.length = n ∧ RS w K A ys ∧ ∀ i, i < n → G (ys.getD i K.d) := by
  rcases open_slice ht h with ⟨h0, _⟩ | ⟨a, len, cap, m, n, D, Pl, hcs, hb, hl, hm, hmm, hx, hi⟩
  · exact ⟨none, 0, 0, [], h0, rfl, .inl rfl, fun _ h => absurd h (Nat.not_lt_zero _)⟩
  · have hlm : len ≤ m := by rw [hmm]; split <;> omega
    obtain ⟨ys, h1, h2, h3⟩ := RS.ofCells K G (w := w) (a := a) (len := len) fun i hil => by
      obtain ⟨cs', hc, ht'⟩ := hi i (by omega)
      obtain ⟨y, hy, hG⟩ := hel _ _ _ ht'
      obtain ⟨_, hcl, hat⟩ := World.cells?_some hc
      refine ⟨y, hG, fun j v hv => ?_⟩
      have hj : j < P.cellsOf e := by
        rw [hsz, ← K.len y]
        exact (List.getElem?_eq_some_iff.1 hv).1
      have := hat j hj
      rw [hy, hv] at this
      rw [← Go.Deep.add_add, ← hsz]; exact this
    exact ⟨some a, len, cap, ys, hcs, h1, h2, h3⟩
theorem cut1 {l : List Value} {k : Nat} {v : Value} (h : (l.drop k).take 1 = [v]) : l[k]? = some v := by
  have : ((l.drop k).take 1)[0]? = some v := by rw [h]; rfl
  simpa [List.getElem?_take, List.getElem?_drop] using this
end
end Go.Sv
set_option linter.unusedSimpArgs false
set_option linter.unusedVariables false
namespace Go.Sv
open Go
/-- Which operations of a region are listed: bit i of m. -/
def bl (n m : Nat) : Array Bool := ((List.range n).map fun i => m.testBit i).toArray
section
variable {P : Program} {N : NN} {E : Env} {S S0 : World → Prop} {ops : Array Oper} {Q : Exit → Act → World → Prop} {rest : List Oper} {KK : Act → World → Prop} {T : Act → World → Prop}
variable {d : Nat} {ty : TypeId} {pos : String} {af : Array Edge} {g : Option (Nat × Bool)} {x : Operand} {v : Value} {op : Op}
theorem RV.s (h : Step P N E S ⟨some d, op, ty, pos, af, none⟩ v) (hN : Nat.blt d N.n = true) (k : RV P N ops Q rest (set E d v) S) : RV P N ops Q (⟨some d, op, ty, pos, af, none⟩ :: rest) E S := RV.op (OV.step gno h hN k)
theorem RV.gw {j : Nat} {b : Bool} (hg : wantsE ops E j = some b) (h : Step P N E S ⟨some d, op, ty, pos, af, some (j, b)⟩ v) (hN : Nat.blt d N.n = true) (k : RV P N ops Q rest (set E d v) S) : RV P N ops Q (⟨some d, op, ty, pos, af, some (j, b)⟩ :: rest) E S := RV.op (OV.step (gyes hg) h hN k)
theorem RV.m (hx : ev E x = some v) (hN : Nat.blt d N.n = true) (k : RV P N ops Q rest (set E d v) S) : RV P N ops Q (⟨some d, .move x, ty, pos, af, none⟩ :: rest) E S := RV.op (OV.step gno (Step.move hx) hN k)
theorem RV.a (hx : ev E x = some v) (hN : Nat.blt d N.n = true) (k : RV P N ops Q rest (set E d v) S) : RV P N ops Q (⟨some d, .assign x, ty, pos, af, none⟩ :: rest) E S := RV.op (OV.step gno (Step.assign hx) hN k)
theorem RV.k {j : Nat} {b : Bool} (hg : wantsE ops E j = some (!b)) (hN : Nat.blt d N.n = true) (k : RV P N ops Q rest (set E d undef) S) : RV P N ops Q (⟨some d, op, ty, pos, af, some (j, b)⟩ :: rest) E S := RV.op (OV.skip hg hN k)
theorem AV.u (i : Nat) {fuel : Nat} {listed : Array Bool} (listed' : Array Bool) (hi : ops[i]? = some ⟨some d, op, ty, pos, af, g⟩) (hg : Yes N ops ⟨some d, op, ty, pos, af, g⟩ E) (h : Step P N E S0 ⟨some d, op, ty, pos, af, g⟩ v) (hN : Nat.blt d N.n = true) (hS : ∀ w, S w → S0 w)
    (k : AV P N ops Q S0 fuel listed' (set E d v) S) (hl : listed.setIfInBounds i true = listed' := by kernel_rfl)
    (hs : Region.noSelect ops = true := by kernel_rfl) (hfr : Region.free .any ops listed i = true := by kernel_rfl) (hr : (Region.ready .any ops listed).contains i = true := by kernel_rfl)
    (hQ : ∀ c a w, Q (.panic c) (a.put (some d) v) w → Q (.panic c) a w := by exact fun _ _ _ h => h) : AV P N ops Q S0 (fuel + 1) listed E S := AV.take i listed' hi hs hfr hr hQ hg h hN hS hl k
end
end Go.Sv
namespace Go.Sv
section
variable {N : NN} {K : Act → World → Prop} {E : Env} {S : World → Prop}
theorem KV.e1 (t0 : Nat) {v0 : Value} (k : KV N K [(t0, v0)] S) (h0 : get E t0 = some v0 := by exact rfl) : KV N K E S := KV.env [(t0, v0)] ⟨h0, trivial⟩ k
theorem KV.e2 (t0 t1 : Nat) {v0 v1 : Value} (k : KV N K [(t0, v0), (t1, v1)] S) (h0 : get E t0 = some v0 := by exact rfl) (h1 : get E t1 = some v1 := by exact rfl) : KV N K E S := KV.env [(t0, v0), (t1, v1)] ⟨h0, h1, trivial⟩ k
theorem KV.e3 (t0 t1 t2 : Nat) {v0 v1 v2 : Value} (k : KV N K [(t0, v0), (t1, v1), (t2, v2)] S) (h0 : get E t0 = some v0 := by exact rfl) (h1 : get E t1 = some v1 := by exact rfl) (h2 : get E t2 = some v2 := by exact rfl) : KV N K E S := KV.env [(t0, v0), (t1, v1), (t2, v2)] ⟨h0, h1, h2, trivial⟩ k
theorem KV.e4 (t0 t1 t2 t3 : Nat) {v0 v1 v2 v3 : Value} (k : KV N K [(t0, v0), (t1, v1), (t2, v2), (t3, v3)] S) (h0 : get E t0 = some v0 := by exact rfl) (h1 : get E t1 = some v1 := by exact rfl) (h2 : get E t2 = some v2 := by exact rfl) (h3 : get E t3 = some v3 := by exact rfl) : KV N K E S := KV.env [(t0, v0), (t1, v1), (t2, v2), (t3, v3)] ⟨h0, h1, h2, h3, trivial⟩ k
theorem KV.e5 (t0 t1 t2 t3 t4 : Nat) {v0 v1 v2 v3 v4 : Value} (k : KV N K [(t0, v0), (t1, v1), (t2, v2), (t3, v3), (t4, v4)] S) (h0 : get E t0 = some v0 := by exact rfl) (h1 : get E t1 = some v1 := by exact rfl) (h2 : get E t2 = some v2 := by exact rfl) (h3 : get E t3 = some v3 := by exact rfl) (h4 : get E t4 = some v4 := by exact rfl) : KV N K E S := KV.env [(t0, v0), (t1, v1), (t2, v2), (t3, v3), (t4, v4)] ⟨h0, h1, h2, h3, h4, trivial⟩ k
theorem KV.e6 (t0 t1 t2 t3 t4 t5 : Nat) {v0 v1 v2 v3 v4 v5 : Value} (k : KV N K [(t0, v0), (t1, v1), (t2, v2), (t3, v3), (t4, v4), (t5, v5)] S) (h0 : get E t0 = some v0 := by exact rfl) (h1 : get E t1 = some v1 := by exact rfl) (h2 : get E t2 = some v2 := by exact rfl) (h3 : get E t3 = some v3 := by exact rfl) (h4 : get E t4 = some v4 := by exact rfl) (h5 : get E t5 = some v5 := by exact rfl) : KV N K E S := KV.env [(t0, v0), (t1, v1), (t2, v2), (t3, v3), (t4, v4), (t5, v5)] ⟨h0, h1, h2, h3, h4, h5, trivial⟩ k
theorem KV.e7 (t0 t1 t2 t3 t4 t5 t6 : Nat) {v0 v1 v2 v3 v4 v5 v6 : Value} (k : KV N K [(t0, v0), (t1, v1), (t2, v2), (t3, v3), (t4, v4), (t5, v5), (t6, v6)] S) (h0 : get E t0 = some v0 := by exact rfl) (h1 : get E t1 = some v1 := by exact rfl) (h2 : get E t2 = some v2 := by exact rfl) (h3 : get E t3 = some v3 := by exact rfl) (h4 : get E t4 = some v4 := by exact rfl) (h5 : get E t5 = some v5 := by exact rfl) (h6 : get E t6 = some v6 := by exact rfl) : KV N K E S := KV.env [(t0, v0), (t1, v1), (t2, v2), (t3, v3), (t4, v4), (t5, v5), (t6, v6)] ⟨h0, h1, h2, h3, h4, h5, h6, trivial⟩ k
theorem KV.e8 (t0 t1 t2 t3 t4 t5 t6 t7 : Nat) {v0 v1 v2 v3 v4 v5 v6 v7 : Value} (k : KV N K [(t0, v0), (t1, v1), (t2, v2), (t3, v3), (t4, v4), (t5, v5), (t6, v6), (t7, v7)] S) (h0 : get E t0 = some v0 := by exact rfl) (h1 : get E t1 = some v1 := by exact rfl) (h2 : get E t2 = some v2 := by exact rfl) (h3 : get E t3 = some v3 := by exact rfl) (h4 : get E t4 = some v4 := by exact rfl) (h5 : get E t5 = some v5 := by exact rfl) (h6 : get E t6 = some v6 := by exact rfl) (h7 : get E t7 = some v7 := by exact rfl) : KV N K E S := KV.env [(t0, v0), (t1, v1), (t2, v2), (t3, v3), (t4, v4), (t5, v5), (t6, v6), (t7, v7)] ⟨h0, h1, h2, h3, h4, h5, h6, h7, trivial⟩ k
theorem KV.e9 (t0 t1 t2 t3 t4 t5 t6 t7 t8 : Nat) {v0 v1 v2 v3 v4 v5 v6 v7 v8 : Value} (k : KV N K [(t0, v0), (t1, v1), (t2, v2), (t3, v3), (t4, v4), (t5, v5), (t6, v6), (t7, v7), (t8, v8)] S) (h0 : get E t0 = some v0 := by exact rfl) (h1 : get E t1 = some v1 := by exact rfl) (h2 : get E t2 = some v2 := by exact rfl) (h3 : get E t3 = some v3 := by exact rfl) (h4 : get E t4 = some v4 := by exact rfl) (h5 : get E t5 = some v5 := by exact rfl) (h6 : get E t6 = some v6 := by exact rfl) (h7 : get E t7 = some v7 := by exact rfl) (h8 : get E t8 = some v8 := by exact rfl) : KV N K E S := KV.env [(t0, v0), (t1, v1), (t2, v2), (t3, v3), (t4, v4), (t5, v5), (t6, v6), (t7, v7), (t8, v8)] ⟨h0, h1, h2, h3, h4, h5, h6, h7, h8, trivial⟩ k
theorem KV.e10 (t0 t1 t2 t3 t4 t5 t6 t7 t8 t9 : Nat) {v0 v1 v2 v3 v4 v5 v6 v7 v8 v9 : Value} (k : KV N K [(t0, v0), (t1, v1), (t2, v2), (t3, v3), (t4, v4), (t5, v5), (t6, v6), (t7, v7), (t8, v8), (t9, v9)] S) (h0 : get E t0 = some v0 := by exact rfl) (h1 : get E t1 = some v1 := by exact rfl) (h2 : get E t2 = some v2 := by exact rfl) (h3 : get E t3 = some v3 := by exact rfl) (h4 : get E t4 = some v4 := by exact rfl) (h5 : get E t5 = some v5 := by exact rfl) (h6 : get E t6 = some v6 := by exact rfl) (h7 : get E t7 = some v7 := by exact rfl) (h8 : get E t8 = some v8 := by exact rfl) (h9 : get E t9 = some v9 := by exact rfl) : KV N K E S := KV.env [(t0, v0), (t1, v1), (t2, v2), (t3, v3), (t4, v4), (t5, v5), (t6, v6), (t7, v7), (t8, v8), (t9, v9)] ⟨h0, h1, h2, h3, h4, h5, h6, h7, h8, h9, trivial⟩ k
theorem KV.e11 (t0 t1 t2 t3 t4 t5 t6 t7 t8 t9 t10 : Nat) {v0 v1 v2 v3 v4 v5 v6 v7 v8 v9 v10 : Value} (k : KV N K [(t0, v0), (t1, v1), (t2, v2), (t3, v3), (t4, v4), (t5, v5), (t6, v6), (t7, v7), (t8, v8), (t9, v9), (t10, v10)] S) (h0 : get E t0 = some v0 := by exact rfl) (h1 : get E t1 = some v1 := by exact rfl) (h2 : get E t2 = some v2 := by exact rfl) (h3 : get E t3 = some v3 := by exact rfl) (h4 : get E t4 = some v4 := by exact rfl) (h5 : get E t5 = some v5 := by exact rfl) (h6 : get E t6 = some v6 := by exact rfl) (h7 : get E t7 = some v7 := by exact rfl) (h8 : get E t8 = some v8 := by exact rfl) (h9 : get E t9 = some v9 := by exact rfl) (h10 : get E t10 = some v10 := by exact rfl) : KV N K E S := KV.env [(t0, v0), (t1, v1), (t2, v2), (t3, v3), (t4, v4), (t5, v5), (t6, v6), (t7, v7), (t8, v8), (t9, v9), (t10, v10)] ⟨h0, h1, h2, h3, h4, h5, h6, h7, h8, h9, h10, trivial⟩ k
theorem KV.e12 (t0 t1 t2 t3 t4 t5 t6 t7 t8 t9 t10 t11 : Nat) {v0 v1 v2 v3 v4 v5 v6 v7 v8 v9 v10 v11 : Value} (k : KV N K [(t0, v0), (t1, v1), (t2, v2), (t3, v3), (t4, v4), (t5, v5), (t6, v6), (t7, v7), (t8, v8), (t9, v9), (t10, v10), (t11, v11)] S) (h0 : get E t0 = some v0 := by exact rfl) (h1 : get E t1 = some v1 := by exact rfl) (h2 : get E t2 = some v2 := by exact rfl) (h3 : get E t3 = some v3 := by exact rfl) (h4 : get E t4 = some v4 := by exact rfl) (h5 : get E t5 = some v5 := by exact rfl) (h6 : get E t6 = some v6 := by exact rfl) (h7 : get E t7 = some v7 := by exact rfl) (h8 : get E t8 = some v8 := by exact rfl) (h9 : get E t9 = some v9 := by exact rfl) (h10 : get E t10 = some v10 := by exact rfl) (h11 : get E t11 = some v11 := by exact rfl) : KV N K E S := KV.env [(t0, v0), (t1, v1), (t2, v2), (t3, v3), (t4, v4), (t5, v5), (t6, v6), (t7, v7), (t8, v8), (t9, v9), (t10, v10), (t11, v11)] ⟨h0, h1, h2, h3, h4, h5, h6, h7, h8, h9, h10, h11, trivial⟩ k
theorem KV.e13 (t0 t1 t2 t3 t4 t5 t6 t7 t8 t9 t10 t11 t12 : Nat) {v0 v1 v2 v3 v4 v5 v6 v7 v8 v9 v10 v11 v12 : Value} (k : KV N K [(t0, v0), (t1, v1), (t2, v2), (t3, v3), (t4, v4), (t5, v5), (t6, v6), (t7, v7), (t8, v8), (t9, v9), (t10, v10), (t11, v11), (t12, v12)] S) (h0 : get E t0 = some v0 := by exact rfl) (h1 : get E t1 = some v1 := by exact rfl) (h2 : get E t2 = some v2 := by exact rfl) (h3 : get E t3 = some v3 := by exact rfl) (h4 : get E t4 = some v4 := by exact rfl) (h5 : get E t5 = some v5 := by exact rfl) (h6 : get E t6 = some v6 := by exact rfl) (h7 : get E t7 = some v7 := by exact rfl) (h8 : get E t8 = some v8 := by exact rfl) (h9 : get E t9 = some v9 := by exact rfl) (h10 : get E t10 = some v10 := by exact rfl) (h11 : get E t11 = some v11 := by exact rfl) (h12 : get E t12 = some v12 := by exact rfl) : KV N K E S := KV.env [(t0, v0), (t1, v1), (t2, v2), (t3, v3), (t4, v4), (t5, v5), (t6, v6), (t7, v7), (t8, v8), (t9, v9), (t10, v10), (t11, v11), (t12, v12)] ⟨h0, h1, h2, h3, h4, h5, h6, h7, h8, h9, h10, h11, h12, trivial⟩ k
theorem KV.e14 (t0 t1 t2 t3 t4 t5 t6 t7 t8 t9 t10 t11 t12 t13 : Nat) {v0 v1 v2 v3 v4 v5 v6 v7 v8 v9 v10 v11 v12 v13 : Value} (k : KV N K [(t0, v0), (t1, v1), (t2, v2), (t3, v3), (t4, v4), (t5, v5), (t6, v6), (t7, v7), (t8, v8), (t9, v9), (t10, v10), (t11, v11), (t12, v12), (t13, v13)] S) (h0 : get E t0 = some v0 := by exact rfl) (h1 : get E t1 = some v1 := by exact rfl) (h2 : get E t2 = some v2 := by exact rfl) (h3 : get E t3 = some v3 := by exact rfl) (h4 : get E t4 = some v4 := by exact rfl) (h5 : get E t5 = some v5 := by exact rfl) (h6 : get E t6 = some v6 := by exact rfl) (h7 : get E t7 = some v7 := by exact rfl) (h8 : get E t8 = some v8 := by exact rfl) (h9 : get E t9 = some v9 := by exact rfl) (h10 : get E t10 = some v10 := by exact rfl) (h11 : get E t11 = some v11 := by exact rfl) (h12 : get E t12 = some v12 := by exact rfl) (h13 : get E t13 = some v13 := by exact rfl) : KV N K E S := KV.env [(t0, v0), (t1, v1), (t2, v2), (t3, v3), (t4, v4), (t5, v5), (t6, v6), (t7, v7), (t8, v8), (t9, v9), (t10, v10), (t11, v11), (t12, v12), (t13, v13)] ⟨h0, h1, h2, h3, h4, h5, h6, h7, h8, h9, h10, h11, h12, h13, trivial⟩ k
theorem KV.e15 (t0 t1 t2 t3 t4 t5 t6 t7 t8 t9 t10 t11 t12 t13 t14 : Nat) {v0 v1 v2 v3 v4 v5 v6 v7 v8 v9 v10 v11 v12 v13 v14 : Value} (k : KV N K [(t0, v0), (t1, v1), (t2, v2), (t3, v3), (t4, v4), (t5, v5), (t6, v6), (t7, v7), (t8, v8), (t9, v9), (t10, v10), (t11, v11), (t12, v12), (t13, v13), (t14, v14)] S) (h0 : get E t0 = some v0 := by exact rfl) (h1 : get E t1 = some v1 := by exact rfl) (h2 : get E t2 = some v2 := by exact rfl) (h3 : get E t3 = some v3 := by exact rfl) (h4 : get E t4 = some v4 := by exact rfl) (h5 : get E t5 = some v5 := by exact rfl) (h6 : get E t6 = some v6 := by exact rfl) (h7 : get E t7 = some v7 := by exact rfl) (h8 : get E t8 = some v8 := by exact rfl) (h9 : get E t9 = some v9 := by exact rfl) (h10 : get E t10 = some v10 := by exact rfl) (h11 : get E t11 = some v11 := by exact rfl) (h12 : get E t12 = some v12 := by exact rfl) (h13 : get E t13 = some v13 := by exact rfl) (h14 : get E t14 = some v14 := by exact rfl) : KV N K E S := KV.env [(t0, v0), (t1, v1), (t2, v2), (t3, v3), (t4, v4), (t5, v5), (t6, v6), (t7, v7), (t8, v8), (t9, v9), (t10, v10), (t11, v11), (t12, v12), (t13, v13), (t14, v14)] ⟨h0, h1, h2, h3, h4, h5, h6, h7, h8, h9, h10, h11, h12, h13, h14, trivial⟩ k
theorem KV.e16 (t0 t1 t2 t3 t4 t5 t6 t7 t8 t9 t10 t11 t12 t13 t14 t15 : Nat) {v0 v1 v2 v3 v4 v5 v6 v7 v8 v9 v10 v11 v12 v13 v14 v15 : Value} (k : KV N K [(t0, v0), (t1, v1), (t2, v2), (t3, v3), (t4, v4), (t5, v5), (t6, v6), (t7, v7), (t8, v8), (t9, v9), (t10, v10), (t11, v11), (t12, v12), (t13, v13), (t14, v14), (t15, v15)] S) (h0 : get E t0 = some v0 := by exact rfl) (h1 : get E t1 = some v1 := by exact rfl) (h2 : get E t2 = some v2 := by exact rfl) (h3 : get E t3 = some v3 := by exact rfl) (h4 : get E t4 = some v4 := by exact rfl) (h5 : get E t5 = some v5 := by exact rfl) (h6 : get E t6 = some v6 := by exact rfl) (h7 : get E t7 = some v7 := by exact rfl) (h8 : get E t8 = some v8 := by exact rfl) (h9 : get E t9 = some v9 := by exact rfl) (h10 : get E t10 = some v10 := by exact rfl) (h11 : get E t11 = some v11 := by exact rfl) (h12 : get E t12 = some v12 := by exact rfl) (h13 : get E t13 = some v13 := by exact rfl) (h14 : get E t14 = some v14 := by exact rfl) (h15 : get E t15 = some v15 := by exact rfl) : KV N K E S := KV.env [(t0, v0), (t1, v1), (t2, v2), (t3, v3), (t4, v4), (t5, v5), (t6, v6), (t7, v7), (t8, v8), (t9, v9), (t10, v10), (t11, v11), (t12, v12), (t13, v13), (t14, v14), (t15, v15)] ⟨h0, h1, h2, h3, h4, h5, h6, h7, h8, h9, h10, h11, h12, h13, h14, h15, trivial⟩ k
theorem KV.e17 (t0 t1 t2 t3 t4 t5 t6 t7 t8 t9 t10 t11 t12 t13 t14 t15 t16 : Nat) {v0 v1 v2 v3 v4 v5 v6 v7 v8 v9 v10 v11 v12 v13 v14 v15 v16 : Value} (k : KV N K [(t0, v0), (t1, v1), (t2, v2), (t3, v3), (t4, v4), (t5, v5), (t6, v6), (t7, v7), (t8, v8), (t9, v9), (t10, v10), (t11, v11), (t12, v12), (t13, v13), (t14, v14), (t15, v15), (t16, v16)] S) (h0 : get E t0 = some v0 := by exact rfl) (h1 : get E t1 = some v1 := by exact rfl) (h2 : get E t2 = some v2 := by exact rfl) (h3 : get E t3 = some v3 := by exact rfl) (h4 : get E t4 = some v4 := by exact rfl) (h5 : get E t5 = some v5 := by exact rfl) (h6 : get E t6 = some v6 := by exact rfl) (h7 : get E t7 = some v7 := by exact rfl) (h8 : get E t8 = some v8 := by exact rfl) (h9 : get E t9 = some v9 := by exact rfl) (h10 : get E t10 = some v10 := by exact rfl) (h11 : get E t11 = some v11 := by exact rfl) (h12 : get E t12 = some v12 := by exact rfl) (h13 : get E t13 = some v13 := by exact rfl) (h14 : get E t14 = some v14 := by exact rfl) (h15 : get E t15 = some v15 := by exact rfl) (h16 : get E t16 = some v16 := by exact rfl) : KV N K E S := KV.env [(t0, v0), (t1, v1), (t2, v2), (t3, v3), (t4, v4), (t5, v5), (t6, v6), (t7, v7), (t8, v8), (t9, v9), (t10, v10), (t11, v11), (t12, v12), (t13, v13), (t14, v14), (t15, v15), (t16, v16)] ⟨h0, h1, h2, h3, h4, h5, h6, h7, h8, h9, h10, h11, h12, h13, h14, h15, h16, trivial⟩ k
theorem KV.e18 (t0 t1 t2 t3 t4 t5 t6 t7 t8 t9 t10 t11 t12 t13 t14 t15 t16 t17 : Nat) {v0 v1 v2 v3 v4 v5 v6 v7 v8 v9 v10 v11 v12 v13 v14 v15 v16 v17 : Value} (k : KV N K [(t0, v0), (t1, v1), (t2, v2), (t3, v3), (t4, v4), (t5, v5), (t6, v6), (t7, v7), (t8, v8), (t9, v9), (t10, v10), (t11, v11), (t12, v12), (t13, v13), (t14, v14), (t15, v15), (t16, v16), (t17, v17)] S) (h0 : get E t0 = some v0 := by exact rfl) (h1 : get E t1 = some v1 := by exact rfl) (h2 : get E t2 = some v2 := by exact rfl) (h3 : get E t3 = some v3 := by exact rfl) (h4 : get E t4 = some v4 := by exact rfl) (h5 : get E t5 = some v5 := by exact rfl) (h6 : get E t6 = some v6 := by exact rfl) (h7 : get E t7 = some v7 := by exact rfl) (h8 : get E t8 = some v8 := by exact rfl) (h9 : get E t9 = some v9 := by exact rfl) (h10 : get E t10 = some v10 := by exact rfl) (h11 : get E t11 = some v11 := by exact rfl) (h12 : get E t12 = some v12 := by exact rfl) (h13 : get E t13 = some v13 := by exact rfl) (h14 : get E t14 = some v14 := by exact rfl) (h15 : get E t15 = some v15 := by exact rfl) (h16 : get E t16 = some v16 := by exact rfl) (h17 : get E t17 = some v17 := by exact rfl) : KV N K E S := KV.env [(t0, v0), (t1, v1), (t2, v2), (t3, v3), (t4, v4), (t5, v5), (t6, v6), (t7, v7), (t8, v8), (t9, v9), (t10, v10), (t11, v11), (t12, v12), (t13, v13), (t14, v14), (t15, v15), (t16, v16), (t17, v17)] ⟨h0, h1, h2, h3, h4, h5, h6, h7, h8, h9, h10, h11, h12, h13, h14, h15, h16, h17, trivial⟩ k
theorem KV.e19 (t0 t1 t2 t3 t4 t5 t6 t7 t8 t9 t10 t11 t12 t13 t14 t15 t16 t17 t18 : Nat) {v0 v1 v2 v3 v4 v5 v6 v7 v8 v9 v10 v11 v12 v13 v14 v15 v16 v17 v18 : Value} (k : KV N K [(t0, v0), (t1, v1), (t2, v2), (t3, v3), (t4, v4), (t5, v5), (t6, v6), (t7, v7), (t8, v8), (t9, v9), (t10, v10), (t11, v11), (t12, v12), (t13, v13), (t14, v14), (t15, v15), (t16, v16), (t17, v17), (t18, v18)] S) (h0 : get E t0 = some v0 := by exact rfl) (h1 : get E t1 = some v1 := by exact rfl) (h2 : get E t2 = some v2 := by exact rfl) (h3 : get E t3 = some v3 := by exact rfl) (h4 : get E t4 = some v4 := by exact rfl) (h5 : get E t5 = some v5 := by exact rfl) (h6 : get E t6 = some v6 := by exact rfl) (h7 : get E t7 = some v7 := by exact rfl) (h8 : get E t8 = some v8 := by exact rfl) (h9 : get E t9 = some v9 := by exact rfl) (h10 : get E t10 = some v10 := by exact rfl) (h11 : get E t11 = some v11 := by exact rfl) (h12 : get E t12 = some v12 := by exact rfl) (h13 : get E t13 = some v13 := by exact rfl) (h14 : get E t14 = some v14 := by exact rfl) (h15 : get E t15 = some v15 := by exact rfl) (h16 : get E t16 = some v16 := by exact rfl) (h17 : get E t17 = some v17 := by exact rfl) (h18 : get E t18 = some v18 := by exact rfl) : KV N K E S := KV.env [(t0, v0), (t1, v1), (t2, v2), (t3, v3), (t4, v4), (t5, v5), (t6, v6), (t7, v7), (t8, v8), (t9, v9), (t10, v10), (t11, v11), (t12, v12), (t13, v13), (t14, v14), (t15, v15), (t16, v16), (t17, v17), (t18, v18)] ⟨h0, h1, h2, h3, h4, h5, h6, h7, h8, h9, h10, h11, h12, h13, h14, h15, h16, h17, h18, trivial⟩ k
theorem KV.e20 (t0 t1 t2 t3 t4 t5 t6 t7 t8 t9 t10 t11 t12 t13 t14 t15 t16 t17 t18 t19 : Nat) {v0 v1 v2 v3 v4 v5 v6 v7 v8 v9 v10 v11 v12 v13 v14 v15 v16 v17 v18 v19 : Value} (k : KV N K [(t0, v0), (t1, v1), (t2, v2), (t3, v3), (t4, v4), (t5, v5), (t6, v6), (t7, v7), (t8, v8), (t9, v9), (t10, v10), (t11, v11), (t12, v12), (t13, v13), (t14, v14), (t15, v15), (t16, v16), (t17, v17), (t18, v18), (t19, v19)] S) (h0 : get E t0 = some v0 := by exact rfl) (h1 : get E t1 = some v1 := by exact rfl) (h2 : get E t2 = some v2 := by exact rfl) (h3 : get E t3 = some v3 := by exact rfl) (h4 : get E t4 = some v4 := by exact rfl) (h5 : get E t5 = some v5 := by exact rfl) (h6 : get E t6 = some v6 := by exact rfl) (h7 : get E t7 = some v7 := by exact rfl) (h8 : get E t8 = some v8 := by exact rfl) (h9 : get E t9 = some v9 := by exact rfl) (h10 : get E t10 = some v10 := by exact rfl) (h11 : get E t11 = some v11 := by exact rfl) (h12 : get E t12 = some v12 := by exact rfl) (h13 : get E t13 = some v13 := by exact rfl) (h14 : get E t14 = some v14 := by exact rfl) (h15 : get E t15 = some v15 := by exact rfl) (h16 : get E t16 = some v16 := by exact rfl) (h17 : get E t17 = some v17 := by exact rfl) (h18 : get E t18 = some v18 := by exact rfl) (h19 : get E t19 = some v19 := by exact rfl) : KV N K E S := KV.env [(t0, v0), (t1, v1), (t2, v2), (t3, v3), (t4, v4), (t5, v5), (t6, v6), (t7, v7), (t8, v8), (t9, v9), (t10, v10), (t11, v11), (t12, v12), (t13, v13), (t14, v14), (t15, v15), (t16, v16), (t17, v17), (t18, v18), (t19, v19)] ⟨h0, h1, h2, h3, h4, h5, h6, h7, h8, h9, h10, h11, h12, h13, h14, h15, h16, h17, h18, h19, trivial⟩ k
theorem KV.e21 (t0 t1 t2 t3 t4 t5 t6 t7 t8 t9 t10 t11 t12 t13 t14 t15 t16 t17 t18 t19 t20 : Nat) {v0 v1 v2 v3 v4 v5 v6 v7 v8 v9 v10 v11 v12 v13 v14 v15 v16 v17 v18 v19 v20 : Value} (k : KV N K [(t0, v0), (t1, v1), (t2, v2), (t3, v3), (t4, v4), (t5, v5), (t6, v6), (t7, v7), (t8, v8), (t9, v9), (t10, v10), (t11, v11), (t12, v12), (t13, v13), (t14, v14), (t15, v15), (t16, v16), (t17, v17), (t18, v18), (t19, v19), (t20, v20)] S) (h0 : get E t0 = some v0 := by exact rfl) (h1 : get E t1 = some v1 := by exact rfl) (h2 : get E t2 = some v2 := by exact rfl) (h3 : get E t3 = some v3 := by exact rfl) (h4 : get E t4 = some v4 := by exact rfl) (h5 : get E t5 = some v5 := by exact rfl) (h6 : get E t6 = some v6 := by exact rfl) (h7 : get E t7 = some v7 := by exact rfl) (h8 : get E t8 = some v8 := by exact rfl) (h9 : get E t9 = some v9 := by exact rfl) (h10 : get E t10 = some v10 := by exact rfl) (h11 : get E t11 = some v11 := by exact rfl) (h12 : get E t12 = some v12 := by exact rfl) (h13 : get E t13 = some v13 := by exact rfl) (h14 : get E t14 = some v14 := by exact rfl) (h15 : get E t15 = some v15 := by exact rfl) (h16 : get E t16 = some v16 := by exact rfl) (h17 : get E t17 = some v17 := by exact rfl) (h18 : get E t18 = some v18 := by exact rfl) (h19 : get E t19 = some v19 := by exact rfl) (h20 : get E t20 = some v20 := by exact rfl) : KV N K E S := KV.env [(t0, v0), (t1, v1), (t2, v2), (t3, v3), (t4, v4), (t5, v5), (t6, v6), (t7, v7), (t8, v8), (t9, v9), (t10, v10), (t11, v11), (t12, v12), (t13, v13), (t14, v14), (t15, v15), (t16, v16), (t17, v17), (t18, v18), (t19, v19), (t20, v20)] ⟨h0, h1, h2, h3, h4, h5, h6, h7, h8, h9, h10, h11, h12, h13, h14, h15, h16, h17, h18, h19, h20, trivial⟩ k
theorem KV.e22 (t0 t1 t2 t3 t4 t5 t6 t7 t8 t9 t10 t11 t12 t13 t14 t15 t16 t17 t18 t19 t20 t21 : Nat) {v0 v1 v2 v3 v4 v5 v6 v7 v8 v9 v10 v11 v12 v13 v14 v15 v16 v17 v18 v19 v20 v21 : Value} (k : KV N K [(t0, v0), (t1, v1), (t2, v2), (t3, v3), (t4, v4), (t5, v5), (t6, v6), (t7, v7), (t8, v8), (t9, v9), (t10, v10), (t11, v11), (t12, v12), (t13, v13), (t14, v14), (t15, v15), (t16, v16), (t17, v17), (t18, v18), (t19, v19), (t20, v20), (t21, v21)] S) (h0 : get E t0 = some v0 := by exact rfl) (h1 : get E t1 = some v1 := by exact rfl) (h2 : get E t2 = some v2 := by exact rfl) (h3 : get E t3 = some v3 := by exact rfl) (h4 : get E t4 = some v4 := by exact rfl) (h5 : get E t5 = some v5 := by exact rfl) (h6 : get E t6 = some v6 := by exact rfl) (h7 : get E t7 = some v7 := by exact rfl) (h8 : get E t8 = some v8 := by exact rfl) (h9 : get E t9 = some v9 := by exact rfl) (h10 : get E t10 = some v10 := by exact rfl) (h11 : get E t11 = some v11 := by exact rfl) (h12 : get E t12 = some v12 := by exact rfl) (h13 : get E t13 = some v13 := by exact rfl) (h14 : get E t14 = some v14 := by exact rfl) (h15 : get E t15 = some v15 := by exact rfl) (h16 : get E t16 = some v16 := by exact rfl) (h17 : get E t17 = some v17 := by exact rfl) (h18 : get E t18 = some v18 := by exact rfl) (h19 : get E t19 = some v19 := by exact rfl) (h20 : get E t20 = some v20 := by exact rfl) (h21 : get E t21 = some v21 := by exact rfl) : KV N K E S := KV.env [(t0, v0), (t1, v1), (t2, v2), (t3, v3), (t4, v4), (t5, v5), (t6, v6), (t7, v7), (t8, v8), (t9, v9), (t10, v10), (t11, v11), (t12, v12), (t13, v13), (t14, v14), (t15, v15), (t16, v16), (t17, v17), (t18, v18), (t19, v19), (t20, v20), (t21, v21)] ⟨h0, h1, h2, h3, h4, h5, h6, h7, h8, h9, h10, h11, h12, h13, h14, h15, h16, h17, h18, h19, h20, h21, trivial⟩ k
theorem KV.e23 (t0 t1 t2 t3 t4 t5 t6 t7 t8 t9 t10 t11 t12 t13 t14 t15 t16 t17 t18 t19 t20 t21 t22 : Nat) {v0 v1 v2 v3 v4 v5 v6 v7 v8 v9 v10 v11 v12 v13 v14 v15 v16 v17 v18 v19 v20 v21 v22 : Value} (k : KV N K [(t0, v0), (t1, v1), (t2, v2), (t3, v3), (t4, v4), (t5, v5), (t6, v6), (t7, v7), (t8, v8), (t9, v9), (t10, v10), (t11, v11), (t12, v12), (t13, v13), (t14, v14), (t15, v15), (t16, v16), (t17, v17), (t18, v18), (t19, v19), (t20, v20), (t21, v21), (t22, v22)] S) (h0 : get E t0 = some v0 := by exact rfl) (h1 : get E t1 = some v1 := by exact rfl) (h2 : get E t2 = some v2 := by exact rfl) (h3 : get E t3 = some v3 := by exact rfl) (h4 : get E t4 = some v4 := by exact rfl) (h5 : get E t5 = some v5 := by exact rfl) (h6 : get E t6 = some v6 := by exact rfl) (h7 : get E t7 = some v7 := by exact rfl) (h8 : get E t8 = some v8 := by exact rfl) (h9 : get E t9 = some v9 := by exact rfl) (h10 : get E t10 = some v10 := by exact rfl) (h11 : get E t11 = some v11 := by exact rfl) (h12 : get E t12 = some v12 := by exact rfl) (h13 : get E t13 = some v13 := by exact rfl) (h14 : get E t14 = some v14 := by exact rfl) (h15 : get E t15 = some v15 := by exact rfl) (h16 : get E t16 = some v16 := by exact rfl) (h17 : get E t17 = some v17 := by exact rfl) (h18 : get E t18 = some v18 := by exact rfl) (h19 : get E t19 = some v19 := by exact rfl) (h20 : get E t20 = some v20 := by exact rfl) (h21 : get E t21 = some v21 := by exact rfl) (h22 : get E t22 = some v22 := by exact rfl) : KV N K E S := KV.env [(t0, v0), (t1, v1), (t2, v2), (t3, v3), (t4, v4), (t5, v5), (t6, v6), (t7, v7), (t8, v8), (t9, v9), (t10, v10), (t11, v11), (t12, v12), (t13, v13), (t14, v14), (t15, v15), (t16, v16), (t17, v17), (t18, v18), (t19, v19), (t20, v20), (t21, v21), (t22, v22)] ⟨h0, h1, h2, h3, h4, h5, h6, h7, h8, h9, h10, h11, h12, h13, h14, h15, h16, h17, h18, h19, h20, h21, h22, trivial⟩ k
theorem KV.e24 (t0 t1 t2 t3 t4 t5 t6 t7 t8 t9 t10 t11 t12 t13 t14 t15 t16 t17 t18 t19 t20 t21 t22 t23 : Nat) {v0 v1 v2 v3 v4 v5 v6 v7 v8 v9 v10 v11 v12 v13 v14 v15 v16 v17 v18 v19 v20 v21 v22 v23 : Value} (k : KV N K [(t0, v0), (t1, v1), (t2, v2), (t3, v3), (t4, v4), (t5, v5), (t6, v6), (t7, v7), (t8, v8), (t9, v9), (t10, v10), (t11, v11), (t12, v12), (t13, v13), (t14, v14), (t15, v15), (t16, v16), (t17, v17), (t18, v18), (t19, v19), (t20, v20), (t21, v21), (t22, v22), (t23, v23)] S) (h0 : get E t0 = some v0 := by exact rfl) (h1 : get E t1 = some v1 := by exact rfl) (h2 : get E t2 = some v2 := by exact rfl) (h3 : get E t3 = some v3 := by exact rfl) (h4 : get E t4 = some v4 := by exact rfl) (h5 : get E t5 = some v5 := by exact rfl) (h6 : get E t6 = some v6 := by exact rfl) (h7 : get E t7 = some v7 := by exact rfl) (h8 : get E t8 = some v8 := by exact rfl) (h9 : get E t9 = some v9 := by exact rfl) (h10 : get E t10 = some v10 := by exact rfl) (h11 : get E t11 = some v11 := by exact rfl) (h12 : get E t12 = some v12 := by exact rfl) (h13 : get E t13 = some v13 := by exact rfl) (h14 : get E t14 = some v14 := by exact rfl) (h15 : get E t15 = some v15 := by exact rfl) (h16 : get E t16 = some v16 := by exact rfl) (h17 : get E t17 = some v17 := by exact rfl) (h18 : get E t18 = some v18 := by exact rfl) (h19 : get E t19 = some v19 := by exact rfl) (h20 : get E t20 = some v20 := by exact rfl) (h21 : get E t21 = some v21 := by exact rfl) (h22 : get E t22 = some v22 := by exact rfl) (h23 : get E t23 = some v23 := by exact rfl) : KV N K E S := KV.env [(t0, v0), (t1, v1), (t2, v2), (t3, v3), (t4, v4), (t5, v5), (t6, v6), (t7, v7), (t8, v8), (t9, v9), (t10, v10), (t11, v11), (t12, v12), (t13, v13), (t14, v14), (t15, v15), (t16, v16), (t17, v17), (t18, v18), (t19, v19), (t20, v20), (t21, v21), (t22, v22), (t23, v23)] ⟨h0, h1, h2, h3, h4, h5, h6, h7, h8, h9, h10, h11, h12, h13, h14, h15, h16, h17, h18, h19, h20, h21, h22, h23, trivial⟩ k
theorem KV.e25 (t0 t1 t2 t3 t4 t5 t6 t7 t8 t9 t10 t11 t12 t13 t14 t15 t16 t17 t18 t19 t20 t21 t22 t23 t24 : Nat) {v0 v1 v2 v3 v4 v5 v6 v7 v8 v9 v10 v11 v12 v13 v14 v15 v16 v17 v18 v19 v20 v21 v22 v23 v24 : Value} (k : KV N K [(t0, v0), (t1, v1), (t2, v2), (t3, v3), (t4, v4), (t5, v5), (t6, v6), (t7, v7), (t8, v8), (t9, v9), (t10, v10), (t11, v11), (t12, v12), (t13, v13), (t14, v14), (t15, v15), (t16, v16), (t17, v17), (t18, v18), (t19, v19), (t20, v20), (t21, v21), (t22, v22), (t23, v23), (t24, v24)] S) (h0 : get E t0 = some v0 := by exact rfl) (h1 : get E t1 = some v1 := by exact rfl) (h2 : get E t2 = some v2 := by exact rfl) (h3 : get E t3 = some v3 := by exact rfl) (h4 : get E t4 = some v4 := by exact rfl) (h5 : get E t5 = some v5 := by exact rfl) (h6 : get E t6 = some v6 := by exact rfl) (h7 : get E t7 = some v7 := by exact rfl) (h8 : get E t8 = some v8 := by exact rfl) (h9 : get E t9 = some v9 := by exact rfl) (h10 : get E t10 = some v10 := by exact rfl) (h11 : get E t11 = some v11 := by exact rfl) (h12 : get E t12 = some v12 := by exact rfl) (h13 : get E t13 = some v13 := by exact rfl) (h14 : get E t14 = some v14 := by exact rfl) (h15 : get E t15 = some v15 := by exact rfl) (h16 : get E t16 = some v16 := by exact rfl) (h17 : get E t17 = some v17 := by exact rfl) (h18 : get E t18 = some v18 := by exact rfl) (h19 : get E t19 = some v19 := by exact rfl) (h20 : get E t20 = some v20 := by exact rfl) (h21 : get E t21 = some v21 := by exact rfl) (h22 : get E t22 = some v22 := by exact rfl) (h23 : get E t23 = some v23 := by exact rfl) (h24 : get E t24 = some v24 := by exact rfl) : KV N K E S := KV.env [(t0, v0), (t1, v1), (t2, v2), (t3, v3), (t4, v4), (t5, v5), (t6, v6), (t7, v7), (t8, v8), (t9, v9), (t10, v10), (t11, v11), (t12, v12), (t13, v13), (t14, v14), (t15, v15), (t16, v16), (t17, v17), (t18, v18), (t19, v19), (t20, v20), (t21, v21), (t22, v22), (t23, v23), (t24, v24)] ⟨h0, h1, h2, h3, h4, h5, h6, h7, h8, h9, h10, h11, h12, h13, h14, h15, h16, h17, h18, h19, h20, h21, h22, h23, h24, trivial⟩ k
theorem KV.e26 (t0 t1 t2 t3 t4 t5 t6 t7 t8 t9 t10 t11 t12 t13 t14 t15 t16 t17 t18 t19 t20 t21 t22 t23 t24 t25 : Nat) {v0 v1 v2 v3 v4 v5 v6 v7 v8 v9 v10 v11 v12 v13 v14 v15 v16 v17 v18 v19 v20 v21 v22 v23 v24 v25 : Value} (k : KV N K [(t0, v0), (t1, v1), (t2, v2), (t3, v3), (t4, v4), (t5, v5), (t6, v6), (t7, v7), (t8, v8), (t9, v9), (t10, v10), (t11, v11), (t12, v12), (t13, v13), (t14, v14), (t15, v15), (t16, v16), (t17, v17), (t18, v18), (t19, v19), (t20, v20), (t21, v21), (t22, v22), (t23, v23), (t24, v24), (t25, v25)] S) (h0 : get E t0 = some v0 := by exact rfl) (h1 : get E t1 = some v1 := by exact rfl) (h2 : get E t2 = some v2 := by exact rfl) (h3 : get E t3 = some v3 := by exact rfl) (h4 : get E t4 = some v4 := by exact rfl) (h5 : get E t5 = some v5 := by exact rfl) (h6 : get E t6 = some v6 := by exact rfl) (h7 : get E t7 = some v7 := by exact rfl) (h8 : get E t8 = some v8 := by exact rfl) (h9 : get E t9 = some v9 := by exact rfl) (h10 : get E t10 = some v10 := by exact rfl) (h11 : get E t11 = some v11 := by exact rfl) (h12 : get E t12 = some v12 := by exact rfl) (h13 : get E t13 = some v13 := by exact rfl) (h14 : get E t14 = some v14 := by exact rfl) (h15 : get E t15 = some v15 := by exact rfl) (h16 : get E t16 = some v16 := by exact rfl) (h17 : get E t17 = some v17 := by exact rfl) (h18 : get E t18 = some v18 := by exact rfl) (h19 : get E t19 = some v19 := by exact rfl) (h20 : get E t20 = some v20 := by exact rfl) (h21 : get E t21 = some v21 := by exact rfl) (h22 : get E t22 = some v22 := by exact rfl) (h23 : get E t23 = some v23 := by exact rfl) (h24 : get E t24 = some v24 := by exact rfl) (h25 : get E t25 = some v25 := by exact rfl) : KV N K E S := KV.env [(t0, v0), (t1, v1), (t2, v2), (t3, v3), (t4, v4), (t5, v5), (t6, v6), (t7, v7), (t8, v8), (t9, v9), (t10, v10), (t11, v11), (t12, v12), (t13, v13), (t14, v14), (t15, v15), (t16, v16), (t17, v17), (t18, v18), (t19, v19), (t20, v20), (t21, v21), (t22, v22), (t23, v23), (t24, v24), (t25, v25)] ⟨h0, h1, h2, h3, h4, h5, h6, h7, h8, h9, h10, h11, h12, h13, h14, h15, h16, h17, h18, h19, h20, h21, h22, h23, h24, h25, trivial⟩ k
end
end Go.Sv
