/-
  Strings appended to rows of bytes; a call met at the world itself; pointers held against themselves.
-/
import Derived.Test.YtplmfekhdaefaaaGreatDoorSvC
import Derived.Lib.AppendStr
import Derived.Lib.Builder
import Derived.LaidEqlPtr
set_option linter.unusedSimpArgs false
set_option linter.unusedVariables false
namespace Go.Sv
open Go
/-- Bytes in memory. -/
def byK : Enc UInt8 where
  f b := [.int .u8 (b.toNat : Int)]
  sz := 1
  d := 0
  len _ := rfl
  pos := by decide
  one r v hv := by simp at hv; subst hv; rfl
theorem flat_by (l : Bs) : flat byK l = Lib.strCells (bs l) := by
  unfold flat Lib.strCells byK
  simp [bs]
  induction l with
  | nil => rfl
  | cons a l ih => rw [List.flatMap_cons, List.map_cons, ih]; rfl
section
variable {P : Program} {N : NN} {E : Env} {I0 : Ids} {w0 : World} {L : List Assn} {ops : Array Oper} {Q : Exit → Act → World → Prop} {KK : Act → World → Prop}
variable {e : TypeId} {A : Option Addr} {c : Nat} {l l2 : Bs} {x y : Operand} {d : Nat} {ty : TypeId} {pos : String} {af : Array Edge} {g : Option (Nat × Bool)}
theorem appendStr_run {w : World} {i : Ids} {t u : TypeId} (hu : P.underlying t = some (.slice e)) (hs : P.underlying u = some .string) (hi : TI P e (.int .u8 0) 1 1)
    (h : (OS e byK A c l).sat w i) (hb : l.length + l2.length ≤ 140737488355328) :
    ∃ A' c' w', (Builtin.append_ #[t, u] ty #[.slice A l.length c, .string (bs l2)]).run P w = .ok (.slice A' (l ++ l2).length c') w' ∧
      ∃ i' : Ids, (OS e byK A' c' (l ++ l2)).sat w' i' ∧ (∀ x, i' x → i x ∨ w.heap.size ≤ x) ∧ Ext i w w' := by
  obtain ⟨inf, h1, h2, h3, h4⟩ := hi.get
  have hsz : (bs l2).size = l2.length := bs_size l2
  have hown : w.ownsRow 0 e 1 (.slice A l.length c) l.length (flat byK l) := by
    refine ⟨flat_length byK l, ?_⟩
    rcases h with ⟨rfl, rfl, rfl, _⟩ | ⟨gb, cur, rfl, hI, hb', hle, hc, hsz', ht⟩
    · exact .inl ⟨rfl, rfl⟩
    · exact .inr ⟨gb, c, cur, rfl, Nat.zero_le _, hb', hle, hc, hsz', ht⟩
  obtain ⟨v', w', hrun, ho, hgr, _⟩ := Lib.run_append_own_string (P := P) w 0 t u ty e inf hu hs h1 h2 h3 h4 _ l.length (flat byK l) hown (bs l2) (by rw [hsz]; unfold maxLen; omega) (by rw [hsz]; exact hb) (Nat.zero_le _)
  have hbl : v'.ownBlock = (Value.slice A l.length c).ownBlock ∨ v'.ownBlock = some w.heap.size := by
    rcases hown.2 with ⟨hv, h0⟩ | ⟨gb, cap, cur, hv, _, hb', hle, hc, hsz', ht⟩
    · injection hv with a1 a2 a3
      subst a1
      by_cases hm : l2 = []
      · left
        have hf := Lib.run_firstCells_string (P := P) w 1 (bs l2)
        subst hm
        have e0 : l = [] := List.eq_nil_of_length_eq_zero h0
        subst e0
        have : (Builtin.append_ #[t, u] ty #[.slice none 0 c, .string (bs [])]).run P w = .ok (.slice none 0 c) w := by
          have e1 : (bs ([] : Bs)).size = 0 := rfl
          rw [e1] at hf
          have e2 : Lib.strCells (bs []) = [] := rfl
          rw [e2] at hf
          simp [Builtin.append_, run_underlying hu, run_underlying hs, sizeOf, typeInfo, h1, h3, Builtin.lenOf, hf, e1]
        rw [show (List.length ([] : Bs)) = 0 from rfl, this] at hrun
        injection hrun with b1 b2
        rw [← b1]; rfl
      · right
        have hp : 0 < l2.length := List.length_pos_iff.2 hm
        have hr := run_append_nil_string (P := P) w t u ty e inf (.int .u8 0) hu hs h1 h2 (bs l2) (by rw [hsz]; omega) (by rw [hsz]; omega) (by rw [hsz, h4]; omega)
        rw [h0, a3] at hrun
        rw [hr] at hrun
        injection hrun with b1 b2
        rw [← b1]; rfl
    · injection hv with a1 a2 a3
      subst a1
      subst a3
      have hcs' : cur.size = c := by simpa using hsz'
      by_cases hroom : l.length + (bs l2).size ≤ c
      · left
        have hr := Lib.run_append_room_string (P := P) w t u ty e inf hu hs h1 h3 gb l.length c cur hb' (bs l2) hroom (by omega)
        rw [hr] at hrun
        injection hrun with b1 b2
        rw [← b1]; rfl
      · right
        have holds : ∀ j u, (flat byK l)[j]? = some u → w.cell? ((⟨gb, 0, none⟩ : Addr).add j) = some u := hown.cells (g := gb) rfl
        have hr := Lib.run_append_grow_string (P := P) w t u ty e inf (.int .u8 0) hu hs h1 h2 ⟨gb, 0, none⟩ l.length c (flat byK l) (by rw [h3]; exact flat_length byK l) holds (bs l2) (by omega) (by rw [hsz]; omega) (by rw [hsz, h4]; exact growslice_fits (by omega) (by omega))
        rw [hr] at hrun
        injection hrun with b1 b2
        rw [← b1]; rfl
  have hext : Ext i w w' := ⟨hgr.os, hgr.tape, hgr.output, hgr.size, fun x hx hn => hgr.block x hx fun hh => hn ?_⟩
  · rw [hsz] at ho
    rcases ho.2 with ⟨rfl, h0⟩ | ⟨gb, cap, cur, rfl, _, hb', hle, hc, hsz', ht⟩
    · have hy : l = [] := List.eq_nil_of_length_eq_zero (by omega)
      have hz : l2 = [] := List.eq_nil_of_length_eq_zero (by omega)
      subst hy; subst hz
      exact ⟨none, 0, w', hrun, fun _ => False, .inl ⟨rfl, rfl, rfl, fun _ h => h⟩, fun _ h => h.elim, hext⟩
    · rw [← flat_by, ← flat_append] at ht
      refine ⟨some ⟨gb, 0, none⟩, cap, w', by rw [List.length_append]; exact hrun, fun x => x = gb, .inr ⟨gb, cur, rfl, fun _ => Iff.rfl, hb', by rw [List.length_append]; exact hle, hc, hsz', by rw [List.length_append]; exact ht⟩, ?_, hext⟩
      rintro x rfl
      rcases hbl with hbl | hbl
      · rcases h with ⟨rfl, _⟩ | ⟨g2, cur2, rfl, hI, _⟩
        · simp [Value.ownBlock] at hbl
        · simp [Value.ownBlock] at hbl; exact .inl ((hI x).2 hbl)
      · simp [Value.ownBlock] at hbl; exact .inr (by omega)
  · rcases h with ⟨rfl, _⟩ | ⟨g2, cur2, rfl, hI, _⟩
    · simp [Value.ownBlock] at hh
    · simp [Value.ownBlock] at hh; exact (hI x).2 hh
/-- append(bytes, string...) onto an owned row. -/
theorem OV.appendStr (k : Nat) {t u : TypeId} {n : Nat} (hu : P.underlying t = some (.slice e)) (hs : P.underlying u = some .string) (hi : TI P e (.int .u8 0) 1 1)
    (hx : ev E x = some (.slice A n c)) (hy : ev E y = some (.string (bs l2))) (hn : n = l.length) (hk : L[k]? = some (OS e byK A c l))
    (hb : l.length + l2.length ≤ 140737488355328) (hg : Yes N ops ⟨some d, .call ⟨.builtin .append, #[x, y], #[t, u]⟩, ty, pos, af, g⟩ E) (hN : Nat.blt d N.n = true)
    (kk : ∀ A' c', KV N KK (set E d (.slice A' (l ++ l2).length c')) (Hp I0 w0 (L.set k (OS e byK A' c' (l ++ l2))))) : OV P N ops Q ⟨some d, .call ⟨.builtin .append, #[x, y], #[t, u]⟩, ty, pos, af, g⟩ E (Hp I0 w0 L) KK := fun a w hf hsS => by
  subst hn
  obtain ⟨i, j, hA, _⟩ := hsS.at hk
  obtain ⟨A', c', w', hrun, _⟩ := appendStr_run (P := P) (ty := ty) (l2 := l2) hu hs hi hA hb
  refine OV.run (v := .slice A' (l ++ l2).length c') (w' := w') (hg a hf) ?_ (kk A' c' _ _ (hf.put _ hN) (hsS.update hk fun i2 hA2 => ?_))
  · simp only [execOp, resolve, invoke, builtin, Sem.run_bind, Sem.run_pure, Result.andThen_ok, List.map_toArray, List.map_cons, List.map_nil, hf.ev hx, hf.ev hy, hrun]
  · obtain ⟨A2, c2, w2, hrun2, hi2⟩ := appendStr_run (P := P) (ty := ty) (l2 := l2) hu hs hi hA2 hb
    rw [hrun] at hrun2
    injection hrun2 with h1 h2
    injection h1 with h3 h4 h5
    subst h2; subst h3; subst h5
    exact hi2
/-- A call met at the world itself. -/
theorem OV.callW {S : World → Prop} {α : Type} (v : α → Value) (S' : α → World → Prop) {f : FuncId} {fn : Func} {vs : List Value} {args : List Operand} {ts : Array TypeId}
    (hfn : P.funcs[f]? = some fn) (hbody : fn.body.isSome = true) (hname : (fn.name == "runtime.NumGoroutine") = false) (ha : evs E args = some vs) (spec : ∀ w, S w → Calls P f vs.toArray w (fun e w' => ∃ z, e = .returned (v z) ∧ S' z w'))
    (hg : Yes N ops ⟨some d, .call ⟨.value (.func f), args.toArray, ts⟩, ty, pos, af, g⟩ E) (hN : Nat.blt d N.n = true)
    (k : ∀ z, KV N KK (set E d (v z)) (S' z)) : OV P N ops Q ⟨some d, .call ⟨.value (.func f), args.toArray, ts⟩, ty, pos, af, g⟩ E S KK := fun a w hf hs => by
  rw [if_pos (hg a hf)]
  unfold Oper.wp
  have hbn : fn.body.isNone = false := by cases h : fn.body <;> simp_all
  have hrun : (execOp a.eval ⟨some d, .call ⟨.value (.func f), args.toArray, ts⟩, ty, pos, af, g⟩).run P w = .ok (.enter f vs.toArray) w := by
    have hv : a.eval (.func f) = .func (.func f) #[] #[] := rfl
    have hm : args.toArray.map a.eval = vs.toArray := by rw [← hf.evs ha]; simp
    have hn1 : ¬ fn.name = "runtime.NumGoroutine" := by simpa using hname
    have hn2 : ¬ fn.body = none := by intro h; rw [h] at hbn; simp at hbn
    simp [execOp, resolve, invoke, callFunc, hv, hfn, hn1, hn2, hm, Deferred.ofValue]
  rw [hrun]
  simp only [Oper.upon]
  refine (spec w hs).mono ?_
  rintro e w' ⟨z, rfl, hS⟩
  exact k z _ _ (hf.put _ hN) hS
theorem Step.neqPtrSame {S : World → Prop} {t te t2 : TypeId} {q : Addr} {ze : Value} {sz by_ : Nat} {dd : Option Nat} (hu : P.underlying t = some (.pointer te)) (hi : TI P te ze sz by_) (hx : ev E x = some (.pointer (some q))) (hy : ev E y = some (.pointer (some q))) :
    Step P N E S ⟨dd, .binOp .neq t x y t2, ty, pos, af, g⟩ (.bool false) := by
  obtain ⟨j, hj, _⟩ := hi.get
  exact step_bin hx hy rfl fun w => Lib.run_neq_ptr_same w q hu hj
theorem Step.conv {S : World → Prop} {src dst : TypeId} {u v : Value} {dd : Option Nat} (hx : ev E x = some u) (h : ∀ w, S w → (convert src dst u).run P w = .ok v w) : Step P N E S ⟨dd, .convert src dst x, ty, pos, af, g⟩ v := fun a w hf hs => by
  have := h w hs
  simp only [execOp, hf.ev hx, Sem.run_bind, this, Result.andThen_ok, Sem.run_pure]
theorem Hp.shape {w : World} (h : Hp I0 w0 L w) (k : Nat) {b : Nat} {cs : Array Value} {t : TypeId} {fz : Nat × Nat} (hk : L[k]? = some (Blk b (.cells cs t fz))) : w.shape? b = some (t, cs.size) := by
  have := h.blk k hk
  simp [World.shape?, this]
theorem Step.sliceArrH {S : World → Prop} {t te : TypeId} {ze : Value} {sz by_ q b : Nat} {k : IntKind} {i : Int} {dd : Option Nat} (hu : P.underlying t = some (.array q te)) (hi : TI P te ze sz by_) (hx : ev E x = some (.pointer (some ⟨b, 0, none⟩))) (hy : ev E y = some (.int k i)) (l : Nat) (hl : i = (l : Int)) (hle : l ≤ q) :
    Step P N E S ⟨dd, .slice t x none (some y) none, ty, pos, af, g⟩ (.slice (some ⟨b, 0, none⟩) l q) := fun a w hf _ => by
  subst hl
  have hal : P.arrayLen t = q := by simp [Program.arrayLen, hu]
  have hel : P.elem t = te := by simp [Program.elem, hu]
  have h := run_sliceAt_array_h (P := P) w t ⟨b, 0, none⟩ (by rw [hal, hel]; exact hu) k (l : Int) (by omega) (by rw [hal]; omega)
  rw [hal, hel] at h
  simp only [hi.sizeOf, Result.andThen_ok] at h
  have e1 : slicedAt ⟨b, 0, none⟩ 0 (l : Int).toNat q sz = .slice (some ⟨b, 0, none⟩) l q := by
    unfold slicedAt
    simp [Addr.add]
  rw [e1] at h
  simp only [execOp, hf.ev hx, Option.map_some, Option.map_none, hf.ev hy, Sem.run_bind, h, Result.andThen_ok, Sem.run_pure]
end
end Go.Sv
