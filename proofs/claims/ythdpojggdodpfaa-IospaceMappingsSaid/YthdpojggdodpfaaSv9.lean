/-
  Parts of slices, copy, append of made elements, capacity; function values and their calls.
-/
import Derived.Test.YthdpojggdodpfaaSv8
import Derived.Lib.AppendZerosOnto
set_option linter.unusedSimpArgs false
set_option linter.unusedVariables false
namespace Go.Sv
section
variable {P : Program} {N : Nat} {Q : Exit → Act → World → Prop} {E : Env} {S : World → Prop} {ops : Array Oper}
variable {dd : Option Nat} {ty : TypeId} {pos : String} {af : Array Edge} {g : Option (Nat × Bool)} {x y z : Operand} {KK : Act → World → Prop}
variable {I0 : Ids} {w0 : World} {L : List Assn} {α : Type} {K : Enc α} {A B : Option Addr} {ys zs : List α} {e t : TypeId} {c : Nat}
theorem Step.capSl {n : Nat} (hu : P.underlying t = some (.slice e)) (hx : ev E x = some (.slice A n c)) :
    Step P N E S ⟨dd, .call ⟨.builtin .cap, #[x], #[t]⟩, ty, pos, af, g⟩ (.int .i64 c) := fun a w hf _ => by
  simp [execOp, resolve, invoke, builtin, hf.ev hx, Builtin.cap_, run_underlying hu, goInt]
theorem Step.makeFunc {f : FuncId} {caps : List Operand} {vs : List Value} (hx : evs E caps = some vs) :
    Step P N E S ⟨dd, .makeFunc (.func f) #[] caps.toArray, ty, pos, af, g⟩ (.func (.func f) #[] vs.toArray) := fun a w hf _ => by
  have hm : caps.toArray.map a.eval = vs.toArray := by rw [← hf.evs hx]; simp
  simp [execOp, Instr.makeFunc, hm]
/-- Where the part of a slice from element l on begins. -/
def shA (A : Option Addr) (l sz c : Nat) : Option Addr := if c = l then A else A.map (·.add (l * sz))
theorem Step.sliceLo {ze : Value} {sz by_ n : Nat} {k : IntKind} {i : Int} (hu : P.underlying t = some (.slice e)) (hi : TI P e ze sz by_) (hx : ev E x = some (.slice A n c)) (hy : ev E y = some (.int k i)) (l : Nat) (hl : i = (l : Int)) (hle : l ≤ n) :
    Step P N E S ⟨dd, .slice t x (some y) none none, ty, pos, af, g⟩ (.slice (shA A l sz c) (n - l) (c - l)) := fun a w hf _ => by
  subst hl
  simp [execOp, Instr.sliceAt, Instr.slice, hf.ev hx, hf.ev hy, run_underlying hu, Instr.sliceBounds, Instr.sliceBound, asIntOf, hle, hi.sizeOf, shA]
theorem Step.sliceHi {ze : Value} {sz by_ n : Nat} {k : IntKind} {i : Int} (hu : P.underlying t = some (.slice e)) (hi : TI P e ze sz by_) (hx : ev E x = some (.slice A n c)) (hy : ev E y = some (.int k i)) (l : Nat) (hl : i = (l : Int)) (hle : l ≤ c) :
    Step P N E S ⟨dd, .slice t x none (some y) none, ty, pos, af, g⟩ (.slice A l c) := fun a w hf _ => by
  subst hl
  have e1 : (if c = 0 then A else A.map fun b => b.add 0) = A := by
    split
    · rfl
    · cases A <;> simp [Addr.add]
  simp [execOp, Instr.sliceAt, Instr.slice, hf.ev hx, hf.ev hy, run_underlying hu, Instr.sliceBounds, Instr.sliceBound, asIntOf, hle, hi.sizeOf, e1]
theorem RS.drop {w : World} (h : RS w K A ys) (l : Nat) (hc : ys.length ≤ c) : RS w K (shA A l K.sz c) (ys.drop l) := by
  by_cases hl : l < ys.length
  · have hne : ¬ c = l := by omega
    rcases h with rfl | ⟨cur, t, fz, hA, hb, hcu⟩
    · simp at hl
    · have e1 : shA A l K.sz c = some ⟨bk A, of A + l * K.sz, none⟩ := by
        rw [shA, if_neg hne, hA]
        by_cases h0 : l * K.sz = 0
        · simp [Addr.add, h0, bk, of]
        · simp [Addr.add, h0, bk, of]
      refine .inr ⟨cur, t, fz, by rw [e1]; rfl, by rw [e1]; exact hb, fun j v hv => ?_⟩
      rw [e1]
      show cur[of A + l * K.sz + j]? = some v
      rw [Nat.add_assoc]
      refine hcu _ _ ?_
      have e2 : flat K ys = flat K (ys.take l) ++ flat K (ys.drop l) := by rw [← flat_append, List.take_append_drop]
      have e3 : (flat K (ys.take l)).length = l * K.sz := by rw [flat_length, List.length_take, Nat.min_eq_left (Nat.le_of_lt hl)]
      rw [e2, List.getElem?_append_right (by rw [e3]; omega), e3, Nat.add_sub_cancel_left]
      exact hv
  · exact .inl (List.drop_of_length_le (by omega))
theorem firstCells_run {w : World} (h : RS w K A ys) (n : Nat) (hn : n ≤ ys.length) (m c : Nat) : (Builtin.firstCells K.sz n (.slice A m c)).run P w = .ok (flat K (ys.take n)).toArray w := by
  have hl : (flat K (ys.take n)).length = n * K.sz := by rw [flat_length, List.length_take, Nat.min_eq_left hn]
  cases hA : A with
  | none =>
    have hz : ys = [] := by
      rcases h with h | ⟨_, _, _, h, _⟩
      · exact h
      · rw [hA] at h; cases h
    subst hz
    simp [Builtin.firstCells, flat]
  | some a =>
    have hc : ∀ j v, (flat K (ys.take n))[j]? = some v → w.cell? (a.add j) = some v := fun j u hj => by
      rcases h.take n with h0 | ⟨cur, tt, fz, hBA, hbb, hc⟩
      · rw [h0] at hj; simp [flat] at hj
      · rw [hA] at hBA
        have ha : a = ⟨a.block, a.off, none⟩ := by simpa [bk, of] using hBA
        rw [hA] at hbb hc
        simp only [bk] at hbb
        have hcell := hc j u hj
        rw [ha]
        by_cases j0 : j = 0
        · subst j0; simp only [Addr.add, if_true]; rw [cell_of hbb]; simpa [of] using hcell
        · simp only [Addr.add, j0, if_false]; rw [cell_of hbb]; simpa [of] using hcell
    have := run_loadCells_list (P := P) w a _ hc
    rw [hl] at this
    simp only [Builtin.firstCells, this]
theorem zeroCells_made (zc : Array Value) (n : Nat) : Builtin.zeroCells zc n = madeCells zc (n * zc.size) := rfl
/-- append(zs, make(.., m)...) that needs a new row. -/
theorem OV.appendZ (zy : α) {d : Nat} {tn : TypeId} {ze : Value} {by_ n cB : Nat} {q : Int} {kq kn : IntKind} (m : Nat) (hu : P.underlying t = some (.slice e)) (htn : P.underlying tn = some (.int kn)) (hi : TI P e ze K.sz by_) (hze : ze.cells.toList = K.f zy)
    (hx : ev E x = some (.slice B n cB)) (hy : ev E y = some (.int kq q)) (hm : q = (m : Int)) (hn : n = zs.length) (hr : ∀ w, Hp I0 w0 L w → RS w K B zs) (hpos : 0 < m) (hgrow : cB < n + m)
    (h63 : n + m ≤ 1000000) (h48 : m * by_ ≤ 281474976710656) (hfit : Builtin.nextslicecap (n + m) cB * by_ ≤ 281474976710656)
    (hg : Yes N ops ⟨some d, .call ⟨.builtin .append, #[x, y], #[t, tn]⟩, ty, pos, af, g⟩ E) (hN : Nat.blt d N = true)
    (kk : ∀ A' c', n + m ≤ c' → KV N KK (set E d (.slice A' (n + m) c')) (Hp I0 w0 (L ++ [OS e K A' c' (zs ++ List.replicate m zy)]))) :
    OV P N ops Q ⟨some d, .call ⟨.builtin .append, #[x, y], #[t, tn]⟩, ty, pos, af, g⟩ E (Hp I0 w0 L) KK := fun a w hf hs => by
  subst hm; subst hn
  obtain ⟨inf, h1, h2, h3, h4⟩ := hi.get
  have hrs := hr w hs
  have hzs : ze.cells.size = K.sz := by rw [← Array.length_toList, hze, K.len]
  have hold := firstCells_run (P := P) (w := w.drew) (hrs.keep fun o h => h) zs.length (Nat.le_refl _) zs.length cB
  rw [← h3, List.take_length] at hold
  have hrun := Lib.run_append_grow_zeros (P := P) w t tn ty e inf ze kq kn hu htn h1 h2 B zs.length cB (flat K zs) hold m hpos (by rw [h3]; exact K.pos) hgrow (by omega) (by rw [h4]; exact h48) (by rw [h4]; exact hfit)
  have hge := grownCap_ge w (zs.length + m) cB e
  have hle := grownCap_le_maxLen w (zs.length + m) cB e (by unfold maxLen; omega)
  refine OV.run (hg a hf) (v := .slice (some ⟨w.heap.size, 0, none⟩) (zs.length + m) (grownCap w (zs.length + m) cB e)) ?_ (kk _ _ hge _ _ (hf.put _ hN) ((hs.drew.alloc (w' := w.drew.alloc (.cells ((flat K zs).toArray ++ Builtin.zeroCells ze.cells m ++ Builtin.zeroCells ze.cells (grownCap w (zs.length + m) cB e - (zs.length + m))) e)) rfl rfl rfl rfl).last fun J hJ => ?_))
  · simp only [execOp, resolve, invoke, builtin, Sem.run_bind, Sem.run_pure, Result.andThen_ok, List.map_toArray, List.map_cons, List.map_nil, hf.ev hx, hf.ev hy, hrun]
  · have hlen : (zs ++ List.replicate m zy).length = zs.length + m := by simp
    have hmm := made_take (K := K) (zc := ze.cells) (n := m) (c := m) hze (Nat.le_refl _)
    have hmf : (Builtin.zeroCells ze.cells m).toList = flat K (List.replicate m zy) := by
      rw [← hmm, zeroCells_made, hzs, List.take_of_length_le (by rw [Array.length_toList, size_madeCells]; exact Nat.le_refl _)]
    have hfl : (flat K zs).length = zs.length * K.sz := flat_length K zs
    have hfl2 : (flat K (List.replicate m zy)).length = m * K.sz := by rw [flat_length, List.length_replicate]
    have hsum : (zs.length + m) * K.sz = zs.length * K.sz + m * K.sz := Nat.add_mul _ _ _
    have hcm : (zs.length + m) * K.sz ≤ grownCap w (zs.length + m) cB e * K.sz := Nat.mul_le_mul_right _ hge
    have hs2 : (Builtin.zeroCells ze.cells (grownCap w (zs.length + m) cB e - (zs.length + m))).size = grownCap w (zs.length + m) cB e * K.sz - (zs.length + m) * K.sz := by
      rw [zeroCells_made, size_madeCells, hzs, Nat.sub_mul]
    refine OS.ofBlk hJ (by rw [hlen]; exact hge) hle ?_ ?_
    · have hs1 : (Builtin.zeroCells ze.cells m).size = m * K.sz := by rw [zeroCells_made, size_madeCells, hzs]
      simp only [Array.size_append, List.size_toArray, hfl, hs1, hs2]
      omega
    · rw [hlen, flat_append]
      simp only [Array.toList_append, hmf]
      rw [List.take_append_of_le_length (by rw [List.length_append, hfl, hfl2]; omega), List.take_of_length_le (by rw [List.length_append, hfl, hfl2]; omega)]
/-- copy into a part of an owned slice. -/
theorem OV.copy (k l : Nat) {d : Nat} {ze : Value} {by_ n m cA cB : Nat} {t2 : TypeId} (hu : P.underlying t = some (.slice e)) (hi : TI P e ze K.sz by_) (hk : L[k]? = some (OS e K A c ys))
    (hx : ev E x = some (.slice (shA A l K.sz c) n cA)) (hy : ev E y = some (.slice B m cB)) (hl : l ≤ ys.length) (hn : n = ys.length - l) (hm : m = zs.length) (hr : ∀ w, Hp I0 w0 L w → RS w K B zs)
    (hg : Yes N ops ⟨some d, .call ⟨.builtin .copy, #[x, y], #[t, t2]⟩, ty, pos, af, g⟩ E) (hN : Nat.blt d N = true)
    (kk : KV N KK (set E d (.int .i64 (min m n : Nat))) (Hp I0 w0 (L.set k (OS e K A c (ys.take l ++ zs.take (min m n) ++ ys.drop (l + min m n)))))) :
    OV P N ops Q ⟨some d, .call ⟨.builtin .copy, #[x, y], #[t, t2]⟩, ty, pos, af, g⟩ E (Hp I0 w0 L) KK := fun a w hf hs => by
  subst hn; subst hm
  obtain ⟨q, hq⟩ : ∃ q, q = min zs.length (ys.length - l) := ⟨_, rfl⟩
  rw [← hq] at kk
  have hcells := firstCells_run (P := P) (hr w hs) q (by omega) zs.length cB
  have hfl : (flat K (zs.take q)).length = q * K.sz := by rw [flat_length, List.length_take]; congr 1; omega
  have hqe : Nat.min zs.length (ys.length - l) = q := hq.symm
  obtain ⟨i, jj, hA, _⟩ := hs.at hk
  have key : ∃ w', (Builtin.copy_ #[t, t2] ty #[.slice (shA A l K.sz c) (ys.length - l) cA, .slice B zs.length cB]).run P w = .ok (goInt q) w' ∧
      ∀ i, (OS e K A c ys).sat w i → ∃ i' : Ids, (OS e K A c (ys.take l ++ zs.take q ++ ys.drop (l + q))).sat w' i' ∧ (∀ x, i' x → i x ∨ w.heap.size ≤ x) ∧ Ext i w w' := by
    by_cases hq0 : q = 0
    · refine ⟨w, ?_, fun i hi => ⟨i, ?_, fun _ h => .inl h, Ext.refl _ _⟩⟩
      · subst hq0
        have e0 : (flat K (zs.take 0)).toArray = #[] := by simp [flat]
        rw [e0] at hcells
        cases hsh : shA A l K.sz c <;> simp [Builtin.copy_, run_underlying hu, hi.sizeOf, Builtin.lenOf, hqe, hcells, storeCells]
      · rw [hq0]; simpa using hi
    · rcases hA with ⟨_, rfl, _⟩ | ⟨gb, cur, rfl, hI, hb, hle, hc, hsz, ht⟩
      · simp at hq; omega
      · have hlt : ¬ c = l := by omega
        have e1 : shA (some ⟨gb, 0, none⟩) l K.sz c = some ⟨gb, l * K.sz, none⟩ := by
          rw [shA, if_neg hlt]
          by_cases h0 : l * K.sz = 0
          · simp [Addr.add, h0]
          · simp [Addr.add, h0]
        have hmul : (l + q) * K.sz ≤ c * K.sz := Nat.mul_le_mul_right _ (by omega)
        have hmul2 : (l + q) * K.sz ≤ ys.length * K.sz := Nat.mul_le_mul_right _ (by omega)
        have hmul3 : ys.length * K.sz ≤ c * K.sz := Nat.mul_le_mul_right _ hle
        have hadd : (l + q) * K.sz = l * K.sz + q * K.sz := Nat.add_mul _ _ _
        have hst := run_storeCells_at P gb (l * K.sz) e (flat K (zs.take q)) 0 cur w hb (by rw [hfl, hsz]; omega) (flat_one K _)
        simp only [Nat.add_zero] at hst
        refine ⟨w.setRow gb (cur.toList.take (l * K.sz) ++ flat K (zs.take q) ++ cur.toList.drop (l * K.sz + (flat K (zs.take q)).length)).toArray, ?_, fun i hi2 => ⟨fun x => x = gb, .inr ⟨gb, _, rfl, fun _ => Iff.rfl, setRow_heap w gb cur _ e (0, 0) hb, ?_, hc, ?_, ?_⟩, ?_, ⟨rfl, rfl, rfl, by simp [World.setRow], fun x hx hn => setRow_other w gb x _ ?_⟩⟩⟩
        · simp [Builtin.copy_, run_underlying hu, hi.sizeOf, Builtin.lenOf, hqe, hcells, e1, hst]
        · simp only [List.length_append, List.length_take, List.length_drop]; omega
        · simp only [List.size_toArray, List.length_append, List.length_take, List.length_drop, Array.length_toList, hfl, hsz]; omega
        · have hyl : (ys.take l ++ zs.take q ++ ys.drop (l + q)).length = ys.length := by
            simp only [List.length_append, List.length_take, List.length_drop]; omega
          have htl : cur.toList.length = c * K.sz := by simpa using hsz
          have f1 : flat K (ys.take l) = cur.toList.take (l * K.sz) := by
            have e2 : flat K ys = flat K (ys.take l) ++ flat K (ys.drop l) := by rw [← flat_append, List.take_append_drop]
            have e3 : (flat K (ys.take l)).length = l * K.sz := by rw [flat_length, List.length_take, Nat.min_eq_left hl]
            have e4 : (flat K ys).take (l * K.sz) = flat K (ys.take l) := by rw [e2, List.take_append_of_le_length (by omega), List.take_of_length_le (by omega)]
            rw [← e4, ← ht, List.take_take, Nat.min_eq_left (by omega)]
          have f2 : flat K (ys.drop (l + q)) = (cur.toList.drop ((l + q) * K.sz)).take (ys.length * K.sz - (l + q) * K.sz) := by
            have e2 : flat K ys = flat K (ys.take (l + q)) ++ flat K (ys.drop (l + q)) := by rw [← flat_append, List.take_append_drop]
            have e3 : (flat K (ys.take (l + q))).length = (l + q) * K.sz := by rw [flat_length, List.length_take, Nat.min_eq_left (by omega)]
            have e4 : (flat K ys).drop ((l + q) * K.sz) = flat K (ys.drop (l + q)) := by rw [e2, List.drop_append_of_le_length (by omega), List.drop_of_length_le (by omega), List.nil_append]
            rw [← e4, ← ht, List.drop_take]
          rw [hyl, flat_append, flat_append, f1, f2, hfl]
          have g1 : (cur.toList.take (l * K.sz)).length = l * K.sz := by rw [List.length_take, htl]; omega
          simp only [List.take_append, List.length_append, g1, hfl]
          rw [List.take_of_length_le (l := cur.toList.take (l * K.sz)) (by rw [g1]; omega), List.take_of_length_le (l := flat K (zs.take q)) (by rw [hfl]; omega), hadd]
        · intro x hx
          rcases hi2 with ⟨h0, _⟩ | ⟨g2, cur2, h0, hI2, _⟩
          · cases h0
          · injection h0 with h0; injection h0 with h0
            subst hx; subst h0; exact .inl ((hI2 _).2 rfl)
        · rintro rfl
          rcases hi2 with ⟨h0, _⟩ | ⟨g2, cur2, h0, hI2, _⟩
          · cases h0
          · injection h0 with h0; injection h0 with h0
            subst h0; exact hn ((hI2 _).2 rfl)
  obtain ⟨w', hrun, hup⟩ := key
  refine OV.run (hg a hf) (v := goInt q) (w' := w') ?_ (kk _ _ (hf.put _ hN) (hs.update hk hup))
  simp only [execOp, resolve, invoke, builtin, Sem.run_bind, Sem.run_pure, Result.andThen_ok, List.map_toArray, List.map_cons, List.map_nil, hf.ev hx, hf.ev hy, hrun]
/-- A call of a function value. -/
theorem OV.callv (ks : List Nat) {Own F : List Assn} {d : Nat} {f : FuncId} {fn : Func} {fv : Operand} {caps vs : List Value} {args : List Operand} {ts : Array TypeId} {ro : Ids} {post : Value → List Assn → Prop}
    (hv : ev E fv = some (.func (.func f) #[] caps.toArray)) (hfn : P.funcs[f]? = some fn) (hbody : fn.body.isSome = true) (hname : (fn.name == "runtime.NumGoroutine") = false) (ha : evs E args = some vs) (hp : picks ks L = some (Own, F)) (spec : ∀ w, Hp I0 w0 L w → Fx P f (vs ++ caps) w Own ro post) (hro : ∀ b, ro b → RoOk I0 w0 F b)
    (hg : Yes N ops ⟨some d, .call ⟨.value fv, args.toArray, ts⟩, ty, pos, af, g⟩ E) (hN : Nat.blt d N = true)
    (k : ∀ v L', post v L' → KV N KK (set E d v) (Hp I0 w0 (F ++ L'))) : OV P N ops Q ⟨some d, .call ⟨.value fv, args.toArray, ts⟩, ty, pos, af, g⟩ E (Hp I0 w0 L) KK := fun a w hf hs => by
  rw [if_pos (hg a hf)]
  unfold Oper.wp
  have hbn : fn.body.isNone = false := by cases h : fn.body <;> simp_all
  have hrun : (execOp a.eval ⟨some d, .call ⟨.value fv, args.toArray, ts⟩, ty, pos, af, g⟩).run P w = .ok (.enter f (vs ++ caps).toArray) w := by
    have hv := hf.ev hv
    have hm : args.toArray.map a.eval = vs.toArray := by rw [← hf.evs ha]; simp
    have hn1 : ¬ fn.name = "runtime.NumGoroutine" := by simpa using hname
    have hn2 : ¬ fn.body = none := by intro h; rw [h] at hbn; simp at hbn
    simp [execOp, resolve, invoke, callFunc, hv, hfn, hn1, hn2, hm, Deferred.ofValue]
  rw [hrun]
  simp only [Oper.upon]
  refine (Calls.frame hp hs hro (spec w hs)).mono ?_
  rintro e w' ⟨v, L', rfl, hpost, hhp⟩
  exact k v L' hpost _ _ (hf.put v hN) hhp
end
end Go.Sv
