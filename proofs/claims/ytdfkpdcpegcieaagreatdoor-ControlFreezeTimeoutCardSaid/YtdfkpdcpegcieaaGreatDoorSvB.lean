/-
  Texts joined: Sv8, Sv9, Sv10, Sv11, Sv12, Sv13, Sv14, Sv15.
-/
import Derived.Test.YtdfkpdcpegcieaaGreatDoorSvA
import Derived.Lib.AppendZerosOnto
import Derived.Laws.ResultCell
import Derived.ChangeSlices
import Derived.Lib.Overlaps
import Derived.Laws.Externs
set_option linter.unusedSimpArgs false
set_option linter.unusedVariables false
namespace Go.Sv
section
variable {P : Program} {N : NN} {Q : Exit → Act → World → Prop} {E : Env} {S S0 : World → Prop} {ops : Array Oper} {rest : List Oper} {T : Act → World → Prop} {K : Act → World → Prop} {d : Nat} {op : Op} {ty : TypeId} {pos : String} {af : Array Edge}
def noneE (ops : Array Oper) (E : Env) (j : Nat) : Bool :=
  match (ops[j]?).bind (·.dst) with
  | some d => match get E d with
    | some (.tuple _) => true
    | _ => false
  | none => false
theorem wanted_none_of {a : Act} (h : Fits N a E) {o : Oper} {j : Nat} {want : Bool} (hg : o.guard = some (j, want)) (hw : noneE ops E j = true) : Region.wanted o (yielded ops a.tmps) = false := by
  unfold noneE at hw
  simp only [Region.wanted, hg]
  cases hd : (ops[j]?).bind (·.dst) with
  | none => rw [hd] at hw; simp at hw
  | some d =>
    rw [hd] at hw
    simp only [] at hw
    cases hv : get E d with
    | none => rw [hv] at hw; simp at hw
    | some v =>
      rw [hv] at hw
      cases v <;> simp at hw
      have : yielded ops a.tmps j = none := by
        simp only [yielded, hd, Option.bind_some, h.slot d _ hv]
      rw [this]
      cases want <;> rfl
theorem OV.skipU {j : Nat} {b : Bool} (hg : noneE ops E j = true) (hN : Nat.blt d N.n = true)
    (k : KV N K (set E d undef) S) : OV P N ops Q ⟨some d, op, ty, pos, af, some (j, b)⟩ E S K := fun a w hf hs => by
  rw [if_neg (by rw [wanted_none_of hf rfl hg]; decide)]
  exact k _ w (hf.put undef hN) hs
theorem SV.skipU {j : Nat} {b : Bool} (hg : noneE ops E j = true) (hN : Nat.blt d N.n = true) (k : SV P N ops T rest (set E d undef) S) : SV P N ops T (⟨some d, op, ty, pos, af, some (j, b)⟩ :: rest) E S := fun a w hf hs => by
  unfold wpStill
  rw [if_neg (by rw [wanted_none_of hf rfl hg]; decide)]
  exact k _ w (hf.put undef hN) hs
theorem AV.takeSkipU (i : Nat) {j : Nat} {b : Bool} {fuel : Nat} {listed : Array Bool} (listed' : Array Bool) (hi : ops[i]? = some ⟨some d, op, ty, pos, af, some (j, b)⟩)
    (hs : Region.noSelect ops = true) (hfr : Region.free .any ops listed i = true) (hr : (Region.ready .any ops listed).contains i = true)
    (hQ : ∀ c a w, Q (.panic c) (a.put (some d) undef) w → Q (.panic c) a w) (hg : noneE ops E j = true) (hN : Nat.blt d N.n = true) (hS : ∀ w, S w → S0 w)
    (hl : listed.setIfInBounds i true = listed') (k : AV P N ops Q S0 fuel listed' (set E d undef) S) : AV P N ops Q S0 (fuel + 1) listed E S := fun a w hf hs' => by
  subst hl
  exact wpAnyH_take hi hs hfr hr hQ (.inr ⟨wanted_none_of hf rfl hg, rfl⟩) (hS w hs') (k _ w (hf.put undef hN) hs')
end
end Go.Sv
set_option linter.unusedSimpArgs false
set_option linter.unusedVariables false
namespace Go.Sv
section
variable {P : Program} {N : NN} {Q : Exit → Act → World → Prop} {E : Env} {S : World → Prop} {ops : Array Oper}
variable {dd : Option Nat} {ty : TypeId} {pos : String} {af : Array Edge} {g : Option (Nat × Bool)} {x y z : Operand} {KK : Act → World → Prop}
variable {I0 : Ids} {w0 : World} {L : List Assn} {α : Type} {K : Enc α} {A B : Option Addr} {ys zs : List α} {e t : TypeId} {c : Nat}
theorem Step.capSl {n : Nat} (hu : P.underlying t = some (.slice e)) (hx : ev E x = some (.slice A n c)) :
    Step P N E S ⟨dd, .call ⟨.builtin .cap, #[x], #[t]⟩, ty, pos, af, g⟩ (.int .i64 c) := fun a w hf _ => by
  simp [execOp, resolve, invoke, builtin, hf.ev hx, Builtin.cap_, run_underlying hu, goInt]
theorem Step.makeFunc {f : FuncId} {caps : List Operand} {vs : List Value} (hx : evs E caps = some vs) :
    Step P N E S ⟨dd, .makeFunc (.func f) #[] caps.toArray, ty, pos, af, g⟩ (.func (.func f) #[] vs.toArray) := fun a w hf _ => by
  have hm : caps.toArray.map a.eval = vs.toArray := by rw [← hf.evs hx]; simp
  simp [execOp, Instr.makeFunc, hm]
/-- Where the part of a slice from element l on begins. -/
def shA (A : Option Addr) (l sz c : Nat) : Option Addr := if c = l then A else A.map (·.add (l * sz))
theorem Step.sliceLo {ze : Value} {sz by_ n : Nat} {k : IntKind} {i : Int} (hu : P.underlying t = some (.slice e)) (hi : TI P e ze sz by_) (hx : ev E x = some (.slice A n c)) (hy : ev E y = some (.int k i)) (l : Nat) (hl : i = (l : Int)) (hle : l ≤ n) :
    Step P N E S ⟨dd, .slice t x (some y) none none, ty, pos, af, g⟩ (.slice (shA A l sz c) (n - l) (c - l)) := fun a w hf _ => by
  subst hl
  simp [execOp, Instr.sliceAt, Instr.slice, hf.ev hx, hf.ev hy, run_underlying hu, Instr.sliceBounds, Instr.sliceBound, asIntOf, hle, hi.sizeOf, shA]
theorem Step.sliceHi {ze : Value} {sz by_ n : Nat} {k : IntKind} {i : Int} (hu : P.underlying t = some (.slice e)) (hi : TI P e ze sz by_) (hx : ev E x = some (.slice A n c)) (hy : ev E y = some (.int k i)) (l : Nat) (hl : i = (l : Int)) (hle : l ≤ c) :
    Step P N E S ⟨dd, .slice t x none (some y) none, ty, pos, af, g⟩ (.slice A l c) := fun a w hf _ => by
  subst hl
  have e1 : (if c = 0 then A else A.map fun b => b.add 0) = A := by
    split
    · rfl
    · cases A <;> simp [Addr.add]
  simp [execOp, Instr.sliceAt, Instr.slice, hf.ev hx, hf.ev hy, run_underlying hu, Instr.sliceBounds, Instr.sliceBound, asIntOf, hle, hi.sizeOf, e1]
theorem RS.drop {w : World} (h : RS w K A ys) (l : Nat) (hc : ys.length ≤ c) : RS w K (shA A l K.sz c) (ys.drop l) := by
  by_cases hl : l < ys.length
  · have hne : ¬ c = l := by omega
    rcases h with rfl | ⟨cur, t, fz, hA, hb, hcu⟩
    · simp at hl
    · have e1 : shA A l K.sz c = some ⟨bk A, of A + l * K.sz, none⟩ := by
        rw [shA, if_neg hne, hA]
        by_cases h0 : l * K.sz = 0
        · simp [Addr.add, h0, bk, of]
        · simp [Addr.add, h0, bk, of]
      refine .inr ⟨cur, t, fz, by rw [e1]; rfl, by rw [e1]; exact hb, fun j v hv => ?_⟩
      rw [e1]
      show cur[of A + l * K.sz + j]? = some v
      rw [Nat.add_assoc]
      refine hcu _ _ ?_
      have e2 : flat K ys = flat K (ys.take l) ++ flat K (ys.drop l) := by rw [← flat_append, List.take_append_drop]
      have e3 : (flat K (ys.take l)).length = l * K.sz := by rw [flat_length, List.length_take, Nat.min_eq_left (Nat.le_of_lt hl)]
      rw [e2, List.getElem?_append_right (by rw [e3]; omega), e3, Nat.add_sub_cancel_left]
      exact hv
  · exact .inl (List.drop_of_length_le (by omega))
theorem firstCells_run {w : World} (h : RS w K A ys) (n : Nat) (hn : n ≤ ys.length) (m c : Nat) : (Builtin.firstCells K.sz n (.slice A m c)).run P w = .ok (flat K (ys.take n)).toArray w := by
  have hl : (flat K (ys.take n)).length = n * K.sz := by rw [flat_length, List.length_take, Nat.min_eq_left hn]
  cases hA : A with
  | none =>
    have hz : ys = [] := by
      rcases h with h | ⟨_, _, _, h, _⟩
      · exact h
      · rw [hA] at h; cases h
    subst hz
    simp [Builtin.firstCells, flat]
  | some a =>
    have hc : ∀ j v, (flat K (ys.take n))[j]? = some v → w.cell? (a.add j) = some v := fun j u hj => by
      rcases h.take n with h0 | ⟨cur, tt, fz, hBA, hbb, hc⟩
      · rw [h0] at hj; simp [flat] at hj
      · rw [hA] at hBA
        have ha : a = ⟨a.block, a.off, none⟩ := by simpa [bk, of] using hBA
        rw [hA] at hbb hc
        simp only [bk] at hbb
        have hcell := hc j u hj
        rw [ha]
        by_cases j0 : j = 0
        · subst j0; simp only [Addr.add, if_true]; rw [cell_of hbb]; simpa [of] using hcell
        · simp only [Addr.add, j0, if_false]; rw [cell_of hbb]; simpa [of] using hcell
    have := run_loadCells_list (P := P) w a _ hc
    rw [hl] at this
    simp only [Builtin.firstCells, this]
theorem zeroCells_made (zc : Array Value) (n : Nat) : Builtin.zeroCells zc n = madeCells zc (n * zc.size) := rfl
/-- append(zs, make(.., m)...) that needs a new row. -/
theorem OV.appendZ (zy : α) {d : Nat} {tn : TypeId} {ze : Value} {by_ n cB : Nat} {q : Int} {kq kn : IntKind} (m : Nat) (hu : P.underlying t = some (.slice e)) (htn : P.underlying tn = some (.int kn)) (hi : TI P e ze K.sz by_) (hze : ze.cells.toList = K.f zy)
    (hx : ev E x = some (.slice B n cB)) (hy : ev E y = some (.int kq q)) (hm : q = (m : Int)) (hn : n = zs.length) (hr : ∀ w, Hp I0 w0 L w → RS w K B zs) (hpos : 0 < m) (hgrow : cB < n + m)
    (h63 : n + m ≤ 1000000) (h48 : m * by_ ≤ 281474976710656) (hfit : Builtin.nextslicecap (n + m) cB * by_ ≤ 281474976710656)
    (hg : Yes N ops ⟨some d, .call ⟨.builtin .append, #[x, y], #[t, tn]⟩, ty, pos, af, g⟩ E) (hN : Nat.blt d N.n = true)
    (kk : ∀ A' c', n + m ≤ c' → KV N KK (set E d (.slice A' (n + m) c')) (Hp I0 w0 (L ++ [OS e K A' c' (zs ++ List.replicate m zy)]))) :
    OV P N ops Q ⟨some d, .call ⟨.builtin .append, #[x, y], #[t, tn]⟩, ty, pos, af, g⟩ E (Hp I0 w0 L) KK := fun a w hf hs => by
  subst hm; subst hn
  obtain ⟨inf, h1, h2, h3, h4⟩ := hi.get
  have hrs := hr w hs
  have hzs : ze.cells.size = K.sz := by rw [← Array.length_toList, hze, K.len]
  have hold := firstCells_run (P := P) (w := w.drew) (hrs.keep fun o h => h) zs.length (Nat.le_refl _) zs.length cB
  rw [← h3, List.take_length] at hold
  have hrun := Lib.run_append_grow_zeros (P := P) w t tn ty e inf ze kq kn hu htn h1 h2 B zs.length cB (flat K zs) hold m hpos (by rw [h3]; exact K.pos) hgrow (by omega) (by rw [h4]; exact h48) (by rw [h4]; exact hfit)
  have hge := grownCap_ge w (zs.length + m) cB e
  have hle := grownCap_le_maxLen w (zs.length + m) cB e (by unfold maxLen; omega)
  refine OV.run (hg a hf) (v := .slice (some ⟨w.heap.size, 0, none⟩) (zs.length + m) (grownCap w (zs.length + m) cB e)) ?_ (kk _ _ hge _ _ (hf.put _ hN) ((hs.drew.alloc (w' := w.drew.alloc (.cells ((flat K zs).toArray ++ Builtin.zeroCells ze.cells m ++ Builtin.zeroCells ze.cells (grownCap w (zs.length + m) cB e - (zs.length + m))) e)) rfl rfl rfl rfl).last fun J hJ => ?_))
  · simp only [execOp, resolve, invoke, builtin, Sem.run_bind, Sem.run_pure, Result.andThen_ok, List.map_toArray, List.map_cons, List.map_nil, hf.ev hx, hf.ev hy, hrun]
  · have hlen : (zs ++ List.replicate m zy).length = zs.length + m := by simp
    have hmm := made_take (K := K) (zc := ze.cells) (n := m) (c := m) hze (Nat.le_refl _)
    have hmf : (Builtin.zeroCells ze.cells m).toList = flat K (List.replicate m zy) := by
      rw [← hmm, zeroCells_made, hzs, List.take_of_length_le (by rw [Array.length_toList, size_madeCells]; exact Nat.le_refl _)]
    have hfl : (flat K zs).length = zs.length * K.sz := flat_length K zs
    have hfl2 : (flat K (List.replicate m zy)).length = m * K.sz := by rw [flat_length, List.length_replicate]
    have hsum : (zs.length + m) * K.sz = zs.length * K.sz + m * K.sz := Nat.add_mul _ _ _
    have hcm : (zs.length + m) * K.sz ≤ grownCap w (zs.length + m) cB e * K.sz := Nat.mul_le_mul_right _ hge
    have hs2 : (Builtin.zeroCells ze.cells (grownCap w (zs.length + m) cB e - (zs.length + m))).size = grownCap w (zs.length + m) cB e * K.sz - (zs.length + m) * K.sz := by
      rw [zeroCells_made, size_madeCells, hzs, Nat.sub_mul]
    refine OS.ofBlk hJ (by rw [hlen]; exact hge) hle ?_ ?_
    · have hs1 : (Builtin.zeroCells ze.cells m).size = m * K.sz := by rw [zeroCells_made, size_madeCells, hzs]
      simp only [Array.size_append, List.size_toArray, hfl, hs1, hs2]
      omega
    · rw [hlen, flat_append]
      simp only [Array.toList_append, hmf]
      rw [List.take_append_of_le_length (by rw [List.length_append, hfl, hfl2]; omega), List.take_of_length_le (by rw [List.length_append, hfl, hfl2]; omega)]
/-- copy into a part of an owned slice. -/
theorem OV.copy (k l : Nat) {d : Nat} {ze : Value} {by_ n m cA cB : Nat} {t2 : TypeId} (hu : P.underlying t = some (.slice e)) (hi : TI P e ze K.sz by_) (hk : L[k]? = some (OS e K A c ys))
    (hx : ev E x = some (.slice (shA A l K.sz c) n cA)) (hy : ev E y = some (.slice B m cB)) (hl : l ≤ ys.length) (hn : n = ys.length - l) (hm : m = zs.length) (hr : ∀ w, Hp I0 w0 L w → RS w K B zs)
    (hg : Yes N ops ⟨some d, .call ⟨.builtin .copy, #[x, y], #[t, t2]⟩, ty, pos, af, g⟩ E) (hN : Nat.blt d N.n = true)
    (kk : KV N KK (set E d (.int .i64 (min m n : Nat))) (Hp I0 w0 (L.set k (OS e K A c (ys.take l ++ zs.take (min m n) ++ ys.drop (l + min m n)))))) :
    OV P N ops Q ⟨some d, .call ⟨.builtin .copy, #[x, y], #[t, t2]⟩, ty, pos, af, g⟩ E (Hp I0 w0 L) KK := fun a w hf hs => by
  subst hn; subst hm
  obtain ⟨q, hq⟩ : ∃ q, q = min zs.length (ys.length - l) := ⟨_, rfl⟩
  rw [← hq] at kk
  have hcells := firstCells_run (P := P) (hr w hs) q (by omega) zs.length cB
  have hfl : (flat K (zs.take q)).length = q * K.sz := by rw [flat_length, List.length_take]; congr 1; omega
  have hqe : Nat.min zs.length (ys.length - l) = q := hq.symm
  obtain ⟨i, jj, hA, _⟩ := hs.at hk
  have key : ∃ w', (Builtin.copy_ #[t, t2] ty #[.slice (shA A l K.sz c) (ys.length - l) cA, .slice B zs.length cB]).run P w = .ok (goInt q) w' ∧
      ∀ i, (OS e K A c ys).sat w i → ∃ i' : Ids, (OS e K A c (ys.take l ++ zs.take q ++ ys.drop (l + q))).sat w' i' ∧ (∀ x, i' x → i x ∨ w.heap.size ≤ x) ∧ Ext i w w' := by
    by_cases hq0 : q = 0
    · refine ⟨w, ?_, fun i hi => ⟨i, ?_, fun _ h => .inl h, Ext.refl _ _⟩⟩
      · subst hq0
        have e0 : (flat K (zs.take 0)).toArray = #[] := by simp [flat]
        rw [e0] at hcells
        cases hsh : shA A l K.sz c <;> simp [Builtin.copy_, run_underlying hu, hi.sizeOf, Builtin.lenOf, hqe, hcells, storeCells]
      · rw [hq0]; simpa using hi
    · rcases hA with ⟨_, rfl, _⟩ | ⟨gb, cur, rfl, hI, hb, hle, hc, hsz, ht⟩
      · simp at hq; omega
      · have hlt : ¬ c = l := by omega
        have e1 : shA (some ⟨gb, 0, none⟩) l K.sz c = some ⟨gb, l * K.sz, none⟩ := by
          rw [shA, if_neg hlt]
          by_cases h0 : l * K.sz = 0
          · simp [Addr.add, h0]
          · simp [Addr.add, h0]
        have hmul : (l + q) * K.sz ≤ c * K.sz := Nat.mul_le_mul_right _ (by omega)
        have hmul2 : (l + q) * K.sz ≤ ys.length * K.sz := Nat.mul_le_mul_right _ (by omega)
        have hmul3 : ys.length * K.sz ≤ c * K.sz := Nat.mul_le_mul_right _ hle
        have hadd : (l + q) * K.sz = l * K.sz + q * K.sz := Nat.add_mul _ _ _
        have hst := run_storeCells_at P gb (l * K.sz) e (flat K (zs.take q)) 0 cur w hb (by rw [hfl, hsz]; omega) (flat_one K _)
        simp only [Nat.add_zero] at hst
        refine ⟨w.setRow gb (cur.toList.take (l * K.sz) ++ flat K (zs.take q) ++ cur.toList.drop (l * K.sz + (flat K (zs.take q)).length)).toArray, ?_, fun i hi2 => ⟨fun x => x = gb, .inr ⟨gb, _, rfl, fun _ => Iff.rfl, setRow_heap w gb cur _ e (0, 0) hb, ?_, hc, ?_, ?_⟩, ?_, ⟨rfl, rfl, rfl, by simp [World.setRow], fun x hx hn => setRow_other w gb x _ ?_⟩⟩⟩
        · simp [Builtin.copy_, run_underlying hu, hi.sizeOf, Builtin.lenOf, hqe, hcells, e1, hst]
        · simp only [List.length_append, List.length_take, List.length_drop]; omega
        · simp only [List.size_toArray, List.length_append, List.length_take, List.length_drop, Array.length_toList, hfl, hsz]; omega
        · have hyl : (ys.take l ++ zs.take q ++ ys.drop (l + q)).length = ys.length := by
            simp only [List.length_append, List.length_take, List.length_drop]; omega
          have htl : cur.toList.length = c * K.sz := by simpa using hsz
          have f1 : flat K (ys.take l) = cur.toList.take (l * K.sz) := by
            have e2 : flat K ys = flat K (ys.take l) ++ flat K (ys.drop l) := by rw [← flat_append, List.take_append_drop]
            have e3 : (flat K (ys.take l)).length = l * K.sz := by rw [flat_length, List.length_take, Nat.min_eq_left hl]
            have e4 : (flat K ys).take (l * K.sz) = flat K (ys.take l) := by rw [e2, List.take_append_of_le_length (by omega), List.take_of_length_le (by omega)]
            rw [← e4, ← ht, List.take_take, Nat.min_eq_left (by omega)]
          have f2 : flat K (ys.drop (l + q)) = (cur.toList.drop ((l + q) * K.sz)).take (ys.length * K.sz - (l + q) * K.sz) := by
            have e2 : flat K ys = flat K (ys.take (l + q)) ++ flat K (ys.drop (l + q)) := by rw [← flat_append, List.take_append_drop]
            have e3 : (flat K (ys.take (l + q))).length = (l + q) * K.sz := by rw [flat_length, List.length_take, Nat.min_eq_left (by omega)]
            have e4 : (flat K ys).drop ((l + q) * K.sz) = flat K (ys.drop (l + q)) := by rw [e2, List.drop_append_of_le_length (by omega), List.drop_of_length_le (by omega), List.nil_append]
            rw [← e4, ← ht, List.drop_take]
          rw [hyl, flat_append, flat_append, f1, f2, hfl]
          have g1 : (cur.toList.take (l * K.sz)).length = l * K.sz := by rw [List.length_take, htl]; omega
          simp only [List.take_append, List.length_append, g1, hfl]
          rw [List.take_of_length_le (l := cur.toList.take (l * K.sz)) (by rw [g1]; omega), List.take_of_length_le (l := flat K (zs.take q)) (by rw [hfl]; omega), hadd]
        · intro x hx
          rcases hi2 with ⟨h0, _⟩ | ⟨g2, cur2, h0, hI2, _⟩
          · cases h0
          · injection h0 with h0; injection h0 with h0
            subst hx; subst h0; exact .inl ((hI2 _).2 rfl)
        · rintro rfl
          rcases hi2 with ⟨h0, _⟩ | ⟨g2, cur2, h0, hI2, _⟩
          · cases h0
          · injection h0 with h0; injection h0 with h0
            subst h0; exact hn ((hI2 _).2 rfl)
  obtain ⟨w', hrun, hup⟩ := key
  refine OV.run (hg a hf) (v := goInt q) (w' := w') ?_ (kk _ _ (hf.put _ hN) (hs.update hk hup))
  simp only [execOp, resolve, invoke, builtin, Sem.run_bind, Sem.run_pure, Result.andThen_ok, List.map_toArray, List.map_cons, List.map_nil, hf.ev hx, hf.ev hy, hrun]
/-- A call of a function value. -/
theorem OV.callv (ks : List Nat) {Own F : List Assn} {d : Nat} {f : FuncId} {fn : Func} {fv : Operand} {caps vs : List Value} {args : List Operand} {ts : Array TypeId} {ro : Ids} {post : Value → List Assn → Prop}
    (hv : ev E fv = some (.func (.func f) #[] caps.toArray)) (hfn : P.funcs[f]? = some fn) (hbody : fn.body.isSome = true) (hname : (fn.name == "runtime.NumGoroutine") = false) (ha : evs E args = some vs) (hp : picks ks L = some (Own, F)) (spec : ∀ w, Hp I0 w0 L w → Fx P f (vs ++ caps) w Own ro post) (hro : ∀ b, ro b → RoOk I0 w0 F b)
    (hg : Yes N ops ⟨some d, .call ⟨.value fv, args.toArray, ts⟩, ty, pos, af, g⟩ E) (hN : Nat.blt d N.n = true)
    (k : ∀ v L', post v L' → KV N KK (set E d v) (Hp I0 w0 (F ++ L'))) : OV P N ops Q ⟨some d, .call ⟨.value fv, args.toArray, ts⟩, ty, pos, af, g⟩ E (Hp I0 w0 L) KK := fun a w hf hs => by
  rw [if_pos (hg a hf)]
  unfold Oper.wp
  have hbn : fn.body.isNone = false := by cases h : fn.body <;> simp_all
  have hrun : (execOp a.eval ⟨some d, .call ⟨.value fv, args.toArray, ts⟩, ty, pos, af, g⟩).run P w = .ok (.enter f (vs ++ caps).toArray) w := by
    have hv := hf.ev hv
    have hm : args.toArray.map a.eval = vs.toArray := by rw [← hf.evs ha]; simp
    have hn1 : ¬ fn.name = "runtime.NumGoroutine" := by simpa using hname
    have hn2 : ¬ fn.body = none := by intro h; rw [h] at hbn; simp at hbn
    simp [execOp, resolve, invoke, callFunc, hv, hfn, hn1, hn2, hm, Deferred.ofValue]
  rw [hrun]
  simp only [Oper.upon]
  refine (Calls.frame hp hs hro (spec w hs)).mono ?_
  rintro e w' ⟨v, L', rfl, hpost, hhp⟩
  exact k v L' hpost _ _ (hf.put v hN) hhp
end
end Go.Sv
set_option linter.unusedSimpArgs false
set_option linter.unusedVariables false
namespace Go.Sv
theorem loadVar_run {P : Program} {t : TypeId} {D : TypeDesc} {b o : Nat} {ze : Value} {sz by_ : Nat} {w : World} (vs : List Value) (hu : P.underlying t = some D) (hD : aggD D = true) (hi : TI P t ze sz by_) (hsz : vs.length = sz)
    (hc : ∀ j v, vs[j]? = some v → w.cell? ⟨b, o + j, none⟩ = some v) : (loadVar t ⟨b, o, none⟩).run P w = .ok (.agg vs.toArray) w := by
  have hag : (isAgg t).run P w = .ok true w := by
    simp only [isAgg, Sem.run_bind, run_underlying hu, Result.andThen_ok]
    cases D <;> first | rfl | (simp [aggD] at hD)
  have hl := run_loadCells_list (P := P) w ⟨b, o, none⟩ vs (fun j v hv => by
    have := hc j v hv
    by_cases hj : j = 0
    · subst hj; simpa [Addr.add] using this
    · simpa [Addr.add, hj] using this)
  rw [hsz] at hl
  simp only [loadVar, Sem.run_bind, Sem.run_pure, Result.andThen_ok, hag, if_true, hi.sizeOf, hl]
theorem results_cell1 {fn : Func} {p : Tmp} {ty : TypeId} (h : fn.results = #[.cell p ty]) (tmps : Array Value) (P : Program) (w : World) :
    (results fn tmps).run P w = ((asAddr (tmps.getD p undef)).run P w).andThen fun a w₁ => ((loadVar ty a).run P w₁).andThen fun v w₂ => .ok v w₂ := by
  simp only [results, h]
  simp [Sem.run_bind, Result.andThen]
  cases (asAddr (tmps[p]?.getD undef)).run P w with
  | ok a w1 => simp only []; cases (loadVar ty a).run P w1 <;> rfl
  | halt _ _ => rfl
section
variable {P : Program} {N : Nat} {fn : Func} {I : Ids} {L L' : List Assn} {E : Env} {v v1 v2 : Value} {t t1 t2 : Tmp} {w : World} {post : Value → List Assn → Prop}
theorem KV.retC1 {ty : TypeId} {D : TypeDesc} {b o : Nat} {ze : Value} {sz by_ : Nat} (vs : List Value) (hr : fn.results = #[.cell t ty]) (hv : get E t = some (.pointer (some ⟨b, o, none⟩))) (hu : P.underlying ty = some D) (hD : aggD D = true) (hi : TI P ty ze sz by_) (hsz : vs.length = sz)
    (hc : ∀ w', Hp I w L w' → ∀ j v, vs[j]? = some v → w'.cell? ⟨b, o + j, none⟩ = some v) (L') (hent : ∀ w', Hp I w L w' → Hp I w L' w') (hp : post (.agg vs.toArray) L') :
    KV ⟨N, []⟩ (bodyPost P fn (fun e w' => ∃ v L', e = .returned v ∧ post v L' ∧ Hp I w L' w') .ret) E (Hp I w L) := fun a w' hf hs =>
  ⟨hf.defers, _, by
    rw [results_cell1 hr]
    have h1 : a.tmps.getD t undef = .pointer (some ⟨b, o, none⟩) := by simp [hf.slot t _ hv]
    have h2 : (asAddr (.pointer (some ⟨b, o, none⟩))).run P w' = .ok ⟨b, o, none⟩ w' := by simp [asAddr]
    rw [h1, h2, Result.andThen_ok, loadVar_run vs hu hD hi hsz (hc w' hs), Result.andThen_ok], _, L', rfl, hp, hent w' hs⟩
theorem KV.retC2 {ty : TypeId} {D : TypeDesc} {b o : Nat} {ze : Value} {sz by_ : Nat} (vs : List Value) (hr : fn.results = #[.cell t ty, .tmp t2]) (hv : get E t = some (.pointer (some ⟨b, o, none⟩))) (hv2 : get E t2 = some v2) (hu : P.underlying ty = some D) (hD : aggD D = true) (hi : TI P ty ze sz by_) (hsz : vs.length = sz)
    (hc : ∀ w', Hp I w L w' → ∀ j v, vs[j]? = some v → w'.cell? ⟨b, o + j, none⟩ = some v) (L') (hent : ∀ w', Hp I w L w' → Hp I w L' w') (hp : post (.tuple #[.agg vs.toArray, v2]) L') :
    KV ⟨N, []⟩ (bodyPost P fn (fun e w' => ∃ v L', e = .returned v ∧ post v L' ∧ Hp I w L' w') .ret) E (Hp I w L) := fun a w' hf hs =>
  ⟨hf.defers, _, by
    rw [results_cell_tmp hr]
    have h1 : a.tmps.getD t undef = .pointer (some ⟨b, o, none⟩) := by simp [hf.slot t _ hv]
    have h3 : a.tmps.getD t2 undef = v2 := by simp [hf.slot t2 _ hv2]
    have h2 : (asAddr (.pointer (some ⟨b, o, none⟩))).run P w' = .ok ⟨b, o, none⟩ w' := by simp [asAddr]
    rw [h1, h2, h3, Result.andThen_ok, loadVar_run vs hu hD hi hsz (hc w' hs), Result.andThen_ok], _, L', rfl, hp, hent w' hs⟩
end
end Go.Sv
set_option linter.unusedSimpArgs false
set_option linter.unusedVariables false
namespace Go.Sv
open Go.ChangeShapes Go.WideShapes Go.Deep Go.RowKit
section
variable {H : Type} {enc : TypeId × Value → H} {P : Program} {w : World} {base : Nat} {spare : Nat → Bool} {held : Bool}
theorem open_struct {r : Reach} {b0 : Nat} {t : TypeId} {fs : Array Field} {v : Value} {d : DataW H} {ps : List MemPlace} (ht : P.underlying t = some (.struct fs)) (hone : oneCellFields P fs = true) (hC : P.cellsOf t = fs.size)
    (hval : Value.okWide P w r b0 t v) (hd : DataW.Trod enc P w base spare held t v d ps) :
    ∃ cs : List Value, v = .agg cs.toArray ∧ cs.length = fs.size ∧ ∃ n : Nat, ∀ (j : Nat) (f : Field), fs[j]? = some f → ∃ (u : Value) (y : DataW H × List MemPlace), cs[j]? = some u ∧ DataW.trod enc P w base spare held n f.type [u] = some y := by
  simp only [Value.okWide, ht] at hval
  obtain ⟨cs, rfl, hsz, _⟩ := hval
  obtain ⟨fuel, h⟩ := hd
  have hcells : (Value.agg cs).cells.toList = cs.toList := by simp [Value.cells]
  rw [hcells] at h
  obtain ⟨ys, n', hn', hy, hlen, hyl, hf⟩ := DataW.trod_struct ht h
  refine ⟨cs.toList, by simp, by rw [Array.length_toList, hsz, hC], n', fun j f hj => ?_⟩
  obtain ⟨ho, hk⟩ := hone_of hone j f hj
  have hjl : j < fs.size := (Array.getElem?_eq_some_iff.1 hj).1
  have hcl : j < cs.toList.length := by rw [Array.length_toList, hsz, hC]; exact hjl
  have h1 := hf j f hj
  rw [ho, hk] at h1
  have hone' : (cs.toList.drop j).take 1 = [cs.toList[j]'hcl] := by
    rw [List.drop_eq_getElem_cons hcl]; rfl
  rw [hone'] at h1
  have hys : ys[j]? = some (ys[j]'(by omega)) := List.getElem?_eq_getElem (by omega)
  exact ⟨_, _, List.getElem?_eq_getElem hcl, h1.trans hys⟩
theorem list3 {α : Type} {l : List α} (h : l.length = 3) : ∃ a b c, l = [a, b, c] := by
  match l, h with
  | [a, b, c], _ => exact ⟨a, b, c, rfl⟩
end
end Go.Sv
set_option linter.unusedSimpArgs false
set_option linter.unusedVariables false
namespace Go.Sv
section
variable {P : Program} {N : NN} {Q : Exit → Act → World → Prop} {E : Env} {S : World → Prop}
theorem CV.join2 {α β : Type} {x y : Code} (G : α → β → Env) (T : α → β → World → Prop)
    (h1 : CV P N x (Exit.then (fun a w => ∃ p q, Fits N a (G p q) ∧ T p q w) Q) E S) (h2 : ∀ p q, CV P N y Q (G p q) (T p q)) : CV P N (.seq x y) Q E S :=
  fun a w hf hs => wp_seq (wp_mono (h1 a w hf hs) fun e a' w' hq => by
    cases e <;> first | exact hq | (obtain ⟨p, q, hz, ht⟩ := hq; exact h2 p q a' w' hz ht))
theorem KV.join2 {α β : Type} {G : α → β → Env} {T : α → β → World → Prop} (p : α) (q : β) (hE : Sub (G p q) E) (hT : ∀ w, S w → T p q w) : KV N (fun a w => ∃ p q, Fits N a (G p q) ∧ T p q w) E S :=
  fun _ w hf hs => ⟨p, q, hf.sub hE, hT w hs⟩
theorem CV.join3 {α β γ : Type} {x y : Code} (G : α → β → γ → Env) (T : α → β → γ → World → Prop)
    (h1 : CV P N x (Exit.then (fun a w => ∃ p q r, Fits N a (G p q r) ∧ T p q r w) Q) E S) (h2 : ∀ p q r, CV P N y Q (G p q r) (T p q r)) : CV P N (.seq x y) Q E S :=
  fun a w hf hs => wp_seq (wp_mono (h1 a w hf hs) fun e a' w' hq => by
    cases e <;> first | exact hq | (obtain ⟨p, q, r, hz, ht⟩ := hq; exact h2 p q r a' w' hz ht))
theorem KV.join3 {α β γ : Type} {G : α → β → γ → Env} {T : α → β → γ → World → Prop} (p : α) (q : β) (r : γ) (hE : Sub (G p q r) E) (hT : ∀ w, S w → T p q r w) : KV N (fun a w => ∃ p q r, Fits N a (G p q r) ∧ T p q r w) E S :=
  fun _ w hf hs => ⟨p, q, r, hf.sub hE, hT w hs⟩
theorem CV.join4 {α β γ δ : Type} {x y : Code} (G : α → β → γ → δ → Env) (T : α → β → γ → δ → World → Prop)
    (h1 : CV P N x (Exit.then (fun a w => ∃ p q r s, Fits N a (G p q r s) ∧ T p q r s w) Q) E S) (h2 : ∀ p q r s, CV P N y Q (G p q r s) (T p q r s)) : CV P N (.seq x y) Q E S :=
  fun a w hf hs => wp_seq (wp_mono (h1 a w hf hs) fun e a' w' hq => by
    cases e <;> first | exact hq | (obtain ⟨p, q, r, s, hz, ht⟩ := hq; exact h2 p q r s a' w' hz ht))
theorem KV.join4 {α β γ δ : Type} {G : α → β → γ → δ → Env} {T : α → β → γ → δ → World → Prop} (p : α) (q : β) (r : γ) (s : δ) (hE : Sub (G p q r s) E) (hT : ∀ w, S w → T p q r s w) : KV N (fun a w => ∃ p q r s, Fits N a (G p q r s) ∧ T p q r s w) E S :=
  fun _ w hf hs => ⟨p, q, r, s, hf.sub hE, hT w hs⟩
end
end Go.Sv
set_option linter.unusedSimpArgs false
set_option linter.unusedVariables false
namespace Go.Sv
section
variable {P : Program} {N : NN} {Q : Exit → Act → World → Prop} {E : Env} {S : World → Prop} {ops : Array Oper}
variable {dd : Option Nat} {ty : TypeId} {pos : String} {af : Array Edge} {g : Option (Nat × Bool)} {x y z : Operand} {KK : Act → World → Prop}
variable {I0 : Ids} {w0 : World} {L : List Assn} {α : Type} {K : Enc α} {A B : Option Addr} {ys zs : List α} {e t : TypeId} {c : Nat}
theorem flat_take_eq {cur : List Value} (ht : cur.take (ys.length * K.sz) = flat K ys) {l : Nat} (hl : l ≤ ys.length) : flat K (ys.take l) = cur.take (l * K.sz) := by
  have e2 : flat K ys = flat K (ys.take l) ++ flat K (ys.drop l) := by rw [← flat_append, List.take_append_drop]
  have e3 : (flat K (ys.take l)).length = l * K.sz := by rw [flat_length, List.length_take, Nat.min_eq_left hl]
  have e4 : (flat K ys).take (l * K.sz) = flat K (ys.take l) := by rw [e2, List.take_append_of_le_length (by omega), List.take_of_length_le (by omega)]
  have e5 : l * K.sz ≤ ys.length * K.sz := Nat.mul_le_mul_right _ hl
  rw [← e4, ← ht, List.take_take, Nat.min_eq_left e5]
theorem flat_drop_eq {cur : List Value} (ht : cur.take (ys.length * K.sz) = flat K ys) (l : Nat) : flat K (ys.drop l) = (cur.drop (l * K.sz)).take (ys.length * K.sz - l * K.sz) := by
  by_cases hl : l ≤ ys.length
  · have e2 : flat K ys = flat K (ys.take l) ++ flat K (ys.drop l) := by rw [← flat_append, List.take_append_drop]
    have e3 : (flat K (ys.take l)).length = l * K.sz := by rw [flat_length, List.length_take, Nat.min_eq_left hl]
    have e4 : (flat K ys).drop (l * K.sz) = flat K (ys.drop l) := by rw [e2, List.drop_append_of_le_length (by omega), List.drop_of_length_le (by omega), List.nil_append]
    rw [← e4, ← ht, List.drop_take]
  · have : ys.length * K.sz ≤ l * K.sz := Nat.mul_le_mul_right _ (by omega)
    rw [List.drop_of_length_le (by omega), Nat.sub_eq_zero_of_le this]; simp [flat]
/-- Elements vs written over an owned row from element l on. -/
theorem OS.over {w : World} {gb : Nat} {cur : Array Value} {l q : Nat} (hle : ys.length ≤ c) (hc : c ≤ maxLen) (hsz : cur.size = c * K.sz) (ht : cur.toList.take (ys.length * K.sz) = flat K ys)
    (hb : w.heap[gb]? = some (.cells cur e (0, 0))) (hl : l ≤ ys.length) (hq : q = zs.length) (hlq : l + q ≤ c) :
    (OS e K (some ⟨gb, 0, none⟩) c (ys.take l ++ zs ++ ys.drop (l + q))).sat (w.setRow gb (cur.toList.take (l * K.sz) ++ flat K zs ++ cur.toList.drop (l * K.sz + (flat K zs).length)).toArray) (fun x => x = gb) := by
  have hfl : (flat K zs).length = q * K.sz := by rw [flat_length, hq]
  have hadd : (l + q) * K.sz = l * K.sz + q * K.sz := Nat.add_mul _ _ _
  have hmul : (l + q) * K.sz ≤ c * K.sz := Nat.mul_le_mul_right _ hlq
  have htl : cur.toList.length = c * K.sz := by simpa using hsz
  have hyl : (ys.take l ++ zs ++ ys.drop (l + q)).length = l + q + (ys.length - (l + q)) := by
    simp only [List.length_append, List.length_take, List.length_drop, ← hq]; omega
  refine .inr ⟨gb, _, rfl, fun _ => Iff.rfl, setRow_heap w gb cur _ e (0, 0) hb, by rw [hyl]; omega, hc, ?_, ?_⟩
  · simp only [List.size_toArray, List.length_append, List.length_take, List.length_drop, Array.length_toList, hfl, hsz]; omega
  · have f1 := flat_take_eq (K := K) ht hl
    have f2 := flat_drop_eq (K := K) ht (l + q)
    have g1 : (cur.toList.take (l * K.sz)).length = l * K.sz := by rw [List.length_take, htl]; omega
    have hN : (l + q + (ys.length - (l + q))) * K.sz = l * K.sz + q * K.sz + (ys.length * K.sz - (l + q) * K.sz) := by
      rw [Nat.add_mul, Nat.add_mul, Nat.sub_mul, Nat.add_mul]
    rw [hyl, flat_append, flat_append, f1, f2, hfl, hN]
    simp only [List.take_append, List.length_append, g1, hfl]
    rw [List.take_of_length_le (l := cur.toList.take (l * K.sz)) (by rw [g1]; omega), List.take_of_length_le (l := flat K zs) (by rw [hfl]; omega), hadd]
    congr 2
    omega
theorem shA_some {gb l : Nat} (h : ¬ c = l) : shA (some ⟨gb, 0, none⟩) l K.sz c = some ⟨gb, l * K.sz, none⟩ := by
  rw [shA, if_neg h]
  by_cases h0 : l * K.sz = 0
  · simp [Addr.add, h0]
  · simp [Addr.add, h0]
theorem over_ext {w : World} {gb : Nat} {cs : Array Value} {i : Ids} (h : (OS e K (some ⟨gb, 0, none⟩) c ys).sat w i) : (∀ x, x = gb → i x ∨ w.heap.size ≤ x) ∧ Ext i w (w.setRow gb cs) := by
  have hig : i gb := by
    rcases h with ⟨h0, _⟩ | ⟨g2, cur2, h0, hI2, _⟩
    · cases h0
    · injection h0 with h0; injection h0 with h0
      subst h0; exact (hI2 _).2 rfl
  refine ⟨fun x hx => .inl (hx ▸ hig), rfl, rfl, rfl, by simp [World.setRow], fun x hx hn => setRow_other w gb x _ ?_⟩
  rintro rfl; exact hn hig
/-- copy into a part of an owned slice, within its capacity. -/
theorem OV.copyX (k l : Nat) {d : Nat} {ze : Value} {by_ n m cA cB : Nat} {t2 : TypeId} (hu : P.underlying t = some (.slice e)) (hi : TI P e ze K.sz by_) (hk : L[k]? = some (OS e K A c ys))
    (hx : ev E x = some (.slice (shA A l K.sz c) n cA)) (hy : ev E y = some (.slice B m cB)) (hl : l ≤ ys.length) (hn : l + n ≤ c) (hm : min m n ≤ zs.length) (hr : ∀ w, Hp I0 w0 L w → RS w K B zs)
    (hg : Yes N ops ⟨some d, .call ⟨.builtin .copy, #[x, y], #[t, t2]⟩, ty, pos, af, g⟩ E) (hN : Nat.blt d N.n = true)
    (kk : KV N KK (set E d (.int .i64 (min m n : Nat))) (Hp I0 w0 (L.set k (OS e K A c (ys.take l ++ zs.take (min m n) ++ ys.drop (l + min m n)))))) :
    OV P N ops Q ⟨some d, .call ⟨.builtin .copy, #[x, y], #[t, t2]⟩, ty, pos, af, g⟩ E (Hp I0 w0 L) KK := fun a w hf hs => by
  obtain ⟨q, hq⟩ : ∃ q, q = min m n := ⟨_, rfl⟩
  rw [← hq] at kk hm
  have hcells := firstCells_run (P := P) (hr w hs) q hm m cB
  have hql : (zs.take q).length = q := by rw [List.length_take]; omega
  have hqe : Nat.min m n = q := hq.symm
  obtain ⟨i, jj, hA, _⟩ := hs.at hk
  have key : ∃ w', (Builtin.copy_ #[t, t2] ty #[.slice (shA A l K.sz c) n cA, .slice B m cB]).run P w = .ok (goInt q) w' ∧
      ∀ i, (OS e K A c ys).sat w i → ∃ i' : Ids, (OS e K A c (ys.take l ++ zs.take q ++ ys.drop (l + q))).sat w' i' ∧ (∀ x, i' x → i x ∨ w.heap.size ≤ x) ∧ Ext i w w' := by
    by_cases hq0 : q = 0
    · refine ⟨w, ?_, fun i hi => ⟨i, ?_, fun _ h => .inl h, Ext.refl _ _⟩⟩
      · subst hq0
        have e0 : (flat K (zs.take 0)).toArray = #[] := by simp [flat]
        rw [e0] at hcells
        cases hsh : shA A l K.sz c <;> simp [Builtin.copy_, run_underlying hu, hi.sizeOf, Builtin.lenOf, hqe, hcells, storeCells]
      · rw [hq0]; simpa using hi
    · rcases hA with ⟨_, _, rfl, _⟩ | ⟨gb, cur, rfl, hI, hb, hle, hc, hsz, ht⟩
      · exfalso; omega
      · have hmul : (l + q) * K.sz ≤ c * K.sz := Nat.mul_le_mul_right _ (by omega)
        have hadd : (l + q) * K.sz = l * K.sz + q * K.sz := Nat.add_mul _ _ _
        have hfl : (flat K (zs.take q)).length = q * K.sz := by rw [flat_length, hql]
        have hst := run_storeCells_at P gb (l * K.sz) e (flat K (zs.take q)) 0 cur w hb (by rw [hfl, hsz]; omega) (flat_one K _)
        simp only [Nat.add_zero] at hst
        refine ⟨_, ?_, fun i hi2 => ⟨_, OS.over hle hc hsz ht hb hl hql.symm (by omega), (over_ext (cs := #[]) hi2).1, (over_ext hi2).2⟩⟩
        rw [shA_some (K := K) (show ¬ c = l by omega)]
        simp [Builtin.copy_, run_underlying hu, hi.sizeOf, Builtin.lenOf, hqe, hcells, hst]
  obtain ⟨w', hrun, hup⟩ := key
  refine OV.run (hg a hf) (v := goInt q) (w' := w') ?_ (kk _ _ (hf.put _ hN) (hs.update hk hup))
  simp only [execOp, resolve, invoke, builtin, Sem.run_bind, Sem.run_pure, Result.andThen_ok, List.map_toArray, List.map_cons, List.map_nil, hf.ev hx, hf.ev hy, hrun]
/-- append onto the first i elements of an owned slice, within its capacity. -/
theorem OV.appendIn (k : Nat) {d : Nat} {ze : Value} {by_ i m cB : Nat} (hu : P.underlying t = some (.slice e)) (hi : TI P e ze K.sz by_) (hk : L[k]? = some (OS e K A c ys))
    (hx : ev E x = some (.slice A i c)) (hy : ev E y = some (.slice B m cB)) (hil : i ≤ ys.length) (hm : m = zs.length) (hfit : i + m ≤ c) (hr : ∀ w, Hp I0 w0 L w → RS w K B zs)
    (hg : Yes N ops ⟨some d, .call ⟨.builtin .append, #[x, y], #[t, t]⟩, ty, pos, af, g⟩ E) (hN : Nat.blt d N.n = true)
    (kk : KV N KK (set E d (.slice A (i + m) c)) (Hp I0 w0 (L.set k (OS e K A c (ys.take i ++ zs))))) :
    OV P N ops Q ⟨some d, .call ⟨.builtin .append, #[x, y], #[t, t]⟩, ty, pos, af, g⟩ E (Hp I0 w0 L) KK := fun a w hf hs => by
  subst hm
  have hcells := firstCells_run (P := P) (hr w hs) zs.length (Nat.le_refl _) zs.length cB
  rw [List.take_length] at hcells
  obtain ⟨i0, jj, hA, _⟩ := hs.at hk
  have key : ∃ w', (Builtin.append_ #[t, t] ty #[.slice A i c, .slice B zs.length cB]).run P w = .ok (.slice A (i + zs.length) c) w' ∧
      ∀ i0, (OS e K A c ys).sat w i0 → ∃ i' : Ids, (OS e K A c (ys.take i ++ zs)).sat w' i' ∧ (∀ x, i' x → i0 x ∨ w.heap.size ≤ x) ∧ Ext i0 w w' := by
    rcases hA with ⟨rfl, rfl, rfl, _⟩ | ⟨gb, cur, rfl, hI, hb, hle, hc, hsz, ht⟩
    · have hz : zs = [] := List.eq_nil_of_length_eq_zero (by omega)
      subst hz
      have h0 : i = 0 := by omega
      subst h0
      refine ⟨w, ?_, fun i0 hi0 => ⟨i0, by simpa using hi0, fun _ h => .inl h, Ext.refl _ _⟩⟩
      simp only [flat, List.flatMap_nil] at hcells
      simp [Builtin.append_, run_underlying hu, hi.sizeOf, Builtin.lenOf]
      rw [show (Builtin.firstCells K.sz 0 (.slice B 0 cB)).run P w = .ok #[] w from hcells]
      simp
    · have hmul : (i + zs.length) * K.sz ≤ c * K.sz := Nat.mul_le_mul_right _ hfit
      have hadd : (i + zs.length) * K.sz = i * K.sz + zs.length * K.sz := Nat.add_mul _ _ _
      have hfl : (flat K zs).length = zs.length * K.sz := flat_length K zs
      have hst := run_storeCells_at P gb (i * K.sz) e (flat K zs) 0 cur w hb (by rw [hfl, hsz]; omega) (flat_one K _)
      simp only [Nat.add_zero] at hst
      have hle2 : (ys.take i).length ≤ c := by rw [List.length_take]; omega
      have ht2 : cur.toList.take ((ys.take i).length * K.sz) = flat K (ys.take i) := by
        rw [flat_take_eq (K := K) ht hil, List.length_take, Nat.min_eq_left hil]
      have hov := OS.over (K := K) (e := e) (zs := zs) (l := i) (q := zs.length) hle2 hc hsz ht2 hb (by rw [List.length_take]; omega) rfl hfit
      have e1 : (ys.take i).take i ++ zs ++ (ys.take i).drop (i + zs.length) = ys.take i ++ zs := by
        rw [List.take_take, Nat.min_self, List.drop_of_length_le (by rw [List.length_take]; omega), List.append_nil]
      rw [e1] at hov
      refine ⟨_, ?_, fun i0 hi2 => ⟨_, hov, (over_ext (cs := #[]) hi2).1, (over_ext hi2).2⟩⟩
      have e2 : (Addr.mk gb 0 none).add (i * K.sz) = ⟨gb, i * K.sz, none⟩ := by
        by_cases h0 : i * K.sz = 0
        · simp [Addr.add, h0]
        · simp [Addr.add, h0]
      simp [Builtin.append_, run_underlying hu, hi.sizeOf, Builtin.lenOf, hcells, hfit, e2, hst]
  obtain ⟨w', hrun, hup⟩ := key
  refine OV.run (hg a hf) (v := .slice A (i + zs.length) c) (w' := w') ?_ (kk _ _ (hf.put _ hN) (hs.update hk hup))
  simp only [execOp, resolve, invoke, builtin, Sem.run_bind, Sem.run_pure, Result.andThen_ok, List.map_toArray, List.map_cons, List.map_nil, hf.ev hx, hf.ev hy, hrun]
theorem Step.sliceLH {ze : Value} {sz by_ n : Nat} {k k2 : IntKind} {i j : Int} (hu : P.underlying t = some (.slice e)) (hi : TI P e ze sz by_) (hx : ev E x = some (.slice A n c)) (hy : ev E y = some (.int k i)) (hz : ev E z = some (.int k2 j)) (l h : Nat) (hl : i = (l : Int)) (hh : j = (h : Int)) (hle : l ≤ h) (hle2 : h ≤ c) :
    Step P N E S ⟨dd, .slice t x (some y) (some z) none, ty, pos, af, g⟩ (.slice (shA A l sz c) (h - l) (c - l)) := fun a w hf _ => by
  subst hl; subst hh
  simp [execOp, Instr.sliceAt, Instr.slice, hf.ev hx, hf.ev hy, hf.ev hz, run_underlying hu, Instr.sliceBounds, Instr.sliceBound, asIntOf, hle, hle2, hi.sizeOf, shA]
theorem Step.slice3 {ze : Value} {sz by_ n : Nat} {k k2 k3 : IntKind} {i j m : Int} {u : Operand} (hu : P.underlying t = some (.slice e)) (hi : TI P e ze sz by_) (hx : ev E x = some (.slice A n c)) (hy : ev E y = some (.int k i)) (hz : ev E z = some (.int k2 j)) (hv : ev E u = some (.int k3 m)) (l h q : Nat) (hl : i = (l : Int)) (hh : j = (h : Int)) (hq : m = (q : Int)) (hle : l ≤ h) (hle2 : h ≤ q) (hle3 : q ≤ c) :
    Step P N E S ⟨dd, .slice t x (some y) (some z) (some u), ty, pos, af, g⟩ (.slice (shA A l sz q) (h - l) (q - l)) := fun a w hf _ => by
  subst hl; subst hh; subst hq
  simp [execOp, Instr.sliceAt, Instr.slice, hf.ev hx, hf.ev hy, hf.ev hz, hf.ev hv, run_underlying hu, Instr.sliceBounds, Instr.sliceBound, asIntOf, hle, hle2, hle3, hi.sizeOf, shA]
theorem set_self {β : Type} : ∀ {L : List β} {k : Nat} {a : β}, L[k]? = some a → L.set k a = L
  | [], _, _, _ => rfl
  | b :: L, 0, a, h => by simp at h; subst h; rfl
  | b :: L, k + 1, a, h => by simp only [List.getElem?_cons_succ] at h; simp only [List.set_cons_succ, set_self h]
/-- clear of elements behind the end of an owned slice, within its capacity. -/
theorem OV.clearTail (k l : Nat) {dst : Option Nat} {ze : Value} {by_ n cA : Nat} (hu : P.underlying t = some (.slice e)) (hi : TI P e ze K.sz by_) (hze : ze.cells.size = K.sz) (h1 : ∀ v ∈ ze.cells.toList, v.oneCell' = true) (hk : L[k]? = some (OS e K A c ys))
    (hx : ev E x = some (.slice (shA A l K.sz c) n cA)) (hl : ys.length ≤ l) (hn : l + n ≤ c)
    (hg : Yes N ops ⟨dst, .call ⟨.builtin .clear, #[x], #[t]⟩, ty, pos, af, g⟩ E)
    (kk : ∀ a w, Fits N a E → Hp I0 w0 L w → KK (a.put dst (.tuple #[])) w) :
    OV P N ops Q ⟨dst, .call ⟨.builtin .clear, #[x], #[t]⟩, ty, pos, af, g⟩ E (Hp I0 w0 L) KK := fun a w hf hs => by
  obtain ⟨i0, jj, hA, _⟩ := hs.at hk
  have key : ∃ w', (Builtin.clear_ #[t] ty #[.slice (shA A l K.sz c) n cA]).run P w = .ok (.tuple #[]) w' ∧
      ∀ i0, (OS e K A c ys).sat w i0 → ∃ i' : Ids, (OS e K A c ys).sat w' i' ∧ (∀ x, i' x → i0 x ∨ w.heap.size ≤ x) ∧ Ext i0 w w' := by
    by_cases hn0 : n = 0
    · subst hn0
      refine ⟨w, ?_, fun i0 hi0 => ⟨i0, hi0, fun _ h => .inl h, Ext.refl _ _⟩⟩
      cases hsh : shA A l K.sz c <;> simp [Builtin.clear_, run_underlying hu]
    · rcases hA with ⟨rfl, rfl, rfl, _⟩ | ⟨gb, cur, rfl, hI, hb, hle, hc, hsz, ht⟩
      · exfalso; omega
      · have hmul : (l + n) * K.sz ≤ c * K.sz := Nat.mul_le_mul_right _ hn
        have hadd : (l + n) * K.sz = l * K.sz + n * K.sz := Nat.add_mul _ _ _
        have hmul2 : ys.length * K.sz ≤ l * K.sz := Nat.mul_le_mul_right _ hl
        have hzl : (Builtin.zeroCells ze.cells n).toList.length = n * K.sz := by rw [Array.length_toList, zeroCells_made, size_madeCells, hze]
        have hz1 : ∀ v ∈ (Builtin.zeroCells ze.cells n).toList, v.oneCell' = true := by
          intro v hv
          simp only [Builtin.zeroCells, Array.toList_map, List.mem_map] at hv
          obtain ⟨j, hj, rfl⟩ := hv
          have hpos : 0 < ze.cells.size := by rw [hze]; exact K.pos
          have hjm : j % ze.cells.size < ze.cells.size := Nat.mod_lt _ hpos
          rw [getElem!_pos ze.cells (j % ze.cells.size) hjm]
          exact h1 _ (by simp)
        have hst := run_storeCells_at P gb (l * K.sz) e (Builtin.zeroCells ze.cells n).toList 0 cur w hb (by rw [hzl, hsz]; omega) hz1
        simp only [Nat.add_zero] at hst
        refine ⟨w.setRow gb (cur.toList.take (l * K.sz) ++ (Builtin.zeroCells ze.cells n).toList ++ cur.toList.drop (l * K.sz + (Builtin.zeroCells ze.cells n).toList.length)).toArray, ?_, fun i0 hi2 => ⟨fun x => x = gb, .inr ⟨gb, _, rfl, fun _ => Iff.rfl, setRow_heap w gb cur _ e (0, 0) hb, hle, hc, ?_, ?_⟩, (over_ext (cs := #[]) hi2).1, (over_ext hi2).2⟩⟩
        · rw [shA_some (K := K) (show ¬ c = l by omega)]
          cases n with
          | zero => exact absurd rfl hn0
          | succ n => simp [Builtin.clear_, run_underlying hu, hi.zeroValue, hst]
        · simp only [List.size_toArray, List.length_append, List.length_take, List.length_drop, hzl, Array.length_toList, hsz]; omega
        · have htl : cur.toList.length = c * K.sz := by simpa using hsz
          rw [← ht]
          simp only [List.append_assoc]
          rw [List.take_append_of_le_length (by rw [List.length_take, htl]; omega), List.take_take, Nat.min_eq_left hmul2]
  obtain ⟨w', hrun, hup⟩ := key
  refine OV.run (hg a hf) (v := .tuple #[]) (w' := w') ?_ (kk _ _ hf ?_)
  · simp only [execOp, resolve, invoke, builtin, Sem.run_bind, Sem.run_pure, Result.andThen_ok, List.map_toArray, List.map_cons, List.map_nil, hf.ev hx, hrun]
  · have := hs.update hk hup
    rwa [set_self hk] at this
/-- A call of a function without a body, by what it yields. -/
theorem Step.callX {f : FuncId} {vs : List Value} {v : Value} {args : List Operand} {ts : Array TypeId} (ha : evs E args = some vs) (h : ∀ w, S w → (callFunc f vs.toArray).run P w = .ok (.value v) w) :
    Step P N E S ⟨dd, .call ⟨.value (.func f), args.toArray, ts⟩, ty, pos, af, g⟩ v := fun a w hf hs => by
  have hv : a.eval (.func f) = .func (.func f) #[] #[] := rfl
  have hm : args.toArray.map a.eval = vs.toArray := by rw [← hf.evs ha]; simp
  have := h w hs
  simp [execOp, resolve, invoke, hv, hm, Deferred.ofValue, this]
end
end Go.Sv
set_option linter.unusedSimpArgs false
set_option linter.unusedVariables false
namespace Go.Sv
section
variable {P : Program} {N : NN} {E : Env} {S : World → Prop}
variable {dd : Option Nat} {ty : TypeId} {pos : String} {af : Array Edge} {g : Option (Nat × Bool)} {x y : Operand} {e t t2 : TypeId} {k k' : IntKind} {m n r : Int}
theorem Step.idxArr {ze : Value} {sz by_ b o q : Nat} {i : Int} (hu : P.underlying t = some (.array q e)) (hi : TI P e ze sz by_) (hx : ev E x = some (.pointer (some ⟨b, o, none⟩))) (hy : ev E y = some (.int k i)) (l : Nat) (hl : i = (l : Int)) (hlt : l < q) :
    Step P N E S ⟨dd, .indexAddr t x y, ty, pos, af, g⟩ (.pointer (some ⟨b, o + l * sz, none⟩)) := by
  subst hl
  refine Step.indexAddr hx hy fun w => ?_
  have h0 : 0 ≤ (l : Int) ∧ (l : Int) < (q : Int) := by omega
  simp only [Instr.indexAt, asIntOf, Sem.run_bind, Sem.run_pure, Result.andThen_ok, run_underlying hu, h0, and_self, if_true, hi.sizeOf, Int.toNat_natCast, Instr.sureAddr]
  by_cases hz : l * sz = 0
  · simp [hz, Addr.add]
  · simp [Addr.add, hz]
theorem Step.shr (hx : ev E x = some (.int k m)) (hy : ev E y = some (.int k' n)) (hn : 0 ≤ n) (hr : m.fdiv (2 ^ min n.toNat k.bits) = r) : Step P N E S ⟨dd, .binOp .shr t x y t2, ty, pos, af, g⟩ (.int k r) :=
  step_bin hx hy rfl fun w => by simp [binOp, Op.shift, show ¬ n < 0 by omega, hr]
theorem Step.shl (hx : ev E x = some (.int k m)) (hy : ev E y = some (.int k' n)) (hn : 0 ≤ n) (hr : k.wrap (m * 2 ^ min n.toNat k.bits) = r) : Step P N E S ⟨dd, .binOp .shl t x y t2, ty, pos, af, g⟩ (.int k r) :=
  step_bin hx hy rfl fun w => by simp [binOp, Op.shift, show ¬ n < 0 by omega, hr]
theorem Step.band (hx : ev E x = some (.int k m)) (hy : ev E y = some (.int k n)) (hr : k.wrap ((BitVec.ofInt k.bits m &&& BitVec.ofInt k.bits n).toNat) = r) : Step P N E S ⟨dd, .binOp .and t x y t2, ty, pos, af, g⟩ (.int k r) :=
  step_bin hx hy rfl fun w => by simp only [binOp, Op.intBits, ne_eq, not_true_eq_false, if_false]; rw [hr]; rfl
theorem Step.bor (hx : ev E x = some (.int k m)) (hy : ev E y = some (.int k n)) (hr : k.wrap ((BitVec.ofInt k.bits m ||| BitVec.ofInt k.bits n).toNat) = r) : Step P N E S ⟨dd, .binOp .or t x y t2, ty, pos, af, g⟩ (.int k r) :=
  step_bin hx hy rfl fun w => by simp only [binOp, Op.intBits, ne_eq, not_true_eq_false, if_false]; rw [hr]; rfl
theorem Step.bandNot (hx : ev E x = some (.int k m)) (hy : ev E y = some (.int k n)) (hr : k.wrap ((BitVec.ofInt k.bits m &&& ~~~ BitVec.ofInt k.bits n).toNat) = r) : Step P N E S ⟨dd, .binOp .andNot t x y t2, ty, pos, af, g⟩ (.int k r) :=
  step_bin hx hy rfl fun w => by simp only [binOp, Op.intBits, ne_eq, not_true_eq_false, if_false]; rw [hr]; rfl
end
theorem bvN {m : Int} (h0 : 0 ≤ m) (h1 : m ≤ 18446744073709551615) : (BitVec.ofInt 64 m).toNat = m.toNat := by
  have e : ((2 ^ 64 : Nat) : Int) = 18446744073709551616 := by decide
  rw [BitVec.toNat_ofInt, e, Int.emod_eq_of_lt h0 (by omega)]
theorem and_u64 {m n : Int} (h0 : 0 ≤ m) (h1 : m ≤ 18446744073709551615) (g0 : 0 ≤ n) (g1 : n ≤ 18446744073709551615) : IntKind.u64.wrap ((BitVec.ofInt 64 m &&& BitVec.ofInt 64 n).toNat) = ((m.toNat &&& n.toNat : Nat) : Int) := by
  rw [BitVec.toNat_and, bvN h0 h1, bvN g0 g1, IntKind.wrap_u64]
  have : m.toNat &&& n.toNat ≤ m.toNat := Nat.and_le_left
  omega
theorem or_u64 {m n : Int} (h0 : 0 ≤ m) (h1 : m ≤ 18446744073709551615) (g0 : 0 ≤ n) (g1 : n ≤ 18446744073709551615) : IntKind.u64.wrap ((BitVec.ofInt 64 m ||| BitVec.ofInt 64 n).toNat) = ((m.toNat ||| n.toNat : Nat) : Int) := by
  rw [BitVec.toNat_or, bvN h0 h1, bvN g0 g1, IntKind.wrap_u64]
  have : m.toNat ||| n.toNat < 2 ^ 64 := Nat.or_lt_two_pow (by omega) (by omega)
  omega
end Go.Sv
set_option linter.unusedSimpArgs false
set_option linter.unusedVariables false
namespace Go.Sv
open Go.ChangeShapes Go.WideShapes Go.Deep Go.RowKit
section
variable {H : Type} {enc : TypeId × Value → H} {P : Program} {w : World} {base : Nat} {spare : Nat → Bool} {held : Bool}
theorem open_bools {t e : TypeId} {fuel : Nat} {cs : List Value} {x : DataW H × List MemPlace} (ht : P.underlying t = some (.slice e)) (he : P.underlying e = some .bool) (hC : P.cellsOf e = 1) (h : DataW.trod enc P w base spare held fuel t cs = some x) :
    (cs = [.slice none 0 0] ∧ x = (.nil, [])) ∨
    ∃ (a : Addr) (len cap m : Nat), cs = [.slice (some a) len cap] ∧ len ≤ cap ∧ cap ≤ maxLen ∧ m = (if spare a.block then cap else len) ∧ ∀ i, i < m → ∃ b : Bool, w.cell? (a.add (i * 1 + 0)) = some (.bool b) := by
  rcases open_slice ht h with h0 | ⟨a, len, cap, m, n, D, Pl, hcs, hb, hl, hm, hmm, hx, hi⟩
  · exact .inl h0
  · refine .inr ⟨a, len, cap, m, hcs, hl, hm, hmm, fun i him => ?_⟩
    obtain ⟨cs', hc, ht'⟩ := hi i him
    rw [hC] at hc
    obtain ⟨_, hcl, hat⟩ := World.cells?_some hc
    obtain ⟨b, hb2, _⟩ := DataW.trod_bool he ht'
    have h1 := hat 0 (by omega)
    rw [hb2] at h1
    refine ⟨b, ?_⟩
    rw [← Go.Deep.add_add, h1]; rfl
end
end Go.Sv
