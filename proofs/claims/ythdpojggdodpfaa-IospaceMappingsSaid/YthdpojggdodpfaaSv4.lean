/-
  Allocations, makes, appends; contracts of functions and calls; regions that draw their order.
-/
import Derived.Test.YthdpojggdodpfaaSv3
set_option linter.unusedSimpArgs false
set_option linter.unusedVariables false
namespace Go.Sv
section
variable {P : Program} {N : Nat} {Q : Exit → Act → World → Prop} {E : Env} {S : World → Prop} {ops : Array Oper} {rest : List Oper}
variable {d : Nat} {ty : TypeId} {pos : String} {af : Array Edge} {g : Option (Nat × Bool)} {x y z : Operand} {u v : Value} {KK : Act → World → Prop}
variable {I0 : Ids} {w0 : World} {L : List Assn} {α : Type} {K : Enc α} {A B : Option Addr} {ys zs : List α} {e : TypeId} {c : Nat}

theorem OV.alloc {t : TypeId} {ze : Value} {sz by_ : Nat} (cs : Array Value) (hi : TI P t ze sz by_) (hcs : ze.cells = cs) (hg : Yes N ops ⟨some d, .alloc t, ty, pos, af, g⟩ E) (hN : Nat.blt d N = true)
    (k : ∀ nb, KV N KK (set E d (.pointer (some ⟨nb, 0, none⟩))) (Hp I0 w0 (L ++ [Blk nb (.cells cs t (0, 0))]))) : OV P N ops Q ⟨some d, .alloc t, ty, pos, af, g⟩ E (Hp I0 w0 L) KK :=
  OV.new (val := fun nb => .pointer (some ⟨nb, 0, none⟩)) hg (fun a w hf _ => by
    subst hcs
    simp only [execOp, Instr.alloc, Sem.run_bind, hi.zeroValue, Result.andThen_ok, newVar, newRow, Sem.run_pure, run_newObj_alloc]) hN k
theorem OV.box {t : TypeId} (cs : Array Value) (hx : ev E x = some v) (hcs : v.cells = cs) (hg : Yes N ops ⟨some d, .box t x, ty, pos, af, g⟩ E) (hN : Nat.blt d N = true)
    (k : ∀ nb, KV N KK (set E d (.pointer (some ⟨nb, 0, none⟩))) (Hp I0 w0 (L ++ [Blk nb (.cells cs t (0, 0))]))) : OV P N ops Q ⟨some d, .box t x, ty, pos, af, g⟩ E (Hp I0 w0 L) KK :=
  OV.new (val := fun nb => .pointer (some ⟨nb, 0, none⟩)) hg (fun a w hf _ => by
    subst hcs
    simp only [execOp, Instr.box, Sem.run_bind, Result.andThen_ok, newVar, newRow, Sem.run_pure, run_newObj_alloc, hf.ev hx]) hN k
/-- A block of cells that is a row of elements is a slice of its own. -/
theorem OS.ofBlk {w : World} {I : Ids} {nb : Nat} {cs : Array Value} (h : (Blk nb (.cells cs e (0, 0))).sat w I) (hl : ys.length ≤ c) (hc : c ≤ maxLen) (hs : cs.size = c * K.sz) (ht : cs.toList.take (ys.length * K.sz) = flat K ys) :
    (OS e K (some ⟨nb, 0, none⟩) c ys).sat w I := .inr ⟨nb, cs, rfl, h.1, h.2, hl, hc, hs, ht⟩
theorem Sep.last {w : World} {I : Ids} {A B : Assn} (h : Sep (L ++ [A]) I w) (hab : ∀ J, A.sat w J → B.sat w J) : Sep (L ++ [B]) I w := by
  obtain ⟨i, j, hI, hd, hL, hA⟩ := Sep.append.1 h
  obtain ⟨i2, j2, hJ, hd2, hA2, hn⟩ := hA
  exact Sep.append.2 ⟨i, j, hI, hd, hL, ⟨i2, j2, hJ, hd2, hab _ hA2, hn⟩⟩
theorem Hp.last {w : World} {A B : Assn} (h : Hp I0 w0 (L ++ [A]) w) (hab : ∀ J, A.sat w J → B.sat w J) : Hp I0 w0 (L ++ [B]) w :=
  let ⟨I, hs, he, hi⟩ := h; ⟨I, hs.last hab, he, hi⟩
/-- A slice literal. -/
theorem OV.buildSlice {t : TypeId} {n : Nat} {ps : List (Nat × Operand)} {vs : List (Nat × Value)} (ys : List α) {cs : Array Value} (hx : evp E ps = some vs)
    (h : ∀ w, (Instr.buildSlice t n vs.toArray).run P w = .ok (.slice (some ⟨w.heap.size, 0, none⟩) n n) (w.alloc (.cells cs e))) (hn : n = ys.length) (hcs : cs.toList = flat K ys) (hm : n ≤ 1000000)
    (hg : Yes N ops ⟨some d, .buildSlice t n ps.toArray, ty, pos, af, g⟩ E) (hN : Nat.blt d N = true)
    (k : ∀ A, KV N KK (set E d (.slice A ys.length ys.length)) (Hp I0 w0 (L ++ [OS e K A ys.length ys]))) : OV P N ops Q ⟨some d, .buildSlice t n ps.toArray, ty, pos, af, g⟩ E (Hp I0 w0 L) KK := by
  subst hn
  refine OV.new (val := fun nb => .slice (some ⟨nb, 0, none⟩) ys.length ys.length) (ob := .cells cs e) hg (fun a w hf _ => ?_) hN fun nb a w hf hs => k (some ⟨nb, 0, none⟩) a w hf (hs.last fun J hJ => ?_)
  · have e' : ps.toArray.map (fun (i, x) => (i, a.eval x)) = vs.toArray := by rw [← hf.evp hx]; simp
    simp only [execOp, e', Sem.run_bind, h, Result.andThen_ok, Sem.run_pure]
  · refine OS.ofBlk hJ (Nat.le_refl _) (by unfold maxLen; omega) ?_ (by rw [hcs, List.take_of_length_le (by rw [flat_length]; exact Nat.le_refl _)])
    rw [← Array.length_toList, hcs, flat_length]
theorem flat_replicate_get (n : Nat) (y : α) : ∀ j, j < n * K.sz → (flat K (List.replicate n y))[j]? = (K.f y)[j % K.sz]? := by
  intro j hj
  have hp := K.pos
  have hm : j / K.sz < n := by rw [Nat.div_lt_iff_lt_mul hp]; exact hj
  have hl : j % K.sz < (K.f y).length := by rw [K.len]; exact Nat.mod_lt _ hp
  have h := flat_get K (ys := List.replicate n y) (m := j / K.sz) (j := j % K.sz) (y := y) (v := (K.f y)[j % K.sz]) (by simp [hm]) (List.getElem?_eq_getElem hl)
  rw [show j / K.sz * K.sz + j % K.sz = j from by rw [Nat.mul_comm]; exact Nat.div_add_mod j K.sz] at h
  rw [h, List.getElem?_eq_getElem hl]
theorem made_take {zc : Array Value} {n c : Nat} {y : α} (hz : zc.toList = K.f y) (hnc : n ≤ c) : (madeCells zc (c * K.sz)).toList.take (n * K.sz) = flat K (List.replicate n y) := by
  have hle : n * K.sz ≤ c * K.sz := Nat.mul_le_mul_right _ hnc
  have hs : zc.size = K.sz := by rw [← Array.length_toList, hz, K.len]
  have hp := K.pos
  apply List.ext_getElem?
  intro j
  rw [List.getElem?_take]
  by_cases hj : j < n * K.sz
  · rw [if_pos hj, flat_replicate_get n y j hj]
    have hjc : j < c * K.sz := by omega
    have hlt : j % K.sz < zc.size := by rw [hs]; exact Nat.mod_lt _ hp
    have : (madeCells zc (c * K.sz)).toList[j]? = some (zc[j % K.sz]!) := by
      simp [madeCells, hs, hjc]
    rw [this, ← hz, Array.getElem?_toList]
    simp [hlt]
  · rw [if_neg hj, List.getElem?_eq_none (by rw [flat_length]; simp; omega)]
/-- make([]T, n, c). -/
theorem OV.make {t : TypeId} {ze : Value} {by_ : Nat} {kn kc : IntKind} {i j : Int} (n c : Nat) (y0 : α) (hu : P.underlying t = some (.slice e)) (hi : TI P e ze K.sz by_) (hz : ze.cells.toList = K.f y0)
    (hx : ev E x = some (.int kn i)) (hy : ev E y = some (.int kc j)) (hin : i = (n : Int)) (hjc : j = (c : Int)) (hnc : n ≤ c) (hb : by_ * c ≤ 281474976710656) (hm : c ≤ 9223372036854775807)
    (hg : Yes N ops ⟨some d, .makeSlice t x y, ty, pos, af, g⟩ E) (hN : Nat.blt d N = true)
    (k : ∀ A, KV N KK (set E d (.slice A n c)) (Hp I0 w0 (L ++ [OS e K A c (List.replicate n y0)]))) : OV P N ops Q ⟨some d, .makeSlice t x y, ty, pos, af, g⟩ E (Hp I0 w0 L) KK := by
  subst hin; subst hjc
  obtain ⟨inf, h1, h2, h3, h4⟩ := hi.get
  refine OV.new (val := fun nb => .slice (some ⟨nb, 0, none⟩) n c) (ob := .cells (madeCells ze.cells (c * K.sz)) e) hg (fun a w hf _ => ?_) hN fun nb a w hf hs => k (some ⟨nb, 0, none⟩) a w hf (hs.last fun J hJ => ?_)
  · have hb' : (inf.bytes : Int) * (c : Int) ≤ 281474976710656 := by rw [h4]; omega
    have hr := run_make (P := P) w t e inf ze hu h1 h2 kn kc n c (by omega) (by omega) hb' (by omega)
    rw [h3] at hr
    simp only [Int.toNat_natCast] at hr
    simp only [execOp, hf.ev hx, hf.ev hy, Sem.run_bind, hr, Result.andThen_ok, Sem.run_pure]
  · exact OS.ofBlk hJ (by simpa using hnc) (by unfold maxLen; omega) (size_madeCells _ _) (by simpa using made_take hz hnc)
/-- What is owned at place k is replaced. -/
theorem Hp.update {w w' : World} {k : Nat} {A A' : Assn} (h : Hp I0 w0 L w) (hk : L[k]? = some A)
    (hw : ∀ i, A.sat w i → ∃ i' : Ids, A'.sat w' i' ∧ (∀ x, i' x → i x ∨ w.heap.size ≤ x) ∧ Ext i w w') : Hp I0 w0 (L.set k A') w' := by
  obtain ⟨i, j, hA, hL, hd, he, hi, hj⟩ := h.at hk
  obtain ⟨i', hA', hsub, hx⟩ := hw i hA
  refine Hp.perm ?_ (perm_set _ hk)
  refine ⟨fun x => i' x ∨ j x, ⟨i', j, fun _ => Iff.rfl, fun x h1 h2 => ?_, hA', hL.keep fun x hxj => hx.block x (hL.lt x hxj) fun h => hd x h hxj⟩, ?_, ?_⟩
  · rcases hsub x h1 with h3 | h3
    · exact hd x h3 h2
    · have := hL.lt x h2; omega
  · exact he.trans hx hi
  · rintro x (h1 | h1)
    · rcases hsub x h1 with h2 | h2
      · exact hi x h2
      · exact .inr (Nat.le_trans he.size h2)
    · exact hj x h1
theorem run_append_nil (base : Nat) (w : World) (t ty e : TypeId) (i : TypeInfo) (size : Nat) (ht : P.underlying t = some (.slice e)) (hi : P.info? e = some i)
    (v : Value) (n : Nat) (xs : List Value) (hown : w.ownsRow base e size v n xs) (c : Nat) : (Builtin.append_ #[t, t] ty #[v, .slice none 0 c]).run P w = .ok v w := by
  rcases hown.2 with ⟨rfl, rfl⟩ | ⟨g, cap, cur, rfl, _, _, hnc, _⟩
  · simp [Builtin.append_, run_underlying ht, sizeOf, typeInfo, hi, Builtin.lenOf, Builtin.firstCells]
  · simp [Builtin.append_, run_underlying ht, sizeOf, typeInfo, hi, Builtin.lenOf, Builtin.firstCells, hnc, storeCells]
theorem append_run {w : World} {i : Ids} {t : TypeId} {ze : Value} {by_ cB : Nat} (hu : P.underlying t = some (.slice e)) (hi : TI P e ze K.sz by_) (hze : ze.cells.size = K.sz)
    (h : (OS e K A c ys).sat w i) (hr : RS w K B zs) (hnil : zs = [] → B = none ∨ ∃ a, B = some a) (hb : (ys.length + zs.length) * by_ ≤ 140737488355328) (hm : ys.length + zs.length ≤ 9223372036854775807) :
    ∃ A' c' w', (Builtin.append_ #[t, t] ty #[.slice A ys.length c, .slice B zs.length cB]).run P w = .ok (.slice A' (ys ++ zs).length c') w' ∧
      ∃ i' : Ids, (OS e K A' c' (ys ++ zs)).sat w' i' ∧ (∀ x, i' x → i x ∨ w.heap.size ≤ x) ∧ Ext i w w' := by
  obtain ⟨inf, h1, h2, h3, h4⟩ := hi.get
  have hown : w.ownsRow 0 e K.sz (.slice A ys.length c) ys.length (flat K ys) := by
    refine ⟨flat_length K ys, ?_⟩
    rcases h with ⟨rfl, rfl, rfl, _⟩ | ⟨gb, cur, rfl, hI, hb, hle, hc, hsz, ht⟩
    · exact .inl ⟨rfl, rfl⟩
    · exact .inr ⟨gb, c, cur, rfl, Nat.zero_le _, hb, hle, hc, hsz, ht⟩
  have key : ∃ v' w', (Builtin.append_ #[t, t] ty #[.slice A ys.length c, .slice B zs.length cB]).run P w = .ok v' w' ∧ w'.ownsRow 0 e K.sz v' (ys.length + zs.length) (flat K ys ++ flat K zs) ∧ w.grownBy w' (Value.slice A ys.length c).ownBlock ∧
      (v'.ownBlock = (Value.slice A ys.length c).ownBlock ∨ v'.ownBlock = some w.heap.size) := by
    cases hB : B with
    | none =>
      have hz : zs = [] := by
        rcases hr with h | ⟨_, _, _, h, _⟩
        · exact h
        · rw [hB] at h; cases h
      subst hz
      exact ⟨_, w, run_append_nil 0 w t ty e inf K.sz hu h1 _ _ _ hown cB, by simpa [flat] using hown, World.grownBy.refl w _, .inl rfl⟩
    | some a =>
      have hnews : ∀ j u, (flat K zs)[j]? = some u → w.cell? (a.add j) = some u := fun j u hj => by
        rcases hr with rfl | ⟨cur, tt, fz, hBA, hbb, hc⟩
        · simp [flat] at hj
        · rw [hB] at hBA
          have ha : a = ⟨a.block, a.off, none⟩ := by simpa [bk, of] using hBA
          rw [hB] at hbb hc
          simp only [bk] at hbb
          have hcell := hc j u hj
          rw [ha]
          by_cases j0 : j = 0
          · subst j0; simp only [Addr.add, if_true]; rw [cell_of hbb]; simpa [of] using hcell
          · simp only [Addr.add, j0, if_false]; rw [cell_of hbb]; simpa [of] using hcell
      obtain ⟨v', w', hrun, ho, hgr, _, hbl⟩ := run_append_own_at (P := P) w 0 t ty e inf ze K.sz by_ hu h1 h2 h3 h4 hze K.pos _ ys.length (flat K ys) hown a zs.length cB (flat K zs) (flat_length K zs) hnews (flat_one K zs)
        (by unfold maxLen; omega) hb (Nat.zero_le _)
      exact ⟨v', w', hrun, ho, hgr, hbl⟩
  obtain ⟨v', w', hrun, ho, hgr, hbl⟩ := key
  have hext : Ext i w w' := ⟨hgr.os, hgr.tape, hgr.output, hgr.size, fun x hx hn => hgr.block x hx fun hh => hn ?_⟩
  · rcases ho.2 with ⟨rfl, h0⟩ | ⟨gb, cap, cur, rfl, _, hb', hle, hc, hsz, ht⟩
    · have hy : ys = [] := List.eq_nil_of_length_eq_zero (by omega)
      have hz : zs = [] := List.eq_nil_of_length_eq_zero (by omega)
      subst hy; subst hz
      exact ⟨none, 0, w', hrun, fun _ => False, .inl ⟨rfl, rfl, rfl, fun _ h => h⟩, fun _ h => h.elim, hext⟩
    · refine ⟨some ⟨gb, 0, none⟩, cap, w', by rw [List.length_append]; exact hrun, fun x => x = gb, .inr ⟨gb, cur, rfl, fun _ => Iff.rfl, hb', by rw [List.length_append]; exact hle, hc, hsz, by rw [List.length_append, flat_append]; exact ht⟩, ?_, hext⟩
      rintro x rfl
      rcases hbl with hbl | hbl
      · rcases h with ⟨rfl, _⟩ | ⟨g2, cur2, rfl, hI, _⟩
        · simp [Value.ownBlock] at hbl
        · simp [Value.ownBlock] at hbl; exact .inl ((hI x).2 hbl)
      · simp [Value.ownBlock] at hbl; exact .inr (by omega)
  · rcases h with ⟨rfl, _⟩ | ⟨g2, cur2, rfl, hI, _⟩
    · simp [Value.ownBlock] at hh
    · simp [Value.ownBlock] at hh; exact (hI x).2 hh
/-- append(xs, zs...) onto an owned slice. -/
theorem OV.append (k : Nat) {t : TypeId} {ze : Value} {by_ n m cB : Nat} (hu : P.underlying t = some (.slice e)) (hi : TI P e ze K.sz by_) (hze : ze.cells.size = K.sz)
    (hx : ev E x = some (.slice A n c)) (hy : ev E y = some (.slice B m cB)) (hn : n = ys.length) (hmz : m = zs.length) (hk : L[k]? = some (OS e K A c ys)) (hr : ∀ w, Hp I0 w0 L w → RS w K B zs)
    (hb : (ys.length + zs.length) * by_ ≤ 140737488355328) (hm : ys.length + zs.length ≤ 9223372036854775807) (hg : Yes N ops ⟨some d, .call ⟨.builtin .append, #[x, y], #[t, t]⟩, ty, pos, af, g⟩ E) (hN : Nat.blt d N = true)
    (kk : ∀ A' c', KV N KK (set E d (.slice A' (ys ++ zs).length c')) (Hp I0 w0 (L.set k (OS e K A' c' (ys ++ zs))))) : OV P N ops Q ⟨some d, .call ⟨.builtin .append, #[x, y], #[t, t]⟩, ty, pos, af, g⟩ E (Hp I0 w0 L) KK := fun a w hf hs => by
  subst hn; subst hmz
  obtain ⟨i, j, hA, _⟩ := hs.at hk
  obtain ⟨A', c', w', hrun, _⟩ := append_run (P := P) (ty := ty) (cB := cB) hu hi hze hA (hr w hs) (fun _ => by cases B <;> simp) hb hm
  refine OV.run (v := .slice A' (ys ++ zs).length c') (w' := w') (hg a hf) ?_ (kk A' c' _ _ (hf.put _ hN) (hs.update hk fun i2 hA2 => ?_))
  · simp only [execOp, resolve, invoke, builtin, Sem.run_bind, Sem.run_pure, Result.andThen_ok, List.map_toArray, List.map_cons, List.map_nil, hf.ev hx, hf.ev hy, hrun]
  · obtain ⟨A2, c2, w2, hrun2, hi2⟩ := append_run (P := P) (ty := ty) (cB := cB) hu hi hze hA2 (hr w hs) (fun _ => by cases B <;> simp) hb hm
    rw [hrun] at hrun2
    injection hrun2 with h1 h2
    injection h1 with h3 h4 h5
    subst h2; subst h3; subst h5
    exact hi2
end

/-! ### Contracts -/
/-- The contract of a function: what it owns at the call, which blocks it reads besides, what it leaves. -/
def Fx (P : Program) (f : FuncId) (vs : List Value) (w : World) (Own : List Assn) (ro : Ids) (post : Value → List Assn → Prop) : Prop :=
  ∀ I : Ids, Sep Own I w → (∀ b, ro b → ¬ I b) → Calls P f vs.toArray w (fun e w' => ∃ v L', e = .returned v ∧ post v L' ∧ Hp I w L' w')
def no : Ids := fun _ => False
def params : Nat → List Value → Env
  | _, [] => []
  | k, v :: r => (k, v) :: params (k + 1) r
theorem get_params : ∀ (vs : List Value) (k t : Nat) (v : Value), get (params k vs) t = some v → k ≤ t ∧ vs[t - k]? = some v
  | [], _, _, _, h => by simp [params, get] at h
  | u :: r, k, t, v, h => by
    by_cases hk : k = t
    · subst hk; simp [params, get] at h; simp [h]
    · have hb : Nat.beq k t = false := by rw [← Bool.not_eq_true, Nat.beq_eq]; exact hk
      simp only [params, get, hb, cond_false] at h
      obtain ⟨h1, h2⟩ := get_params r (k + 1) t v h
      refine ⟨by omega, ?_⟩
      rw [show t - k = (t - (k + 1)) + 1 from by omega]
      simpa using h2
section
variable {P : Program} {f : FuncId} {vs : List Value} {w : World} {Own : List Assn} {ro : Ids} {post : Value → List Assn → Prop}
theorem Fx.body {fn : Func} {c : Code} {N : Nat} (hf : P.funcs[f]? = some fn) (hb : fn.body = some c) (hN : fn.ntmps = N) (hl : Nat.ble vs.length N = true)
    (h : ∀ I : Ids, (∀ b, ro b → ¬ I b) → Sep Own I w → CV P N c (bodyPost P fn (fun e w' => ∃ v L', e = .returned v ∧ post v L' ∧ Hp I w L' w')) (params 0 vs) (Hp I w Own)) : Fx P f vs w Own ro post := by
  intro I hI hro
  refine calls_of_wp hf hb (h I hro hI _ _ ⟨rfl, ?_, fun t v ht => ?_⟩ (Hp.start hI))
  · have hl' : vs.length ≤ N := by simpa using hl
    simp [hN]; omega
  · obtain ⟨_, h2⟩ := get_params vs 0 t v ht
    simp only [Nat.sub_zero] at h2
    have hlt := (List.getElem?_eq_some_iff.1 h2).1
    rw [Array.getElem?_append_left (by simpa using hlt)]
    simpa using h2
theorem Fx.mono {post' : Value → List Assn → Prop} (h : Fx P f vs w Own ro post) (hp : ∀ v L, post v L → post' v L) : Fx P f vs w Own ro post' :=
  fun I hI hr => (h I hI hr).mono fun _ _ ⟨v, L', h1, h2, h3⟩ => ⟨v, L', h1, hp v L' h2, h3⟩
section
variable {N : Nat} {fn : Func} {I : Ids} {L L' : List Assn} {E : Env} {v v1 v2 v3 : Value} {t t1 t2 t3 : Tmp}
theorem KV.ret0 (hr : fn.results = #[]) (L') (hent : ∀ w', Hp I w L w' → Hp I w L' w') (hp : post (.tuple #[]) L') :
    KV N (bodyPost P fn (fun e w' => ∃ v L', e = .returned v ∧ post v L' ∧ Hp I w L' w') .ret) E (Hp I w L) := fun a w' hf hs =>
  ⟨hf.defers, _, results_none hr _ _ _, _, L', rfl, hp, hent w' hs⟩
theorem KV.ret1 (hr : fn.results = #[.tmp t]) (hv : get E t = some v) (L') (hent : ∀ w', Hp I w L w' → Hp I w L' w') (hp : post v L') :
    KV N (bodyPost P fn (fun e w' => ∃ v L', e = .returned v ∧ post v L' ∧ Hp I w L' w') .ret) E (Hp I w L) := fun a w' hf hs =>
  ⟨hf.defers, v, by rw [results_tmp hr]; simp [hf.slot t v hv], v, L', rfl, hp, hent w' hs⟩
theorem KV.ret2 (hr : fn.results = #[.tmp t1, .tmp t2]) (h1 : get E t1 = some v1) (h2 : get E t2 = some v2) (L') (hent : ∀ w', Hp I w L w' → Hp I w L' w') (hp : post (.tuple #[v1, v2]) L') :
    KV N (bodyPost P fn (fun e w' => ∃ v L', e = .returned v ∧ post v L' ∧ Hp I w L' w') .ret) E (Hp I w L) := fun a w' hf hs =>
  ⟨hf.defers, .tuple #[v1, v2], by rw [results_tmp2 hr]; simp [hf.slot t1 v1 h1, hf.slot t2 v2 h2], _, L', rfl, hp, hent w' hs⟩
end
end
def picks : List Nat → List Assn → Option (List Assn × List Assn)
  | [], L => some ([], L)
  | k :: ks, L => match L[k]? with
    | none => none
    | some A => match picks ks (L.eraseIdx k) with
      | none => none
      | some (S, R) => some (A :: S, R)
theorem picks_perm : ∀ {ks : List Nat} {L S R : List Assn}, picks ks L = some (S, R) → L.Perm (S ++ R)
  | [], L, S, R, h => by simp [picks] at h; obtain ⟨rfl, rfl⟩ := h; simp
  | k :: ks, L, S, R, h => by
    simp only [picks] at h
    cases hA : L[k]? with
    | none => simp [hA] at h
    | some A =>
      cases hp : picks ks (L.eraseIdx k) with
      | none => simp [hA, hp] at h
      | some q =>
        obtain ⟨S', R'⟩ := q
        simp [hA, hp] at h
        obtain ⟨rfl, rfl⟩ := h
        exact (perm_erase hA).trans (List.Perm.cons A (picks_perm hp))
section
variable {P : Program} {N : Nat} {Q : Exit → Act → World → Prop} {E : Env} {ops : Array Oper} {KK : Act → World → Prop} {I0 : Ids} {w0 : World} {L Own F : List Assn}
/-- A block that the callee may read and does not own. -/
def RoOk (I0 : Ids) (w0 : World) (F : List Assn) (b : Nat) : Prop := (¬ I0 b ∧ b < w0.heap.size) ∨ ∃ (j : Nat) (A : Assn), F[j]? = some A ∧ ∀ (w : World) (I : Ids), A.sat w I → I b
theorem Calls.frame {f : FuncId} {vs : List Value} {w : World} {ks : List Nat} {ro : Ids} {post : Value → List Assn → Prop} (hp : picks ks L = some (Own, F)) (hs : Hp I0 w0 L w) (hro : ∀ b, ro b → RoOk I0 w0 F b)
    (h : Fx P f vs w Own ro post) : Calls P f vs.toArray w (fun e w' => ∃ v L', e = .returned v ∧ post v L' ∧ Hp I0 w0 (F ++ L') w') := by
  obtain ⟨I, hsep, he, hi⟩ := hs.perm (picks_perm hp)
  obtain ⟨iO, iF, hI, hd, hO, hF⟩ := Sep.append.1 hsep
  refine (h iO hO fun b hb hbO => ?_).mono ?_
  · rcases hro b hb with ⟨h1, h2⟩ | ⟨j, A, hj, hA⟩
    · rcases hi b ((hI b).2 (.inl hbO)) with h3 | h3
      · exact h1 h3
      · omega
    · obtain ⟨i, j', hI2, _, hA2, _⟩ := hF.perm (perm_erase hj)
      exact hd b hbO ((hI2 b).2 (.inl (hA w i hA2)))
  · rintro e w' ⟨v, L', rfl, hpost, I', hL', hx, hI'⟩
    refine ⟨v, L', rfl, hpost, fun x => iF x ∨ I' x, Sep.append.2 ⟨iF, I', fun _ => Iff.rfl, fun x h1 h2 => ?_, hF.keep fun x hxF => hx.block x (hF.lt x hxF) fun hxO => hd x hxO hxF, hL'⟩, he.trans hx fun x hxO => hi x ((hI x).2 (.inl hxO)), ?_⟩
    · rcases hI' x h2 with h3 | h3
      · exact hd x h3 h1
      · have := hF.lt x h1; omega
    · rintro x (h1 | h1)
      · exact hi x ((hI x).2 (.inr h1))
      · rcases hI' x h1 with h3 | h3
        · exact hi x ((hI x).2 (.inl h3))
        · exact .inr (Nat.le_trans he.size h3)
/-- A call of a function by its contract. -/
theorem OV.call (ks : List Nat) {d : Nat} {f : FuncId} {fn : Func} {vs : List Value} {args : List Operand} {ts : Array TypeId} {ty : TypeId} {pos : String} {af : Array Edge} {g : Option (Nat × Bool)} {ro : Ids} {post : Value → List Assn → Prop}
    (hfn : P.funcs[f]? = some fn) (hbody : fn.body.isSome = true) (hname : (fn.name == "runtime.NumGoroutine") = false) (ha : evs E args = some vs) (hp : picks ks L = some (Own, F)) (spec : ∀ w, Hp I0 w0 L w → Fx P f vs w Own ro post) (hro : ∀ b, ro b → RoOk I0 w0 F b)
    (hg : Yes N ops ⟨some d, .call ⟨.value (.func f), args.toArray, ts⟩, ty, pos, af, g⟩ E) (hN : Nat.blt d N = true)
    (k : ∀ v L', post v L' → KV N KK (set E d v) (Hp I0 w0 (F ++ L'))) : OV P N ops Q ⟨some d, .call ⟨.value (.func f), args.toArray, ts⟩, ty, pos, af, g⟩ E (Hp I0 w0 L) KK := fun a w hf hs => by
  rw [if_pos (hg a hf)]
  unfold Oper.wp
  have hbn : fn.body.isNone = false := by cases h : fn.body <;> simp_all
  have hrun : (execOp a.eval ⟨some d, .call ⟨.value (.func f), args.toArray, ts⟩, ty, pos, af, g⟩).run P w = .ok (.enter f vs.toArray) w := by
    have hv : a.eval (.func f) = .func (.func f) #[] #[] := rfl
    have hm : args.toArray.map a.eval = vs.toArray := by rw [← hf.evs ha]; simp
    have hn1 : ¬ fn.name = "runtime.NumGoroutine" := by simpa using hname
    have hn2 : ¬ fn.body = none := by intro h; rw [h] at hbn; simp at hbn
    simp [execOp, resolve, invoke, callFunc, hv, hfn, hn1, hn2, hm, Deferred.ofValue]
  rw [hrun]
  simp only [Oper.upon]
  refine (Calls.frame hp hs hro (spec w hs)).mono ?_
  rintro e w' ⟨v, L', rfl, hpost, hhp⟩
  exact k v L' hpost _ _ (hf.put v hN) hhp
end
end Go.Sv
