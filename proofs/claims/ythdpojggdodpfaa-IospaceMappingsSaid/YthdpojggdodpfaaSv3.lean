/-
  Slices of typed elements, owned or readable; stores, allocations, appends; contracts of functions and calls.
-/
import Derived.Test.YthdpojggdodpfaaSv2
import Derived.Maps.AppendAt
import Derived.Laws.CopyRow
import Derived.Laws.MakeOwn
set_option linter.unusedSimpArgs false
set_option linter.unusedVariables false
namespace Go.Sv

theorem Hp.cells {I0 : Ids} {w0 w : World} {L : List Assn} (h : Hp I0 w0 L w) (k : Nat) {b : Nat} {cs : Array Value} {t : TypeId} {fz : Nat × Nat} (hk : L[k]? = some (Blk b (.cells cs t fz))) :
    ∀ j v, cs.toList[j]? = some v → w.cell? ⟨b, 0 + j, none⟩ = some v := fun j v hv => by
  rw [Nat.zero_add, cell_of (h.blk k hk)]
  simpa using hv
/-! ### Typed elements -/
structure Enc (α : Type) where
  f : α → List Value
  sz : Nat
  d : α
  len : ∀ x, (f x).length = sz
  pos : 0 < sz
  one : ∀ x, ∀ v ∈ f x, v.oneCell' = true
section
variable {α : Type} (K : Enc α)
def flat (ys : List α) : List Value := ys.flatMap K.f
theorem flat_length (ys : List α) : (flat K ys).length = ys.length * K.sz := by
  induction ys with
  | nil => simp [flat]
  | cons y r ih =>
    have : flat K (y :: r) = K.f y ++ flat K r := by simp [flat]
    rw [this, List.length_append, K.len, ih, List.length_cons, Nat.add_mul]; omega
theorem flat_append (ys zs : List α) : flat K (ys ++ zs) = flat K ys ++ flat K zs := by simp [flat]
theorem flat_get {ys : List α} {m j : Nat} {y : α} {v : Value} (hm : ys[m]? = some y) (hj : (K.f y)[j]? = some v) : (flat K ys)[m * K.sz + j]? = some v := by
  have hj' : j < K.sz := by
    have h := (List.getElem?_eq_some_iff.1 hj).1
    rw [K.len] at h
    exact h
  induction ys generalizing m with
  | nil => simp at hm
  | cons z r ih =>
    have e : flat K (z :: r) = K.f z ++ flat K r := by simp [flat]
    rw [e]
    cases m with
    | zero =>
      simp at hm
      subst hm
      rw [Nat.zero_mul, Nat.zero_add, List.getElem?_append_left (by rw [K.len]; exact hj')]
      exact hj
    | succ m =>
      simp only [List.getElem?_cons_succ] at hm
      rw [List.getElem?_append_right (by rw [K.len, Nat.add_mul]; omega), K.len, show (m + 1) * K.sz + j - K.sz = m * K.sz + j from by rw [Nat.add_mul]; omega]
      exact ih hm
theorem getD_get {ys : List α} {m : Nat} (h : m < ys.length) (d : α) : ys[m]? = some (ys.getD m d) := by
  simp [List.getD, List.getElem?_eq_getElem h]
theorem getD_set_self (ys : List α) (m : Nat) (y d : α) (h : m < ys.length) : (ys.set m y).getD m d = y := by simp [List.getD, h]
theorem getD_set_other (ys : List α) {m k : Nat} (y d : α) (h : m ≠ k) : (ys.set m y).getD k d = ys.getD k d := by simp [List.getD, List.getElem?_set_ne h]
theorem flat_set {ys : List α} {m : Nat} (h : m < ys.length) (y : α) : flat K (ys.set m y) = (flat K ys).take (m * K.sz) ++ K.f y ++ (flat K ys).drop (m * K.sz + K.sz) := by
  induction ys generalizing m with
  | nil => simp at h
  | cons z r ih =>
    have e : flat K (z :: r) = K.f z ++ flat K r := by simp [flat]
    cases m with
    | zero =>
      have e' : flat K ((z :: r).set 0 y) = K.f y ++ flat K r := by simp [flat]
      rw [e', e, Nat.zero_mul, List.take_zero, List.nil_append, Nat.zero_add, List.drop_append_of_le_length (by rw [K.len]; exact Nat.le_refl _), List.drop_of_length_le (by rw [K.len]; exact Nat.le_refl _), List.nil_append]
    | succ m =>
      have e' : flat K ((z :: r).set (m + 1) y) = K.f z ++ flat K (r.set m y) := by simp [flat]
      have h1 : (m + 1) * K.sz = K.sz + m * K.sz := by rw [Nat.add_mul]; omega
      rw [e', e, ih (by simpa using h), h1]
      have hl := K.len z
      have t1 : List.take (K.sz + m * K.sz) (K.f z) = K.f z := List.take_of_length_le (by omega)
      have t2 : List.drop (K.sz + m * K.sz + K.sz) (K.f z) = [] := List.drop_of_length_le (by omega)
      rw [List.take_append, List.drop_append, hl, t1, t2, List.nil_append]
      rw [show K.sz + m * K.sz - K.sz = m * K.sz from by omega, show K.sz + m * K.sz + K.sz - K.sz = m * K.sz + K.sz from by omega]
      simp only [List.append_assoc]
theorem flat_one (ys : List α) : ∀ v ∈ flat K ys, v.oneCell' = true := by
  intro v hv
  simp only [flat, List.mem_flatMap] at hv
  obtain ⟨y, _, hy⟩ := hv
  exact K.one y v hy
end
def bk : Option Addr → Nat
  | some a => a.block
  | none => 0
def of : Option Addr → Nat
  | some a => a.off
  | none => 0
/-- The slice at A reads as ys in world w. -/
def RS {α : Type} (w : World) (K : Enc α) (A : Option Addr) (ys : List α) : Prop :=
  ys = [] ∨ ∃ cur t fz, A = some ⟨bk A, of A, none⟩ ∧ w.heap[bk A]? = some (.cells cur t fz) ∧ ∀ j v, (flat K ys)[j]? = some v → cur[of A + j]? = some v
section
variable {α : Type} {K : Enc α} {w w' : World} {A : Option Addr} {ys : List α}
theorem RS.form (h : RS w K A ys) {m : Nat} (hm : m < ys.length) : A = some ⟨bk A, of A, none⟩ := by
  rcases h with rfl | ⟨_, _, _, h, _⟩
  · simp at hm
  · exact h
theorem RS.cell (h : RS w K A ys) {m j : Nat} {v : Value} (hm : m < ys.length) (hv : (K.f (ys.getD m K.d))[j]? = some v) : w.cell? ⟨bk A, of A + m * K.sz + j, none⟩ = some v := by
  rcases h with rfl | ⟨cur, t, fz, _, hb, hc⟩
  · simp at hm
  · rw [cell_of hb, Nat.add_assoc]
    exact hc _ _ (flat_get K (getD_get hm K.d) hv)
theorem RS.keep (h : RS w K A ys) (hk : ∀ o, w.heap[bk A]? = some o → w'.heap[bk A]? = some o) : RS w' K A ys := by
  rcases h with h | ⟨cur, t, fz, hA, hb, hc⟩
  · exact .inl h
  · exact .inr ⟨cur, t, fz, hA, hk _ hb, hc⟩
theorem RS.nil : RS w K A [] := .inl rfl
theorem RS.ext {I : Ids} (h : RS w K A ys) (he : Ext I w w') (hn : ¬ I (bk A)) : RS w' K A ys := h.keep fun o ho => by rw [he.block _ (lt_of_some ho) hn]; exact ho
theorem RS.take (h : RS w K A ys) (n : Nat) : RS w K A (ys.take n) := by
  rcases h with rfl | ⟨cur, t, fz, hA, hb, hc⟩
  · exact .inl (by simp)
  · refine .inr ⟨cur, t, fz, hA, hb, fun j v hv => hc j v ?_⟩
    have e : flat K ys = flat K (ys.take n) ++ flat K (ys.drop n) := by rw [← flat_append, List.take_append_drop]
    rw [e, List.getElem?_append_left (List.getElem?_eq_some_iff.1 hv).1]
    exact hv
theorem Hp.rs {I0 : Ids} {w0 : World} {L : List Assn} (h : Hp I0 w0 L w) (hr : RS w0 K A ys) (hn : ys ≠ [] → ¬ I0 (bk A)) : RS w K A ys := by
  obtain ⟨_, _, he, _⟩ := h
  by_cases hy : ys = []
  · exact .inl hy
  · exact hr.ext he (hn hy)
end
/-- A slice with its own row (or nil): element type e, address A, capacity c, elements ys. -/
def OS {α : Type} (e : TypeId) (K : Enc α) (A : Option Addr) (c : Nat) (ys : List α) : Assn where
  sat w I := (A = none ∧ ys = [] ∧ c = 0 ∧ ∀ x, ¬ I x) ∨ ∃ g cur, A = some ⟨g, 0, none⟩ ∧ (∀ x, I x ↔ x = g) ∧ w.heap[g]? = some (.cells cur e (0, 0)) ∧ ys.length ≤ c ∧ c ≤ maxLen ∧ cur.size = c * K.sz ∧ cur.toList.take (ys.length * K.sz) = flat K ys
  lt h x hx := by
    rcases h with ⟨_, _, _, h⟩ | ⟨g, cur, _, hI, hb, _⟩
    · exact absurd hx (h x)
    · rw [(hI x).1 hx]; exact lt_of_some hb
  keep h hk := by
    rcases h with h | ⟨g, cur, hA, hI, hb, h⟩
    · exact .inl h
    · exact .inr ⟨g, cur, hA, hI, by rw [hk g ((hI g).2 rfl)]; exact hb, h⟩
section
variable {α : Type} {K : Enc α} {w w' w0 : World} {A : Option Addr} {ys : List α} {e : TypeId} {c : Nat} {I0 : Ids} {L : List Assn}
theorem OS.rs {I : Ids} (h : (OS e K A c ys).sat w I) : RS w K A ys := by
  rcases h with ⟨_, h, _⟩ | ⟨g, cur, rfl, _, hb, _, _, _, ht⟩
  · exact .inl h
  · refine .inr ⟨cur, e, (0, 0), rfl, hb, fun j v hv => ?_⟩
    rw [← ht, List.getElem?_take] at hv
    split at hv
    · simpa [of] using hv
    · cases hv
theorem Hp.os (h : Hp I0 w0 L w) (k : Nat) (hk : L[k]? = some (OS e K A c ys)) : RS w K A ys := by
  obtain ⟨i, j, hA, _⟩ := h.at hk
  exact OS.rs hA
theorem Hp.osCap (h : Hp I0 w0 L w) (k : Nat) (hk : L[k]? = some (OS e K A c ys)) : ys.length ≤ c ∧ c ≤ maxLen := by
  obtain ⟨i, j, hA, _⟩ := h.at hk
  rcases hA with ⟨_, h, h2, _⟩ | ⟨g, cur, rfl, _, hb, h1, h2, _, ht⟩
  · subst h; subst h2; exact ⟨Nat.le_refl _, Nat.zero_le _⟩
  · exact ⟨h1, h2⟩
end

/-! ### Rules -/
section
variable {P : Program} {N : Nat} {Q : Exit → Act → World → Prop} {E : Env} {S : World → Prop} {ops : Array Oper} {rest : List Oper}
variable {d : Option Nat} {ty : TypeId} {pos : String} {af : Array Edge} {g : Option (Nat × Bool)} {x y z : Operand} {u v : Value} {KK : Act → World → Prop}
variable {I0 : Ids} {w0 : World} {L : List Assn} {α : Type} {K : Enc α} {A : Option Addr} {ys : List α} {e : TypeId} {c : Nat}
/-- The address of element m of a readable slice. -/
theorem Step.idx {t e : TypeId} {ze : Value} {by_ n : Nat} {k : IntKind} {i : Int} (hu : P.underlying t = some (.slice e)) (hi : TI P e ze K.sz by_) (hs : ∀ w, S w → RS w K A ys)
    (hx : ev E x = some (.slice A n c)) (hy : ev E y = some (.int k i)) (hn : n = ys.length) (m : Nat) (hm : i = (m : Int)) (hlt : m < ys.length) :
    Step P N E S ⟨d, .indexAddr t x y, ty, pos, af, g⟩ (.pointer (some ⟨bk A, of A + m * K.sz, none⟩)) := fun a w hf h => by
  subst hn
  exact Step.indexSl hu hi hx hy ((hs w h).form hlt) m hm hlt a w hf h
theorem run_storeVar_at {t : TypeId} {te : TypeId} {ze : Value} {sz by_ b o : Nat} {w : World} {cur : Array Value} (vs : List Value) (hi : TI P t ze sz by_) (hv : v.cells = vs.toArray) (hl : vs.length = sz)
    (hb : w.heap[b]? = some (.cells cur te (0, 0))) (ho : o + vs.length ≤ cur.size) (h1 : ∀ v ∈ vs, v.oneCell' = true) :
    (storeVar t ⟨b, o, none⟩ v).run P w = .ok () (w.setRow b (cur.toList.take o ++ vs ++ cur.toList.drop (o + vs.length)).toArray) := by
  have h := run_storeCells_at (P := P) b o te vs 0 cur w hb (by simpa using ho) h1
  simp only [Nat.add_zero] at h
  have hsz : v.cells.size = sz := by rw [hv]; simpa using hl
  have hvl : v.cells.toList = vs := by rw [hv]
  simp only [storeVar, Sem.run_bind, hi.sizeOf, Result.andThen_ok, hsz, ne_eq, not_true_eq_false, if_false, Sem.run_pure, hvl, h]
theorem Hp.setRow {w : World} (h : Hp I0 w0 L w) {k b : Nat} {o : Obj} {cur cs : Array Value} {t : TypeId} (hk : L[k]? = some (Blk b o)) (ho : o = .cells cur t (0, 0)) : Hp I0 w0 (L.set k (Blk b (.cells cs t (0, 0)))) (w.setRow b cs) := by
  subst ho
  have hb := h.blk k hk
  exact h.modify hk (setRow_heap w b cur cs t (0, 0) hb) (by simp [World.setRow]) (fun x hx => setRow_other w b x cs hx) rfl rfl rfl
/-- A store into an owned block. -/
theorem OV.store (k : Nat) {t te : TypeId} {ze : Value} {sz by_ b o : Nat} {cur : Array Value} (vs : List Value) (cs : Array Value) (hi : TI P t ze sz by_)
    (hx : ev E x = some (.pointer (some ⟨b, o, none⟩))) (hy : ev E y = some v) (hk : L[k]? = some (Blk b (.cells cur te (0, 0)))) (hv : v.cells = vs.toArray) (hl : vs.length = sz)
    (ho : o + vs.length ≤ cur.size) (h1 : ∀ v ∈ vs, v.oneCell' = true) (hcs : (cur.toList.take o ++ vs ++ cur.toList.drop (o + vs.length)).toArray = cs)
    (hg : Yes N ops ⟨none, .store t x y, ty, pos, af, g⟩ E)
    (kk : KV N KK E (Hp I0 w0 (L.set k (Blk b (.cells cs te (0, 0)))))) : OV P N ops Q ⟨none, .store t x y, ty, pos, af, g⟩ E (Hp I0 w0 L) KK := fun a w hf hs => by
  subst hcs
  rw [if_pos (hg a hf)]
  have hb := hs.blk k hk
  unfold Oper.wp
  have hrun := run_storeVar_at (P := P) (v := v) vs hi hv hl hb ho h1
  simp only [execOp, hf.ev hx, hf.ev hy, Instr.storeAt, Instr.sureAddr, Sem.run_bind, Sem.run_pure, Result.andThen_ok, hrun]
  exact kk _ _ (hf.put_none _) (hs.setRow hk rfl)
/-- A store into an element of an owned slice. -/
theorem OV.storeE (k m : Nat) (y' : α) {t : TypeId} {ze : Value} {by_ sz o j : Nat} (vs : List Value) (hi : TI P t ze sz by_)
    (hx : ev E x = some (.pointer (some ⟨bk A, o, none⟩))) (hy : ev E y = some v) (hk : L[k]? = some (OS e K A c ys)) (ho : o = of A + m * K.sz + j) (hv : v.cells = vs.toArray) (hl : vs.length = sz)
    (hlt : m < ys.length) (hf' : K.f y' = (K.f (ys.getD m K.d)).take j ++ vs ++ (K.f (ys.getD m K.d)).drop (j + vs.length)) (hj : j + vs.length ≤ K.sz)
    (hg : Yes N ops ⟨none, .store t x y, ty, pos, af, g⟩ E)
    (kk : KV N KK E (Hp I0 w0 (L.set k (OS e K A c (ys.set m y'))))) : OV P N ops Q ⟨none, .store t x y, ty, pos, af, g⟩ E (Hp I0 w0 L) KK := fun a w hf hs => by
  rw [if_pos (hg a hf)]
  obtain ⟨i, jj, hA, hL, hd, he, hi1, hj1⟩ := hs.at hk
  rcases hA with ⟨_, rfl, _⟩ | ⟨gb, cur, rfl, hI, hb, hle, hc, hsz, ht⟩
  · simp at hlt
  · have hlen : m * K.sz + K.sz ≤ ys.length * K.sz := by
      have : (m + 1) * K.sz ≤ ys.length * K.sz := Nat.mul_le_mul_right _ hlt
      rw [Nat.add_mul] at this; omega
    have hcap : ys.length * K.sz ≤ c * K.sz := Nat.mul_le_mul_right _ hle
    have ho' : o = m * K.sz + j := by rw [ho]; simp [of]
    have h1 : ∀ v ∈ vs, v.oneCell' = true := fun u hu => K.one y' u (by rw [hf']; simp [hu])
    have hrun := run_storeVar_at (P := P) (v := v) vs hi hv hl hb (o := o) (by omega) h1
    unfold Oper.wp
    have hx' := hf.ev hx
    simp only [bk] at hx'
    simp only [execOp, hx', hf.ev hy, Instr.storeAt, Instr.sureAddr, Sem.run_bind, Sem.run_pure, Result.andThen_ok, hrun]
    refine kk _ _ (hf.put_none _) ?_
    refine Hp.perm ?_ (perm_set _ hk)
    refine ⟨fun x => x = gb ∨ jj x, ⟨fun x => x = gb, jj, fun _ => Iff.rfl, fun x ex hxj => ?_, .inr ⟨gb, _, rfl, fun _ => Iff.rfl, setRow_heap w gb cur _ e (0, 0) hb, by simpa using hle, hc, ?_, ?_⟩, hL.keep fun x hxq => setRow_other w gb x _ ?_⟩, ⟨he.os, he.tape, he.output, by simpa using he.size, fun x hlt hn => ?_⟩, ?_⟩
    · subst ex; exact hd x ((hI x).2 rfl) hxj
    · simp only [List.size_toArray, List.length_append, List.length_take, List.length_drop, Array.length_toList]; omega
    · rw [List.length_set, flat_set K hlt, ← ht, hf', ho']
      apply List.ext_getElem?
      intro p
      have htl : cur.toList.length = c * K.sz := by simpa using hsz
      have hkl : (K.f (ys.getD m K.d)).length = K.sz := K.len _
      have hmid : ∀ q, q < K.sz → (K.f (ys.getD m K.d))[q]? = cur.toList[m * K.sz + q]? := fun q hq => by
        have hq' : (K.f (ys.getD m K.d))[q]? = some ((K.f (ys.getD m K.d))[q]'(by omega)) := List.getElem?_eq_getElem (by omega)
        have := flat_get K (getD_get hlt K.d) hq'
        rw [← ht, List.getElem?_take, if_pos (by omega)] at this
        rw [hq', this]
      simp only [List.getElem?_take, List.getElem?_append, List.length_append, List.length_take, List.length_drop, htl, hkl, List.getElem?_drop]
      have e1 : min (m * K.sz) (min (ys.length * K.sz) (c * K.sz)) = m * K.sz := by omega
      have e2 : min (m * K.sz + j) (c * K.sz) = m * K.sz + j := by omega
      have e3 : min j K.sz = j := by omega
      simp only [e1, e2, e3]
      by_cases p1 : p < m * K.sz
      · simp [p1, show p < ys.length * K.sz from by omega, show p < m * K.sz + j from by omega, show p < m * K.sz + j + vs.length from by omega, show p < m * K.sz + (j + vs.length + (K.sz - (j + vs.length))) from by omega]
      · by_cases p2 : p < m * K.sz + K.sz
        · have q1 : p < ys.length * K.sz := by omega
          have q2 : p < m * K.sz + (j + vs.length + (K.sz - (j + vs.length))) := by omega
          simp only [q1, q2, p1, if_true, if_false]
          by_cases p3 : p < m * K.sz + j
          · have r1 : p - m * K.sz < j := by omega
            have r2 : p - m * K.sz < j + vs.length := by omega
            simp only [p3, show p < m * K.sz + j + vs.length from by omega, r1, r2, if_true]
            rw [hmid _ (by omega)]
            congr 1; omega
          · by_cases p4 : p < m * K.sz + j + vs.length
            · have r1 : ¬ p - m * K.sz < j := by omega
              have r2 : p - m * K.sz < j + vs.length := by omega
              simp only [p3, p4, r1, r2, if_true, if_false]
              congr 1; omega
            · have r2 : ¬ p - m * K.sz < j + vs.length := by omega
              simp only [p4, r2, if_false]
              rw [hmid _ (by omega)]
              congr 1; omega
        · have q2 : ¬ p < m * K.sz + (j + vs.length + (K.sz - (j + vs.length))) := by omega
          have q4 : ¬ p < m * K.sz + j + vs.length := by omega
          by_cases q1 : p < ys.length * K.sz
          · simp only [q1, q2, q4, if_true, if_false]
            rw [if_pos (by omega)]
            congr 1; omega
          · simp only [q1, q2, if_false]
            rw [if_neg (by omega)]
    · rintro rfl; exact hd x ((hI x).2 rfl) hxq
    · have hne : x ≠ gb := by
        rintro rfl
        rcases hi1 x ((hI x).2 rfl) with h' | h'
        · exact hn h'
        · omega
      rw [setRow_other w gb x _ hne, he.block x hlt hn]
    · rintro x (rfl | hx)
      · exact hi1 x ((hI x).2 rfl)
      · exact hj1 x hx
end
end Go.Sv
