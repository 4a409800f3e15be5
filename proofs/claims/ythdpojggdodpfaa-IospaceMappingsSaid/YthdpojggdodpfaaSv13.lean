/-
  Slices changed in place: copy within the capacity, append within it, clear behind the end; overlaps; calls of functions without a body; cells of long blocks.
-/
import Derived.Test.YthdpojggdodpfaaSv9
import Derived.Test.YthdpojggdodpfaaSv12
import Derived.Lib.Overlaps
import Derived.Laws.Externs
set_option linter.unusedSimpArgs false
set_option linter.unusedVariables false
namespace Go.Sv
section
variable {P : Program} {N : Nat} {Q : Exit → Act → World → Prop} {E : Env} {S : World → Prop} {ops : Array Oper}
variable {dd : Option Nat} {ty : TypeId} {pos : String} {af : Array Edge} {g : Option (Nat × Bool)} {x y z : Operand} {KK : Act → World → Prop}
variable {I0 : Ids} {w0 : World} {L : List Assn} {α : Type} {K : Enc α} {A B : Option Addr} {ys zs : List α} {e t : TypeId} {c : Nat}
theorem flat_take_eq {cur : List Value} (ht : cur.take (ys.length * K.sz) = flat K ys) {l : Nat} (hl : l ≤ ys.length) : flat K (ys.take l) = cur.take (l * K.sz) := by
  have e2 : flat K ys = flat K (ys.take l) ++ flat K (ys.drop l) := by rw [← flat_append, List.take_append_drop]
  have e3 : (flat K (ys.take l)).length = l * K.sz := by rw [flat_length, List.length_take, Nat.min_eq_left hl]
  have e4 : (flat K ys).take (l * K.sz) = flat K (ys.take l) := by rw [e2, List.take_append_of_le_length (by omega), List.take_of_length_le (by omega)]
  have e5 : l * K.sz ≤ ys.length * K.sz := Nat.mul_le_mul_right _ hl
  rw [← e4, ← ht, List.take_take, Nat.min_eq_left e5]
theorem flat_drop_eq {cur : List Value} (ht : cur.take (ys.length * K.sz) = flat K ys) (l : Nat) : flat K (ys.drop l) = (cur.drop (l * K.sz)).take (ys.length * K.sz - l * K.sz) := by
  by_cases hl : l ≤ ys.length
  · have e2 : flat K ys = flat K (ys.take l) ++ flat K (ys.drop l) := by rw [← flat_append, List.take_append_drop]
    have e3 : (flat K (ys.take l)).length = l * K.sz := by rw [flat_length, List.length_take, Nat.min_eq_left hl]
    have e4 : (flat K ys).drop (l * K.sz) = flat K (ys.drop l) := by rw [e2, List.drop_append_of_le_length (by omega), List.drop_of_length_le (by omega), List.nil_append]
    rw [← e4, ← ht, List.drop_take]
  · have : ys.length * K.sz ≤ l * K.sz := Nat.mul_le_mul_right _ (by omega)
    rw [List.drop_of_length_le (by omega), Nat.sub_eq_zero_of_le this]; simp [flat]
/-- Elements vs written over an owned row from element l on. -/
theorem OS.over {w : World} {gb : Nat} {cur : Array Value} {l q : Nat} (hle : ys.length ≤ c) (hc : c ≤ maxLen) (hsz : cur.size = c * K.sz) (ht : cur.toList.take (ys.length * K.sz) = flat K ys)
    (hb : w.heap[gb]? = some (.cells cur e (0, 0))) (hl : l ≤ ys.length) (hq : q = zs.length) (hlq : l + q ≤ c) :
    (OS e K (some ⟨gb, 0, none⟩) c (ys.take l ++ zs ++ ys.drop (l + q))).sat (w.setRow gb (cur.toList.take (l * K.sz) ++ flat K zs ++ cur.toList.drop (l * K.sz + (flat K zs).length)).toArray) (fun x => x = gb) := by
  have hfl : (flat K zs).length = q * K.sz := by rw [flat_length, hq]
  have hadd : (l + q) * K.sz = l * K.sz + q * K.sz := Nat.add_mul _ _ _
  have hmul : (l + q) * K.sz ≤ c * K.sz := Nat.mul_le_mul_right _ hlq
  have htl : cur.toList.length = c * K.sz := by simpa using hsz
  have hyl : (ys.take l ++ zs ++ ys.drop (l + q)).length = l + q + (ys.length - (l + q)) := by
    simp only [List.length_append, List.length_take, List.length_drop, ← hq]; omega
  refine .inr ⟨gb, _, rfl, fun _ => Iff.rfl, setRow_heap w gb cur _ e (0, 0) hb, by rw [hyl]; omega, hc, ?_, ?_⟩
  · simp only [List.size_toArray, List.length_append, List.length_take, List.length_drop, Array.length_toList, hfl, hsz]; omega
  · have f1 := flat_take_eq (K := K) ht hl
    have f2 := flat_drop_eq (K := K) ht (l + q)
    have g1 : (cur.toList.take (l * K.sz)).length = l * K.sz := by rw [List.length_take, htl]; omega
    have hN : (l + q + (ys.length - (l + q))) * K.sz = l * K.sz + q * K.sz + (ys.length * K.sz - (l + q) * K.sz) := by
      rw [Nat.add_mul, Nat.add_mul, Nat.sub_mul, Nat.add_mul]
    rw [hyl, flat_append, flat_append, f1, f2, hfl, hN]
    simp only [List.take_append, List.length_append, g1, hfl]
    rw [List.take_of_length_le (l := cur.toList.take (l * K.sz)) (by rw [g1]; omega), List.take_of_length_le (l := flat K zs) (by rw [hfl]; omega), hadd]
    congr 2
    omega
theorem shA_some {gb l : Nat} (h : ¬ c = l) : shA (some ⟨gb, 0, none⟩) l K.sz c = some ⟨gb, l * K.sz, none⟩ := by
  rw [shA, if_neg h]
  by_cases h0 : l * K.sz = 0
  · simp [Addr.add, h0]
  · simp [Addr.add, h0]
theorem over_ext {w : World} {gb : Nat} {cs : Array Value} {i : Ids} (h : (OS e K (some ⟨gb, 0, none⟩) c ys).sat w i) : (∀ x, x = gb → i x ∨ w.heap.size ≤ x) ∧ Ext i w (w.setRow gb cs) := by
  have hig : i gb := by
    rcases h with ⟨h0, _⟩ | ⟨g2, cur2, h0, hI2, _⟩
    · cases h0
    · injection h0 with h0; injection h0 with h0
      subst h0; exact (hI2 _).2 rfl
  refine ⟨fun x hx => .inl (hx ▸ hig), rfl, rfl, rfl, by simp [World.setRow], fun x hx hn => setRow_other w gb x _ ?_⟩
  rintro rfl; exact hn hig
/-- copy into a part of an owned slice, within its capacity. -/
theorem OV.copyX (k l : Nat) {d : Nat} {ze : Value} {by_ n m cA cB : Nat} {t2 : TypeId} (hu : P.underlying t = some (.slice e)) (hi : TI P e ze K.sz by_) (hk : L[k]? = some (OS e K A c ys))
    (hx : ev E x = some (.slice (shA A l K.sz c) n cA)) (hy : ev E y = some (.slice B m cB)) (hl : l ≤ ys.length) (hn : l + n ≤ c) (hm : min m n ≤ zs.length) (hr : ∀ w, Hp I0 w0 L w → RS w K B zs)
    (hg : Yes N ops ⟨some d, .call ⟨.builtin .copy, #[x, y], #[t, t2]⟩, ty, pos, af, g⟩ E) (hN : Nat.blt d N = true)
    (kk : KV N KK (set E d (.int .i64 (min m n : Nat))) (Hp I0 w0 (L.set k (OS e K A c (ys.take l ++ zs.take (min m n) ++ ys.drop (l + min m n)))))) :
    OV P N ops Q ⟨some d, .call ⟨.builtin .copy, #[x, y], #[t, t2]⟩, ty, pos, af, g⟩ E (Hp I0 w0 L) KK := fun a w hf hs => by
  obtain ⟨q, hq⟩ : ∃ q, q = min m n := ⟨_, rfl⟩
  rw [← hq] at kk hm
  have hcells := firstCells_run (P := P) (hr w hs) q hm m cB
  have hql : (zs.take q).length = q := by rw [List.length_take]; omega
  have hqe : Nat.min m n = q := hq.symm
  obtain ⟨i, jj, hA, _⟩ := hs.at hk
  have key : ∃ w', (Builtin.copy_ #[t, t2] ty #[.slice (shA A l K.sz c) n cA, .slice B m cB]).run P w = .ok (goInt q) w' ∧
      ∀ i, (OS e K A c ys).sat w i → ∃ i' : Ids, (OS e K A c (ys.take l ++ zs.take q ++ ys.drop (l + q))).sat w' i' ∧ (∀ x, i' x → i x ∨ w.heap.size ≤ x) ∧ Ext i w w' := by
    by_cases hq0 : q = 0
    · refine ⟨w, ?_, fun i hi => ⟨i, ?_, fun _ h => .inl h, Ext.refl _ _⟩⟩
      · subst hq0
        have e0 : (flat K (zs.take 0)).toArray = #[] := by simp [flat]
        rw [e0] at hcells
        cases hsh : shA A l K.sz c <;> simp [Builtin.copy_, run_underlying hu, hi.sizeOf, Builtin.lenOf, hqe, hcells, storeCells]
      · rw [hq0]; simpa using hi
    · rcases hA with ⟨_, _, rfl, _⟩ | ⟨gb, cur, rfl, hI, hb, hle, hc, hsz, ht⟩
      · exfalso; omega
      · have hmul : (l + q) * K.sz ≤ c * K.sz := Nat.mul_le_mul_right _ (by omega)
        have hadd : (l + q) * K.sz = l * K.sz + q * K.sz := Nat.add_mul _ _ _
        have hfl : (flat K (zs.take q)).length = q * K.sz := by rw [flat_length, hql]
        have hst := run_storeCells_at P gb (l * K.sz) e (flat K (zs.take q)) 0 cur w hb (by rw [hfl, hsz]; omega) (flat_one K _)
        simp only [Nat.add_zero] at hst
        refine ⟨_, ?_, fun i hi2 => ⟨_, OS.over hle hc hsz ht hb hl hql.symm (by omega), (over_ext (cs := #[]) hi2).1, (over_ext hi2).2⟩⟩
        rw [shA_some (K := K) (show ¬ c = l by omega)]
        simp [Builtin.copy_, run_underlying hu, hi.sizeOf, Builtin.lenOf, hqe, hcells, hst]
  obtain ⟨w', hrun, hup⟩ := key
  refine OV.run (hg a hf) (v := goInt q) (w' := w') ?_ (kk _ _ (hf.put _ hN) (hs.update hk hup))
  simp only [execOp, resolve, invoke, builtin, Sem.run_bind, Sem.run_pure, Result.andThen_ok, List.map_toArray, List.map_cons, List.map_nil, hf.ev hx, hf.ev hy, hrun]
/-- append onto the first i elements of an owned slice, within its capacity. -/
theorem OV.appendIn (k : Nat) {d : Nat} {ze : Value} {by_ i m cB : Nat} (hu : P.underlying t = some (.slice e)) (hi : TI P e ze K.sz by_) (hk : L[k]? = some (OS e K A c ys))
    (hx : ev E x = some (.slice A i c)) (hy : ev E y = some (.slice B m cB)) (hil : i ≤ ys.length) (hm : m = zs.length) (hfit : i + m ≤ c) (hr : ∀ w, Hp I0 w0 L w → RS w K B zs)
    (hg : Yes N ops ⟨some d, .call ⟨.builtin .append, #[x, y], #[t, t]⟩, ty, pos, af, g⟩ E) (hN : Nat.blt d N = true)
    (kk : KV N KK (set E d (.slice A (i + m) c)) (Hp I0 w0 (L.set k (OS e K A c (ys.take i ++ zs))))) :
    OV P N ops Q ⟨some d, .call ⟨.builtin .append, #[x, y], #[t, t]⟩, ty, pos, af, g⟩ E (Hp I0 w0 L) KK := fun a w hf hs => by
  subst hm
  have hcells := firstCells_run (P := P) (hr w hs) zs.length (Nat.le_refl _) zs.length cB
  rw [List.take_length] at hcells
  obtain ⟨i0, jj, hA, _⟩ := hs.at hk
  have key : ∃ w', (Builtin.append_ #[t, t] ty #[.slice A i c, .slice B zs.length cB]).run P w = .ok (.slice A (i + zs.length) c) w' ∧
      ∀ i0, (OS e K A c ys).sat w i0 → ∃ i' : Ids, (OS e K A c (ys.take i ++ zs)).sat w' i' ∧ (∀ x, i' x → i0 x ∨ w.heap.size ≤ x) ∧ Ext i0 w w' := by
    rcases hA with ⟨rfl, rfl, rfl, _⟩ | ⟨gb, cur, rfl, hI, hb, hle, hc, hsz, ht⟩
    · have hz : zs = [] := List.eq_nil_of_length_eq_zero (by omega)
      subst hz
      have h0 : i = 0 := by omega
      subst h0
      refine ⟨w, ?_, fun i0 hi0 => ⟨i0, by simpa using hi0, fun _ h => .inl h, Ext.refl _ _⟩⟩
      simp only [flat, List.flatMap_nil] at hcells
      simp [Builtin.append_, run_underlying hu, hi.sizeOf, Builtin.lenOf]
      rw [show (Builtin.firstCells K.sz 0 (.slice B 0 cB)).run P w = .ok #[] w from hcells]
      simp
    · have hmul : (i + zs.length) * K.sz ≤ c * K.sz := Nat.mul_le_mul_right _ hfit
      have hadd : (i + zs.length) * K.sz = i * K.sz + zs.length * K.sz := Nat.add_mul _ _ _
      have hfl : (flat K zs).length = zs.length * K.sz := flat_length K zs
      have hst := run_storeCells_at P gb (i * K.sz) e (flat K zs) 0 cur w hb (by rw [hfl, hsz]; omega) (flat_one K _)
      simp only [Nat.add_zero] at hst
      have hle2 : (ys.take i).length ≤ c := by rw [List.length_take]; omega
      have ht2 : cur.toList.take ((ys.take i).length * K.sz) = flat K (ys.take i) := by
        rw [flat_take_eq (K := K) ht hil, List.length_take, Nat.min_eq_left hil]
      have hov := OS.over (K := K) (e := e) (zs := zs) (l := i) (q := zs.length) hle2 hc hsz ht2 hb (by rw [List.length_take]; omega) rfl hfit
      have e1 : (ys.take i).take i ++ zs ++ (ys.take i).drop (i + zs.length) = ys.take i ++ zs := by
        rw [List.take_take, Nat.min_self, List.drop_of_length_le (by rw [List.length_take]; omega), List.append_nil]
      rw [e1] at hov
      refine ⟨_, ?_, fun i0 hi2 => ⟨_, hov, (over_ext (cs := #[]) hi2).1, (over_ext hi2).2⟩⟩
      have e2 : (Addr.mk gb 0 none).add (i * K.sz) = ⟨gb, i * K.sz, none⟩ := by
        by_cases h0 : i * K.sz = 0
        · simp [Addr.add, h0]
        · simp [Addr.add, h0]
      simp [Builtin.append_, run_underlying hu, hi.sizeOf, Builtin.lenOf, hcells, hfit, e2, hst]
  obtain ⟨w', hrun, hup⟩ := key
  refine OV.run (hg a hf) (v := .slice A (i + zs.length) c) (w' := w') ?_ (kk _ _ (hf.put _ hN) (hs.update hk hup))
  simp only [execOp, resolve, invoke, builtin, Sem.run_bind, Sem.run_pure, Result.andThen_ok, List.map_toArray, List.map_cons, List.map_nil, hf.ev hx, hf.ev hy, hrun]
theorem Step.sliceLH {ze : Value} {sz by_ n : Nat} {k k2 : IntKind} {i j : Int} (hu : P.underlying t = some (.slice e)) (hi : TI P e ze sz by_) (hx : ev E x = some (.slice A n c)) (hy : ev E y = some (.int k i)) (hz : ev E z = some (.int k2 j)) (l h : Nat) (hl : i = (l : Int)) (hh : j = (h : Int)) (hle : l ≤ h) (hle2 : h ≤ c) :
    Step P N E S ⟨dd, .slice t x (some y) (some z) none, ty, pos, af, g⟩ (.slice (shA A l sz c) (h - l) (c - l)) := fun a w hf _ => by
  subst hl; subst hh
  simp [execOp, Instr.sliceAt, Instr.slice, hf.ev hx, hf.ev hy, hf.ev hz, run_underlying hu, Instr.sliceBounds, Instr.sliceBound, asIntOf, hle, hle2, hi.sizeOf, shA]
theorem Step.slice3 {ze : Value} {sz by_ n : Nat} {k k2 k3 : IntKind} {i j m : Int} {u : Operand} (hu : P.underlying t = some (.slice e)) (hi : TI P e ze sz by_) (hx : ev E x = some (.slice A n c)) (hy : ev E y = some (.int k i)) (hz : ev E z = some (.int k2 j)) (hv : ev E u = some (.int k3 m)) (l h q : Nat) (hl : i = (l : Int)) (hh : j = (h : Int)) (hq : m = (q : Int)) (hle : l ≤ h) (hle2 : h ≤ q) (hle3 : q ≤ c) :
    Step P N E S ⟨dd, .slice t x (some y) (some z) (some u), ty, pos, af, g⟩ (.slice (shA A l sz q) (h - l) (q - l)) := fun a w hf _ => by
  subst hl; subst hh; subst hq
  simp [execOp, Instr.sliceAt, Instr.slice, hf.ev hx, hf.ev hy, hf.ev hz, hf.ev hv, run_underlying hu, Instr.sliceBounds, Instr.sliceBound, asIntOf, hle, hle2, hle3, hi.sizeOf, shA]
theorem set_self {β : Type} : ∀ {L : List β} {k : Nat} {a : β}, L[k]? = some a → L.set k a = L
  | [], _, _, _ => rfl
  | b :: L, 0, a, h => by simp at h; subst h; rfl
  | b :: L, k + 1, a, h => by simp only [List.getElem?_cons_succ] at h; simp only [List.set_cons_succ, set_self h]
/-- clear of elements behind the end of an owned slice, within its capacity. -/
theorem OV.clearTail (k l : Nat) {dst : Option Nat} {ze : Value} {by_ n cA : Nat} (hu : P.underlying t = some (.slice e)) (hi : TI P e ze K.sz by_) (hze : ze.cells.size = K.sz) (h1 : ∀ v ∈ ze.cells.toList, v.oneCell' = true) (hk : L[k]? = some (OS e K A c ys))
    (hx : ev E x = some (.slice (shA A l K.sz c) n cA)) (hl : ys.length ≤ l) (hn : l + n ≤ c)
    (hg : Yes N ops ⟨dst, .call ⟨.builtin .clear, #[x], #[t]⟩, ty, pos, af, g⟩ E)
    (kk : ∀ a w, Fits N a E → Hp I0 w0 L w → KK (a.put dst (.tuple #[])) w) :
    OV P N ops Q ⟨dst, .call ⟨.builtin .clear, #[x], #[t]⟩, ty, pos, af, g⟩ E (Hp I0 w0 L) KK := fun a w hf hs => by
  obtain ⟨i0, jj, hA, _⟩ := hs.at hk
  have key : ∃ w', (Builtin.clear_ #[t] ty #[.slice (shA A l K.sz c) n cA]).run P w = .ok (.tuple #[]) w' ∧
      ∀ i0, (OS e K A c ys).sat w i0 → ∃ i' : Ids, (OS e K A c ys).sat w' i' ∧ (∀ x, i' x → i0 x ∨ w.heap.size ≤ x) ∧ Ext i0 w w' := by
    by_cases hn0 : n = 0
    · subst hn0
      refine ⟨w, ?_, fun i0 hi0 => ⟨i0, hi0, fun _ h => .inl h, Ext.refl _ _⟩⟩
      cases hsh : shA A l K.sz c <;> simp [Builtin.clear_, run_underlying hu]
    · rcases hA with ⟨rfl, rfl, rfl, _⟩ | ⟨gb, cur, rfl, hI, hb, hle, hc, hsz, ht⟩
      · exfalso; omega
      · have hmul : (l + n) * K.sz ≤ c * K.sz := Nat.mul_le_mul_right _ hn
        have hadd : (l + n) * K.sz = l * K.sz + n * K.sz := Nat.add_mul _ _ _
        have hmul2 : ys.length * K.sz ≤ l * K.sz := Nat.mul_le_mul_right _ hl
        have hzl : (Builtin.zeroCells ze.cells n).toList.length = n * K.sz := by rw [Array.length_toList, zeroCells_made, size_madeCells, hze]
        have hz1 : ∀ v ∈ (Builtin.zeroCells ze.cells n).toList, v.oneCell' = true := by
          intro v hv
          simp only [Builtin.zeroCells, Array.toList_map, List.mem_map] at hv
          obtain ⟨j, hj, rfl⟩ := hv
          have hpos : 0 < ze.cells.size := by rw [hze]; exact K.pos
          have hjm : j % ze.cells.size < ze.cells.size := Nat.mod_lt _ hpos
          rw [getElem!_pos ze.cells (j % ze.cells.size) hjm]
          exact h1 _ (by simp)
        have hst := run_storeCells_at P gb (l * K.sz) e (Builtin.zeroCells ze.cells n).toList 0 cur w hb (by rw [hzl, hsz]; omega) hz1
        simp only [Nat.add_zero] at hst
        refine ⟨w.setRow gb (cur.toList.take (l * K.sz) ++ (Builtin.zeroCells ze.cells n).toList ++ cur.toList.drop (l * K.sz + (Builtin.zeroCells ze.cells n).toList.length)).toArray, ?_, fun i0 hi2 => ⟨fun x => x = gb, .inr ⟨gb, _, rfl, fun _ => Iff.rfl, setRow_heap w gb cur _ e (0, 0) hb, hle, hc, ?_, ?_⟩, (over_ext (cs := #[]) hi2).1, (over_ext hi2).2⟩⟩
        · rw [shA_some (K := K) (show ¬ c = l by omega)]
          cases n with
          | zero => exact absurd rfl hn0
          | succ n => simp [Builtin.clear_, run_underlying hu, hi.zeroValue, hst]
        · simp only [List.size_toArray, List.length_append, List.length_take, List.length_drop, hzl, Array.length_toList, hsz]; omega
        · have htl : cur.toList.length = c * K.sz := by simpa using hsz
          rw [← ht]
          simp only [List.append_assoc]
          rw [List.take_append_of_le_length (by rw [List.length_take, htl]; omega), List.take_take, Nat.min_eq_left hmul2]
  obtain ⟨w', hrun, hup⟩ := key
  refine OV.run (hg a hf) (v := .tuple #[]) (w' := w') ?_ (kk _ _ hf ?_)
  · simp only [execOp, resolve, invoke, builtin, Sem.run_bind, Sem.run_pure, Result.andThen_ok, List.map_toArray, List.map_cons, List.map_nil, hf.ev hx, hrun]
  · have := hs.update hk hup
    rwa [set_self hk] at this
/-- A call of a function without a body, by what it yields. -/
theorem Step.callX {f : FuncId} {vs : List Value} {v : Value} {args : List Operand} {ts : Array TypeId} (ha : evs E args = some vs) (h : ∀ w, S w → (callFunc f vs.toArray).run P w = .ok (.value v) w) :
    Step P N E S ⟨dd, .call ⟨.value (.func f), args.toArray, ts⟩, ty, pos, af, g⟩ v := fun a w hf hs => by
  have hv : a.eval (.func f) = .func (.func f) #[] #[] := rfl
  have hm : args.toArray.map a.eval = vs.toArray := by rw [← hf.evs ha]; simp
  have := h w hs
  simp [execOp, resolve, invoke, hv, hm, Deferred.ofValue, this]
end
end Go.Sv
