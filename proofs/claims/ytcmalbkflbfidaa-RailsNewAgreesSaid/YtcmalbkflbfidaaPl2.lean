/-
  Plain: what a call of Acquire or Release does to the counts, the completion times and the operations.
-/
import Derived.Test.YtcmalbkflbfidaaPl1
set_option linter.unusedSimpArgs false
set_option linter.unusedVariables false
namespace Go.Rails
open Go.Sv
theorem setC_c {st : St} {i : Nat} {x : Int} (h : i < st.count.length) : (st.setC i x).c i = x := getD_set_self _ _ _ _ h
theorem setC_c' {st : St} {i j : Nat} {x : Int} (h : i ≠ j) : (st.setC i x).c j = st.c j := getD_set_other _ _ _ h
theorem setD_t {st : St} {i : Nat} {x : Int} (h : i < st.done.length) : (st.setD i x).t i = x := getD_set_self _ _ _ _ h
theorem setD_t' {st : St} {i j : Nat} {x : Int} (h : i ≠ j) : (st.setD i x).t j = st.t j := getD_set_other _ _ _ h
/-- What is on, and when each rail's last operation is complete. -/
abbrev Sg := List Bool × List Int
def St.sg (st : St) : Sg := (st.count.map fun c => decide (0 < c), st.done)
def stp (σ : Sg) (o : ROp) : Sg := (σ.1.set o.rail.toNat o.on, σ.2.set o.rail.toNat o.done)
def OkOp (s : List Rail) (σ : Sg) (o : ROp) : Prop :=
  ∃ i : Nat, o.rail = i ∧ i < s.length ∧ σ.1.getD i false ≠ o.on ∧ σ.2.getD i 0 ≤ o.start ∧
    (0 ≤ o.start ∧ o.done = o.start + (if o.on then (s.getD i railK.d).up else (s.getD i railK.d).down) ∧ o.done ≤ 18446744073709551615) ∧
    (o.on = true → ∀ p : Nat, sp s i = p → σ.1.getD p false = true ∧ σ.2.getD p 0 ≤ o.start) ∧
    (o.on = false → ∀ k, k < s.length → sp s k = i → σ.1.getD k false = false ∧ σ.2.getD k 0 ≤ o.start)
def Tr (s : List Rail) : Sg → List ROp → Sg → Prop
  | σ, [], τ => σ = τ
  | σ, o :: r, τ => OkOp s σ o ∧ Tr s (stp σ o) r τ
theorem Tr.append {s : List Rail} : ∀ {a b : List ROp} {σ τ υ : Sg}, Tr s σ a τ → Tr s τ b υ → Tr s σ (a ++ b) υ
  | [], _, _, _, _, h1, h2 => by cases h1; exact h2
  | _ :: _, _, _, _, _, h1, h2 => ⟨h1.1, Tr.append h1.2 h2⟩
theorem Tr.one {s : List Rail} {σ τ : Sg} {o : ROp} (h : OkOp s σ o) (e : stp σ o = τ) : Tr s σ [o] τ := ⟨h, e⟩
theorem sg_on {st : St} {j : Nat} : st.sg.1.getD j false = decide (0 < st.c j) := by
  simp only [St.sg, St.c, List.getD, List.getElem?_map]
  rcases Option.eq_none_or_eq_some (st.count[j]?) with h | ⟨x, h⟩ <;> simp [h]
theorem map_set_same {l : List Int} {i : Nat} {v : Int} (h : 0 < v ↔ 0 < l.getD i 0) : (l.set i v).map (fun c => decide (0 < c)) = l.map (fun c => decide (0 < c)) := by
  apply List.ext_getElem (by simp)
  intro k h1 h2
  simp only [List.length_map, List.length_set] at h1
  simp only [List.getElem_map, List.getElem_set]
  by_cases e : i = k
  · subst e; rw [if_pos rfl]; simp only [List.getD, List.getElem?_eq_getElem h1, Option.getD_some] at h; simp [h]
  · rw [if_neg e]
structure Good (s : List Rail) (rk : Nat → Nat) : Prop where
  len : s.length ≤ 8
  fine : ∀ i, i < s.length → -1 ≤ sp s i ∧ sp s i < s.length
  ramp : ∀ i, i < s.length → (0 ≤ (s.getD i railK.d).up ∧ (s.getD i railK.d).up < 20) ∧ 0 ≤ (s.getD i railK.d).down ∧ (s.getD i railK.d).down < 20
  acy : Acy s rk
  rank : ∀ i, i < s.length → rk i < s.length
def St.own (st : St) (j : Nat) : Int := st.c j - heldM st j st.rails.length
structure Inv (s : List Rail) (T : Int) (st : St) : Prop where
  rails : st.rails = s
  wf : st.wf
  own : ∀ j, j < s.length → 0 ≤ st.own j
  tm : ∀ j, j < s.length → 0 ≤ st.t j ∧ st.t j ≤ T
  ord : ∀ k, k < s.length → 0 < st.c k → ∀ p : Nat, sp s k = p → st.t p ≤ st.t k
theorem held_same {st st' : St} (hr : st'.rails = st.rails) (i : Int) : ∀ k, (∀ j, j < k → (0 < st'.c j ↔ 0 < st.c j)) → heldM st' i k = heldM st i k
  | 0, _ => rfl
  | k + 1, h => by
    have e : st'.r k = st.r k := by unfold St.r; rw [hr]
    simp only [heldM, held_same hr i k fun j hj => h j (by omega), e, h k (by omega)]
theorem ite_iff {p q : Prop} [Decidable p] [Decidable q] (h : p ↔ q) (a b : Int) : (if p then a else b) = if q then a else b := by
  by_cases hq : q
  · rw [if_pos hq, if_pos (h.2 hq)]
  · rw [if_neg hq, if_neg (fun x => hq (h.1 x))]
theorem held_up {st st' : St} (hr : st'.rails = st.rails) (x : Nat) (h0 : ¬ 0 < st.c x) (h1 : 0 < st'.c x) (i : Int) : ∀ k, (∀ j, j < k → j ≠ x → (0 < st'.c j ↔ 0 < st.c j)) → heldM st' i k = heldM st i k + if x < k ∧ (st.r x).supply = i then 1 else 0
  | 0, _ => by simp [heldM]
  | k + 1, h => by
    have e : st'.r k = st.r k := by unfold St.r; rw [hr]
    have ih := held_up hr x h0 h1 i k fun j hj => h j (by omega)
    simp only [heldM, ih, e]
    by_cases hx : k = x
    · subst hx
      rw [if_neg (c := k < k ∧ _) (by omega), if_neg (c := _ ∧ 0 < st.c k) (by omega)]
      by_cases hq : (st.r k).supply = i
      · rw [if_pos ⟨hq, h1⟩, if_pos ⟨by omega, hq⟩]; omega
      · rw [if_neg (fun z => hq z.1), if_neg (fun z => hq z.2)]
    · have hk := h k (by omega) hx
      rw [ite_iff (p := x < k + 1 ∧ (st.r x).supply = i) (q := x < k ∧ (st.r x).supply = i) (by constructor <;> intro z <;> exact ⟨by omega, z.2⟩)]
      simp only [hk]
      split <;> omega
theorem held_mono (st : St) (i : Int) (k : Nat) : heldM st i k ≤ heldM st i (k + 1) := by simp only [heldM]; split <;> omega
theorem held_zero {st : St} {i : Int} : ∀ {k : Nat}, heldM st i k ≤ 0 → ∀ j, j < k → (st.r j).supply = i → ¬ 0 < st.c j
  | 0, _, _, hj, _ => by omega
  | k + 1, h, j, hj, hs => by
    by_cases e : j = k
    · subst e
      intro hc
      rw [heldM_pos hs hc] at h
      have := (heldM_le st i j).1
      omega
    · exact held_zero (Int.le_trans (held_mono st i k) h) j (by omega) hs
theorem Inv.rs {s : List Rail} {T : Int} {st : St} (I : Inv s T st) (i : Nat) : st.r i = s.getD i railK.d := by unfold St.r; rw [I.rails]
theorem Inv.cl {s : List Rail} {T : Int} {st : St} (I : Inv s T st) : st.count.length = s.length := by rw [I.wf.count, I.rails]
theorem Inv.dl {s : List Rail} {T : Int} {st : St} (I : Inv s T st) : st.done.length = s.length := by rw [I.wf.done, I.rails]
theorem Inv.c0 {s : List Rail} {T : Int} {st : St} (I : Inv s T st) {j : Nat} (hj : j < s.length) : 0 ≤ st.c j := by
  have h := I.own j hj
  unfold St.own at h
  have := (heldM_le st j st.rails.length).1
  omega
theorem Inv.fed {s : List Rail} {T : Int} {st : St} (I : Inv s T st) {i : Nat} (hi : i < s.length) (h : st.c i = 0 ∨ (st.c i = 1 ∧ 1 ≤ st.own i)) : ∀ k, k < s.length → sp s k = i → ¬ 0 < st.c k := by
  intro k hk hs
  have h1 := I.own i hi
  unfold St.own at h1 h
  rw [I.rails] at h1 h
  exact held_zero (i := (i : Int)) (k := s.length) (by omega) k hk (by rw [I.rs]; exact hs)
/-- A rail is switched on. -/
theorem switchOn {s : List Rail} {T U : Int} {st : St} {i : Nat} {dn : Int} (I : Inv s T st) (hi : i < s.length) (h0 : st.c i = 0) (hd : 0 ≤ dn) (hU : dn ≤ U) (hTU : T ≤ U) (hp : ∀ p : Nat, sp s i = p → p ≠ i ∧ p < s.length ∧ st.t p ≤ dn ∧ 1 ≤ st.own p) :
    Inv s U ((st.setD i dn).setC i 1) ∧ (∀ j, j < s.length → ((st.setD i dn).setC i 1).own j = st.own j + (if j = i then 1 else 0) - (if sp s i = j then 1 else 0)) := by
  have hcl := I.cl; have hdl := I.dl
  have hi1 : ((st.setD i dn).setC i 1).c i = 1 := setC_c (by show i < st.count.length; omega)
  have hi2 : ∀ j, j ≠ i → ((st.setD i dn).setC i 1).c j = st.c j := fun j h => setC_c' (st := st.setD i dn) (fun e => h e.symm)
  have ht1 : ((st.setD i dn).setC i 1).t i = dn := setD_t (by omega)
  have ht2 : ∀ j, j ≠ i → ((st.setD i dn).setC i 1).t j = st.t j := fun j h => setD_t' (st := st) (fun e => h e.symm)
  have hown : ∀ j, j < s.length → ((st.setD i dn).setC i 1).own j = st.own j + (if j = i then 1 else 0) - (if sp s i = j then 1 else 0) := by
    intro j hj
    unfold St.own
    have := held_up (st := st) (st' := (st.setD i dn).setC i 1) rfl i (by omega) (by omega) j st.rails.length (fun k _ hk => by rw [hi2 k hk])
    rw [show ((st.setD i dn).setC i 1).rails = st.rails from rfl, this]
    rw [ite_iff (p := i < st.rails.length ∧ (st.r i).supply = (j : Int)) (q := sp s i = (j : Int)) (by rw [I.rs, I.rails]; exact ⟨fun z => z.2, fun z => ⟨hi, z⟩⟩)]
    by_cases e : j = i
    · subst e; rw [hi1, h0, if_pos rfl]; omega
    · rw [hi2 j e, if_neg e]; omega
  refine ⟨⟨I.rails, setC_wf (setD_wf I.wf _ _) _ _, fun j hj => ?_, fun j hj => ?_, fun k hk hc p hs => ?_⟩, hown⟩
  · rw [hown j hj]
    have := I.own j hj
    by_cases e : sp s i = j
    · have := hp j e; rw [if_pos e]; split <;> omega
    · rw [if_neg e]; split <;> omega
  · by_cases e : j = i
    · subst e; rw [ht1]; omega
    · rw [ht2 j e]; have := I.tm j hj; omega
  · by_cases e : k = i
    · subst e
      have := hp p hs
      rw [ht1, ht2 p (by omega)]; omega
    · rw [hi2 k e] at hc
      by_cases e2 : p = i
      · subst e2; exact absurd hc (I.fed hi (.inl h0) k hk hs)
      · rw [ht2 k e, ht2 p e2]; exact I.ord k hk hc p hs
/-- A rail is switched off. -/
theorem switchOff {s : List Rail} {T U : Int} {st : St} {i : Nat} {dn : Int} (I : Inv s T st) (hi : i < s.length) (h0 : st.c i = 1) (ho : 1 ≤ st.own i) (hd : 0 ≤ dn) (hU : dn ≤ U) (hTU : T ≤ U) (hp : sp s i ≠ i) :
    Inv s U ((st.setC i 0).setD i dn) ∧ (∀ j, j < s.length → ((st.setC i 0).setD i dn).own j = st.own j - (if j = i then 1 else 0) + (if sp s i = j then 1 else 0)) := by
  have hcl := I.cl; have hdl := I.dl
  have hi1 : ((st.setC i 0).setD i dn).c i = 0 := setC_c (st := st) (by omega)
  have hi2 : ∀ j, j ≠ i → ((st.setC i 0).setD i dn).c j = st.c j := fun j h => setC_c' (st := st) (fun e => h e.symm)
  have ht1 : ((st.setC i 0).setD i dn).t i = dn := setD_t (st := st.setC i 0) (by show i < st.done.length; omega)
  have ht2 : ∀ j, j ≠ i → ((st.setC i 0).setD i dn).t j = st.t j := fun j h => setD_t' (st := st.setC i 0) (fun e => h e.symm)
  have hown : ∀ j, j < s.length → ((st.setC i 0).setD i dn).own j = st.own j - (if j = i then 1 else 0) + (if sp s i = j then 1 else 0) := by
    intro j hj
    unfold St.own
    have := held_up (st := (st.setC i 0).setD i dn) (st' := st) rfl i (by omega) (by omega) j st.rails.length (fun k _ hk => by rw [hi2 k hk])
    rw [show ((st.setC i 0).setD i dn).rails = st.rails from rfl, this]
    rw [show (((st.setC i 0).setD i dn).r i) = s.getD i railK.d from I.rs i]
    rw [ite_iff (p := i < st.rails.length ∧ (s.getD i railK.d).supply = (j : Int)) (q := sp s i = (j : Int)) (by rw [I.rails]; exact ⟨fun z => z.2, fun z => ⟨hi, z⟩⟩)]
    by_cases e : j = i
    · subst e; rw [hi1, h0, if_pos rfl]; omega
    · rw [hi2 j e, if_neg e]; omega
  refine ⟨⟨I.rails, setD_wf (setC_wf I.wf _ _) _ _, fun j hj => ?_, fun j hj => ?_, fun k hk hc p hs => ?_⟩, hown⟩
  · rw [hown j hj]
    have := I.own j hj
    by_cases e : j = i
    · subst e; rw [if_pos rfl, if_neg hp]; omega
    · rw [if_neg e]; split <;> omega
  · by_cases e : j = i
    · subst e; rw [ht1]; omega
    · rw [ht2 j e]; have := I.tm j hj; omega
  · by_cases e : k = i
    · subst e; omega
    · rw [hi2 k e] at hc
      by_cases e2 : p = i
      · subst e2; exact absurd hc (I.fed hi (.inr ⟨h0, ho⟩) k hk hs)
      · rw [ht2 k e, ht2 p e2]; exact I.ord k hk hc p hs
/-- A count changes and stays positive. -/
theorem recount {s : List Rail} {T : Int} {st : St} {i : Nat} {x : Int} (I : Inv s T st) (hi : i < s.length) (h0 : 0 < st.c i) (hx : 0 < x) (ho : 0 ≤ st.own i + x - st.c i) :
    Inv s T (st.setC i x) ∧ (∀ j, j < s.length → (st.setC i x).own j = st.own j + (if j = i then x - st.c i else 0)) ∧ (st.setC i x).sg = st.sg := by
  have hcl := I.cl; have hdl := I.dl
  have hi1 : (st.setC i x).c i = x := setC_c (by omega)
  have hi2 : ∀ j, j ≠ i → (st.setC i x).c j = st.c j := fun j h => setC_c' (fun e => h e.symm)
  have hpos : ∀ j, (0 < (st.setC i x).c j ↔ 0 < st.c j) := fun j => by
    by_cases e : j = i
    · subst e; rw [hi1]; omega
    · rw [hi2 j e]
  have hown : ∀ j, j < s.length → (st.setC i x).own j = st.own j + (if j = i then x - st.c i else 0) := by
    intro j hj
    unfold St.own
    rw [show (st.setC i x).rails = st.rails from rfl, held_same (st := st) (st' := st.setC i x) rfl j st.rails.length (fun k _ => hpos k)]
    by_cases e : j = i
    · subst e; rw [hi1, if_pos rfl]; omega
    · rw [hi2 j e, if_neg e]; omega
  refine ⟨⟨I.rails, setC_wf I.wf _ _, fun j hj => ?_, I.tm, fun k hk hc p hs => I.ord k hk ((hpos k).1 hc) p hs⟩, hown, ?_⟩
  · rw [hown j hj]; have := I.own j hj; split
    · next e => subst e; omega
    · omega
  · show (_, _) = (_, _)
    rw [show (st.setC i x).done = st.done from rfl]
    congr 1
    exact map_set_same (by unfold St.c at h0; omega)
theorem add_inv {s : List Rail} {rk : Nat → Nat} (G : Good s rk) {now : Int} (hnow : 0 ≤ now) : ∀ (f : Nat) (st : St) (i : Nat) (T : Int), Inv s T st → (∀ j, j < s.length → st.c j ≤ 1000000) → i < s.length → rk i < f → now ≤ T → T + 20 * f ≤ 9000000000000000000 →
    ∃ st' new, (∀ ops, addP f st i now ops = (st', ops ++ new)) ∧ Inv s (T + 20 * f) st' ∧ (∀ j, j < s.length → st'.own j = st.own j + if j = i then 1 else 0) ∧ 0 < st'.c i ∧ (∀ j, j < s.length → rk i < rk j → st'.c j = st.c j ∧ st'.t j = st.t j) ∧ Tr s st.sg new st'.sg ∧ ∀ o ∈ new, o.on = true
  | 0, _, _, _, _, _, _, h, _, _ => by omega
  | f + 1, st, i, T, I, hB, hi, hf, hT, hU => by
    have hcl := I.cl; have hdl := I.dl
    have hti := I.tm i hi
    have hup := (G.ramp i hi).1
    by_cases h : st.c i = 0
    · by_cases hs : 0 ≤ sp s i
      · obtain ⟨p, hp⟩ := Int.eq_ofNat_of_zero_le hs
        obtain ⟨hpn, hpr⟩ := G.acy i hi p hp
        obtain ⟨p1, new1, h1, I1, o1, c1, fr1, t1, n1⟩ := add_inv G hnow f st p T I hB hpn (by omega) hT (by omega)
        obtain ⟨fi1, fi2⟩ := fr1 i hi hpr
        have htp := I1.tm p hpn
        have hdl1 := I1.dl
        have hcl1 := I1.cl
        have hop := o1 p hpn
        rw [if_pos rfl] at hop
        have hop2 := I.own p hpn
        have hw : IntKind.u64.wrap (max (max now (st.t i)) (p1.t p) + (p1.r i).up) = max (max now (st.t i)) (p1.t p) + (s.getD i railK.d).up := by
          rw [I1.rs]; exact wU64 (by omega) (by omega)
        have hne : p ≠ i := fun e => by subst e; omega
        have sw := switchOn (U := T + 20 * (f + 1 : Nat)) (dn := max (max now (st.t i)) (p1.t p) + (s.getD i railK.d).up) I1 hi (by omega) (by omega) (by omega) (by omega) (fun q hq => by
          obtain rfl : q = p := by omega
          exact ⟨hne, hpn, by omega, by omega⟩)
        refine ⟨(p1.setD i (max (max now (st.t i)) (p1.t p) + (s.getD i railK.d).up)).setC i 1, new1 ++ [⟨i, true, max (max now (st.t i)) (p1.t p), max (max now (st.t i)) (p1.t p) + (s.getD i railK.d).up⟩], fun ops => ?_, sw.1, fun j hj => ?_, ?_, fun j hj hr => ?_, ?_, ?_⟩
        · rw [addP_sup h (by rw [I.rs]; exact hp) (h1 ops), hw]
          rw [show (p1.setD i (max (max now (st.t i)) (p1.t p) + (s.getD i railK.d).up)).c i = 0 from by show p1.c i = 0; omega, List.append_assoc]
          rfl
        · rw [sw.2 j hj, o1 j hj]
          by_cases e : j = p
          · subst e; rw [if_pos rfl, if_pos hp]; omega
          · rw [if_neg e, if_neg (c := sp s i = _) (by omega)]; omega
        · rw [setC_c (by show i < p1.count.length; omega)]; omega
        · have hji : i ≠ j := fun e => by subst e; omega
          have := fr1 j hj (by omega)
          exact ⟨(setC_c' hji).trans this.1, (setD_t' (st := p1) hji).trans this.2⟩
        · refine Tr.append t1 (Tr.one ⟨i, rfl, hi, ?_, ?_, ⟨by simp only []; omega, rfl, by simp only []; omega⟩, fun _ q hq => ?_, fun hc => by cases hc⟩ ?_)
          · rw [sg_on]; simp [fi1, h]
          · show p1.t i ≤ _; rw [fi2]; simp only []; omega
          · obtain rfl : q = p := by omega
            rw [sg_on]; exact ⟨by simpa using c1, by show p1.t q ≤ _; simp only []; omega⟩
          · simp [stp, St.sg, St.setC, St.setD, List.map_set]
        · intro o ho
          rcases List.mem_append.1 ho with ho | ho
          · exact n1 o ho
          · simp at ho; subst ho; rfl
      · have hw : IntKind.u64.wrap (max now (st.t i) + (st.r i).up) = max now (st.t i) + (s.getD i railK.d).up := by
          rw [I.rs]; exact wU64 (by omega) (by omega)
        have sw := switchOn (U := T + 20 * (f + 1 : Nat)) (dn := max now (st.t i) + (s.getD i railK.d).up) I hi h (by omega) (by omega) (by omega) (fun q hq => by omega)
        refine ⟨(st.setD i (max now (st.t i) + (s.getD i railK.d).up)).setC i 1, [⟨i, true, max now (st.t i), max now (st.t i) + (s.getD i railK.d).up⟩], fun ops => ?_, sw.1, fun j hj => ?_, ?_, fun j hj hr => ?_, ?_, ?_⟩
        · rw [addP_neg h (by rw [I.rs]; exact hs), hw]
          rw [show (st.setD i (max now (st.t i) + (s.getD i railK.d).up)).c i = 0 from h]
          rfl
        · rw [sw.2 j hj, if_neg (c := sp s i = _) (by omega)]; omega
        · rw [setC_c (by show i < st.count.length; omega)]; omega
        · have hji : i ≠ j := fun e => by subst e; omega
          exact ⟨setC_c' (st := st.setD i _) hji, setD_t' (st := st) hji⟩
        · refine Tr.one ⟨i, rfl, hi, ?_, ?_, ⟨by simp only []; omega, rfl, by simp only []; omega⟩, fun _ q hq => by omega, fun hc => by cases hc⟩ ?_
          · rw [sg_on]; simp [h]
          · show st.t i ≤ _; simp only []; omega
          · simp [stp, St.sg, St.setC, St.setD, List.map_set]
        · intro o ho; simp at ho; subst ho; rfl
    · have hc := I.c0 hi
      have hb := hB i hi
      have hown := I.own i hi
      have hw : IntKind.i64.wrap (st.c i + 1) = st.c i + 1 := wI64 (by omega) (by omega)
      obtain ⟨r1, r2, r3⟩ := recount (x := st.c i + 1) I hi (by omega) (by omega) (by omega)
      refine ⟨st.setC i (st.c i + 1), [], fun ops => ?_, ⟨r1.rails, r1.wf, r1.own, fun j hj => ?_, r1.ord⟩, fun j hj => ?_, ?_, fun j hj hr => ?_, r3.symm, by simp⟩
      · rw [addP_pos h, hw, List.append_nil]
      · have := r1.tm j hj; omega
      · rw [r2 j hj]; split <;> omega
      · rw [setC_c (by omega)]; omega
      · have hji : i ≠ j := fun e => by subst e; omega
        exact ⟨setC_c' hji, rfl⟩
theorem feed_ge (st : St) (i s0 : Int) : ∀ k, s0 ≤ feedM st i k s0 ∧ ∀ j, j < k → (st.r j).supply = i → st.t j ≤ feedM st i k s0
  | 0 => ⟨Int.le_refl _, fun j h => by omega⟩
  | k + 1 => by
    obtain ⟨h1, h2⟩ := feed_ge st i s0 k
    by_cases hs : (st.r k).supply = i
    · rw [feedM_pos hs]
      refine ⟨by omega, fun j hj hq => ?_⟩
      by_cases e : j = k
      · subst e; omega
      · have := h2 j (by omega) hq; omega
    · rw [feedM_neg hs]
      refine ⟨h1, fun j hj hq => ?_⟩
      by_cases e : j = k
      · subst e; exact absurd hq hs
      · exact h2 j (by omega) hq
theorem feed_le (st : St) (i s0 T : Int) (h0 : s0 ≤ T) : ∀ k, (∀ j, j < k → st.t j ≤ T) → feedM st i k s0 ≤ T
  | 0, _ => h0
  | k + 1, h => by
    have ih := feed_le st i s0 T h0 k fun j hj => h j (by omega)
    have hk := h k (by omega)
    simp only [feedM]; split <;> omega
theorem rem_inv {s : List Rail} {rk : Nat → Nat} (G : Good s rk) {now : Int} (hnow : 0 ≤ now) : ∀ (f : Nat) (st : St) (i : Nat) (T : Int), Inv s T st → (∀ j, j < s.length → st.c j ≤ 1000000) → i < s.length → rk i < f → 1 ≤ st.own i → now ≤ T → T + 20 * f ≤ 9000000000000000000 →
    ∃ st' new, (∀ ops, remP f st i now ops = (st', ops ++ new)) ∧ Inv s (T + 20 * f) st' ∧ (∀ j, j < s.length → st'.own j = st.own j - if j = i then 1 else 0) ∧ Tr s st.sg new st'.sg
  | 0, _, _, _, _, _, _, h, _, _, _ => by omega
  | f + 1, st, i, T, I, hB, hi, hf, ho, hT, hU => by
    have hcl := I.cl; have hdl := I.dl
    have hti := I.tm i hi
    have hdown := (G.ramp i hi).2
    have hb := hB i hi
    have hheld := (heldM_le st i st.rails.length).1
    have hc1 : 1 ≤ st.c i := by unfold St.own at ho; omega
    have hw : IntKind.i64.wrap (st.c i - 1) = st.c i - 1 := wI64 (by omega) (by omega)
    have hci : (st.setC i (st.c i - 1)).c i = st.c i - 1 := setC_c (by omega)
    by_cases h : 0 < st.c i - 1
    · obtain ⟨r1, r2, r3⟩ := recount (x := st.c i - 1) I hi (by omega) h (by omega)
      refine ⟨st.setC i (st.c i - 1), [], fun ops => ?_, ⟨r1.rails, r1.wf, r1.own, fun j hj => ?_, r1.ord⟩, fun j hj => ?_, r3.symm⟩
      · rw [remP_pos (by rw [hw, hci]; exact h), hw, List.append_nil]
      · have := r1.tm j hj; omega
      · rw [r2 j hj]; split <;> omega
    · have hc2 : st.c i = 1 := by omega
      have hz : st.c i - 1 = 0 := by omega
      rw [hz] at hw hci
      generalize hm : feedM (st.setC i 0) i (st.setC i 0).rails.length (max now ((st.setC i 0).t i)) = m
      have hm1 := feed_ge (st.setC i 0) i (max now ((st.setC i 0).t i)) (st.setC i 0).rails.length
      have hm2 := feed_le (st.setC i 0) i (max now ((st.setC i 0).t i)) T (by show max now (st.t i) ≤ T; omega) (st.setC i 0).rails.length (fun j hj => (I.tm j (by rw [← I.rails]; exact hj)).2)
      rw [hm] at hm1 hm2
      have hm3 : max now (st.t i) ≤ m := hm1.1
      have hself : sp s i ≠ i := fun e => by have := (G.acy i hi i e).2; omega
      have sw := switchOff (U := T + 20) (dn := m + (s.getD i railK.d).down) I hi hc2 ho (by omega) (by omega) (by omega) hself
      have hw2 : IntKind.u64.wrap (m + ((st.setC i 0).r i).down) = m + (s.getD i railK.d).down := by
        rw [show (st.setC i 0).r i = s.getD i railK.d from I.rs i]; exact wU64 (by omega) (by omega)
      have hok : OkOp s st.sg ⟨i, false, m, m + (s.getD i railK.d).down⟩ := by
        refine ⟨i, rfl, hi, ?_, ?_, ⟨by simp only []; omega, rfl, by simp only []; omega⟩, (fun hc => by cases hc), fun _ k hk hs => ?_⟩
        · rw [sg_on]; simp [hc2]
        · show st.t i ≤ _; simp only []; omega
        · refine ⟨by rw [sg_on]; simpa using I.fed hi (.inr ⟨hc2, ho⟩) k hk hs, ?_⟩
          exact hm1.2 k (by show k < st.rails.length; rw [I.rails]; exact hk) (by rw [show (st.setC i 0).r k = s.getD k railK.d from I.rs k]; exact hs)
      have hst : stp st.sg ⟨i, false, m, m + (s.getD i railK.d).down⟩ = ((st.setC i 0).setD i (m + (s.getD i railK.d).down)).sg := by
        simp [stp, St.sg, St.setC, St.setD, List.map_set]
      by_cases hs : 0 ≤ sp s i
      · obtain ⟨p, hp⟩ := Int.eq_ofNat_of_zero_le hs
        obtain ⟨hpn, hpr⟩ := G.acy i hi p hp
        have hne : p ≠ i := fun e => by subst e; omega
        have ho2 := sw.2 p hpn
        rw [if_neg hne, if_pos hp] at ho2
        have ho3 := I.own p hpn
        obtain ⟨st', new, h1, I1, o1, t1⟩ := rem_inv G hnow f _ p (T + 20) sw.1 (fun j hj => by
          show (st.setC i 0).c j ≤ _
          by_cases e : i = j
          · subst e; omega
          · rw [setC_c' e]; exact hB j hj) hpn (by omega) (by omega) (by omega) (by omega)
        refine ⟨st', [⟨i, false, m, m + (s.getD i railK.d).down⟩] ++ new, fun ops => ?_, ⟨I1.rails, I1.wf, I1.own, fun j hj => ?_, I1.ord⟩, fun j hj => ?_, Tr.append (Tr.one hok hst) t1⟩
        · rw [remP_sup (by rw [hz, hw]) (by omega) (by rw [show (st.setC i 0).r i = s.getD i railK.d from I.rs i]; exact hp) hm, hw2, h1, List.append_assoc]
        · have := I1.tm j hj; omega
        · rw [o1 j hj, sw.2 j hj]
          by_cases e : j = p
          · subst e; rw [if_pos rfl, if_pos hp]; omega
          · rw [if_neg e, if_neg (c := sp s i = _) (by omega)]; omega
      · refine ⟨(st.setC i 0).setD i (m + (s.getD i railK.d).down), [⟨i, false, m, m + (s.getD i railK.d).down⟩], fun ops => ?_, ⟨sw.1.rails, sw.1.wf, sw.1.own, fun j hj => ?_, sw.1.ord⟩, fun j hj => ?_, Tr.one hok hst⟩
        · rw [remP_neg (by rw [hz, hw]) (by omega) (by rw [show (st.setC i 0).r i = s.getD i railK.d from I.rs i]; exact hs) hm, hw2]
        · have := sw.1.tm j hj; omega
        · rw [sw.2 j hj, if_neg (c := sp s i = _) (by omega)]; omega
end Go.Rails
