/-
  Plain: the rails that Some makes are accepted and acyclic; what a sequence of calls keeps.
-/
import Derived.Test.YtcmalbkflbfidaaPl2
set_option linter.unusedSimpArgs false
set_option linter.unusedVariables false
namespace Go.Rails
open Go.Sv
theorem some_len (raw : List Rail) : (someM raw).length = min raw.length 8 := by
  simp only [someM]
  split
  · simp
  · rw [sm1_length]
theorem tmod20 {x : Int} (h : 0 ≤ x) : 0 ≤ x.tmod 20 ∧ x.tmod 20 < 20 := ⟨Int.tmod_nonneg _ h, Int.tmod_lt_of_pos _ (by omega)⟩
theorem some_good {raw : List Rail} (h : ∀ i, i < raw.length → okRail (raw.getD i railK.d)) : ∃ rk, Good (someM raw) rk := by
  have hl := some_len raw
  have hr : ∀ i, i < min raw.length 8 → (0 ≤ ((sm1 raw (min raw.length 8)).getD i railK.d).up ∧ ((sm1 raw (min raw.length 8)).getD i railK.d).up < 20) ∧ 0 ≤ ((sm1 raw (min raw.length 8)).getD i railK.d).down ∧ ((sm1 raw (min raw.length 8)).getD i railK.d).down < 20 := fun i hi => by
    rw [sm1_get raw hi]
    obtain ⟨_, h2, h3⟩ := h i (by omega)
    exact ⟨tmod20 h2.1, tmod20 h3.1⟩
  by_cases ho : min raw.length 8 % 2 = 1
  · have he : someM raw = (List.range (min raw.length 8)).map fun p => turn (min raw.length 8) ((sm1 raw (min raw.length 8)).getD (min raw.length 8 - 1 - p) railK.d) := by simp only [someM, if_pos ho]
    have hg : ∀ i, i < min raw.length 8 → (someM raw).getD i railK.d = turn (min raw.length 8) ((sm1 raw (min raw.length 8)).getD (min raw.length 8 - 1 - i) railK.d) := fun i hi => by
      rw [he]; simp [List.getD, hi]
    have hsup : ∀ i, i < min raw.length 8 → sp (someM raw) i = -1 ∨ ((i : Int) < sp (someM raw) i ∧ sp (someM raw) i < (min raw.length 8 : Nat)) := fun i hi => by
      have hq := sm1_sup raw (k := min raw.length 8) (i := min raw.length 8 - 1 - i) (by omega)
      unfold sp
      rw [hg i hi]
      unfold turn
      split
      · next hx => right; simp only []; omega
      · next hx => left; omega
    refine ⟨fun i => min raw.length 8 - 1 - i, ⟨by omega, fun i hi => ?_, fun i hi => ?_, fun i hi p hp => ?_, fun i hi => by omega⟩⟩
    · have := hsup i (by omega); omega
    · rw [hg i (by omega)]
      have := hr (min raw.length 8 - 1 - i) (by omega)
      unfold turn; split <;> exact this
    · have := hsup i (by omega)
      have hp' : sp (someM raw) i = p := hp
      omega
  · have he : someM raw = sm1 raw (min raw.length 8) := by simp only [someM, if_neg ho]
    have hsup : ∀ i, i < min raw.length 8 → -1 ≤ sp (someM raw) i ∧ sp (someM raw) i < i := fun i hi => by
      unfold sp; rw [he]; exact sm1_sup raw hi
    refine ⟨fun i => i, ⟨by omega, fun i hi => ?_, fun i hi => ?_, fun i hi p hp => ?_, fun i hi => by omega⟩⟩
    · have := hsup i (by omega); omega
    · rw [he]; exact hr i (by omega)
    · have := hsup i (by omega)
      have hp' : sp (someM raw) i = p := hp
      omega
theorem it_rank {s : List Rail} {rk : Nat → Nat} (G : Good s rk) {j : Nat} (hj : j < s.length) : ∀ k, itM s j k < 0 ∨ ∃ i : Nat, itM s j k = i ∧ i < s.length ∧ rk i + k ≤ rk j
  | 0 => .inr ⟨j, rfl, hj, by omega⟩
  | k + 1 => by
    rcases it_rank G hj k with h | ⟨i, h1, h2, h3⟩
    · left; rw [itM, if_neg (by omega)]; exact h
    · rw [itM, if_pos (by omega), h1, Int.toNat_natCast]
      by_cases hs : 0 ≤ (s.getD i railK.d).supply
      · obtain ⟨p, hp⟩ := Int.eq_ofNat_of_zero_le hs
        obtain ⟨q1, q2⟩ := G.acy i h2 p hp
        exact .inr ⟨p, hp, q1, by omega⟩
      · left; omega
/-- The ranks lie below the number of rails; so a chain ends. -/
theorem good_new {s : List Rail} {rk : Nat → Nat} (G : Good s rk) : newE s = 0 := by
  have hlen := G.len
  rw [newE_eq, newRE, if_neg (by omega), if_pos, if_pos]
  · intro j hj
    rcases it_rank G hj s.length with h | ⟨i, h1, h2, h3⟩
    · exact h
    · have := G.rank j hj; omega
  · intro j hj
    have h1 := G.fine j hj
    have h2 := G.ramp j hj
    unfold sp at h1
    unfold badR
    omega
/-- What m calls keep. -/
structure IN (s : List Rail) (m : Nat) (st : St) : Prop where
  inv : Inv s (1152921504606846976 + 160 * m) st
  up : ∀ j, j < s.length → st.own j ≤ m
  clock : 0 ≤ st.clock ∧ st.clock ≤ 1152921504606846976
theorem IN.mono {s : List Rail} {m m' : Nat} {st : St} (h : IN s m st) (hm : m ≤ m') : IN s m' st :=
  ⟨⟨h.inv.rails, h.inv.wf, h.inv.own, fun j hj => by have := h.inv.tm j hj; omega, h.inv.ord⟩, fun j hj => by have := h.up j hj; omega, h.clock⟩
theorem IN.cb {s : List Rail} {m : Nat} {st : St} (h : IN s m st) (hl : s.length ≤ 8) {j : Nat} (hj : j < s.length) : 0 ≤ st.c j ∧ st.c j ≤ m + 8 := by
  have h1 := h.up j hj
  have h2 := heldM_le st j st.rails.length
  rw [h.inv.rails] at h2
  unfold St.own at h1
  rw [h.inv.rails] at h1
  exact ⟨h.inv.c0 hj, by omega⟩
theorem held_new (s : List Rail) (i : Int) : ∀ k, heldM (new0 s) i k = 0
  | 0 => rfl
  | k + 1 => by
    rw [heldM_neg2 (by simp [St.c, new0, List.getD, List.getElem?_replicate]; split <;> simp), held_new s i k]
theorem new_c (s : List Rail) (j : Nat) : (new0 s).c j = 0 := by
  simp only [St.c, new0, List.getD, List.getElem?_replicate]; split <;> simp
theorem new_t (s : List Rail) (j : Nat) : (new0 s).t j = 0 := by
  simp only [St.t, new0, List.getD, List.getElem?_replicate]; split <;> simp
theorem new_own (s : List Rail) (j : Nat) : (new0 s).own j = 0 := by unfold St.own; rw [new_c, held_new]; rfl
theorem IN.start (s : List Rail) : IN s 0 (new0 s) :=
  ⟨⟨rfl, ⟨by simp [new0], by simp [new0]⟩, fun j hj => by rw [new_own]; omega, fun j hj => by rw [new_t]; omega, fun k hk hc => by rw [new_c] at hc; omega⟩, fun j hj => by rw [new_own]; omega, by simp [new0]⟩
theorem tick_own (st : St) (x : Int) (j : Nat) : (st.tick x).own j = st.own j := by
  unfold St.own
  rw [show (st.tick x).rails = st.rails from rfl, held_same (st := st) (st' := st.tick x) rfl j st.rails.length (fun _ _ => Iff.rfl)]
  rfl
theorem IN.tick {s : List Rail} {m : Nat} {st : St} (h : IN s m st) {x : Int} (hx : 0 ≤ x ∧ x ≤ 1152921504606846976) : IN s m (st.tick x) :=
  ⟨⟨h.inv.rails, ⟨h.inv.wf.count, h.inv.wf.done⟩, fun j hj => by rw [tick_own]; exact h.inv.own j hj, h.inv.tm, h.inv.ord⟩, fun j hj => by rw [tick_own]; exact h.up j hj, hx⟩
theorem acq_IN {s : List Rail} {rk : Nat → Nat} (G : Good s rk) {m : Nat} (hm : m ≤ 1000) {st : St} (h : IN s m st) {i : Nat} {now : Int} (hi : i < s.length) (hc : st.clock ≤ now) (hn : now ≤ 1152921504606846976) :
    ∃ st' new, (∀ x : Int, x = i → acqM 8 st x now = ⟨st', new, 0⟩) ∧ addP 8 (st.tick now) i now [] = (st', new) ∧ IN s (m + 1) st' ∧ (∀ j, j < s.length → st'.own j = st.own j + if j = i then 1 else 0) ∧ Tr s st.sg new st'.sg ∧ (∀ o ∈ new, o.on = true) ∧ st'.clock = now := by
  have hlen := G.len
  have hck := h.clock
  have ht := h.tick (x := now) (by omega)
  obtain ⟨st', new, h1, I1, o1, _, _, t1, n1⟩ := add_inv G (now := now) (by omega) 8 (st.tick now) i _ ht.inv (fun j hj => by have := ht.cb G.len hj; omega) hi (by have := G.rank i hi; omega) (by omega) (by omega)
  have h2 := h1 []
  rw [List.nil_append] at h2
  have hcl : st'.clock = now := by have := (addP_keep 8 (st.tick now) i now []).2.1; rw [h2] at this; exact this
  refine ⟨st', new, fun x hx => ?_, h2, ⟨⟨I1.rails, I1.wf, I1.own, fun j hj => ?_, I1.ord⟩, fun j hj => ?_, by omega⟩, fun j hj => by rw [o1 j hj, tick_own], t1, n1, hcl⟩
  · subst hx
    rw [acqM_yes ⟨⟨by omega, by rw [h.inv.rails]; omega⟩, hc, hn⟩, Int.toNat_natCast, h2]
  · have := I1.tm j hj; omega
  · rw [o1 j hj]; have := ht.up j hj; split <;> omega
theorem rel_IN {s : List Rail} {rk : Nat → Nat} (G : Good s rk) {m : Nat} (hm : m ≤ 1000) {st : St} (h : IN s m st) {i : Nat} {now : Int} (hi : i < s.length) (hc : st.clock ≤ now) (hn : now ≤ 1152921504606846976) (ho : 1 ≤ st.own i) :
    ∃ st' new, (∀ x : Int, x = i → relM 8 st x now = ⟨st', new, 0⟩) ∧ remP 8 (st.tick now) i now [] = (st', new) ∧ IN s (m + 1) st' ∧ (∀ j, j < s.length → st'.own j = st.own j - if j = i then 1 else 0) ∧ Tr s st.sg new st'.sg ∧ st'.clock = now := by
  have hlen := G.len
  have hck := h.clock
  have ht := h.tick (x := now) (by omega)
  obtain ⟨st', new, h1, I1, o1, t1⟩ := rem_inv G (now := now) (by omega) 8 (st.tick now) i _ ht.inv (fun j hj => by have := ht.cb G.len hj; omega) hi (by have := G.rank i hi; omega) (by rw [tick_own]; exact ho) (by omega) (by omega)
  have h2 := h1 []
  rw [List.nil_append] at h2
  have hcl : st'.clock = now := by have := (remP_keep 8 (st.tick now) i now []).2.1; rw [h2] at this; exact this
  refine ⟨st', new, fun x hx => ?_, h2, ⟨⟨I1.rails, I1.wf, I1.own, fun j hj => ?_, I1.ord⟩, fun j hj => ?_, by omega⟩, fun j hj => by rw [o1 j hj, tick_own], t1, hcl⟩
  · subst hx
    rw [relM_yes ⟨⟨by omega, by rw [h.inv.rails]; omega⟩, hc, hn⟩ (by unfold St.own at ho; rw [Int.toNat_natCast]; omega), Int.toNat_natCast, h2]
  · have := I1.tm j hj; omega
  · rw [o1 j hj]; have := ht.up j hj; split <;> omega
/-- What a call keeps and does. -/
structure Did (s : List Rail) (m : Nat) (st : St) (rel : Bool) (x now : Int) (r : Res) : Prop where
  inn : IN s (m + 1) r.st
  tr : Tr s st.sg r.ops r.st.sg
  bad : r.err ≠ 0 → r.st = st ∧ r.ops = []
  good : r.err = 0 → r.st.clock = now ∧ ∃ i : Nat, x = i ∧ i < s.length ∧ ∀ j, j < s.length → r.st.own j = st.own j + if j = i then (if rel then -1 else 1) else 0
theorem Did.none {s : List Rail} {m : Nat} {st : St} {rel : Bool} {x now : Int} {e : Int} (h : IN s m st) (he : e ≠ 0) : Did s m st rel x now ⟨st, [], e⟩ :=
  ⟨h.mono (by omega), rfl, fun _ => ⟨rfl, rfl⟩, fun h => absurd h he⟩
theorem acq_did {s : List Rail} {rk : Nat → Nat} (G : Good s rk) {m : Nat} (hm : m ≤ 1000) {st : St} (h : IN s m st) (x now : Int) : Did s m st false x now (acqM 8 st x now) := by
  by_cases hk : st.ok x now
  · obtain ⟨⟨h1, h2⟩, h3, h4⟩ := hk
    obtain ⟨i, rfl⟩ := Int.eq_ofNat_of_zero_le h1
    rw [h.inv.rails] at h2
    obtain ⟨st', new, e, _, k1, k2, k3, _, k4⟩ := acq_IN G hm h (i := i) (now := now) (by omega) h3 h4
    rw [e _ rfl]
    exact ⟨k1, k3, fun z => absurd rfl z, fun _ => ⟨k4, i, rfl, by omega, fun j hj => k2 j hj⟩⟩
  · rw [acqM_no hk]; exact Did.none h (by omega)
theorem rel_did {s : List Rail} {rk : Nat → Nat} (G : Good s rk) {m : Nat} (hm : m ≤ 1000) {st : St} (h : IN s m st) (x now : Int) : Did s m st true x now (relM 8 st x now) := by
  by_cases hk : st.ok x now
  · by_cases hh : st.c x.toNat ≤ heldM st x st.rails.length
    · rw [relM_held hk hh]; exact Did.none h (by omega)
    · obtain ⟨⟨h1, h2⟩, h3, h4⟩ := hk
      obtain ⟨i, rfl⟩ := Int.eq_ofNat_of_zero_le h1
      rw [h.inv.rails] at h2
      obtain ⟨st', new, e, _, k1, k2, k3, k4⟩ := rel_IN G hm h (i := i) (now := now) (by omega) h3 h4 (by unfold St.own; rw [Int.toNat_natCast] at hh; omega)
      rw [e _ rfl]
      exact ⟨k1, k3, fun z => absurd rfl z, fun _ => ⟨k4, i, rfl, by omega, fun j hj => by rw [k2 j hj]; simp only [if_true]; split <;> omega⟩⟩
  · rw [relM_no hk]; exact Did.none h (by omega)
theorem do_did {s : List Rail} {rk : Nat → Nat} (G : Good s rk) {m : Nat} (hm : m ≤ 1000) {st : St} (h : IN s m st) (c : RCall) (n : Nat) (now : Int) : Did s m st c.rel (atM c n now).1 (atM c n now).2 (doM 8 st c n now) := by
  unfold doM
  cases hr : c.rel
  · exact acq_did G hm h _ _
  · exact rel_did G hm h _ _
/-! ### The reference does the same -/
theorem setC_self {st : St} {i : Nat} : st.setC i (st.c i) = st := by
  unfold St.setC St.c
  congr 1
  apply List.ext_getElem (by simp)
  intro k h1 h2
  rw [List.getElem_set]
  split
  · next e => subst e; simp [List.getD, h2]
  · rfl
theorem setC_setC {st : St} {i : Nat} {x y : Int} : (st.setC i x).setC i y = st.setC i y := by simp [St.setC]
theorem setC_comm {st : St} {i j : Nat} {x y : Int} (h : i ≠ j) : (st.setC i x).setC j y = (st.setC j y).setC i x := by simp [St.setC, List.set_comm _ _ h]
theorem setCD {st : St} {i j : Nat} {x y : Int} : (st.setC i x).setD j y = (st.setD j y).setC i x := rfl
theorem addP_comm {s : List Rail} {rk : Nat → Nat} (hg : Acy s rk) (now : Int) (x : Nat) (v : Int) : ∀ (f : Nat) (st : St) (i : Nat) (ops : List ROp), st.rails = s → i < s.length → rk i < rk x →
    addP f (st.setC x v) i now ops = ((addP f st i now ops).1.setC x v, (addP f st i now ops).2)
  | 0, _, _, _, _, _, _ => rfl
  | f + 1, st, i, ops, hr, hi, hx => by
    have hne : x ≠ i := fun e => by subst e; omega
    have hci : (st.setC x v).c i = st.c i := setC_c' hne
    by_cases h : st.c i = 0
    · by_cases hs : 0 ≤ (st.r i).supply
      · obtain ⟨p, hp⟩ := Int.eq_ofNat_of_zero_le hs
        obtain ⟨q1, q2⟩ := hg i hi p (by rw [← hr]; exact hp)
        have ih := addP_comm hg now x v f st p ops hr q1 (by omega)
        generalize hq : addP f st p now ops = q at ih
        obtain ⟨p1, p2⟩ := q
        rw [addP_sup (hci.trans h) hp ih, addP_sup h hp hq]
        simp only [setCD]
        rw [setC_comm hne, show ((p1.setD i _).setC x v).c i = (p1.setD i _).c i from setC_c' hne]
        rfl
      · rw [addP_neg (hci.trans h) hs, addP_neg h hs]
        simp only [setCD]
        rw [setC_comm hne, show ((st.setD i _).setC x v).c i = (st.setD i _).c i from setC_c' hne]
        rfl
    · rw [addP_pos (by rw [hci]; exact h), addP_pos h, hci, setC_comm hne]
theorem addP_frame {s : List Rail} {rk : Nat → Nat} (hg : Acy s rk) (now : Int) {x : Nat} {f : Nat} {st : St} {i : Nat} {ops : List ROp} (hr : st.rails = s) (hw : st.wf) (hi : i < s.length) (hxl : x < s.length) (hx : rk i < rk x) : (addP f st i now ops).1.c x = st.c x := by
  have h := addP_comm hg now x (st.c x) f st i ops hr hi hx
  rw [setC_self] at h
  have hl := (addP_keep f st i now ops).2.2.1
  have h2 := congrArg (fun q => q.1.c x) h
  simp only [] at h2
  rw [setC_c (by rw [hl, hw.count, hr]; exact hxl)] at h2
  exact h2
theorem addR_eq {s : List Rail} {rk : Nat → Nat} (hg : Acy s rk) (now : Int) : ∀ (f : Nat) (st : St) (i : Nat) (ops : List ROp), st.rails = s → st.wf → (∀ j, j < s.length → 0 ≤ st.c j ∧ st.c j ≤ 1000000) → i < s.length →
    addR f st i now ops = addP f st i now ops
  | 0, _, _, _, _, _, _, _ => rfl
  | f + 1, st, i, ops, hr, hw, hb, hi => by
    have hbi := hb i hi
    have hcl : i < st.count.length := by rw [hw.count, hr]; exact hi
    have hwr : IntKind.i64.wrap (st.c i + 1) = st.c i + 1 := wI64 (by omega) (by omega)
    have hci : (st.setC i (st.c i + 1)).c i = st.c i + 1 := setC_c hcl
    by_cases h : st.c i = 0
    · rw [h] at hwr hci
      have hwr' : IntKind.i64.wrap (st.c i + 1) = 1 := by rw [h]; exact hwr
      by_cases hs : 0 ≤ (st.r i).supply
      · obtain ⟨p, hp⟩ := Int.eq_ofNat_of_zero_le hs
        obtain ⟨q1, q2⟩ := hg i hi p (by rw [← hr]; exact hp)
        have ih := addR_eq hg now f (st.setC i 1) p ops hr (setC_wf hw _ _) (fun j hj => by
          by_cases e : i = j
          · subst e; rw [setC_c hcl]; omega
          · rw [setC_c' e]; exact hb j hj) q1
        rw [addP_comm hg now i 1 f st p ops hr q1 q2] at ih
        have hfr := addP_frame hg now (f := f) (ops := ops) hr hw q1 hi q2
        generalize hq : addP f st p now ops = q at ih hfr
        obtain ⟨p1, p2⟩ := q
        simp only [] at hfr ih
        rw [addR_sup (st := st.setC i 1) (by rw [hwr']) (by simp only [Int.zero_add] at hci; omega) hp ih, addP_sup h hp hq]
        simp only [setCD]
        rw [show (p1.setD i _).c i = 0 from hfr.trans h]
        rfl
      · rw [addR_neg (st := st.setC i 1) (by rw [hwr']) (by simp only [Int.zero_add] at hci; omega) hs, addP_neg h hs]
        simp only [setCD]
        rw [show (st.setD i _).c i = 0 from h]
        rfl
    · rw [addR_pos (by rw [hwr]) (by omega), addP_pos h, hwr]
theorem own_eq {s : List Rail} {m : Nat} (hm : m ≤ 1000) (hl : s.length ≤ 8) {st : St} (h : IN s m st) (x : Int) {n0 : Int} (h0 : 0 ≤ n0 ∧ n0 ≤ 1000000) : ∀ k, k ≤ 8 → ownM st x n0 k = n0 - heldM st x k
  | 0, _ => by simp [ownM, heldM]
  | k + 1, hk => by
    have ih := own_eq hm hl h x h0 k (by omega)
    have hh := heldM_le st x k
    simp only [ownM, heldM]
    rw [ih]
    split
    · rw [wI64 (by omega) (by omega)]; omega
    · rfl
theorem do_agree {s : List Rail} {rk : Nat → Nat} (G : Good s rk) {m : Nat} (hm : m ≤ 1000) {st : St} (h : IN s m st) (c : RCall) (n : Nat) (now : Int) : doR 8 st c n now = doM 8 st c n now := by
  unfold doR doM
  cases hr : c.rel
  · simp only [Bool.false_eq_true, if_false]
    generalize (atM c n now).1 = x
    generalize (atM c n now).2 = y
    unfold acqR acqM
    by_cases hk : st.ok x y
    · rw [if_pos hk, if_pos hk]
      obtain ⟨⟨h1, h2⟩, h3, h4⟩ := hk
      rw [h.inv.rails] at h2
      rw [addR_eq G.acy y 8 (st.tick y) x.toNat [] h.inv.rails ⟨h.inv.wf.count, h.inv.wf.done⟩ (fun j hj => by have := h.cb G.len hj; show 0 ≤ st.c j ∧ st.c j ≤ _; omega) (by omega)]
    · rw [if_neg hk, if_neg hk]
  · simp only [if_true]
    generalize (atM c n now).1 = x
    generalize (atM c n now).2 = y
    unfold relR relM
    by_cases hk : st.ok x y
    · rw [if_pos hk, if_pos hk]
      obtain ⟨⟨h1, h2⟩, h3, h4⟩ := hk
      rw [h.inv.rails] at h2
      obtain ⟨i, rfl⟩ := Int.eq_ofNat_of_zero_le h1
      have hc := h.cb G.len (j := i) (by omega)
      have ho := h.inv.own i (by omega)
      have hlen := G.len
      have e := own_eq hm G.len h i (n0 := st.c i) (by omega) st.rails.length (by rw [h.inv.rails]; exact hlen)
      unfold St.own at ho
      rw [Int.toNat_natCast, e]
      by_cases hz : st.c i - heldM st i st.rails.length = 0
      · rw [if_pos hz, if_pos (by omega)]
      · rw [if_neg hz, if_neg (by omega)]
    · rw [if_neg hk, if_neg hk]
/-! ### Release undoes Acquire -/
theorem undo {s : List Rail} {rk : Nat → Nat} (hg : Acy s rk) (now now2 : Int) : ∀ (f : Nat) (st st2 : St) (i : Nat) (ops2 : List ROp), st.rails = s → st.wf → (∀ j, j < s.length → 0 ≤ st.c j ∧ st.c j ≤ 1000000) → i < s.length → rk i < f →
    st2.count = (addP f st i now []).1.count → st2.rails = s →
    ∃ st3 ys, remP f st2 i now2 ops2 = (st3, ops2 ++ ys) ∧ st3.count = st.count ∧ ys.map (·.rail) = ((addP f st i now []).2.map (·.rail)).reverse ∧ ∀ o ∈ ys, o.on = false
  | 0, _, _, _, _, _, _, _, _, h, _, _ => by omega
  | f + 1, st, st2, i, ops2, hr, hw, hb, hi, hf, hc, hr2 => by
    have hbi := hb i hi
    have hcl : i < st.count.length := by rw [hw.count, hr]; exact hi
    have hself : st.count.set i (st.c i) = st.count := congrArg St.count (setC_self (st := st) (i := i))
    by_cases h : st.c i = 0
    · by_cases hs : 0 ≤ (st.r i).supply
      · obtain ⟨p, hp⟩ := Int.eq_ofNat_of_zero_le hs
        obtain ⟨q1, q2⟩ := hg i hi p (by rw [← hr]; exact hp)
        have hfr := addP_frame hg now (f := f) (ops := []) hr hw q1 hi q2
        have hkp := addP_keep f st p now []
        have ih := undo hg now now2 f st
        generalize hq : addP f st p now [] = q at hfr hkp
        obtain ⟨p1, p2⟩ := q
        simp only [] at hfr hkp
        rw [addP_sup h hp hq] at hc ⊢
        rw [show (p1.setD i _).c i = 0 from hfr.trans h, show IntKind.i64.wrap (0 + 1) = 1 from rfl] at hc
        have hc' : st2.count = p1.count.set i 1 := hc
        have h2l : i < st2.count.length := by rw [hc', List.length_set, hkp.2.2.1]; exact hcl
        have hci : st2.c i = 1 := by unfold St.c; rw [hc']; exact getD_set_self _ _ _ _ (by rw [hkp.2.2.1]; exact hcl)
        have hset : (st2.setC i 0).count = p1.count := by
          show st2.count.set i 0 = _
          rw [hc', List.set_set]
          have := congrArg St.count (setC_self (st := p1) (i := i))
          rw [hfr, h] at this; exact this
        have hps : ((st2.setC i 0).r i).supply = (p : Int) := by
          show (st2.rails.getD i railK.d).supply = _
          rw [hr2, ← hr]; exact hp
        generalize hmm : feedM (st2.setC i 0) i (st2.setC i 0).rails.length (max now2 ((st2.setC i 0).t i)) = mm
        generalize hdd : IntKind.u64.wrap (mm + ((st2.setC i 0).r i).down) = dd
        obtain ⟨st3, ys, e1, e2, e3, e4⟩ := ih ((st2.setC i 0).setD i dd) p (ops2 ++ [⟨i, false, mm, dd⟩]) hr hw hb q1 (by omega) (by rw [hq]; exact hset) hr2
        rw [hq] at e3
        refine ⟨st3, [⟨i, false, mm, dd⟩] ++ ys, ?_, e2, ?_, ?_⟩
        · rw [remP_sup (st := st2.setC i 0) (by rw [hci]; rfl) (by rw [setC_c h2l]; omega) hps hmm, hdd, e1, List.append_assoc]
        · simp [e3]
        · intro o ho
          rcases List.mem_append.1 ho with ho | ho
          · simp at ho; subst ho; rfl
          · exact e4 o ho
      · rw [addP_neg h hs] at hc ⊢
        rw [show (st.setD i _).c i = 0 from h, show IntKind.i64.wrap (0 + 1) = 1 from rfl] at hc
        have hc' : st2.count = st.count.set i 1 := hc
        have h2l : i < st2.count.length := by rw [hc', List.length_set]; exact hcl
        have hci : st2.c i = 1 := by unfold St.c; rw [hc']; exact getD_set_self _ _ _ _ hcl
        have hps : ¬ 0 ≤ ((st2.setC i 0).r i).supply := by
          show ¬ 0 ≤ (st2.rails.getD i railK.d).supply
          rw [hr2, ← hr]; exact hs
        generalize hmm : feedM (st2.setC i 0) i (st2.setC i 0).rails.length (max now2 ((st2.setC i 0).t i)) = mm
        refine ⟨_, _, remP_neg (st := st2.setC i 0) (by rw [hci]; rfl) (by rw [setC_c h2l]; omega) hps hmm, ?_, by simp, ?_⟩
        · show st2.count.set i 0 = _
          rw [hc', List.set_set]; rw [h] at hself; exact hself
        · intro o ho; simp at ho; subst ho; rfl
    · rw [addP_pos h] at hc ⊢
      rw [wI64 (by omega) (by omega)] at hc
      have hc' : st2.count = st.count.set i (st.c i + 1) := hc
      have h2l : i < st2.count.length := by rw [hc', List.length_set]; exact hcl
      have hci : st2.c i = st.c i + 1 := by unfold St.c; rw [hc']; exact getD_set_self _ _ _ _ hcl
      have hwr : IntKind.i64.wrap (st2.c i - 1) = st.c i := by rw [hci, wI64 (by omega) (by omega)]; omega
      refine ⟨st2.setC i (st.c i), [], ?_, ?_, by simp, by simp⟩
      · rw [remP_pos (by rw [hwr, setC_c h2l]; omega), hwr, List.append_nil]
      · show st2.count.set i (st.c i) = _
        rw [hc', List.set_set, hself]
end Go.Rails
