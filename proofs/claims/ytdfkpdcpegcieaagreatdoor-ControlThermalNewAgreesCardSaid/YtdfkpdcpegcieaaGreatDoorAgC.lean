/-
  Regions whose last operations come behind all others: what the loads need is asked only until those begin.
-/
import Derived.Test.YtdfkpdcpegcieaaGreatDoorSvA
import Derived.Test.YtdfkpdcpegcieaaGreatDoorSvB
set_option linter.unusedSimpArgs false
set_option linter.unusedVariables false
namespace Go.Sv
section
variable {P : Program} {ops : Array Oper} {Q : Exit → Act → World → Prop} {md : Region.Mode} {S : World → Prop} {c : Nat}
/-- Whatever order is picked; behind each operation operation c has come up, or S holds. -/
def wpAnyC (P : Program) (md : Region.Mode) (ops : Array Oper) (Q : Exit → Act → World → Prop) (S : World → Prop) (c : Nat) : Nat → Array Bool → Act → World → Prop
  | 0, listed, a, w => Region.ready md ops listed = [] ∧ Q .normal a w
  | fuel + 1, listed, a, w => (Region.ready md ops listed = [] → Q .normal a w) ∧
      ∀ i ∈ Region.ready md ops listed, wpOp P ops Q i (fun a' w' => ((listed.setIfInBounds i true).getD c false = true ∨ S w') ∧ wpAnyC P md ops Q S c fuel (listed.setIfInBounds i true) a' w') a w
theorem wpAny_of_C : ∀ (fuel : Nat) (listed : Array Bool) (a : Act) (w : World), wpAnyC P md ops Q S c fuel listed a w → wpAny P md ops Q fuel listed a w
  | 0, _, _, _, h => h
  | fuel + 1, _, _, _, h => ⟨h.1, fun i hi => wpOp_mono (fun a' w' h' => wpAny_of_C fuel _ a' w' h'.2) (h.2 i hi)⟩
/-- What has come up has all before it that it waits for. -/
def Down (ops : Array Oper) (md : Region.Mode) (listed : Array Bool) : Prop := ∀ k o, ops[k]? = some o → listed.getD k false = true → ∀ e ∈ o.after, Region.binds md e = true → listed.getD e.on false = true
theorem Down.next {listed : Array Bool} {j : Nat} (h : Down ops md listed) (hj : j ∈ Region.ready md ops listed) : Down ops md (listed.setIfInBounds j true) := fun k o ho hk e he hb => by
  obtain ⟨hjun, oj, hoj, hall⟩ := mem_ready.1 hj
  by_cases e1 : j = k
  · subst e1
    obtain rfl := Option.some.inj (ho.symm.trans hoj)
    exact getD_set_true (hall e he hb)
  · rw [getD_set_ne false e1] at hk
    exact getD_set_true (h k o ho hk e he hb)
/-- Operation x waits, by way of others, for operation i. -/
inductive Waits (ops : Array Oper) (md : Region.Mode) (i : Nat) : Nat → Prop
  | one {x : Nat} {o : Oper} {e : Edge} : ops[x]? = some o → e ∈ o.after → Region.binds md e = true → e.on = i → Waits ops md i x
  | more {x : Nat} {o : Oper} {e : Edge} : ops[x]? = some o → e ∈ o.after → Region.binds md e = true → Waits ops md i e.on → Waits ops md i x
theorem Waits.listed {listed : Array Bool} {i x : Nat} (h : Waits ops md i x) (hd : Down ops md listed) (hx : listed.getD x false = true) : listed.getD i false = true := by
  induction h with
  | one ho he hb hi => rw [← hi]; exact hd _ _ ho hx _ he hb
  | more ho he hb _ ih => exact ih (hd _ _ ho hx _ he hb)
theorem Waits.not_ready {listed : Array Bool} {i x : Nat} (h : Waits ops md i x) (hd : Down ops md listed) (hr : x ∈ Region.ready md ops listed) : listed.getD i false = true := by
  obtain ⟨_, o2, ho2, hall⟩ := mem_ready.1 hr
  cases h with
  | one ho he hb hi =>
    obtain rfl := Option.some.inj (ho.symm.trans ho2)
    rw [← hi]; exact hall _ he hb
  | more ho he hb hw =>
    obtain rfl := Option.some.inj (ho.symm.trans ho2)
    exact hw.listed hd (hall _ he hb)
theorem wpAnyC_free {i : Nat} {oi : Oper} {v : Value} (hi : ops[i]? = some oi) (hne : c ≠ i) (hsel : ∀ (j : Nat) (o : Oper) cs b, ops[j]? = some o → o.op ≠ .select cs b)
    (hQ : ∀ c a w, Q (.panic c) (a.put oi.dst v) w → Q (.panic c) a w) :
    ∀ (fuel : Nat) (listed : Array Bool) (a : Act) (w : World),
      (∀ j oj, ops[j]? = some oj → j ≠ i → listed.getD j true = false → (∀ e ∈ oj.after, Region.binds md e = true → e.on ≠ i) → oi.apart ops oj = true) →
      i ∈ Region.ready md ops listed → YieldsIf P ops (fun _ => True) oi v a → (listed.getD c false = true ∨ S w) →
      wpAnyC P md ops Q S c fuel (listed.setIfInBounds i true) (a.put oi.dst v) w → wpAnyC P md ops Q S c (fuel + 1) listed a w := by
  intro fuel
  induction fuel with
  | zero =>
    intro listed a w _ hr hy hS H
    refine ⟨fun h => (by rw [h] at hr; cases hr), fun j hj => ?_⟩
    by_cases hji : j = i
    · subst hji; exact hy.wpOp hi trivial ⟨by rw [getD_set_ne false (Ne.symm hne)]; exact hS, H⟩
    · have := ready_mono hj hji
      rw [H.1] at this
      cases this
  | succ fuel ih =>
    intro listed a w hfree hr hy hS H
    refine ⟨fun h => (by rw [h] at hr; cases hr), fun j hj => ?_⟩
    by_cases hji : j = i
    · subst hji; exact hy.wpOp hi trivial ⟨by rw [getD_set_ne false (Ne.symm hne)]; exact hS, H⟩
    · have h1 := H.2 j (ready_mono hj hji)
      obtain ⟨hjun, oj, hoj, hall⟩ := mem_ready.1 hj
      have hnot : ∀ e ∈ oj.after, Region.binds md e = true → e.on ≠ i := fun e he hb heq => by
        have h1 := hall e he hb
        have h0 := (mem_ready.1 hr).1
        rw [heq] at h1
        rcases Nat.lt_or_ge i listed.size with h' | h'
        · simp [h'] at h0 h1; rw [h0] at h1; cases h1
        · simp [Array.getElem?_eq_none h'] at h1
      have h2 := wpOp_putIf hoj (hfree j oj hoj hji hjun hnot) (fun cs b => hsel i oi cs b hi) (fun cs b => hsel j oj cs b hoj) hQ hy h1
      have hfree' : ∀ k ok, ops[k]? = some ok → k ≠ i → (listed.setIfInBounds j true).getD k true = false →
          (∀ e ∈ ok.after, Region.binds md e = true → e.on ≠ i) → oi.apart ops ok = true := fun k ok hk hki hun hno => by
        refine hfree k ok hk hki ?_ hno
        by_cases hjk : j = k
        · subst hjk; exact hjun
        · rw [getD_set_ne true hjk] at hun; exact hun
      have hl2 : ((listed.setIfInBounds i true).setIfInBounds j true).getD c false = (listed.setIfInBounds j true).getD c false := by
        rw [Array.setIfInBounds_comm _ _ (Ne.symm hji), getD_set_ne false (Ne.symm hne)]
      refine wpOp_mono (fun a' w' h3 => ?_) h2
      have hS' : (listed.setIfInBounds j true).getD c false = true ∨ S w' := by rw [← hl2]; exact h3.2.1
      refine ⟨hS', ih (listed.setIfInBounds j true) a' w' hfree' (ready_mono hr (Ne.symm hji)) h3.1 hS' ?_⟩
      rw [Array.setIfInBounds_comm _ _ hji]
      exact h3.2.2
theorem wpAnyC_first {i : Nat} {oi : Oper} {v : Value} (hi : ops[i]? = some oi) (hci : Waits ops md i c) (hne : c ≠ i) (hsel : ∀ (j : Nat) (o : Oper) cs b, ops[j]? = some o → o.op ≠ .select cs b)
    (hQ : ∀ c a w, Q (.panic c) (a.put oi.dst v) w → Q (.panic c) a w) :
    ∀ (fuel : Nat) (listed : Array Bool) (a : Act) (w : World),
      (∀ j oj, ops[j]? = some oj → j ≠ i → listed.getD j true = false → (∀ e ∈ oj.after, Region.binds md e = true → e.on ≠ i) → oi.apart ops oj = true) →
      i ∈ Region.ready md ops listed → Down ops md listed → listed.getD c false = false → YieldsIf P ops S oi v a → S w →
      wpAnyC P md ops Q S c fuel (listed.setIfInBounds i true) (a.put oi.dst v) w → wpAnyC P md ops Q S c (fuel + 1) listed a w := by
  intro fuel
  induction fuel with
  | zero =>
    intro listed a w _ hr hd hlc hy hS H
    refine ⟨fun h => (by rw [h] at hr; cases hr), fun j hj => ?_⟩
    by_cases hji : j = i
    · subst hji; exact hy.wpOp hi hS ⟨.inr hS, H⟩
    · have := ready_mono hj hji
      rw [H.1] at this
      cases this
  | succ fuel ih =>
    intro listed a w hfree hr hd hlc hy hS H
    refine ⟨fun h => (by rw [h] at hr; cases hr), fun j hj => ?_⟩
    by_cases hji : j = i
    · subst hji; exact hy.wpOp hi hS ⟨.inr hS, H⟩
    · have h1 := H.2 j (ready_mono hj hji)
      obtain ⟨hjun, oj, hoj, hall⟩ := mem_ready.1 hj
      have hnot : ∀ e ∈ oj.after, Region.binds md e = true → e.on ≠ i := fun e he hb heq => by
        have h1 := hall e he hb
        have h0 := (mem_ready.1 hr).1
        rw [heq] at h1
        rcases Nat.lt_or_ge i listed.size with h' | h'
        · simp [h'] at h0 h1; rw [h0] at h1; cases h1
        · simp [Array.getElem?_eq_none h'] at h1
      have hjc : j ≠ c := fun e => by
        subst e
        have h4 := hci.not_ready hd hj
        have h0 := (mem_ready.1 hr).1
        rcases Nat.lt_or_ge i listed.size with h' | h'
        · simp [h'] at h0 h4; rw [h0] at h4; cases h4
        · simp [Array.getElem?_eq_none h'] at h4
      have h2 := wpOp_putIf hoj (hfree j oj hoj hji hjun hnot) (fun cs b => hsel i oi cs b hi) (fun cs b => hsel j oj cs b hoj) hQ hy h1
      have hfree' : ∀ k ok, ops[k]? = some ok → k ≠ i → (listed.setIfInBounds j true).getD k true = false →
          (∀ e ∈ ok.after, Region.binds md e = true → e.on ≠ i) → oi.apart ops ok = true := fun k ok hk hki hun hno => by
        refine hfree k ok hk hki ?_ hno
        by_cases hjk : j = k
        · subst hjk; exact hjun
        · rw [getD_set_ne true hjk] at hun; exact hun
      have hl2 : ((listed.setIfInBounds i true).setIfInBounds j true).getD c false = false := by
        rw [getD_set_ne false hjc, getD_set_ne false (Ne.symm hne)]; exact hlc
      have hl3 : (listed.setIfInBounds j true).getD c false = false := by rw [getD_set_ne false hjc]; exact hlc
      refine wpOp_mono (fun a' w' h3 => ?_) h2
      have hS' : S w' := by
        rcases h3.2.1 with h4 | h4
        · rw [hl2] at h4; cases h4
        · exact h4
      refine ⟨.inr hS', ih (listed.setIfInBounds j true) a' w' hfree' (ready_mono hr (Ne.symm hji)) (hd.next hj) hl3 h3.1 hS' ?_⟩
      rw [Array.setIfInBounds_comm _ _ hji]
      exact h3.2.2
def reachB (ops : Array Oper) (md : Region.Mode) (i : Nat) : Nat → Nat → Bool
  | 0, _ => false
  | n + 1, x => match ops[x]? with
    | some o => o.after.any (fun e => Region.binds md e && (e.on == i || reachB ops md i n e.on))
    | none => false
theorem reachB_spec {i : Nat} : ∀ (n x : Nat), reachB ops md i n x = true → Waits ops md i x
  | 0, _, h => by cases h
  | n + 1, x, h => by
    unfold reachB at h
    split at h
    · rename_i o ho
      obtain ⟨e, he, h3⟩ := Array.any_eq_true'.1 h
      rw [Bool.and_eq_true, Bool.or_eq_true] at h3
      rcases h3.2 with h4 | h4
      · exact .one ho he h3.1 (by simpa using h4)
      · exact .more ho he h3.1 (reachB_spec n _ h4)
    · cases h
def downB (ops : Array Oper) (md : Region.Mode) (listed : Array Bool) : Bool := (List.range ops.size).all fun k => !listed.getD k false || (match ops[k]? with
  | some o => o.after.all (fun e => !Region.binds md e || listed.getD e.on false)
  | none => true)
theorem downB_spec {listed : Array Bool} (h : downB ops md listed = true) : Down ops md listed := fun k o ho hk e he hb => by
  unfold downB at h
  have h1 := List.all_eq_true.1 h k (by have := (Array.getElem?_eq_some_iff.1 ho).1; simpa using this)
  rw [hk, ho] at h1
  simp only [Bool.not_true, Bool.false_or] at h1
  have h2 := Array.all_eq_true_iff_forall_mem.1 h1 e he
  rw [hb] at h2
  simpa using h2
end
section
variable {P : Program} {N : NN} {ops : Array Oper} {Q : Exit → Act → World → Prop} {E : Env} {S S0 : World → Prop} {c : Nat}
def AC (P : Program) (N : NN) (ops : Array Oper) (Q : Exit → Act → World → Prop) (S0 : World → Prop) (c : Nat) (fuel : Nat) (listed : Array Bool) (E : Env) (S : World → Prop) : Prop := KV N (wpAnyC P .any ops Q S0 c fuel listed) E S
theorem CV.anyC {id : Nat} {l : List Oper} (S0 : World → Prop) (c : Nat) (hm : P.follows .mixedOrders = true) (hd : ∀ w, S w → S w.drew) (n : Nat) (hn : l.length = n) (h : AC P N l.toArray Q S0 c n (Array.replicate n false) E S) : CV P N (.region id l.toArray true) Q E S :=
  fun a w hf hs => wp_region_any hm (wpAny_of_C _ _ _ _ (by subst hn; have := h a w.drew hf (hd w hs); simpa using this))
theorem AC.take (i : Nat) {d : Nat} {v : Value} {op : Op} {ty : TypeId} {pos : String} {af : Array Edge} {g : Option (Nat × Bool)} {fuel : Nat} {listed : Array Bool} (listed' : Array Bool) (hi : ops[i]? = some ⟨some d, op, ty, pos, af, g⟩)
    (hs : Region.noSelect ops = true) (hfr : Region.free .any ops listed i = true) (hr : (Region.ready .any ops listed).contains i = true) (hw : reachB ops .any i 8 c = true) (hd : downB ops .any listed = true) (hne : (c != i) = true) (hlc : listed.getD c false = false)
    (hQ : ∀ c a w, Q (.panic c) (a.put (some d) v) w → Q (.panic c) a w) (hg : Yes N ops ⟨some d, op, ty, pos, af, g⟩ E) (h : Step P N E S0 ⟨some d, op, ty, pos, af, g⟩ v) (hN : Nat.blt d N.n = true) (hS : ∀ w, S w → S0 w)
    (hl : listed.setIfInBounds i true = listed') (k : AC P N ops Q S0 c fuel listed' (set E d v) S) : AC P N ops Q S0 c (fuel + 1) listed E S := fun a w hf hs' => by
  subst hl
  exact wpAnyC_first hi (reachB_spec _ _ hw) (by simpa using hne) (Region.noSelect_spec hs) hQ fuel listed a w (Region.free_spec hi hfr) (by simpa using hr) (downB_spec hd) hlc (.inl ⟨hg a hf, fun w' hw' => h a w' hf hw'⟩) (hS w hs') (k _ w (hf.put v hN) hs')
theorem AC.takeT (i : Nat) {d : Nat} {v : Value} {op : Op} {ty : TypeId} {pos : String} {af : Array Edge} {g : Option (Nat × Bool)} {fuel : Nat} {listed : Array Bool} (listed' : Array Bool) (hi : ops[i]? = some ⟨some d, op, ty, pos, af, g⟩)
    (hs : Region.noSelect ops = true) (hfr : Region.free .any ops listed i = true) (hr : (Region.ready .any ops listed).contains i = true) (hne : (c != i) = true)
    (hQ : ∀ c a w, Q (.panic c) (a.put (some d) v) w → Q (.panic c) a w) (hg : Yes N ops ⟨some d, op, ty, pos, af, g⟩ E) (h : Step P N E (fun _ => True) ⟨some d, op, ty, pos, af, g⟩ v) (hN : Nat.blt d N.n = true) (hS : ∀ w, S w → S0 w)
    (hl : listed.setIfInBounds i true = listed') (k : AC P N ops Q S0 c fuel listed' (set E d v) S) : AC P N ops Q S0 c (fuel + 1) listed E S := fun a w hf hs' => by
  subst hl
  exact wpAnyC_free hi (by simpa using hne) (Region.noSelect_spec hs) hQ fuel listed a w (Region.free_spec hi hfr) (by simpa using hr) (.inl ⟨hg a hf, fun w' hw' => h a w' hf hw'⟩) (.inr (hS w hs')) (k _ w (hf.put v hN) hs')
def AllC (P : Program) (N : NN) (ops : Array Oper) (Q : Exit → Act → World → Prop) (S0 : World → Prop) (c : Nat) (fuel : Nat) (listed : Array Bool) (E : Env) (S : World → Prop) : List Nat → Prop
  | [] => True
  | i :: r => (∃ o, ops[i]? = some o ∧ OV P N ops Q o E S (fun a' w' => ((listed.setIfInBounds i true).getD c false = true ∨ S0 w') ∧ wpAnyC P .any ops Q S0 c fuel (listed.setIfInBounds i true) a' w')) ∧ AllC P N ops Q S0 c fuel listed E S r
theorem AllC.mem {fuel : Nat} {listed : Array Bool} : ∀ {rs : List Nat}, AllC P N ops Q S0 c fuel listed E S rs → ∀ i ∈ rs, ∃ o, ops[i]? = some o ∧ OV P N ops Q o E S (fun a' w' => ((listed.setIfInBounds i true).getD c false = true ∨ S0 w') ∧ wpAnyC P .any ops Q S0 c fuel (listed.setIfInBounds i true) a' w')
  | [], _, i, hi => by cases hi
  | j :: r, h, i, hi => by
    rcases List.mem_cons.1 hi with rfl | hi
    · exact h.1
    · exact AllC.mem h.2 i hi
theorem AC.all {fuel : Nat} {listed : Array Bool} (rs : List Nat) (hr : Region.ready .any ops listed = rs) (hne : rs ≠ []) (h : AllC P N ops Q S0 c fuel listed E S rs) : AC P N ops Q S0 c (fuel + 1) listed E S := fun a w hf hs => by
  refine ⟨fun h0 => absurd (hr ▸ h0) hne, fun i hi => ?_⟩
  rw [hr] at hi
  obtain ⟨o, ho, hov⟩ := h.mem i hi
  have := hov a w hf hs
  unfold wpOp
  simp only [ho]
  split
  · rename_i hw; rw [if_pos hw] at this; exact .inl this
  · rename_i hw; rw [if_neg hw] at this; exact this
theorem AC.next {fuel : Nat} {listed : Array Bool} {i : Nat} (listed' : Array Bool) (hl : listed.setIfInBounds i true = listed') (hS : listed'.getD c false = true ∨ ∀ w, S w → S0 w) (k : AC P N ops Q S0 c fuel listed' E S) :
    KV N (fun a' w' => ((listed.setIfInBounds i true).getD c false = true ∨ S0 w') ∧ wpAnyC P .any ops Q S0 c fuel (listed.setIfInBounds i true) a' w') E S := fun a w hf hs => by
  subst hl
  exact ⟨hS.imp id fun h => h w hs, k a w hf hs⟩
theorem AC.done {fuel : Nat} {listed : Array Bool} (hr : Region.ready .any ops listed = []) (h : KV N (Q .normal) E S) : AC P N ops Q S0 c fuel listed E S := fun a w hf hs => by
  cases fuel with
  | zero => exact ⟨hr, h a w hf hs⟩
  | succ n => exact ⟨fun _ => h a w hf hs, by rw [hr]; simp⟩
end
end Go.Sv
namespace Go.Sv
section
variable {P : Program} {N : NN} {ops : Array Oper} {Q : Exit → Act → World → Prop} {E : Env} {S S0 : World → Prop} {c : Nat}
/-- What follows from a point that all orders reach is shown once. -/
theorem AC.cutAt {α : Type} {fuel : Nat} {listed : Array Bool} (lt : Array Bool) (ft : Nat) (G : α → Env) (T : α → World → Prop) (ht : ∀ z, AC P N ops Q S0 c ft lt (G z) (T z)) (hm : (∀ z, AC P N ops Q S0 c ft lt (G z) (T z)) → AC P N ops Q S0 c fuel listed E S) : AC P N ops Q S0 c fuel listed E S := hm ht
end
end Go.Sv
namespace Go.Sv
section
variable {P : Program} {N : NN} {ops : Array Oper} {Q : Exit → Act → World → Prop} {E E0 : Env} {S S0 S1 : World → Prop} {c : Nat}
theorem AC.to {fuel : Nat} {listed : Array Bool} (h : AC P N ops Q S0 c fuel listed E0 S1) (hE : Sub E0 E) (hS : ∀ w, S w → S1 w) : AC P N ops Q S0 c fuel listed E S := KV.env _ hE (KV.heap hS h)
variable {d : Nat} {v : Value} {op : Op} {ty : TypeId} {pos : String} {af : Array Edge} {g : Option (Nat × Bool)}
theorem AC.u (i : Nat) {fuel : Nat} {listed : Array Bool} (listed' : Array Bool) (hg : Yes N ops ⟨some d, op, ty, pos, af, g⟩ E) (h : Step P N E S0 ⟨some d, op, ty, pos, af, g⟩ v) (hN : Nat.blt d N.n = true) (hS : ∀ w, S w → S0 w) (k : AC P N ops Q S0 c fuel listed' (set E d v) S) (hi : ops[i]? = some ⟨some d, op, ty, pos, af, g⟩ := by exact rfl) (hl : listed.setIfInBounds i true = listed' := by kernel_rfl)
    (hs : Region.noSelect ops = true := by kernel_rfl) (hfr : Region.free .any ops listed i = true := by kernel_rfl) (hr : (Region.ready .any ops listed).contains i = true := by kernel_rfl) (hw : reachB ops .any i 8 c = true := by kernel_rfl) (hd : downB ops .any listed = true := by kernel_rfl) (hne : (c != i) = true := by kernel_rfl) (hlc : listed.getD c false = false := by kernel_rfl)
    (hQ : ∀ c a w, Q (.panic c) (a.put (some d) v) w → Q (.panic c) a w := by exact fun _ _ _ h => h) : AC P N ops Q S0 c (fuel + 1) listed E S := AC.take i listed' hi hs hfr hr hw hd hne hlc hQ hg h hN hS hl k
end
end Go.Sv
