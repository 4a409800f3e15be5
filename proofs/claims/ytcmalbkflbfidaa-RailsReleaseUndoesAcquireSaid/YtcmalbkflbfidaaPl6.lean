/-
  Plain: Acquire, then Release, of one rail.
-/
import Derived.Test.YtcmalbkflbfidaaPl5
set_option linter.unusedSimpArgs false
set_option linter.unusedVariables false
namespace Go.Rails
open Go.Sv
theorem rev_getD {l m : List Int} (h : m = l.reverse) {k : Nat} (hk : k < l.length) : l.getD k 0 = m.getD (l.length - 1 - k) 0 := by
  subst h
  simp only [List.getD]
  rw [List.getElem?_reverse (by omega)]
  congr 2; omega
theorem map_getD {l : List ROp} {k : Nat} (hk : k < l.length) : (l.map (·.rail)).getD k 0 = (l.getD k opK.d).rail := by simp [List.getD, hk]
theorem mem_getD {l : List ROp} {k : Nat} (hk : k < l.length) : l.getD k opK.d ∈ l := by simp [List.getD, hk]
theorem acq_rel {s : List Rail} {rk : Nat → Nat} (G : Good s rk) {m : Nat} (hm : m ≤ 900) {st : St} (h : IN s m st) {q : Nat} (hq : q < s.length) :
    ∃ sa na sb nb, acqM 8 st q st.clock = ⟨sa, na, 0⟩ ∧ relM 8 sa q st.clock = ⟨sb, nb, 0⟩ ∧ IN s (m + 1) sa ∧ IN s (m + 2) sb ∧ sb.count = st.count ∧ na.length ≤ 8 ∧ nb.length = na.length ∧
      (∀ k, k < na.length → (na.getD k opK.d).rail = (nb.getD (na.length - 1 - k) opK.d).rail ∧ (na.getD k opK.d).on = true ∧ (nb.getD k opK.d).on = false) := by
  obtain ⟨sa, na, ea, ha, ia, oa, _, non, ca⟩ := acq_IN G (by omega) h hq (Int.le_refl _) h.clock.2
  have ho := oa q hq
  rw [if_pos rfl] at ho
  have h0 := h.inv.own q hq
  obtain ⟨sb, nb, eb, hb, ib, _, _, _⟩ := rel_IN G (m := m + 1) (by omega) ia (i := q) (now := st.clock) hq (by omega) h.clock.2 (by omega)
  have hlen := (addP_keep 8 (st.tick st.clock) q st.clock []).2.2.2.2
  rw [ha] at hlen
  obtain ⟨s3, ys, e1, e2, e3, e4⟩ := undo G.acy st.clock st.clock 8 (st.tick st.clock) (sa.tick st.clock) q [] h.inv.rails ⟨h.inv.wf.count, h.inv.wf.done⟩ (fun j hj => by have := h.cb G.len hj; show 0 ≤ st.c j ∧ st.c j ≤ _; omega) hq (by have := G.rank q hq; have := G.len; omega) (by rw [ha]; rfl) ia.inv.rails
  rw [hb, List.nil_append] at e1
  cases e1
  rw [ha] at e3
  have hl : nb.length = na.length := by have := congrArg List.length e3; simpa using this
  refine ⟨sa, na, sb, nb, ea q rfl, eb q rfl, ia, ib, e2, by simpa using hlen, hl, fun k hk => ⟨?_, non _ (mem_getD hk), e4 _ (mem_getD (by omega))⟩⟩
  have := rev_getD (l := na.map (·.rail)) (m := nb.map (·.rail)) e3 (k := k) (by simpa using hk)
  rw [map_getD hk, List.length_map, map_getD (by omega)] at this
  exact this
end Go.Rails
