/-
  Plain models: remainders, tables made valid, parameters.
-/
import Derived.Test.YtaafpnoffdcbnaaMdl
set_option linter.unusedSimpArgs false
set_option linter.unusedVariables false
namespace Go.Perf
open Go.Sv
def modM (v : Int) (n : Nat) : Int := (IntKind.u64.wrap v) % n
theorem modM_lt (v : Int) {n : Nat} (h : 0 < n) : 0 ≤ modM v n ∧ modM v n < n := ⟨Int.emod_nonneg _ (by omega), Int.emod_lt_of_pos _ (by omega)⟩
theorem u64_nonneg (v : Int) : 0 ≤ IntKind.u64.wrap v := by rw [IntKind.wrap_u64]; omega
theorem modM_t (v : Int) {n : Nat} (h : 0 < n) : (IntKind.u64.wrap v).tmod n = modM v n := by
  rw [modM, Int.tmod_eq_emod_of_nonneg (u64_nonneg v)]
theorem modT (v : Int) {n : Nat} (h : 0 < n) : 0 ≤ (IntKind.u64.wrap v).tmod n ∧ (IntKind.u64.wrap v).tmod n < n := by
  rw [modM_t v h]; exact modM_lt v h
end Go.Perf
namespace Go.Perf
open Go.Sv
theorem transM_bad {ys : List Pt} {a b : Int} (h : ¬ chkM ys = 0) : transM ys a b = ([], chkM ys) := by
  rw [transM, if_neg (not_okT_of h), chkM, if_neg (not_okT_of h)]
theorem transM_no {ys : List Pt} {a b : Int} (hc : chkM ys = 0) (h : ¬ (isI ys a ∧ isI ys b)) : transM ys a b = ([], 1) := by
  rw [transM, if_pos (okT_of hc), if_neg h]
theorem transM_same {ys : List Pt} {a b : Int} (hc : chkM ys = 0) (h : isI ys a ∧ isI ys b) (e : a = b) : transM ys a b = ([], 0) := by
  rw [transM, if_pos (okT_of hc), if_pos h, if_pos e]
theorem transM_v {ys : List Pt} {p q : Nat} (hc : chkM ys = 0) (h : isI ys p ∧ isI ys q) (e : ¬ (p : Int) = q) (hv : (pt ys p).v = (pt ys q).v) : transM ys p q = ([⟨false, (pt ys q).f⟩], 0) := by
  rw [transM, if_pos (okT_of hc), if_pos h, if_neg e, if_pos (by simpa using hv)]; rfl
theorem transM_up {ys : List Pt} {p q : Nat} (hc : chkM ys = 0) (h : isI ys p ∧ isI ys q) (e : ¬ (p : Int) = q) (hv : ¬ (pt ys p).v = (pt ys q).v) (hlt : (p : Int) < q) : transM ys p q = ([⟨true, (pt ys q).v⟩, ⟨false, (pt ys q).f⟩], 0) := by
  rw [transM, if_pos (okT_of hc), if_pos h, if_neg e, if_neg (by simpa using hv), if_pos hlt]; rfl
theorem transM_dn {ys : List Pt} {p q : Nat} (hc : chkM ys = 0) (h : isI ys p ∧ isI ys q) (e : ¬ (p : Int) = q) (hv : ¬ (pt ys p).v = (pt ys q).v) (hlt : ¬ (p : Int) < q) : transM ys p q = ([⟨false, (pt ys q).f⟩, ⟨true, (pt ys q).v⟩], 0) := by
  rw [transM, if_pos (okT_of hc), if_pos h, if_neg e, if_neg (by simpa using hv), if_neg hlt]; rfl
theorem pop_eq {x y : POp} (h : x.volt = y.volt ∧ x.val = y.val) : x = y := by cases x; cases y; simp_all
theorem ext_getD {α : Type} {d : α} {xs ys : List α} (hl : xs.length = ys.length) (h : ∀ i, i < xs.length → xs.getD i d = ys.getD i d) : xs = ys := by
  apply List.ext_getElem hl
  intro i h1 h2
  have := h i h1
  simpa [List.getD, h1, h2] using this
theorem pAt_cases {ys : List Pt} (o : POp) {k : Nat} (hk : k < ys.length) : pAt ys o k = -1 ∨ ∃ k2 : Nat, pAt ys o k = k2 ∧ k2 < ys.length := by
  unfold pAt
  split
  · exact .inr ⟨k, rfl, hk⟩
  · rcases idxM_cases ys o.val with ⟨h, _⟩ | ⟨j, h, h2, _⟩
    · exact .inl h
    · exact .inr ⟨j, h, h2⟩
theorem sP_stop {ys : List Pt} {l : List POp} {j : Nat} {k v : Int} (h : j < l.length) (hb : badS ys (pAt ys (l.getD j popK.d) k) (vAt (l.getD j popK.d) v)) : sP ys (l.drop j) k v = false := by
  rw [drop_cons popK.d h, sP, if_pos hb]
theorem sP_step {ys : List Pt} {l : List POp} {j : Nat} {k v : Int} (h : j < l.length) (hb : ¬ badS ys (pAt ys (l.getD j popK.d) k) (vAt (l.getD j popK.d) v)) :
    sP ys (l.drop j) k v = sP ys (l.drop (j + 1)) (pAt ys (l.getD j popK.d) k) (vAt (l.getD j popK.d) v) := by
  rw [drop_cons popK.d h, sP, if_neg hb]
theorem sP_end {ys : List Pt} {l : List POp} {j : Nat} {k v : Int} (h : ¬ j < l.length) : sP ys (l.drop j) k v = true := by
  rw [List.drop_of_length_le (by omega)]; rfl
theorem sR_stop {ys : List Pt} {l : List POp} {j : Nat} {f v : Int} (h : j < l.length) (hb : okAt ys (fAt (l.getD j popK.d) f) (vAt (l.getD j popK.d) v) ys.length = false) : sR ys (l.drop j) f v = false := by
  rw [drop_cons popK.d h, sR, hb]; rfl
theorem sR_step {ys : List Pt} {l : List POp} {j : Nat} {f v : Int} (h : j < l.length) (hb : okAt ys (fAt (l.getD j popK.d) f) (vAt (l.getD j popK.d) v) ys.length = true) :
    sR ys (l.drop j) f v = sR ys (l.drop (j + 1)) (fAt (l.getD j popK.d) f) (vAt (l.getD j popK.d) v) := by
  rw [drop_cons popK.d h, sR, if_pos hb]
theorem sR_end {ys : List Pt} {l : List POp} {j : Nat} {f v : Int} (h : ¬ j < l.length) : sR ys (l.drop j) f v = true := by
  rw [List.drop_of_length_le (by omega)]; rfl
theorem safeM_no {ys : List Pt} {a : Int} {l : List POp} (h : ¬ (chkM ys = 0 ∧ isI ys a)) : safeM ys a l = false := if_neg fun k => h ⟨if_pos k.1, k.2⟩
theorem safeR_no {ys : List Pt} {a : Int} {l : List POp} (h : ¬ (chkM ys = 0 ∧ isI ys a)) : safeR ys a l = false := if_neg fun k => h ⟨if_pos k.1, k.2⟩
theorem safeM_yes {ys : List Pt} {a : Nat} {l : List POp} (hc : chkM ys = 0) (h : isI ys a) : safeM ys a l = sP ys (l.drop 0) a (pt ys a).v := by rw [safeM, if_pos ⟨okT_of hc, h⟩]; rfl
theorem safeR_yes {ys : List Pt} {a : Nat} {l : List POp} (hc : chkM ys = 0) (h : isI ys a) : safeR ys a l = sR ys (l.drop 0) (pt ys a).f (pt ys a).v := by rw [safeR, if_pos ⟨okT_of hc, h⟩]; rfl
/-! ### Tables made valid -/
def tab0 (raw : List Pt) : Pt := if 0 < raw.length then ⟨1 + (pt raw 0).f.tmod 100, (pt raw 0).v.tmod 100, (pt raw 0).p.tmod 100⟩ else ⟨1, 5, 0⟩
def nextP (p y : Pt) : Pt := ⟨p.f + 1 + y.f.tmod 100, p.v + y.v.tmod 4, p.p + y.p.tmod 30⟩
def tabE (raw : List Pt) : Nat → Pt
  | 0 => tab0 raw
  | k + 1 => nextP (tabE raw k) (pt raw (k + 1))
def tabM (raw : List Pt) (k : Nat) : List Pt := (List.range k).map (tabE raw)
def tabN (raw : List Pt) : Nat := max 1 (min raw.length 8)
def tableM (raw : List Pt) : List Pt := tabM raw (tabN raw)
theorem tabM_length (raw : List Pt) (k : Nat) : (tabM raw k).length = k := by simp [tabM]
theorem tabM_get (raw : List Pt) {k i : Nat} (h : i < k) : pt (tabM raw k) i = tabE raw i := by simp [pt, tabM, List.getD, h]
theorem tabM_succ (raw : List Pt) (k : Nat) : tabM raw (k + 1) = tabM raw k ++ [tabE raw k] := by simp [tabM, List.range_succ]
theorem table_length (raw : List Pt) : (tableM raw).length = tabN raw := tabM_length _ _
theorem tabN_pos (raw : List Pt) : 1 ≤ tabN raw ∧ tabN raw ≤ 8 := by unfold tabN; omega
def fitT (raw : List Pt) : Prop := ∀ i, fitP (pt raw i)
theorem fitT_of {raw : List Pt} (h : ∀ i, i < raw.length → fitP (pt raw i)) : fitT raw := fun i => by
  by_cases hi : i < raw.length
  · exact h i hi
  · have : pt raw i = ptK.d := by simp [pt, List.getD, List.getElem?_eq_none (Nat.le_of_not_lt hi)]
    rw [this]; unfold fitP ptK; simp
theorem tmB (x : Int) (n : Int) (hx : 0 ≤ x) (hn : 0 < n) : 0 ≤ x.tmod n ∧ x.tmod n < n := ⟨Int.tmod_nonneg _ hx, Int.tmod_lt_of_pos _ hn⟩
theorem tab0_bd {raw : List Pt} (h : fitT raw) : (1 ≤ (tab0 raw).f ∧ (tab0 raw).f ≤ 100) ∧ (0 ≤ (tab0 raw).v ∧ (tab0 raw).v ≤ 100) ∧ (0 ≤ (tab0 raw).p ∧ (tab0 raw).p ≤ 100) := by
  have h0 := h 0
  unfold fitP at h0
  have a1 := tmB (pt raw 0).f 100 (by omega) (by omega)
  have a2 := tmB (pt raw 0).v 100 (by omega) (by omega)
  have a3 := tmB (pt raw 0).p 100 (by omega) (by omega)
  unfold tab0
  split
  · simp only []; omega
  · simp
theorem tabE_bd {raw : List Pt} (h : fitT raw) : ∀ k : Nat, (1 + (k : Int) ≤ (tabE raw k).f ∧ (tabE raw k).f ≤ 100 + 100 * k) ∧ (0 ≤ (tabE raw k).v ∧ (tabE raw k).v ≤ 100 + 4 * k) ∧ (0 ≤ (tabE raw k).p ∧ (tabE raw k).p ≤ 100 + 30 * k)
  | 0 => by have := tab0_bd h; simp only [tabE]; omega
  | k + 1 => by
    have ih := tabE_bd h k
    have h0 := h (k + 1)
    unfold fitP at h0
    have a1 := tmB (pt raw (k + 1)).f 100 (by omega) (by omega)
    have a2 := tmB (pt raw (k + 1)).v 4 (by omega) (by omega)
    have a3 := tmB (pt raw (k + 1)).p 30 (by omega) (by omega)
    simp only [tabE, nextP]
    omega
theorem table_ok {raw : List Pt} (h : fitT raw) : okT (tableM raw) := by
  have hn := tabN_pos raw
  refine ⟨by rw [table_length]; omega, fun i hi => ?_⟩
  rw [table_length] at hi
  unfold badAt bigP lowP
  rw [tableM, tabM_get raw hi]
  have hb := tabE_bd h i
  rcases i with _ | i
  · simp only [Nat.lt_irrefl, false_and, or_false]; omega
  · rw [Nat.add_sub_cancel, tabM_get raw (show i < tabN raw by omega)]
    have h0 := h (i + 1)
    unfold fitP at h0
    have a1 := tmB (pt raw (i + 1)).f 100 (by omega) (by omega)
    have a2 := tmB (pt raw (i + 1)).v 4 (by omega) (by omega)
    have a3 := tmB (pt raw (i + 1)).p 30 (by omega) (by omega)
    have e : tabE raw (i + 1) = nextP (tabE raw i) (pt raw (i + 1)) := rfl
    have e1 : (tabE raw (i + 1)).f = (tabE raw i).f + 1 + (pt raw (i + 1)).f.tmod 100 := rfl
    have e2 : (tabE raw (i + 1)).v = (tabE raw i).v + (pt raw (i + 1)).v.tmod 4 := rfl
    have e3 : (tabE raw (i + 1)).p = (tabE raw i).p + (pt raw (i + 1)).p.tmod 30 := rfl
    omega
theorem table_chk {raw : List Pt} (h : fitT raw) : chkM (tableM raw) = 0 := if_pos (table_ok h)
end Go.Perf
namespace Go.Perf
open Go.Sv
theorem tabApp (raw : List Pt) {j : Nat} (h : 1 ≤ j) : tabE raw j = ⟨(tabE raw (j - 1)).f + 1 + (pt raw j).f.tmod 100, (tabE raw (j - 1)).v + (pt raw j).v.tmod 4, (tabE raw (j - 1)).p + (pt raw j).p.tmod 30⟩ := by
  obtain ⟨i, rfl⟩ : ∃ i, j = i + 1 := ⟨j - 1, by omega⟩
  rfl
theorem tab1 (raw : List Pt) : tabM raw 1 = [tab0 raw] := rfl
theorem tab0_pos {raw : List Pt} (h : 0 < raw.length) : tab0 raw = ⟨1 + (pt raw 0).f.tmod 100, (pt raw 0).v.tmod 100, (pt raw 0).p.tmod 100⟩ := if_pos h
theorem tab0_neg {raw : List Pt} (h : ¬ 0 < raw.length) : tab0 raw = ⟨1, 5, 0⟩ := if_neg h
end Go.Perf
namespace Go.Perf
open Go.Sv
section
variable {ys : List Pt} {f v : Int} {k : Nat}
theorem okN1 (h : okAt ys f v k = true) : true = okAt ys f v (k + 1) := by rw [okAt_succ, h]; rfl
theorem okN2 (h : okAt ys f v k = false) (h1 : (pt ys k).f = f) (h2 : (pt ys k).v ≤ v) : true = okAt ys f v (k + 1) := by rw [okAt_succ, h, decide_eq_true ⟨h1, h2⟩]; rfl
theorem okN3 (h : okAt ys f v k = false) (h1 : ¬ (pt ys k).f = f) : false = okAt ys f v (k + 1) := by rw [okAt_succ, h, decide_eq_false fun c => h1 c.1]; rfl
theorem okN4 (h : okAt ys f v k = false) (h1 : ¬ (pt ys k).v ≤ v) : false = okAt ys f v (k + 1) := by rw [okAt_succ, h, decide_eq_false fun c => h1 c.2]; rfl
end
theorem not_tru {b : Bool} (h : (!b) = true) : b = false := by cases b <;> simp_all
theorem not_fls {b : Bool} (h : (!b) = false) : b = true := by cases b <;> simp_all
end Go.Perf
