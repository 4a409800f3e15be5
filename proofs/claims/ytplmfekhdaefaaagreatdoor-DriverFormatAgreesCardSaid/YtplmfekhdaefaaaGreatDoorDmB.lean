/-
  Texts joined: Dm9, Dm10, Dm11, Dm12, Dm13, Dm14, Dm15, Dm16.
-/
import Derived.Test.YtplmfekhdaefaaaGreatDoorDmA
set_option linter.unusedSimpArgs false
set_option linter.unusedVariables false
namespace Go.Drv
open Go.Sv
/-- An instance's state. -/
structure IS where
  st : Int
  wt : Bool
  cd : Nat
abbrev trA (ts : List Tr) (i : Nat) : Tr := ts.getD i tr0
def mtch (ts : List Tr) (st : Int) (ev : Bs) (i : Nat) : Bool := decide ((trA ts i).frm = st ∧ (trA ts i).ev = ev)
def fndM (ts : List Tr) (st : Int) (ev : Bs) (k : Nat) : Option Nat := (List.range' k (ts.length - k)).find? (mtch ts st ev)
theorem fnd_none {ts : List Tr} {st : Int} {ev : Bs} {k : Nat} (h : ∀ i, k ≤ i → i < ts.length → mtch ts st ev i = false) : fndM ts st ev k = none := by
  unfold fndM
  rw [List.find?_eq_none]
  intro i hi
  obtain ⟨h1, h2⟩ := List.mem_range'_1.1 hi
  rw [h i h1 (by omega)]; decide
theorem fnd_some {ts : List Tr} {st : Int} {ev : Bs} {k j : Nat} (hk : k ≤ j) (hj : j < ts.length) (h : ∀ i, k ≤ i → i < j → mtch ts st ev i = false) (hm : mtch ts st ev j = true) : fndM ts st ev k = some j := by
  unfold fndM
  have e : List.range' k (ts.length - k) = List.range' k (j - k) ++ j :: List.range' (j + 1) (ts.length - j - 1) := by
    have h1 := List.range'_append_1 (s := k) (m := j - k) (n := ts.length - j)
    rw [show j - k + (ts.length - j) = ts.length - k by omega, show k + (j - k) = j by omega] at h1
    rw [← h1]
    congr 1
    obtain ⟨m, hm2⟩ : ∃ m, ts.length - j = m + 1 := ⟨ts.length - j - 1, by omega⟩
    rw [hm2, List.range'_succ]; rfl
  rw [e, List.find?_append]
  have h2 : (List.range' k (j - k)).find? (mtch ts st ev) = none := by
    rw [List.find?_eq_none]
    intro i hi
    obtain ⟨a, b⟩ := List.mem_range'_1.1 hi
    rw [h i a (by omega)]; decide
  rw [h2, List.find?_cons, hm]; rfl
def conM (ts : List Tr) (s : IS) (ev : Bs) (k : Nat) : IS × List Ro × Bool := match fndM ts s.st ev k with
  | none => (s, [], false)
  | some i => if (trA ts i).gd.used = false then ({ s with st := (trA ts i).to }, (trA ts i).ops, false) else ({ s with wt := true, cd := i }, [⟨false, (trA ts i).gd.reg, 0⟩], true)
def instL (q : Nat) (d : DH) (s : IS) : List Assn := [Blk q (.cells #[.string (bs d.name), .slice d.sA d.ss.length d.sc, .slice d.tA d.hs.length d.tc, .int .i64 s.st, .bool s.wt, .int .i64 s.cd] 104 (0, 0)), OS 9 strK d.sA d.sc d.ss, OS 48 thK d.tA d.tc d.hs, Big opA d.hs]
theorem trA_th (hs : List TH) (i : Nat) : trA (hs.map (·.t)) i = (hs.getD i thK.d).t := map_getD hs i
theorem bigRS {I : Ids} {w0 w : World} {L : List Assn} {k m : Nat} {H : List TH} (h : Hp I w0 L w) (hk : L[k]? = some (Big opA H)) (hm : m < H.length) : RS w roK (H.getD m thK.d).A (H.getD m thK.d).t.ops :=
  h.bigOS thK.d hk hm (G := fun b w => RS w roK b.A b.t.ops) fun i b k => OS.rs (show (OS 59 roK b.A b.c b.t.ops).sat w i from k)
theorem con_none {hs : List TH} {s : IS} {ev : Bs} {k : Nat} (h : ∀ i, k ≤ i → i < hs.length → ¬ ((hs.getD i thK.d).t.frm = s.st ∧ (hs.getD i thK.d).t.ev = ev)) : conM (hs.map (·.t)) s ev k = (s, [], false) := by
  unfold conM
  rw [fnd_none fun i h1 h2 => decide_eq_false (by rw [trA_th]; exact h i h1 (by simpa using h2))]
theorem con_take {hs : List TH} {s : IS} {ev : Bs} {k j : Nat} (hk : k ≤ j) (hj : j < hs.length) (h : ∀ i, k ≤ i → i < j → ¬ ((hs.getD i thK.d).t.frm = s.st ∧ (hs.getD i thK.d).t.ev = ev)) (hm : (hs.getD j thK.d).t.frm = s.st ∧ (hs.getD j thK.d).t.ev = ev) (hu : (hs.getD j thK.d).t.gd.used = false) : conM (hs.map (·.t)) s ev k = ({ s with st := (hs.getD j thK.d).t.to }, (hs.getD j thK.d).t.ops, false) := by
  unfold conM
  rw [fnd_some hk (by simpa using hj) (fun i h1 h2 => decide_eq_false (by rw [trA_th]; exact h i h1 h2)) (decide_eq_true (by rw [trA_th]; exact hm))]
  simp only [trA_th]
  rw [if_pos hu]
theorem con_wait {hs : List TH} {s : IS} {ev : Bs} {k j : Nat} (hk : k ≤ j) (hj : j < hs.length) (h : ∀ i, k ≤ i → i < j → ¬ ((hs.getD i thK.d).t.frm = s.st ∧ (hs.getD i thK.d).t.ev = ev)) (hm : (hs.getD j thK.d).t.frm = s.st ∧ (hs.getD j thK.d).t.ev = ev) (hu : (hs.getD j thK.d).t.gd.used = true) : conM (hs.map (·.t)) s ev k = ({ s with wt := true, cd := j }, [⟨false, (hs.getD j thK.d).t.gd.reg, 0⟩], true) := by
  unfold conM
  rw [fnd_some hk (by simpa using hj) (fun i h1 h2 => decide_eq_false (by rw [trA_th]; exact h i h1 h2)) (decide_eq_true (by rw [trA_th]; exact hm))]
  simp only [trA_th]
  rw [if_neg (by rw [hu]; decide)]
def hdlM (ts : List Tr) (s : IS) (ev : Bs) : (IS × List Ro × Bool) × Int := if s.wt = true then ((s, [], false), 9) else (conM ts s ev 0, 0)
def andU (a b : Int) : Int := IntKind.u64.wrap ((BitVec.ofInt IntKind.u64.bits a &&& BitVec.ofInt IntKind.u64.bits b).toNat)
def rplM (ts : List Tr) (s : IS) (v : Int) : (IS × List Ro × Bool) × Int := if s.wt = false then ((s, [], false), 9)
  else if andU v (trA ts s.cd).gd.mask = (trA ts s.cd).gd.val then ((⟨(trA ts s.cd).to, false, 0⟩, (trA ts s.cd).ops, false), 0)
  else (conM ts ⟨s.st, false, 0⟩ (trA ts s.cd).ev (s.cd + 1), 0)
end Go.Drv
set_option linter.unusedSimpArgs false
set_option linter.unusedVariables false
namespace Go.Drv
open Go.Sv
def awL : Bs := [100, 114, 105, 118, 101, 114, 32, 100, 10, 115, 116, 97, 116, 101, 32, 111, 102, 102, 10, 111, 110, 32, 115, 116, 97, 114, 116, 32, 45, 62, 32, 111, 110, 58, 32, 119, 114, 105, 116, 101] ++ [32, 52, 32, 49, 10, 115, 116, 97, 116, 101, 32, 111, 110, 10, 32, 111, 110, 32, 105, 114, 113, 32, 105, 102, 32, 56, 32, 38, 32, 49, 32, 61, 32, 49, 32, 45, 62, 32, 111, 102, 102]
def sOff : Bs := [111, 102, 102]
def sStart : Bs := [115, 116, 97, 114, 116]
def sIrq : Bs := [105, 114, 113]
def awD : Dv := ⟨[100], [sOff, sOn], [⟨0, sStart, gd0, [⟨true, 4, 1⟩], 1⟩, ⟨1, sIrq, ⟨true, 8, 1, 1⟩, [], 0⟩]⟩
set_option maxRecDepth 100000 in
theorem aw_parse : parseM awL = (0, awD) := by rfl
theorem aw_chk : chkM awD = 0 := by rfl
theorem aw_h1 : hdlM awD.ts ⟨0, false, 0⟩ sStart = ((⟨1, false, 0⟩, [⟨true, 4, 1⟩], false), 0) := by rfl
theorem aw_h2 : hdlM awD.ts ⟨1, false, 0⟩ sIrq = ((⟨1, true, 1⟩, [⟨false, 8, 0⟩], true), 0) := by rfl
theorem aw_h3 : rplM awD.ts ⟨1, true, 1⟩ 3 = ((⟨0, false, 0⟩, [], false), 0) := by rfl
end Go.Drv
set_option linter.unusedSimpArgs false
set_option linter.unusedVariables false
namespace Go.Drv
open Go.Sv
def modM (v : Int) (n : Nat) : Int := (IntKind.u64.wrap v) % n
theorem modM_lt (v : Int) {n : Nat} (h : 0 < n) : 0 ≤ modM v n ∧ modM v n < n := ⟨Int.emod_nonneg _ (by omega), Int.emod_lt_of_pos _ (by omega)⟩
theorem u64_nonneg (v : Int) : 0 ≤ IntKind.u64.wrap v := by rw [IntKind.wrap_u64]; omega
theorem modM_t (v : Int) {n : Nat} (h : 0 < n) : (IntKind.u64.wrap v).tmod n = modM v n := by
  rw [modM, Int.tmod_eq_emod_of_nonneg (u64_nonneg v)]
theorem modT (v : Int) {n : Nat} (h : 0 < n) : 0 ≤ (IntKind.u64.wrap v).tmod n ∧ (IntKind.u64.wrap v).tmod n < n := by
  rw [modM_t v h]; exact modM_lt v h
theorem modN (v : Int) {n : Nat} (h : 0 < n) : ∃ p : Nat, modM v n = p ∧ p < n := by
  have := modM_lt v h
  obtain ⟨p, hp⟩ := Int.eq_ofNat_of_zero_le this.1
  exact ⟨p, hp, by omega⟩
def evL : List Bs := [sStart, sIrq, sOn, sDriver, [110, 111, 110, 101], []]
def evM (k : Int) : Bs := evL.getD (modM k 6).toNat []
def nmL : List Bs := [sOff, sOn, [95, 120], [83, 116, 97, 116, 101, 51], sIf, [111, 110, 95, 49]]
def ev4 : List Bs := [sStart, sIrq, sOn, sDriver]
/-! ### large -/
def lrgT (t : Tr) : Bool := decide (20 < t.ops.length) || decide (100 < t.ev.length)
def lrgM (d : Dv) : Bool := decide (40 < d.ss.length ∨ 40 < d.ts.length ∨ 100 < d.name.length) || d.ts.any lrgT || d.ss.any (fun s => decide (100 < s.length))
structure Sml (d : Dv) : Prop where
  s : d.ss.length ≤ 40
  t : d.ts.length ≤ 40
  n : d.name.length ≤ 100
  o : ∀ i, i < d.ts.length → (trA d.ts i).ops.length ≤ 20 ∧ (trA d.ts i).ev.length ≤ 100
  k : ∀ i, i < d.ss.length → (d.ss.getD i []).length ≤ 100
theorem any_f {α : Type} {p : α → Bool} {l : List α} (d : α) (h : ∀ i, i < l.length → p (l.getD i d) = false) : l.any p = false := by
  rw [List.any_eq_false]
  intro x hx
  obtain ⟨i, hi, rfl⟩ := List.getElem_of_mem hx
  have := h i hi
  simp [List.getD, hi] at this
  simp [this]
theorem any_t {α : Type} {p : α → Bool} {l : List α} (d : α) {i : Nat} (hi : i < l.length) (h : p (l.getD i d) = true) : l.any p = true := by
  rw [List.any_eq_true]
  exact ⟨l.getD i d, by simp [List.getD, hi], h⟩
theorem lrg_of {d : Dv} (h : Sml d) : lrgM d = false := by
  unfold lrgM
  rw [decide_eq_false (by have := h.s; have := h.t; have := h.n; omega), any_f tr0 (fun i hi => ?_), any_f ([] : Bs) (fun i hi => ?_)]
  · rfl
  · exact decide_eq_false (by have := h.k i hi; omega)
  · have h2 := h.o i hi
    unfold trA at h2
    unfold lrgT
    rw [decide_eq_false (by omega), decide_eq_false (by omega)]; rfl
theorem lrg_a {d : Dv} (h : 40 < d.ss.length ∨ 40 < d.ts.length ∨ 100 < d.name.length) : lrgM d = true := by
  unfold lrgM
  rw [decide_eq_true h, Bool.true_or, Bool.true_or]
theorem lrg_t {d : Dv} {i : Nat} (hi : i < d.ts.length) (h : 20 < (trA d.ts i).ops.length ∨ 100 < (trA d.ts i).ev.length) : lrgM d = true := by
  unfold lrgM
  rw [any_t tr0 hi, Bool.or_true, Bool.true_or]
  unfold lrgT
  rcases h with h | h
  · rw [decide_eq_true h, Bool.true_or]
  · rw [decide_eq_true h, Bool.or_true]
theorem lrg_s {d : Dv} {i : Nat} (hi : i < d.ss.length) (h : 100 < (d.ss.getD i []).length) : lrgM d = true := by
  unfold lrgM
  rw [any_t (p := fun s => decide (100 < s.length)) ([] : Bs) hi (decide_eq_true h), Bool.or_true]
/-! ### Some -/
def oM (o : Ro) : Ro := if o.wr = true then o else { o with val := 0 }
def gM (g : Gd) : Gd := if g.used = true then ⟨true, g.reg, g.mask.tmod 4, g.val.tmod 4⟩ else gd0
def stF (n f : Nat) (t : Tr) : Nat := if f + 1 < n ∧ modM t.frm 3 = 0 then f + 1 else f
def frN (n : Nat) (l : List Tr) : Nat := l.foldl (stF n) 0
def someT (n f : Nat) (t : Tr) : Tr := ⟨f, ev4.getD (t.ev.length % 4) [], gM t.gd, (t.ops.take 4).map oM, modM t.to n⟩
def somF (n : Nat) : Nat → List Tr → List Tr
  | _, [] => []
  | f, t :: r => someT n (stF n f t) t :: somF n (stF n f t) r
theorem somF_snoc (n : Nat) : ∀ (l : List Tr) (f : Nat) (t : Tr), somF n f (l ++ [t]) = somF n f l ++ [someT n (stF n (l.foldl (stF n) f) t) t]
  | [], f, t => rfl
  | a :: l, f, t => by
    rw [List.cons_append, somF, somF, somF_snoc n l, List.cons_append, List.foldl_cons]
def somN (d : Dv) : Nat := 1 + d.ss.length % 6
def someM (d : Dv) : Dv := ⟨nmL.getD (d.name.length % 6) [], nmL.take (somN d), somF (somN d) 0 (d.ts.take 20)⟩
theorem frN_lt (n : Nat) (h : 0 < n) : ∀ (l : List Tr) (f : Nat), f < n → l.foldl (stF n) f < n
  | [], f, hf => hf
  | a :: l, f, hf => by
    rw [List.foldl_cons]
    refine frN_lt n h l _ ?_
    unfold stF
    split <;> omega
theorem frN_snoc (n : Nat) (l : List Tr) (t : Tr) : frN n (l ++ [t]) = stF n (frN n l) t := by simp [frN]
theorem take_snoc {α : Type} (d : α) {l : List α} {j : Nat} (h : j < l.length) : l.take (j + 1) = l.take j ++ [l.getD j d] := by
  rw [List.take_add_one]
  simp [List.getD, List.getElem?_eq_getElem h]
theorem somN_le (d : Dv) : 0 < somN d ∧ somN d ≤ 6 := by unfold somN; omega
end Go.Drv
set_option linter.unusedSimpArgs false
set_option linter.unusedVariables false
namespace Go.Drv
open Go.Sv
theorem tmodN (a b : Nat) : (a : Int).tmod (b : Int) = ((a % b : Nat) : Int) := rfl
theorem stF_t {n f : Nat} {t : Tr} (h1 : (f : Int) < (n : Int) - 1) (h2 : modM t.frm 3 = 0) : stF n f t = f + 1 := by
  unfold stF; rw [if_pos ⟨by omega, h2⟩]
theorem stF_f1 {n f : Nat} {t : Tr} (h1 : ¬ (f : Int) < (n : Int) - 1) : stF n f t = f := by
  unfold stF; rw [if_neg (fun h => h1 (by omega))]
theorem stF_f2 {n f : Nat} {t : Tr} (h2 : ¬ modM t.frm 3 = 0) : stF n f t = f := by
  unfold stF; rw [if_neg (fun h => h2 h.2)]
theorem gM_t {g : Gd} (h : g.used = true) : gM g = ⟨true, g.reg, g.mask.tmod 4, g.val.tmod 4⟩ := by unfold gM; rw [if_pos h]
theorem gM_f {g : Gd} (h : g.used = false) : gM g = gd0 := by unfold gM; rw [if_neg (by rw [h]; decide)]
theorem oM_t {o : Ro} (h : o.wr = true) : oM o = o := by unfold oM; rw [if_pos h]
theorem oM_f {o : Ro} (h : o.wr = false) : oM o = ⟨o.wr, o.reg, 0⟩ := by unfold oM; rw [if_neg (by rw [h]; decide)]
theorem take_min {α : Type} {l : List α} {k n : Nat} (h : k ≤ l.length) (h2 : k ≤ n) (h3 : ¬ (k < l.length ∧ k < n)) : l.take k = l.take n := by
  by_cases e : k = n
  · rw [e]
  · rw [List.take_of_length_le (show l.length ≤ k by omega), List.take_of_length_le (show l.length ≤ n by omega)]
theorem som_next {hs H : List TH} {n j : Nat} (hj : j < hs.length) (h : H.map (·.t) = somF n 0 ((hs.map (·.t)).take j)) {A : Option Addr} {c : Nat} {t : Tr} (ht : t = someT n (stF n (frN n ((hs.map (·.t)).take j)) (hs.getD j thK.d).t) (hs.getD j thK.d).t) :
    (H ++ [(⟨t, A, c⟩ : TH)]).map (·.t) = somF n 0 ((hs.map (·.t)).take (j + 1)) := by
  rw [List.map_append, h, take_snoc tr0 (by simpa using hj), somF_snoc, show (hs.map (·.t)).getD j tr0 = (hs.getD j thK.d).t from trA_th hs j, ht]
  rfl
theorem frN_next {hs : List TH} {n j : Nat} (hj : j < hs.length) : frN n ((hs.map (·.t)).take (j + 1)) = stF n (frN n ((hs.map (·.t)).take j)) (hs.getD j thK.d).t := by
  rw [take_snoc tr0 (by simpa using hj), frN_snoc, show (hs.map (·.t)).getD j tr0 = (hs.getD j thK.d).t from trA_th hs j]
theorem Hp.bigSnoc8 {I0 : Ids} {w0 w : World} {A1 A2 A3 A4 A5 A6 A7 : Assn} {β : Type} {F : β → Assn} {hs : List β} (h' : β) {X : Assn} (h : Hp I0 w0 [A1, A2, A3, A4, A5, A6, A7, Big F hs, X] w) (hx : X = F h') : Hp I0 w0 [A1, A2, A3, A4, A5, A6, A7, Big F (hs ++ [h'])] w := by
  subst hx
  exact Hp.bigSnoc (L := [A1, A2, A3, A4, A5, A6, A7, Big F hs]) (k := 7) h rfl
end Go.Drv
set_option linter.unusedSimpArgs false
set_option linter.unusedVariables false
namespace Go.Drv
open Go.Sv
/-! ### Some's drivers are valid -/
theorem nm_ok : ∀ q, q < 6 → isNm (nmL.getD q []) = true := by decide
theorem ev_ok : ∀ q, q < 4 → isNm (ev4.getD q []) = true := by decide
theorem somF_len (n : Nat) : ∀ (l : List Tr) (f : Nat), (somF n f l).length = l.length
  | [], _ => rfl
  | t :: r, f => by rw [somF, List.length_cons, somF_len n r, List.length_cons]
theorem gM_ok (g : Gd) : gdOk (gM g) = true := by
  unfold gM
  split
  · rfl
  · rfl
theorem oM_ok (o : Ro) : roOk (oM o) = true := by
  unfold oM
  split
  · rename_i h; unfold roOk; rw [h]; rfl
  · unfold roOk; simp
theorem stF_lt {n f : Nat} (t : Tr) (hf : f < n) : stF n f t < n ∧ f ≤ stF n f t := by
  unfold stF
  split <;> omega
theorem someT_ok {n f : Nat} (t : Tr) (hf : f < n) : okT n (someT n f t) = true := by
  rw [okT_iff]
  have hm := modM_lt t.to (show 0 < n by omega)
  refine ⟨⟨by show (0 : Int) ≤ (f : Int); omega, by show (f : Int) < n; omega⟩, hm, ev_ok _ (Nat.mod_lt _ (by decide)), gM_ok _, ?_, ?_⟩
  · show ((t.ops.take 4).map oM).length ≤ 16
    rw [List.length_map, List.length_take]; omega
  · intro k hk
    have e : ((t.ops.take 4).map oM).all roOk = true := by
      rw [List.all_eq_true]
      intro x hx
      obtain ⟨y, _, rfl⟩ := List.mem_map.1 hx
      exact oM_ok y
    exact (all_iff ro0).1 e k hk
theorem somF_ok (n : Nat) : ∀ (l : List Tr) (f : Nat), f < n → (somF n f l).all (okT n) = true
  | [], _, _ => rfl
  | t :: r, f, hf => by
    rw [somF, List.all_cons, someT_ok t (stF_lt t hf).1, somF_ok n r _ (stF_lt t hf).1]; rfl
theorem somF_asc (n : Nat) : ∀ (l : List Tr) (f k : Nat), f < n → k + 1 < l.length → ((somF n f l).getD k tr0).frm ≤ ((somF n f l).getD (k + 1) tr0).frm
  | [], _, _, _, h => by simp at h
  | [t], _, k, _, h => by simp at h
  | t :: t2 :: r, f, 0, hf, _ => by
    have h1 := stF_lt t hf
    have h2 := stF_lt t2 h1.1
    show ((stF n f t : Nat) : Int) ≤ ((stF n (stF n f t) t2 : Nat) : Int)
    omega
  | t :: t2 :: r, f, k + 1, hf, h => by
    have h1 := stF_lt t hf
    rw [somF]
    exact somF_asc n (t2 :: r) (stF n f t) k h1.1 (by simpa using h)
theorem nm_take_len {n : Nat} (h : n ≤ 6) : (nmL.take n).length = n := by
  rw [List.length_take]; exact Nat.min_eq_left h
theorem nm_nodup : nmL.Nodup := by decide
theorem some_chk (d : Dv) : chkM (someM d) = 0 := by
  have hn := somN_le d
  have hl := nm_take_len hn.2
  refine chk_ok ((chkA_iff _).2 ⟨nm_ok _ (Nat.mod_lt _ (by decide)), ⟨?_, ?_, ?_⟩, ?_, ?_, ?_⟩) ?_
  · show 0 < (nmL.take (somN d)).length; omega
  · show (nmL.take (somN d)).length ≤ 32; omega
  · show (somF _ _ _).length ≤ 128
    rw [somF_len, List.length_take]; omega
  · intro k hk
    have hk2 : k < (nmL.take (somN d)).length := hk
    rw [hl] at hk2
    have e : (nmL.take (somN d)).getD k [] = nmL.getD k [] := by simp [List.getD, List.getElem?_take, hk2]
    show isNm ((nmL.take (somN d)).getD k []) = true
    rw [e]; exact nm_ok k (by omega)
  · show ∀ k, k < (somF _ _ _).length → okT (nmL.take (somN d)).length _ = true
    rw [hl]
    exact (all_iff tr0).1 (somF_ok _ _ 0 hn.1)
  · intro k hk
    have hk2 : k < (somF (somN d) 0 (d.ts.take 20)).length := hk
    rw [somF_len] at hk2
    match k with
    | 0 => exact .inl rfl
    | k + 1 => exact .inr (somF_asc _ _ 0 k hn.1 hk2)
  · exact List.Nodup.sublist (List.take_sublist _ _) nm_nodup
/-! ### Events without a transition -/
theorem con_no {ts : List Tr} {s : IS} {ev : Bs} (h : ∀ i, i < ts.length → ¬ ((trA ts i).frm = s.st ∧ (trA ts i).ev = ev)) : conM ts s ev 0 = (s, [], false) := by
  unfold conM
  rw [fnd_none fun i _ h2 => decide_eq_false (h i h2)]
/-- An instance's candidate is one of its transitions. -/
def ISok (ts : List Tr) (s : IS) : Prop := s.wt = true → s.cd < ts.length
theorem fnd_lt {ts : List Tr} {st : Int} {ev : Bs} {k i : Nat} (h : fndM ts st ev k = some i) : k ≤ i ∧ i < ts.length ∧ mtch ts st ev i = true := by
  unfold fndM at h
  have h1 := List.mem_of_find?_eq_some h
  obtain ⟨a, b⟩ := List.mem_range'_1.1 h1
  have h2 := List.find?_some h
  exact ⟨a, by omega, h2⟩
theorem con_ok {ts : List Tr} {s : IS} {ev : Bs} {k : Nat} (h : s.wt = false) : ISok ts (conM ts s ev k).1 := by
  intro hw
  unfold conM at hw ⊢
  cases hf : fndM ts s.st ev k with
  | none => rw [hf] at hw; simp only [] at hw; rw [h] at hw; cases hw
  | some i =>
    rw [hf] at hw
    simp only [] at hw ⊢
    split
    · rename_i hu; rw [if_pos hu] at hw; simp only [] at hw; rw [h] at hw; cases hw
    · exact (fnd_lt hf).2.1
theorem hdl_ok {ts : List Tr} {s : IS} {ev : Bs} (h : ISok ts s) : ISok ts (hdlM ts s ev).1.1 := by
  unfold hdlM
  cases hw : s.wt with
  | true => rw [if_pos rfl]; exact h
  | false => rw [if_neg (by decide)]; exact con_ok hw
theorem rpl_ok {ts : List Tr} {s : IS} {v : Int} (h : ISok ts s) : ISok ts (rplM ts s v).1.1 := by
  unfold rplM
  split
  · exact h
  · split
    · intro hw; cases hw
    · exact con_ok rfl
end Go.Drv
set_option linter.unusedSimpArgs false
set_option linter.unusedVariables false
namespace Go.Drv
open Go.Sv
def stR (r : List Bool) (t : Tr) : List Bool := if r.getD t.frm.toNat false = true then r.set t.to.toNat true else r
def rndR (ts : List Tr) (r : List Bool) : List Bool := ts.foldl stR r
def itR (ts : List Tr) (r : List Bool) : Nat → List Bool
  | 0 => r
  | k + 1 => rndR ts (itR ts r k)
def cntR (r : List Bool) : Nat := r.count true
theorem stR_len (r : List Bool) (t : Tr) : (stR r t).length = r.length := by unfold stR; split <;> simp
theorem rndR_len : ∀ (ts : List Tr) (r : List Bool), (rndR ts r).length = r.length
  | [], _ => rfl
  | t :: ts, r => by
    show (rndR ts (stR r t)).length = _
    rw [rndR_len ts, stR_len]
theorem itR_len (ts : List Tr) (r : List Bool) : ∀ k, (itR ts r k).length = r.length
  | 0 => rfl
  | k + 1 => by rw [itR, rndR_len, itR_len ts r k]
theorem cnt_le (r : List Bool) : cntR r ≤ r.length := List.count_le_length
theorem set_cnt : ∀ (r : List Bool) (i : Nat), r.set i true = r ∨ cntR (r.set i true) = cntR r + 1
  | [], i => .inl (by simp)
  | true :: r, 0 => .inl rfl
  | false :: r, 0 => .inr (by simp [cntR])
  | b :: r, i + 1 => by
    rcases set_cnt r i with h | h
    · exact .inl (by rw [List.set_cons_succ, h])
    · refine .inr ?_
      rw [List.set_cons_succ]
      unfold cntR at h ⊢
      rw [List.count_cons, List.count_cons, h]; omega
theorem stR_cnt (r : List Bool) (t : Tr) : stR r t = r ∨ cntR (stR r t) = cntR r + 1 := by
  unfold stR
  split
  · exact set_cnt r _
  · exact .inl rfl
theorem fold_cnt : ∀ (ts : List Tr) (r : List Bool), rndR ts r = r ∨ cntR r < cntR (rndR ts r)
  | [], _ => .inl rfl
  | t :: ts, r => by
    show rndR ts (stR r t) = r ∨ cntR r < cntR (rndR ts (stR r t))
    rcases stR_cnt r t with h | h
    · rw [h]; exact fold_cnt ts r
    · rcases fold_cnt ts (stR r t) with h2 | h2
      · rw [h2]; exact .inr (by omega)
      · exact .inr (by omega)
theorem it_fixed {ts : List Tr} {r : List Bool} {k : Nat} (h : rndR ts (itR ts r k) = itR ts r k) : ∀ m, itR ts r (k + m) = itR ts r k
  | 0 => rfl
  | m + 1 => by
    show rndR ts (itR ts r (k + m)) = _
    rw [it_fixed h m, h]
theorem it_cnt (ts : List Tr) (r : List Bool) : ∀ k, (∃ j, j < k ∧ rndR ts (itR ts r j) = itR ts r j) ∨ cntR r + k ≤ cntR (itR ts r k)
  | 0 => .inr (Nat.le_refl _)
  | k + 1 => by
    rcases it_cnt ts r k with ⟨j, hj, h⟩ | h
    · exact .inl ⟨j, by omega, h⟩
    · rcases fold_cnt ts (itR ts r k) with h2 | h2
      · exact .inl ⟨k, by omega, h2⟩
      · refine .inr ?_
        show _ ≤ cntR (rndR ts (itR ts r k))
        omega
theorem it_end {ts : List Tr} {r : List Bool} (h0 : 0 < cntR r) : rndR ts (itR ts r r.length) = itR ts r r.length := by
  rcases it_cnt ts r r.length with ⟨j, hj, h⟩ | h
  · have h2 := it_fixed h (r.length - j)
    rw [show j + (r.length - j) = r.length by omega] at h2
    rw [h2, h]
  · have := cnt_le (itR ts r r.length)
    rw [itR_len] at this; omega
theorem it_same {ts : List Tr} {r : List Bool} (h0 : 0 < cntR r) {k : Nat} (h : rndR ts (itR ts r k) = itR ts r k) : itR ts r k = itR ts r r.length := by
  rcases Nat.le_total k r.length with hk | hk
  · have h2 := it_fixed h (r.length - k)
    rw [show k + (r.length - k) = r.length by omega] at h2
    exact h2.symm
  · have h2 := it_fixed (it_end (ts := ts) h0) (k - r.length)
    rw [show r.length + (k - r.length) = k by omega] at h2
    exact h2
def r0 (n : Nat) : List Bool := (List.replicate n false).set 0 true
theorem r0_len (n : Nat) : (r0 n).length = n := by simp [r0]
theorem r0_cnt {n : Nat} (h : 0 < n) : 0 < cntR (r0 n) := by
  obtain ⟨m, rfl⟩ : ∃ m, n = m + 1 := ⟨n - 1, by omega⟩
  show 0 < cntR (true :: List.replicate m false)
  simp [cntR]
def rchM (d : Dv) : List Bool := itR d.ts (r0 d.ss.length) d.ss.length
theorem rch_len (d : Dv) : (rchM d).length = d.ss.length := by rw [rchM, itR_len, r0_len]
theorem rch_of {d : Dv} (hs : 0 < d.ss.length) {k : Nat} (h : rndR d.ts (itR d.ts (r0 d.ss.length) k) = itR d.ts (r0 d.ss.length) k) : itR d.ts (r0 d.ss.length) k = rchM d := by
  have := it_same (r0_cnt hs) h
  rw [r0_len] at this
  exact this
theorem rch_fix {d : Dv} (hs : 0 < d.ss.length) : rndR d.ts (rchM d) = rchM d := by
  have := it_end (ts := d.ts) (r0_cnt hs)
  rw [r0_len] at this
  exact this
def outR (r : List Bool) (k : Nat) : List Int := ((List.range k).filter (fun i => r.getD i false)).map (fun i : Nat => (i : Int))
theorem outR_t {r : List Bool} {k : Nat} (h : r.getD k false = true) : outR r (k + 1) = outR r k ++ [(k : Int)] := by
  unfold outR
  rw [List.range_succ, List.filter_append, List.map_append, List.filter_cons, if_pos h]; rfl
theorem outR_f {r : List Bool} {k : Nat} (h : r.getD k false = false) : outR r (k + 1) = outR r k := by
  unfold outR
  rw [List.range_succ, List.filter_append, List.map_append, List.filter_cons, if_neg (by rw [h]; decide)]
  exact List.append_nil _
theorem outR_len (r : List Bool) (k : Nat) : (outR r k).length ≤ k := by
  unfold outR
  rw [List.length_map]
  exact Nat.le_trans (List.length_filter_le _ _) (by simp)
theorem outR_mem {r : List Bool} {k : Nat} {x : Int} : x ∈ outR r k ↔ ∃ i : Nat, x = i ∧ i < k ∧ r.getD i false = true := by
  unfold outR
  simp only [List.mem_map, List.mem_filter, List.mem_range]
  constructor
  · rintro ⟨i, ⟨h1, h2⟩, rfl⟩; exact ⟨i, rfl, h1, h2⟩
  · rintro ⟨i, rfl, h1, h2⟩; exact ⟨i, ⟨h1, h2⟩, rfl⟩
/-! ### Closed -/
theorem set_mono (r : List Bool) (i j : Nat) (h : r.getD j false = true) : (r.set i true).getD j false = true := by
  by_cases e : i = j
  · subst e
    have hl : i < r.length := by
      rcases Nat.lt_or_ge i r.length with h' | h'
      · exact h'
      · simp [List.getD, List.getElem?_eq_none h'] at h
    simp [List.getD, hl]
  · simpa [List.getD, List.getElem?_set_ne e] using h
theorem stR_mono (r : List Bool) (t : Tr) (j : Nat) (h : r.getD j false = true) : (stR r t).getD j false = true := by
  unfold stR
  split
  · exact set_mono r _ j h
  · exact h
theorem rndR_mono : ∀ (ts : List Tr) (r : List Bool) (j : Nat), r.getD j false = true → (rndR ts r).getD j false = true
  | [], _, _, h => h
  | t :: ts, r, j, h => rndR_mono ts (stR r t) j (stR_mono r t j h)
theorem rndR_to : ∀ (ts : List Tr) (r : List Bool) (t : Tr), t ∈ ts → r.getD t.frm.toNat false = true → t.to.toNat < r.length → (rndR ts r).getD t.to.toNat false = true
  | [], _, _, h, _, _ => by cases h
  | a :: ts, r, t, h, hf, hl => by
    rcases List.mem_cons.1 h with rfl | h
    · refine rndR_mono ts (stR r t) _ ?_
      unfold stR
      rw [if_pos hf]
      simp [List.getD, hl]
    · exact rndR_to ts (stR r a) t h (stR_mono r a _ hf) (by rw [stR_len]; exact hl)
theorem rch_closed {d : Dv} (hs : 0 < d.ss.length) {t : Tr} (ht : t ∈ d.ts) (hf : (rchM d).getD t.frm.toNat false = true) (hl : t.to.toNat < d.ss.length) : (rchM d).getD t.to.toNat false = true := by
  have := rndR_to d.ts (rchM d) t ht hf (by rw [rch_len]; exact hl)
  rw [rch_fix hs] at this
  exact this
theorem itR_mono (ts : List Tr) (r : List Bool) (j : Nat) (h : r.getD j false = true) : ∀ k, (itR ts r k).getD j false = true
  | 0 => h
  | k + 1 => rndR_mono ts _ j (itR_mono ts r j h k)
theorem rch_zero {d : Dv} (hs : 0 < d.ss.length) : (rchM d).getD 0 false = true := by
  refine itR_mono _ _ 0 ?_ _
  unfold r0
  simp [List.getD, hs]
end Go.Drv
set_option linter.unusedSimpArgs false
set_option linter.unusedVariables false
namespace Go.Drv
open Go.Sv
theorem chk_t {d : Dv} (h : chkM d = 0) {i : Nat} (hi : i < d.ts.length) : okT d.ss.length (trA d.ts i) = true := by
  have h1 : chkA d = true := by
    unfold chkM at h
    cases hc : chkA d with
    | true => rfl
    | false => rw [hc] at h; simp at h
  exact ((chkA_iff d).1 h1).2.2.2.1 i hi
theorem chk_s {d : Dv} (h : chkM d = 0) : 0 < d.ss.length ∧ d.ss.length ≤ 32 ∧ d.ts.length ≤ 128 := by
  have h1 : chkA d = true := by
    unfold chkM at h
    cases hc : chkA d with
    | true => rfl
    | false => rw [hc] at h; simp at h
  exact ((chkA_iff d).1 h1).2.1
structure RI (d : Dv) (s : IS) : Prop where
  r : (rchM d).getD s.st.toNat false = true
  n : 0 ≤ s.st ∧ s.st < d.ss.length
  c : s.wt = true → s.cd < d.ts.length ∧ (trA d.ts s.cd).frm = s.st
theorem trA_mem {ts : List Tr} {i : Nat} (h : i < ts.length) : trA ts i ∈ ts := by
  unfold trA
  simp [List.getD, h]
theorem ri_start {d : Dv} (h : chkM d = 0) : RI d ⟨0, false, 0⟩ := by
  have h1 := chk_s h
  exact ⟨rch_zero h1.1, ⟨Int.le_refl _, by show (0 : Int) < _; omega⟩, fun h => by cases h⟩
theorem ri_take {d : Dv} (h : chkM d = 0) {s : IS} (hs : RI d s) {i : Nat} (hi : i < d.ts.length) (hf : (trA d.ts i).frm = s.st) (c : Nat) : RI d ⟨(trA d.ts i).to, false, c⟩ := by
  have h1 := (okT_iff _ _).1 (chk_t h hi)
  refine ⟨rch_closed (chk_s h).1 (trA_mem hi) (by rw [hf]; exact hs.r) (by omega), h1.2.1, fun h => by cases h⟩
theorem mtch_iff {ts : List Tr} {st : Int} {ev : Bs} {i : Nat} : mtch ts st ev i = true ↔ (trA ts i).frm = st ∧ (trA ts i).ev = ev := decide_eq_true_iff
/-- What an action says after k answers. -/
structure AI (d : Dv) (k : Nat) (s : IS) (ops : List Ro) (wt : Bool) : Prop where
  ri : RI d s
  w : s.wt = wt
  o : wt = true → k ≤ s.cd ∧ ∃ g, ops = [⟨false, g, 0⟩]
theorem ai_con {d : Dv} (h : chkM d = 0) {s : IS} (hs : RI d s) (hw : s.wt = false) (ev : Bs) (k : Nat) : AI d k (conM d.ts s ev k).1 (conM d.ts s ev k).2.1 (conM d.ts s ev k).2.2 := by
  unfold conM
  cases hf : fndM d.ts s.st ev k with
  | none => exact ⟨hs, hw, fun h => by cases h⟩
  | some i =>
    obtain ⟨h1, h2, h3⟩ := fnd_lt hf
    have h4 := mtch_iff.1 h3
    simp only []
    split
    · obtain ⟨st, wt, cd⟩ := s
      simp only [] at hw
      subst hw
      exact ⟨ri_take h hs h2 h4.1 cd, rfl, fun h => by cases h⟩
    · exact ⟨⟨hs.r, hs.n, fun _ => ⟨h2, h4.1⟩⟩, rfl, fun _ => ⟨h1, _, rfl⟩⟩
theorem ai_hdl {d : Dv} (h : chkM d = 0) {s : IS} (hs : RI d s) (hw : s.wt = false) (ev : Bs) : AI d 0 (hdlM d.ts s ev).1.1 (hdlM d.ts s ev).1.2.1 (hdlM d.ts s ev).1.2.2 ∧ (hdlM d.ts s ev).2 = 0 := by
  unfold hdlM
  rw [if_neg (by rw [hw]; decide)]
  exact ⟨ai_con h hs hw ev 0, rfl⟩
theorem ai_rpl {d : Dv} (h : chkM d = 0) {k : Nat} {s : IS} {ops : List Ro} (hs : AI d k s ops true) (v : Int) : AI d (k + 1) (rplM d.ts s v).1.1 (rplM d.ts s v).1.2.1 (rplM d.ts s v).1.2.2 ∧ (rplM d.ts s v).2 = 0 := by
  have hw := hs.w
  have hc := hs.ri.c hw
  have hk := (hs.o rfl).1
  unfold rplM
  rw [if_neg (by rw [hw]; decide)]
  split
  · exact ⟨⟨ri_take h hs.ri hc.1 hc.2 0, rfl, fun h => by cases h⟩, rfl⟩
  · have h2 := ai_con h (s := ⟨s.st, false, 0⟩) ⟨hs.ri.r, hs.ri.n, fun h => by cases h⟩ rfl (trA d.ts s.cd).ev (s.cd + 1)
    exact ⟨⟨h2.ri, h2.w, fun h => ⟨Nat.le_trans (by omega) (h2.o h).1, (h2.o h).2⟩⟩, rfl⟩
/-! ### Fewer transitions -/
theorem fnd_end {ts : List Tr} {st : Int} {ev : Bs} {k : Nat} (h : ts.length ≤ k) : fndM ts st ev k = none := fnd_none fun i h1 h2 => by omega
theorem fnd_hit {ts : List Tr} {st : Int} {ev : Bs} {k : Nat} (h : k < ts.length) (hm : mtch ts st ev k = true) : fndM ts st ev k = some k := fnd_some (Nat.le_refl _) h (fun i h1 h2 => by omega) hm
theorem fnd_miss {ts : List Tr} {st : Int} {ev : Bs} {k : Nat} (h : k < ts.length) (hm : mtch ts st ev k = false) : fndM ts st ev k = fndM ts st ev (k + 1) := by
  unfold fndM
  obtain ⟨m, hm2⟩ : ∃ m, ts.length - k = m + 1 := ⟨ts.length - k - 1, by omega⟩
  rw [hm2, List.range'_succ, List.find?_cons, hm, show ts.length - (k + 1) = m by omega]
theorem drop_trA {ts : List Tr} {k : Nat} (h : k < ts.length) : ts.drop k = trA ts k :: ts.drop (k + 1) := by
  rw [List.drop_eq_getElem_cons h]
  unfold trA
  simp [List.getD, h]
theorem mtch_eq {ts ts' : List Tr} {st : Int} {ev : Bs} {i i' : Nat} (h : trA ts i = trA ts' i') : mtch ts st ev i = mtch ts' st ev i' := by unfold mtch; rw [h]
theorem fnd_filter {ts ts' : List Tr} {p : Tr → Bool} {st : Int} {ev : Bs} (hp : ∀ t, t.frm = st → p t = true) : ∀ (n k k' : Nat), ts.length - k = n → ts'.drop k' = (ts.drop k).filter p →
    (fndM ts st ev k = none ∧ fndM ts' st ev k' = none) ∨ ∃ i i', fndM ts st ev k = some i ∧ fndM ts' st ev k' = some i' ∧ trA ts' i' = trA ts i ∧ ts'.drop (i' + 1) = (ts.drop (i + 1)).filter p := by
  intro n
  induction n with
  | zero =>
    intro k k' hk hd
    rw [List.drop_eq_nil_of_le (show ts.length ≤ k by omega), List.filter_nil, List.drop_eq_nil_iff] at hd
    exact .inl ⟨fnd_end (by omega), fnd_end hd⟩
  | succ n ih =>
    intro k k' hk hd
    have hlt : k < ts.length := by omega
    rw [drop_trA hlt, List.filter_cons] at hd
    cases hpt : p (trA ts k) with
    | true =>
      rw [hpt, if_pos rfl] at hd
      have hlt' : k' < ts'.length := by
        rcases Nat.lt_or_ge k' ts'.length with h | h
        · exact h
        · rw [List.drop_eq_nil_of_le h] at hd; cases hd
      rw [drop_trA hlt'] at hd
      obtain ⟨h1, h2⟩ := List.cons.inj hd
      cases hm : mtch ts st ev k with
      | true => exact .inr ⟨k, k', fnd_hit hlt hm, fnd_hit hlt' (by rw [mtch_eq h1]; exact hm), h1, h2⟩
      | false =>
        rw [fnd_miss hlt hm, fnd_miss hlt' (by rw [mtch_eq h1]; exact hm)]
        exact ih (k + 1) (k' + 1) (by omega) h2
    | false =>
      rw [hpt, if_neg (by decide)] at hd
      have hm : mtch ts st ev k = false := by
        cases h : mtch ts st ev k with
        | false => rfl
        | true => rw [hp _ (mtch_iff.1 h).1] at hpt; cases hpt
      rw [fnd_miss hlt hm]
      exact ih (k + 1) k' (by omega) hd
/-- Two instances, the second with fewer transitions. -/
structure R2 (d : Dv) (ts' : List Tr) (p : Tr → Bool) (s s' : IS) : Prop where
  ri : RI d s
  st : s'.st = s.st
  wt : s'.wt = s.wt
  c : s.wt = true → s'.cd < ts'.length ∧ trA ts' s'.cd = trA d.ts s.cd ∧ ts'.drop (s'.cd + 1) = (d.ts.drop (s.cd + 1)).filter p
theorem r2_con {d : Dv} {ts' : List Tr} {p : Tr → Bool} (h : chkM d = 0) (hp : ∀ t, (rchM d).getD t.frm.toNat false = true → p t = true) {s s' : IS} (hs : RI d s) (hst : s'.st = s.st) (hw : s.wt = false) (hw' : s'.wt = false) (ev : Bs) {k k' : Nat} (hd : ts'.drop k' = (d.ts.drop k).filter p) :
    R2 d ts' p (conM d.ts s ev k).1 (conM ts' s' ev k').1 ∧ (conM ts' s' ev k').2 = (conM d.ts s ev k).2 := by
  have ha := ai_con h hs hw ev k
  have hp2 : ∀ t : Tr, t.frm = s.st → p t = true := fun t ht => hp t (by rw [ht]; exact hs.r)
  have hri := ha.ri
  unfold conM at hri ⊢
  rw [hst]
  rcases fnd_filter (ts := d.ts) (ts' := ts') (ev := ev) hp2 _ k k' rfl hd with ⟨h1, h2⟩ | ⟨i, i', h1, h2, h3, h4⟩
  · rw [h1] at hri ⊢
    rw [h2]
    exact ⟨⟨hri, hst, by rw [hw, hw'], fun h => by rw [hw] at h; cases h⟩, rfl⟩
  · rw [h1] at hri ⊢
    rw [h2]
    simp only [] at hri ⊢
    rw [h3]
    have h5 := (fnd_lt h2).2.1
    split
    · rename_i hu
      rw [if_pos hu] at hri
      exact ⟨⟨hri, rfl, by show s'.wt = s.wt; rw [hw, hw'], fun h => by rw [show s.wt = true from h] at hw; cases hw⟩, rfl⟩
    · rename_i hu
      rw [if_neg hu] at hri
      exact ⟨⟨hri, rfl, rfl, fun _ => ⟨h5, h3, h4⟩⟩, rfl⟩
theorem r2_hdl {d : Dv} {ts' : List Tr} {p : Tr → Bool} (h : chkM d = 0) (hp : ∀ t, (rchM d).getD t.frm.toNat false = true → p t = true) (ht : ts' = d.ts.filter p) {s s' : IS} (hs : R2 d ts' p s s') (hw : s.wt = false) (ev : Bs) :
    R2 d ts' p (hdlM d.ts s ev).1.1 (hdlM ts' s' ev).1.1 ∧ (hdlM ts' s' ev).1.2 = (hdlM d.ts s ev).1.2 ∧ (hdlM ts' s' ev).2 = (hdlM d.ts s ev).2 := by
  unfold hdlM
  rw [if_neg (by rw [hw]; decide), if_neg (by rw [hs.wt, hw]; decide)]
  have := r2_con (ts' := ts') (k := 0) (k' := 0) h hp hs.ri hs.st hw (by rw [hs.wt, hw]) ev (by rw [List.drop_zero, List.drop_zero]; exact ht)
  exact ⟨this.1, this.2, rfl⟩
theorem r2_rpl {d : Dv} {ts' : List Tr} {p : Tr → Bool} (h : chkM d = 0) (hp : ∀ t, (rchM d).getD t.frm.toNat false = true → p t = true) {s s' : IS} (hs : R2 d ts' p s s') (hw : s.wt = true) (v : Int) :
    R2 d ts' p (rplM d.ts s v).1.1 (rplM ts' s' v).1.1 ∧ (rplM ts' s' v).1.2 = (rplM d.ts s v).1.2 ∧ (rplM ts' s' v).2 = (rplM d.ts s v).2 := by
  obtain ⟨c1, c2, c3⟩ := hs.c hw
  have hc := hs.ri.c hw
  unfold rplM
  rw [if_neg (show ¬ s.wt = false by rw [hw]; decide), if_neg (show ¬ s'.wt = false by rw [hs.wt, hw]; decide), c2]
  split
  · exact ⟨⟨ri_take h hs.ri hc.1 hc.2 0, rfl, rfl, fun h => by cases h⟩, rfl, rfl⟩
  · have := r2_con (s := ⟨s.st, false, 0⟩) (s' := ⟨s'.st, false, 0⟩) h hp ⟨hs.ri.r, hs.ri.n, fun h => by cases h⟩ hs.st rfl rfl (trA d.ts s.cd).ev c3
    exact ⟨this.1, this.2, rfl⟩
end Go.Drv
set_option linter.unusedSimpArgs false
set_option linter.unusedVariables false
namespace Go.Drv
open Go.Sv
theorem lrg_sml {d : Dv} (h : lrgM d = false) : d.ss.length ≤ 40 ∧ d.ts.length ≤ 40 ∧ d.name.length ≤ 100 := by
  refine Decidable.by_contra fun hc => ?_
  rw [lrg_a (d := d) (by omega)] at h; cases h
def OpsLe (T : List Tr) : Prop := ∀ i, (trA T i).ops.length ≤ 16
theorem opsLe_of {d : Dv} (h : chkM d = 0) : OpsLe d.ts := by
  intro i
  rcases Nat.lt_or_ge i d.ts.length with hi | hi
  · exact ((okT_iff _ _).1 (chk_t h hi)).2.2.2.2.1
  · have : trA d.ts i = tr0 := by simp [trA, List.getD, List.getElem?_eq_none hi]
    rw [this]; decide
theorem con_le {T : List Tr} (h : OpsLe T) (s : IS) (ev : Bs) (k : Nat) : (conM T s ev k).2.1.length ≤ 1000000 := by
  unfold conM
  split
  · exact Nat.zero_le _
  · split
    · exact Nat.le_trans (h _) (by decide)
    · exact (by decide : 1 ≤ 1000000)
theorem hdl_le {T : List Tr} (h : OpsLe T) (s : IS) (ev : Bs) : (hdlM T s ev).1.2.1.length ≤ 1000000 := by
  unfold hdlM
  split
  · exact Nat.zero_le _
  · exact con_le h s ev 0
theorem rpl_le {T : List Tr} (h : OpsLe T) (s : IS) (v : Int) : (rplM T s v).1.2.1.length ≤ 1000000 := by
  unfold rplM
  split
  · exact Nat.zero_le _
  · split
    · exact Nat.le_trans (h _) (by decide)
    · exact con_le h _ _ _
def knw (hs : List TH) (st : Int) (ev : Bs) (k : Nat) : Bool := (List.range k).any (fun i => decide ((hs.getD i thK.d).t.frm = st ∧ (hs.getD i thK.d).t.ev = ev))
theorem knw_s (hs : List TH) (st : Int) (ev : Bs) (k : Nat) : knw hs st ev (k + 1) = (knw hs st ev k || decide ((hs.getD k thK.d).t.frm = st ∧ (hs.getD k thK.d).t.ev = ev)) := by
  unfold knw
  rw [List.range_succ, List.any_append]; simp
theorem knw_1 {hs : List TH} {st : Int} {ev : Bs} {k : Nat} (h : knw hs st ev k = true) : knw hs st ev (k + 1) = true := by rw [knw_s, h]; rfl
theorem knw_2 {hs : List TH} {st : Int} {ev : Bs} {k : Nat} (h : knw hs st ev k = false) (h2 : (hs.getD k thK.d).t.frm = st) : knw hs st ev (k + 1) = decide ((hs.getD k thK.d).t.ev = ev) := by
  rw [knw_s, h, Bool.false_or]
  exact decide_eq_decide.2 ⟨fun h => h.2, fun h => ⟨h2, h⟩⟩
theorem knw_3 {hs : List TH} {st : Int} {ev : Bs} {k : Nat} (h : knw hs st ev k = false) (h2 : ¬ (hs.getD k thK.d).t.frm = st) : knw hs st ev (k + 1) = false := by
  rw [knw_s, h, Bool.false_or]
  exact decide_eq_false fun h => h2 h.1
theorem knw_no {hs : List TH} {s : IS} {ev : Bs} (h : knw hs s.st ev hs.length = false) : conM (hs.map (·.t)) s ev 0 = (s, [], false) := by
  refine con_none fun i _ hi hc => ?_
  unfold knw at h
  rw [List.any_eq_false] at h
  exact h i (List.mem_range.2 hi) (decide_eq_true hc)
theorem knw_hdl {hs : List TH} {s : IS} {ev : Bs} (h : knw hs s.st ev hs.length = false) (hw : s.wt = false) : hdlM (hs.map (·.t)) s ev = ((s, [], false), 0) := by
  unfold hdlM
  rw [if_neg (by rw [hw]; decide), knw_no h]
end Go.Drv
