/-
  Texts joined: Ob1, Ob2, Ob3, Ob4, Ob5, Ob6, Aw, Aw2, Sm.
-/
import Derived.Test.YtdfkpdcpegcieaaGreatDoorThA
import Derived.Test.YtdfkpdcpegcieaaGreatDoorSvC
set_option linter.unusedSimpArgs false
set_option linter.unusedVariables false
namespace Go.Sv
variable {α : Type} {K : Enc α} {w : World} {A : Option Addr} {ys : List α} {P : Program} {N : NN} {E : Env} {S : World → Prop}
theorem RS.cellAt (h : RS w K A ys) (m j : Nat) {o : Nat} {v : Value} (hm : m < ys.length) (ho : o = of A + m * K.sz + j) (hv : (K.f (ys.getD m K.d))[j]? = some v) : w.cell? ⟨bk A, o, none⟩ = some v := by
  subst ho; exact h.cell hm hv
theorem RS.cellsAt (h : RS w K A ys) (m j : Nat) {o : Nat} (vs : List Value) (hm : m < ys.length) (ho : o = of A + m * K.sz + j) (hv : ((K.f (ys.getD m K.d)).drop j).take vs.length = vs) :
    ∀ i v, vs[i]? = some v → w.cell? ⟨bk A, o + i, none⟩ = some v := fun i v hi => by
  subst ho
  have h1 : (K.f (ys.getD m K.d))[j + i]? = some v := by
    rw [← hv, List.getElem?_take] at hi
    split at hi
    · rwa [List.getElem?_drop] at hi
    · cases hi
  have := h.cell hm h1
  rwa [← Nat.add_assoc] at this
theorem Hp.cellsO {I0 : Ids} {w0 w : World} {L : List Assn} (h : Hp I0 w0 L w) (k o : Nat) (vs : List Value) {b : Nat} {cs : Array Value} {t : TypeId} {fz : Nat × Nat} (hk : L[k]? = some (Blk b (.cells cs t fz))) (hv : (cs.toList.drop o).take vs.length = vs) :
    ∀ j v, vs[j]? = some v → w.cell? ⟨b, o + j, none⟩ = some v := fun j v hj => by
  rw [cell_of (h.blk k hk)]
  rw [← hv, List.getElem?_take] at hj
  split at hj
  · rw [List.getElem?_drop] at hj; simpa using hj
  · cases hj
end Go.Sv
namespace Go.Ctl
open Go.Sv Go.Perf
def hdK : Enc HD where
  f r := [.int .i64 r.cap, .int .i64 r.amb]
  sz := 2
  d := hd0
  len _ := rfl
  pos := by decide
  one r v hv := by simp at hv; rcases hv with rfl | rfl <;> rfl
def hlK : Enc HL where
  f r := [.int .i64 r.a, .int .i64 r.b, .int .i64 r.g]
  sz := 3
  d := hl0
  len _ := rfl
  pos := by decide
  one r v hv := by simp at hv; rcases hv with rfl | rfl | rfl <;> rfl
def trK : Enc Trp where
  f r := [.int .i64 r.kd, .int .i64 r.tp, .int .i64 r.hy]
  sz := 3
  d := trp0
  len _ := rfl
  pos := by decide
  one r v hv := by simp at hv; rcases hv with rfl | rfl | rfl <;> rfl
def bolK : Enc Bool where
  f b := [.bool b]
  sz := 1
  d := false
  len _ := rfl
  pos := by decide
  one r v hv := by simp at hv; subst hv; rfl
def acK : Enc Act where
  f r := [.int .u64 r.rq, .int .u64 r.mn, .int .u64 r.mx]
  sz := 3
  d := act0
  len _ := rfl
  pos := by decide
  one r v hv := by simp at hv; rcases hv with rfl | rfl | rfl <;> rfl
/-! ### Zones -/
def zblk (b : Nat) (A : Option Addr) (c : Nat) (oA : Option Addr) (oc : Nat) (z : Zn) : Assn := Blk b (.cells #[.slice A z.tr.length c, .slice oA z.tr.length oc, .int .i64 z.lv, .int .i64 z.at_] 217 (0, 0))
def zobj (b : Nat) (A : Option Addr) (c : Nat) (oA : Option Addr) (oc : Nat) (z : Zn) : List Assn :=
  [Blk b (.cells #[.slice A z.tr.length c, .slice oA z.tr.length oc, .int .i64 z.lv, .int .i64 z.at_] 217 (0, 0)), OS 190 trK A c z.tr, OS 4 bolK oA oc z.on]
/-! ### Models of heat -/
structure MA where
  b : Nat
  hA : Option Addr
  hc : Nat
  lA : Option Addr
  lc : Nat
  eA : Option Addr
  ec : Nat
def mobj (a : MA) (D : List HD) (L : List HL) (base : Int) (E : List Int) (rel : Int) : List Assn :=
  [Blk a.b (.cells #[.slice a.hA D.length a.hc, .slice a.lA L.length a.lc, .int .i64 base, .slice a.eA D.length a.ec, .int .i64 rel] 197 (0, 0)), OS 41 hdK a.hA a.hc D, OS 195 hlK a.lA a.lc L, OS 2 (intK .i64) a.eA a.ec E]
/-! ### Domains -/
structure PD where
  A : Option Addr
  c : Nat
  B : Option Addr
  e : Nat
  gb : Nat
  gA : Option Addr
  gc : Nat
  zb : Nat
  zA : Option Addr
  zc : Nat
  oA : Option Addr
  oc : Nat
  x : Dom
def pd0 : PD := ⟨none, 0, none, 0, 0, none, 0, 0, none, 0, none, 0, dom0⟩
def domC (d : PD) : List Value := [.slice d.A d.x.ys.length d.c, .int .i64 d.x.up, .int .i64 d.x.dn, .int .i64 d.x.sm, .slice d.B d.x.tr.length d.e, .int .u64 d.x.gr, .int .i64 d.x.ld, .pointer (some ⟨d.gb, 0, none⟩), .pointer (some ⟨d.zb, 0, none⟩), .int .i64 d.x.hi]
def domK : Enc PD where
  f d := [.slice d.A d.x.ys.length d.c, .int .i64 d.x.up, .int .i64 d.x.dn, .int .i64 d.x.sm, .slice d.B d.x.tr.length d.e, .int .u64 d.x.gr, .int .i64 d.x.ld, .pointer (some ⟨d.gb, 0, none⟩), .pointer (some ⟨d.zb, 0, none⟩), .int .i64 d.x.hi]
  sz := 10
  d := pd0
  len _ := rfl
  pos := by decide
  one r v hv := by simp at hv; rcases hv with rfl | rfl | rfl | rfl | rfl | rfl | rfl | rfl | rfl | rfl <;> rfl
def pobj (d : PD) : List Assn := [OS 61 ptK d.A d.c d.x.ys, OS 190 trK d.B d.e d.x.tr,
  Blk d.gb (.cells #[.slice d.gA d.x.g.ys.length d.gc, .int .i64 d.x.g.up, .int .i64 d.x.g.dn, .int .i64 d.x.g.sm, .int .i64 d.x.g.lo, .int .i64 d.x.g.hi, .int .i64 d.x.g.cu, .int .i64 d.x.g.n] 223 (0, 0)), OS 61 ptK d.gA d.gc d.x.g.ys,
  Blk d.zb (.cells #[.slice d.zA d.x.z.tr.length d.zc, .slice d.oA d.x.z.tr.length d.oc, .int .i64 d.x.z.lv, .int .i64 d.x.z.at_] 217 (0, 0)), OS 190 trK d.zA d.zc d.x.z.tr, OS 4 bolK d.oA d.oc d.x.z.on]
def pF (d : PD) : Assn := Bun (pobj d)
/-! ### The whole -/
structure TA where
  b : Nat
  dA : Option Addr
  dc : Nat
  m : MA
  pA : Option Addr
  pc : Nat
/-- The state of a control: its addresses, its domains, its model of heat. -/
structure PT where
  a : TA
  ds : List PD
  D : List HD
  L : List HL
  base : Int
  E : List Int
  rel : Int
  bud : Int
  p : List Int
def PT.T (t : PT) : TS := ⟨t.ds.map (·.x), t.D, t.L, t.base, t.E, t.rel, t.bud, t.p⟩
def tobj (t : PT) : List Assn :=
  [Blk t.a.b (.cells #[.slice t.a.dA t.ds.length t.a.dc, .pointer (some ⟨t.a.m.b, 0, none⟩), .int .u64 t.bud, .slice t.a.pA t.ds.length t.a.pc] 103 (0, 0)), OS 108 domK t.a.dA t.a.dc t.ds, Big pF t.ds,
   Blk t.a.m.b (.cells #[.slice t.a.m.hA t.D.length t.a.m.hc, .slice t.a.m.lA t.L.length t.a.m.lc, .int .i64 t.base, .slice t.a.m.eA t.D.length t.a.m.ec, .int .i64 t.rel] 197 (0, 0)), OS 41 hdK t.a.m.hA t.a.m.hc t.D, OS 195 hlK t.a.m.lA t.a.m.lc t.L, OS 2 (intK .i64) t.a.m.eA t.a.m.ec t.E,
   OS 2 (intK .i64) t.a.pA t.a.pc t.p]
abbrev pdA (l : List PD) (i : Nat) : PD := l.getD i pd0
theorem dm_of (l : List PD) {i : Nat} (h : i < l.length) : dmA (l.map (·.x)) i = (pdA l i).x := by simp [dmA, pdA, List.getD, h]
/-! ### Domains as they come in -/
structure RB where
  h : HD
  A : Option Addr
  c : Nat
  ys : List Pt
  up : Int
  dn : Int
  sm : Int
  B : Option Addr
  e : Nat
  tr : List Trp
def rb0 : RB := ⟨hd0, none, 0, [], 0, 0, 0, none, 0, []⟩
def rbK : Enc RB where
  f r := [.int .i64 r.h.cap, .int .i64 r.h.amb, .slice r.A r.ys.length r.c, .int .i64 r.up, .int .i64 r.dn, .int .i64 r.sm, .slice r.B r.tr.length r.e]
  sz := 7
  d := rb0
  len _ := rfl
  pos := by decide
  one r v hv := by simp at hv; rcases hv with rfl | rfl | rfl | rfl | rfl | rfl | rfl <;> rfl
abbrev rbA (l : List RB) (i : Nat) : RB := l.getD i rb0
def RB.bd (r : RB) : BD := ⟨r.h, r.ys, r.up, r.dn, r.sm, r.tr⟩
/-- The parts of an incoming domain can be read. -/
def RB.rs (r : RB) (w : World) : Prop := RS w ptK r.A r.ys ∧ RS w trK r.B r.tr
def rF (r : RB) : Assn := Bun [OS 61 ptK r.A r.c r.ys, OS 190 trK r.B r.e r.tr]
theorem rF.rs {r : RB} {w : World} {I : Ids} (h : (rF r).sat w I) : r.rs w := by
  obtain ⟨i, j, _, _, h1, k, l, _, _, h2, _⟩ := h
  exact ⟨OS.rs h1, OS.rs h2⟩
end Go.Ctl
set_option linter.unusedSimpArgs false
set_option linter.unusedVariables false
namespace Go.Ctl
open Go.Sv Go.Perf
theorem vld_amb {D : List HD} {L : List HL} {base : Int} (h : Vld D L base) {i : Nat} (hi : i < D.length) : 1 ≤ (D.getD i hdK.d).amb ∧ (D.getD i hdK.d).amb ≤ 16777216 := h.amb i hi
theorem vld_cap {D : List HD} {L : List HL} {base : Int} (h : Vld D L base) {i : Nat} (hi : i < D.length) : need D L i ≤ (D.getD i hdK.d).cap ∧ (D.getD i hdK.d).cap ≤ 16777216 := h.cap i hi
theorem vld_capP {D : List HD} {L : List HL} {base : Int} (h : Vld D L base) {i : Nat} (hi : i < D.length) : 1 ≤ (D.getD i hdK.d).cap ∧ (D.getD i hdK.d).cap ≤ 16777216 := ⟨h.ok.capPos hi, (h.cap i hi).2⟩
theorem vld_ends {D : List HD} {L : List HL} {base : Int} (h : Vld D L base) {i : Nat} (hi : i < L.length) : 0 ≤ (L.getD i hlK.d).a ∧ (L.getD i hlK.d).a < D.length ∧ 0 ≤ (L.getD i hlK.d).b ∧ (L.getD i hlK.d).b < D.length ∧ ¬ (L.getD i hlK.d).a = (L.getD i hlK.d).b := (h.lnk i hi).1
theorem vld_g {D : List HD} {L : List HL} {base : Int} (h : Vld D L base) {i : Nat} (hi : i < L.length) : 1 ≤ (L.getD i hlK.d).g ∧ (L.getD i hlK.d).g ≤ 16777216 := ⟨(h.lnk i hi).2.1, (h.lnk i hi).2.2.1⟩
theorem lnkOk_of {n : Nat} {L : List HL} {i : Nat} (h : 0 ≤ (L.getD i hlK.d).a ∧ (L.getD i hlK.d).a < n ∧ 0 ≤ (L.getD i hlK.d).b ∧ (L.getD i hlK.d).b < n ∧ ¬ (L.getD i hlK.d).a = (L.getD i hlK.d).b) (hg : 1 ≤ (L.getD i hlK.d).g ∧ (L.getD i hlK.d).g ≤ 16777216)
    (hn : ∀ k, k < i → ¬ pairEq (hlA L k) (hlA L i)) : lnkOk n L i := ⟨h, hg.1, hg.2, hn⟩
theorem lm_t {M : List HL} {j a b : Nat} (ha : (M.getD j hlK.d).a = (a : Int)) (hb : (M.getD j hlK.d).b = (b : Int)) (ha2 : a < 16) (hb2 : b < 16) (h : (lmx M j).getD (a * 16 + b) bolK.d = true) : ∃ k, k < j ∧ pairEq (hlA M k) (hlA M j) := by
  have h1 := lmx_get M j ha2 hb2
  change (lmx M j).getD (a * 16 + b) bolK.d = _ at h1
  rw [h1] at h
  have h2 := (lnk_new ha hb).1 (of_decide_eq_true h)
  refine Classical.byContradiction fun h3 => h2 fun k hk hp => h3 ⟨k, hk, hp⟩
theorem lm_f {M : List HL} {j a b : Nat} (ha : (M.getD j hlK.d).a = (a : Int)) (hb : (M.getD j hlK.d).b = (b : Int)) (ha2 : a < 16) (hb2 : b < 16) (h : (lmx M j).getD (a * 16 + b) bolK.d = false) : ∀ k, k < j → ¬ pairEq (hlA M k) (hlA M j) := by
  have h1 := lmx_get M j ha2 hb2
  change (lmx M j).getD (a * 16 + b) bolK.d = _ at h1
  rw [h1] at h
  exact Classical.byContradiction fun h3 => of_decide_eq_false h ((lnk_new ha hb).2 h3)
theorem nd_bd {D : List HD} {M : List HL} {j : Nat} (hD : ∀ i, i < D.length → 1 ≤ (hdA D i).amb ∧ (hdA D i).amb ≤ 16777216) (hj : j ≤ M.length) (hM : M.length ≤ 1000000) (hg : ∀ i, i < j → lnkOk D.length M i) {k : Nat} (hk : k < D.length) :
    0 ≤ (ndL D M j).getD k (intK .i64).d ∧ (ndL D M j).getD k (intK .i64).d ≤ 16777216 + 33554432 * j := by
  have := need_bd hD j hj (fun i hi => ⟨(hg i hi).2.1, (hg i hi).2.2.1⟩) k hk
  have e : (ndL D M j).getD k (intK .i64).d = need D (M.take j) k := ndL_get D M hk
  rw [e]; exact this
theorem nd_full {D : List HD} {M : List HL} {k : Nat} (hk : k < D.length) : (ndL D M M.length).getD k (intK .i64).d = need D M k := by
  have e : (ndL D M M.length).getD k (intK .i64).d = need D (M.take M.length) k := ndL_get D M hk
  rw [e, List.take_length]
theorem nd_other {D : List HD} {M : List HL} {j a b : Nat} (v : Int) (hne : a ≠ b) : ((ndL D M j).set a v).getD b (intK .i64).d = (ndL D M j).getD b (intK .i64).d := getD_set_other _ _ _ hne
theorem nd_step {D : List HD} {M : List HL} {j a b : Nat} (hj : j < M.length) (ha : (M.getD j hlK.d).a = (a : Int)) (hb : (M.getD j hlK.d).b = (b : Int)) (ha2 : a < D.length) (hb2 : b < D.length) (hne : a ≠ b) :
    ((ndL D M j).set a ((ndL D M j).getD a (intK .i64).d + (M.getD j hlK.d).g)).set b (((ndL D M j).set a ((ndL D M j).getD a (intK .i64).d + (M.getD j hlK.d).g)).getD b (intK .i64).d + (M.getD j hlK.d).g) = ndL D M (j + 1) := ndL_succ hj ha hb ha2 hb2 hne
theorem lm_step {M : List HL} {j a b : Nat} (ha : (M.getD j hlK.d).a = (a : Int)) (hb : (M.getD j hlK.d).b = (b : Int)) (ha2 : a < 16) (hb2 : b < 16) : ((lmx M j).set (a * 16 + b) true).set (b * 16 + a) true = lmx M (j + 1) := lmx_succ ha hb ha2 hb2
theorem nd_set {D : List HD} {i : Nat} (h : i < D.length) : (ndA D i).set i (D.getD i hdK.d).amb = ndA D (i + 1) := ndA_succ D h
theorem vldB_nt {D : List HD} {L : List HL} {base : Int} (h : (!vldB D L base) = true) : ¬ Vld D L base := fun k => by rw [vldB_t k] at h; cases h
theorem vldB_nf {D : List HD} {L : List HL} {base : Int} (h : (!vldB D L base) = false) : Vld D L base := Classical.byContradiction fun k => by rw [vldB_f k] at h; cases h
theorem vldB_tt {D : List HD} {L : List HL} {base : Int} (h : vldB D L base = true) : Vld D L base := Classical.byContradiction fun k => by rw [vldB_f k] at h; cases h
/-! ### The energies of a new model -/
def eK (D : List HD) (base : Int) (i : Nat) : List Int := (List.range D.length).map fun k => if k < i then (hdA D k).cap * base else 0
theorem eK_len (D : List HD) (base : Int) (i : Nat) : (eK D base i).length = D.length := by simp [eK]
theorem eK_zero (D : List HD) (base : Int) : eK D base 0 = List.replicate D.length 0 := by simp [eK, List.map_const']
theorem eK_get (D : List HD) (base : Int) {i k : Nat} (h : k < D.length) : (eK D base i).getD k 0 = if k < i then (hdA D k).cap * base else 0 := by simp [eK, List.getD, h]
theorem eK_succ {D : List HD} {base : Int} {i : Nat} (h : i < D.length) : (eK D base i).set i ((D.getD i hdK.d).cap * base) = eK D base (i + 1) := by
  refine ext0 (by simp [eK]) fun k hk => ?_
  rw [List.length_set, eK_len] at hk
  rw [getD_set' _ _ _ _ (by rw [eK_len]; exact h), eK_get D _ hk, eK_get D _ hk]
  by_cases e : i = k
  · subst e; rw [if_pos rfl, if_pos (by omega)]; rfl
  · rw [if_neg e]
    by_cases e2 : k < i
    · rw [if_pos e2, if_pos (by omega)]
    · rw [if_neg e2, if_neg (by omega)]
theorem eK_end (D : List HD) (base : Int) : eK D base D.length = D.map fun x => x.cap * base := by
  refine List.ext_getElem (by simp [eK]) fun i h1 h2 => ?_
  have hi : i < D.length := by simpa using h2
  simp [eK, hdA, List.getD, hi]
theorem cap_mul {D : List HD} {L : List HL} {base : Int} (h : Vld D L base) {i : Nat} (hi : i < D.length) : -281474976710656 ≤ (D.getD i hdK.d).cap * base ∧ (D.getD i hdK.d).cap * base ≤ 281474976710656 := by
  have h1 := vld_capP h hi
  have := mul_abs (a := (D.getD i hdK.d).cap) (b := base) (m := 16777216) (n := 16777216) (by omega) h1.2 (by have := h.b1; omega) h.b2
  omega
theorem sus_mul {d : HD} {base lim : Int} (h : susE d base lim) : 0 ≤ d.amb * (lim - base) ∧ d.amb * (lim - base) ≤ 844424930131968 := by
  obtain ⟨a1, a2, a3, a4, a5, a6, a7⟩ := susE_one h
  have := mul_bd (a := d.amb) (b := lim - base) (m := 16777216) (n := 50331648) (by omega) (by omega) (by omega) (by omega)
  omega
/-! ### Temperatures -/
def tK (D : List HD) (E : List Int) (i : Nat) : List Int := (List.range D.length).map fun k => if k < i then tmp D E k else 0
theorem tK_len (D : List HD) (E : List Int) (i : Nat) : (tK D E i).length = D.length := by simp [tK]
theorem tK_zero (D : List HD) (E : List Int) : tK D E 0 = List.replicate D.length 0 := by simp [tK, List.map_const']
theorem tK_get (D : List HD) (E : List Int) {i k : Nat} (h : k < D.length) : (tK D E i).getD k 0 = if k < i then tmp D E k else 0 := by simp [tK, List.getD, h]
theorem tK_succ {D : List HD} {E : List Int} {i : Nat} (h : i < D.length) : (tK D E i).set i (tmp D E i) = tK D E (i + 1) := by
  refine ext0 (by simp [tK]) fun k hk => ?_
  rw [List.length_set, tK_len] at hk
  rw [getD_set' _ _ _ _ (by rw [tK_len]; exact h), tK_get D _ hk, tK_get D _ hk]
  by_cases e : i = k
  · subst e; rw [if_pos rfl, if_pos (by omega)]
  · rw [if_neg e]
    by_cases e2 : k < i
    · rw [if_pos e2, if_pos (by omega)]
    · rw [if_neg e2, if_neg (by omega)]
theorem tK_end (D : List HD) (E : List Int) : tK D E D.length = tmps D E := by
  refine ext0 (by simp [tK, tmps]) fun k hk => ?_
  rw [tK_len] at hk
  rw [tK_get D E hk, if_pos hk, tmps_at hk]
theorem tmps_len (D : List HD) (E : List Int) : (tmps D E).length = D.length := by simp [tmps]
theorem tmp_f {D : List HD} {E : List Int} {i : Nat} (hc : 1 ≤ (D.getD i hdK.d).cap) (h : (E.getD i (intK .i64).d).tmod (D.getD i hdK.d).cap < 0) : (E.getD i (intK .i64).d).tdiv (D.getD i hdK.d).cap - 1 = tmp D E i := floor_t (by omega) h
theorem tmp_n {D : List HD} {E : List Int} {i : Nat} (hc : 1 ≤ (D.getD i hdK.d).cap) (h : ¬ (E.getD i (intK .i64).d).tmod (D.getD i hdK.d).cap < 0) : (E.getD i (intK .i64).d).tdiv (D.getD i hdK.d).cap = tmp D E i := floor_f (by omega) h
theorem tdiv_bd {e c : Int} (hc : 1 ≤ c) (h1 : -4611686018427387904 ≤ e) (h2 : e ≤ 4611686018427387904) : -4611686018427387904 ≤ e.tdiv c ∧ e.tdiv c ≤ 4611686018427387904 := by
  have h3 := Int.natAbs_tdiv_le_natAbs e c
  omega
/-- A power for each domain, none too great. -/
def vpB (p : List Int) (n : Int) : Bool := decide ((p.length : Int) = n ∧ ∀ i, i < p.length → 0 ≤ p.getD i (intK .i64).d ∧ p.getD i (intK .i64).d ≤ 16777216)
theorem vpB_t {p : List Int} {n : Int} (h : (p.length : Int) = n ∧ ∀ i, i < p.length → 0 ≤ p.getD i (intK .i64).d ∧ p.getD i (intK .i64).d ≤ 16777216) : vpB p n = true := decide_eq_true h
theorem vpB_f {p : List Int} {n : Int} (h : ¬ ((p.length : Int) = n ∧ ∀ i, i < p.length → 0 ≤ p.getD i (intK .i64).d ∧ p.getD i (intK .i64).d ≤ 16777216)) : vpB p n = false := decide_eq_false h
/-! ### What a step asks, and its parts in the shapes of the walk -/
structure StepOk (D : List HD) (M : List HL) (base : Int) (E p : List Int) (hi : Int) : Prop where
  v : Vld D M base
  e : E.length = D.length
  h : hi ≤ 33554432
  t : ∀ j, j < D.length → base ≤ tmp D E j ∧ tmp D E j ≤ hi
  pl : p.length = D.length
  pr : ∀ j, j < D.length → 0 ≤ p.getD j 0 ∧ p.getD j 0 ≤ 16777216
  qr : ∀ j, j < D.length → p.getD j 0 ≤ (D.getD j hd0).amb * (hi - base)
theorem StepOk.nx {D : List HD} {M : List HL} {base hi : Int} {E p : List Int} (h : StepOk D M base E p hi) : (stepE D M base E p).length = D.length ∧ ∀ i, i < D.length → base ≤ tmp D (stepE D M base E p) i ∧ tmp D (stepE D M base E p) i ≤ hi :=
  heat_bd h.v.ok h.e h.t fun j hj => ⟨(h.pr j hj).1, h.qr j hj⟩
theorem StepOk.en {D : List HD} {M : List HL} {base hi : Int} {E p : List Int} (h : StepOk D M base E p hi) {i : Nat} (hi2 : i < D.length) : -1125899906842624 ≤ E.getD i (intK .i64).d ∧ E.getD i (intK .i64).d ≤ 1125899906842624 := en_bd h.v h.h h.t hi2
theorem StepOk.tb {D : List HD} {M : List HL} {base hi : Int} {E p : List Int} (h : StepOk D M base E p hi) {i : Nat} (hi2 : i < D.length) : (tmps D E).getD i (intK .i64).d = tmp D E i ∧ base ≤ tmp D E i ∧ tmp D E i ≤ hi ∧ -16777216 ≤ base ∧ base ≤ 16777216 ∧ hi ≤ 33554432 := ⟨tmps_at hi2, (h.t i hi2).1, (h.t i hi2).2, h.v.b1, h.v.b2, h.h⟩
theorem StepOk.out {D : List HD} {M : List HL} {base hi : Int} {E p : List Int} (h : StepOk D M base E p hi) {i : Nat} (hi2 : i < D.length) : 0 ≤ (D.getD i hdK.d).amb * ((tmps D E).getD i (intK .i64).d - base) ∧ (D.getD i hdK.d).amb * ((tmps D E).getD i (intK .i64).d - base) ≤ 1125899906842624 := out_bd h.v h.h h.t hi2
theorem StepOk.pp {D : List HD} {M : List HL} {base hi : Int} {E p : List Int} (h : StepOk D M base E p hi) {i : Nat} (hi2 : i < D.length) : 0 ≤ p.getD i (intK .i64).d ∧ p.getD i (intK .i64).d ≤ 16777216 := h.pr i hi2
theorem E1_at {D : List HD} {T : List Int} {base : Int} {E p : List Int} {k : Nat} (h : k < E.length) : (E1k D T base E p k).getD k (intK .i64).d = E.getD k (intK .i64).d := by
  have := E1k_get D T base E p k h
  rw [if_neg (Nat.lt_irrefl _)] at this
  exact this
theorem E1_set {D : List HD} {T : List Int} {base : Int} {E p : List Int} {k : Nat} (h : k < E.length) : (E1k D T base E p k).set k ((E1k D T base E p k).getD k (intK .i64).d + (p.getD k (intK .i64).d - (D.getD k hdK.d).amb * (T.getD k (intK .i64).d - base))) = E1k D T base E p (k + 1) := by
  rw [E1_at h]
  exact E1k_succ D T base E p h
theorem E2_set {T : List Int} {M : List HL} {E : List Int} {j a b : Nat} (hj : j < M.length) (ha : (M.getD j hlK.d).a = (a : Int)) (hb : (M.getD j hlK.d).b = (b : Int)) :
    ((E2j T M E j).set a ((E2j T M E j).getD a (intK .i64).d - (M.getD j hlK.d).g * (T.getD a (intK .i64).d - T.getD b (intK .i64).d))).set b (((E2j T M E j).set a ((E2j T M E j).getD a (intK .i64).d - (M.getD j hlK.d).g * (T.getD a (intK .i64).d - T.getD b (intK .i64).d))).getD b (intK .i64).d + (M.getD j hlK.d).g * (T.getD a (intK .i64).d - T.getD b (intK .i64).d)) = E2j T M E (j + 1) := by
  rw [E2j_succ T E hj]
  have h1 : (hlA M j).a.toNat = a := by rw [show (hlA M j).a = (a : Int) from ha]; rfl
  have h2 : (hlA M j).b.toNat = b := by rw [show (hlA M j).b = (b : Int) from hb]; rfl
  unfold flw
  simp only [h1, h2]
  rfl
theorem StepOk.e2 {D : List HD} {M : List HL} {base hi : Int} {E p : List Int} (h : StepOk D M base E p hi) (j : Nat) {i : Nat} (hi2 : i < D.length) :
    -9007199254740992 ≤ (E2j (tmps D E) M (step1 D (tmps D E) base E p) j).getD i (intK .i64).d ∧ (E2j (tmps D E) M (step1 D (tmps D E) base E p) j).getD i (intK .i64).d ≤ 9007199254740992 := E2_bd h.v h.e h.h h.t h.pr j hi2
theorem StepOk.flow {D : List HD} {M : List HL} {base hi : Int} {E p : List Int} (h : StepOk D M base E p hi) {a b : Nat} (ha : a < D.length) (hb : b < D.length) {j : Nat} (hj : j < M.length) :
    (-50331648 ≤ (tmps D E).getD a (intK .i64).d - (tmps D E).getD b (intK .i64).d ∧ (tmps D E).getD a (intK .i64).d - (tmps D E).getD b (intK .i64).d ≤ 50331648) ∧ -844424930131968 ≤ (M.getD j hlK.d).g * ((tmps D E).getD a (intK .i64).d - (tmps D E).getD b (intK .i64).d) ∧ (M.getD j hlK.d).g * ((tmps D E).getD a (intK .i64).d - (tmps D E).getD b (intK .i64).d) ≤ 844424930131968 :=
  flow_bd h.v h.h h.t ha hb (vld_g h.v hj).1 (vld_g h.v hj).2
theorem e2_other {X : List Int} {a b : Nat} (v : Int) (hne : a ≠ b) : (X.set a v).getD b (intK .i64).d = X.getD b (intK .i64).d := getD_set_other _ _ _ hne
theorem e2_len {D : List HD} {T : List Int} {M : List HL} {base : Int} {E p : List Int} (hE : E.length = D.length) (j : Nat) : (E2j T M (step1 D T base E p) j).length = D.length := by rw [E2j_len]; simp [step1, hE]
theorem e1_len {D : List HD} {T : List Int} {base : Int} {E p : List Int} (hE : E.length = D.length) (j : Nat) : (E1k D T base E p j).length = D.length := by rw [E1k_len, hE]
end Go.Ctl
set_option linter.unusedSimpArgs false
set_option linter.unusedVariables false
namespace Go.Ctl
open Go.Sv Go.Perf
theorem chkT_at {l : List Trp} {i : Nat} (h : i < l.length) (hb : badT (l.getD i trK.d)) : chkT l = 1 := chkT_bad h hb
theorem okTr_at {l : List Trp} (h : okTr l) {i : Nat} (hi : i < l.length) : ¬ badT (l.getD i trK.d) := h.2 i hi
theorem chkT_cases (l : List Trp) : chkT l = 0 ∨ chkT l = 1 := by unfold chkT; split <;> simp
theorem set_getD_self {α : Type} (l : List α) (i : Nat) (d : α) : l.set i (l.getD i d) = l := by
  by_cases h : i < l.length
  · rw [List.getD, List.getElem?_eq_getElem h]; simp
  · exact List.set_eq_of_length_le (by omega)
/-! ### Budgets -/
structure AsOk (as : List Act) : Prop where
  n : as.length ≤ 32
  a : ∀ i, i < as.length → AOk (acA as i)
theorem AsOk.at {as : List Act} (h : AsOk as) {i : Nat} (hi : i < as.length) : (0 ≤ (as.getD i acK.d).rq ∧ 0 ≤ (as.getD i acK.d).mn) ∧ (as.getD i acK.d).mn ≤ (as.getD i acK.d).mx ∧ (as.getD i acK.d).mx ≤ 4294967296 := ⟨⟨(h.a i hi).r, (h.a i hi).m⟩, (h.a i hi).mm, (h.a i hi).x⟩
theorem AsOk.tot {as : List Act} (h : AsOk as) {l : Int} (hl : 0 ≤ l) {k : Nat} (hk : k ≤ as.length) : 0 ≤ totK as l k ∧ totK as l k ≤ 137438953472 := by
  have h1 := totK_bd h.a hl k hk
  have := h.n
  omega
theorem AsOk.atb {as : List Act} (h : AsOk as) {l : Int} (hl : 0 ≤ l) {i : Nat} (hi : i < as.length) : 0 ≤ atM (as.getD i acK.d) l ∧ atM (as.getD i acK.d) l ≤ wnt (as.getD i acK.d) ∧ wnt (as.getD i acK.d) ≤ 4294967296 ∧ 0 ≤ wnt (as.getD i acK.d) := (h.a i hi).bd hl
theorem tot_def (as : List Act) (l : Int) : totK as l as.length = tot as l := rfl
theorem half {x : Int} (h : 0 ≤ x) (h2 : x ≤ 18446744073709551615) : IntKind.u64.wrap (x.tdiv 2) = x / 2 := by
  rw [Int.tdiv_eq_ediv_of_nonneg h, wU64 (by omega) (by omega)]
theorem alc_set0 {as : List Act} {b lv rest : Int} {g : List Int} {k : Nat} (h : AlcI as b lv g rest k) (hA : AsOk as) (hl : 0 ≤ lv) (hk : k < as.length) : AlcI as b lv (g.set k (atM (as.getD k acK.d) lv)) rest (k + 1) := h.next0 hA.a hl hk
theorem alc_set1 {as : List Act} {b lv rest : Int} {g : List Int} {k : Nat} (h : AlcI as b lv g rest k) (hA : AsOk as) (hl : 0 ≤ lv) (hk : k < as.length) (hr : 0 < rest) (h1 : (as.getD k acK.d).mn ≤ lv) (h2 : lv < wnt (as.getD k acK.d)) :
    AlcI as b lv ((g.set k (atM (as.getD k acK.d) lv)).set k ((g.set k (atM (as.getD k acK.d) lv)).getD k (intK .u64).d + 1)) (rest - 1) (k + 1) := by
  have e : (g.set k (atM (as.getD k acK.d) lv)).getD k (intK .u64).d = atM (as.getD k acK.d) lv := getD_set_self _ _ _ _ (by rw [h.len]; exact hk)
  rw [e, List.set_set]
  exact h.next1 hA.a hl hk hr h1 h2
theorem alc_get {g : List Int} {k : Nat} {v : Int} (h : k < g.length) : (g.set k v).getD k (intK .u64).d = v := getD_set_self _ _ _ _ h
/-! ### Domains -/
theorem thrK_t {ys : List Pt} {g : Int} {k : Nat} (h : (ys.getD k ptK.d).p ≤ g) : (k : Int) = thrK ys g (k + 1) := by rw [thrK, if_pos h]
theorem thrK_f {ys : List Pt} {g : Int} {k : Nat} (h : ¬ (ys.getD k ptK.d).p ≤ g) : thrK ys g k = thrK ys g (k + 1) := by rw [thrK, if_neg h]
theorem thrV_bad {ys : List Pt} {g : Int} (h : ¬ chkM ys = 0) : thrV ys g = (0, chkM ys) := if_neg h
theorem thrV_no {ys : List Pt} {g : Int} (h : chkM ys = 0) (h2 : thrK ys g ys.length < 0) : thrV ys g = (0, 6) := by rw [thrV, if_pos h, if_pos h2]
theorem thrV_yes {ys : List Pt} {g : Int} (h : chkM ys = 0) (h2 : ¬ thrK ys g ys.length < 0) : thrV ys g = (thrK ys g ys.length, 0) := by rw [thrV, if_pos h, if_neg h2]
theorem thrK_lt (ys : List Pt) (g : Int) (k : Nat) : -1 ≤ thrK ys g k ∧ thrK ys g k < (k : Int) := by
  rcases thrK_bd ys g k with h | ⟨j, h1, h2, _⟩ <;> omega
theorem powM_no {ys : List Pt} {ld g : Int} (h : ld = 0 ∨ ¬ (thrV ys g).2 = 0) : powM ys ld g = 0 := if_pos h
theorem powM_yes {ys : List Pt} {ld g : Int} (h : ¬ ld = 0) (h2 : ¬ ¬ (thrV ys g).2 = 0) {k : Nat} (hk : (thrV ys g).1 = (k : Int)) : powM ys ld g = ((ys.getD k ptK.d).p * ld).tdiv 100 := by
  rw [powM, if_neg (fun c => c.elim h h2), hk]; rfl
theorem thrV_idx {ys : List Pt} {g : Int} (h2 : ¬ ¬ (thrV ys g).2 = 0) : chkM ys = 0 ∧ ∃ k : Nat, (thrV ys g).1 = (k : Int) ∧ k < ys.length := by
  have h3 := Decidable.not_not.1 h2
  by_cases hc : chkM ys = 0
  · refine ⟨hc, ?_⟩
    by_cases ht : thrK ys g ys.length < 0
    · rw [thrV_no hc ht] at h3; cases h3
    · rw [thrV_yes hc ht]
      have := thrK_lt ys g ys.length
      exact ⟨(thrK ys g ys.length).toNat, by show thrK ys g ys.length = _; omega, by omega⟩
  · rw [thrV_bad hc] at h3
    exact absurd h3 hc
theorem dom_par {w : World} {A : Option Addr} {ds : List PD} (h : RS w domK A ds) {i : Nat} (hi : i < ds.length) : ∀ k v, ([.int .i64 (ds.getD i domK.d).x.up, .int .i64 (ds.getD i domK.d).x.dn, .int .i64 (ds.getD i domK.d).x.sm] : List Value)[k]? = some v → w.cell? ⟨bk A, of A + i * domK.sz + 1 + k, none⟩ = some v :=
  h.cellsAt i 1 _ hi rfl rfl
/-- A domain with new parts. -/
def resP (d : PD) (gb : Nat) (gA : Option Addr) (gc : Nat) (zb : Nat) (zA : Option Addr) (zc : Nat) (oA : Option Addr) (oc : Nat) : PD := ⟨d.A, d.c, d.B, d.e, gb, gA, gc, zb, zA, zc, oA, oc, resD d.x⟩
def reqP (d : PD) (ld : Int) : PD := { d with x := reqD d.x ld }
theorem getD_set_pd {l : List PD} {i : Nat} (x : PD) (h : i < l.length) : (l.set i x).getD i domK.d = x := getD_set_self _ _ _ _ h
end Go.Ctl
set_option linter.unusedSimpArgs false
set_option linter.unusedVariables false
namespace Go.Sv
section
variable {P : Program} {N : NN} {E : Env} {ops : Array Oper} {Q : Exit → Act → World → Prop} {KK : Act → World → Prop} {I0 : Ids} {w0 : World} {L : List Assn}
variable {α : Type} {K : Enc α} {A : Option Addr} {ys : List α} {e : TypeId} {c : Nat} {t ty : TypeId} {pos : String} {af : Array Edge} {g : Option (Nat × Bool)} {x : Operand}
/-- clear of an owned slice. -/
theorem OV.clearAll (k : Nat) (zy : α) {ze : Value} {by_ n cA : Nat} (hu : P.underlying t = some (.slice e)) (hi : TI P e ze K.sz by_) (hz : ze.cells.toList = K.f zy) (hk : L[k]? = some (OS e K A c ys))
    (hx : ev E x = some (.slice A n cA)) (hn : n = ys.length)
    (hg : Yes N ops ⟨none, .call ⟨.builtin .clear, #[x], #[t]⟩, ty, pos, af, g⟩ E)
    (kk : KV N KK E (Hp I0 w0 (L.set k (OS e K A c (List.replicate ys.length zy))))) :
    OV P N ops Q ⟨none, .call ⟨.builtin .clear, #[x], #[t]⟩, ty, pos, af, g⟩ E (Hp I0 w0 L) KK := fun a w hf hs => by
  subst hn
  have hze : ze.cells.size = K.sz := by rw [← K.len zy, ← hz, Array.length_toList]
  have h1 : ∀ v ∈ ze.cells.toList, v.oneCell' = true := by rw [hz]; exact K.one zy
  obtain ⟨i0, jj, hA, _⟩ := hs.at hk
  have key : ∃ w', (Builtin.clear_ #[t] ty #[.slice A ys.length cA]).run P w = .ok (.tuple #[]) w' ∧
      ∀ i0, (OS e K A c ys).sat w i0 → ∃ i' : Ids, (OS e K A c (List.replicate ys.length zy)).sat w' i' ∧ (∀ x, i' x → i0 x ∨ w.heap.size ≤ x) ∧ Ext i0 w w' := by
    by_cases hn0 : ys.length = 0
    · have hys : ys = [] := List.eq_nil_of_length_eq_zero hn0
      subst hys
      refine ⟨w, ?_, fun i0 hi0 => ⟨i0, hi0, fun _ h => .inl h, Ext.refl _ _⟩⟩
      cases A <;> simp [Builtin.clear_, run_underlying hu]
    · rcases hA with ⟨rfl, rfl, rfl, _⟩ | ⟨gb, cur, rfl, hI, hb, hle, hc, hsz, ht⟩
      · exact absurd rfl hn0
      · have hmul : ys.length * K.sz ≤ c * K.sz := Nat.mul_le_mul_right _ hle
        have hzl : (Builtin.zeroCells ze.cells ys.length).toList.length = ys.length * K.sz := by rw [Array.length_toList, zeroCells_made, size_madeCells, hze]
        have hz1 : ∀ v ∈ (Builtin.zeroCells ze.cells ys.length).toList, v.oneCell' = true := by
          intro v hv
          simp only [Builtin.zeroCells, Array.toList_map, List.mem_map] at hv
          obtain ⟨j, hj, rfl⟩ := hv
          have hpos : 0 < ze.cells.size := by rw [hze]; exact K.pos
          have hjm : j % ze.cells.size < ze.cells.size := Nat.mod_lt _ hpos
          rw [getElem!_pos ze.cells (j % ze.cells.size) hjm]
          exact h1 _ (by simp)
        have hst := run_storeCells_at P gb 0 e (Builtin.zeroCells ze.cells ys.length).toList 0 cur w hb (by rw [hzl, hsz]; omega) hz1
        simp only [Nat.add_zero] at hst
        refine ⟨w.setRow gb (cur.toList.take 0 ++ (Builtin.zeroCells ze.cells ys.length).toList ++ cur.toList.drop (0 + (Builtin.zeroCells ze.cells ys.length).toList.length)).toArray, ?_, fun i0 hi2 => ⟨fun x => x = gb, .inr ⟨gb, _, rfl, fun _ => Iff.rfl, setRow_heap w gb cur _ e (0, 0) hb, ?_, hc, ?_, ?_⟩, (over_ext (cs := #[]) hi2).1, (over_ext hi2).2⟩⟩
        · generalize hm : ys.length = m at *
          cases m with
          | zero => exact absurd rfl hn0
          | succ m => simp only [Nat.zero_add] at hst; simp [Builtin.clear_, run_underlying hu, hi.zeroValue, hst]
        · rw [List.length_replicate]; exact hle
        · simp only [List.size_toArray, List.length_append, List.length_take, List.length_drop, hzl, Array.length_toList, hsz]; omega
        · have hmd := made_take (K := K) (zc := ze.cells) (n := ys.length) (c := ys.length) hz (Nat.le_refl _)
          have e2 : (Builtin.zeroCells ze.cells ys.length) = madeCells ze.cells (ys.length * K.sz) := by rw [zeroCells_made, hze]
          rw [List.length_replicate]
          show ((cur.toList.take 0 ++ (Builtin.zeroCells ze.cells ys.length).toList) ++ _).take _ = _
          rw [List.take_zero, List.nil_append, List.take_append_of_le_length (by rw [hzl]; exact Nat.le_refl _), e2, hmd]
  obtain ⟨w', hrun, hup⟩ := key
  refine OV.run (hg a hf) (v := .tuple #[]) (w' := w') ?_ (kk _ _ (hf.put_none _) (hs.update hk hup))
  simp only [execOp, resolve, invoke, builtin, Sem.run_bind, Sem.run_pure, Result.andThen_ok, List.map_toArray, List.map_cons, List.map_nil, hf.ev hx, hrun]
end
theorem flat_map {α : Type} (K : Enc α) (ys : List α) : flat K ys = (ys.map K.f).flatten := by simp [flat, List.flatMap]
theorem OS_congr {α : Type} {e : TypeId} {K : Enc α} {A : Option Addr} {c : Nat} {ys zs : List α} (h : ys.map K.f = zs.map K.f) : OS e K A c ys = OS e K A c zs := by
  have hl : ys.length = zs.length := by simpa using congrArg List.length h
  have hf : flat K ys = flat K zs := by rw [flat_map, flat_map, h]
  have hn : (ys = []) = (zs = []) := by
    refine propext ⟨fun k => ?_, fun k => ?_⟩
    · subst k; exact List.eq_nil_of_length_eq_zero hl.symm
    · subst k; exact List.eq_nil_of_length_eq_zero hl
  simp only [OS, hl, hf, hn]
theorem map_set_same {α β : Type} {f : α → β} {l : List α} {i : Nat} {x d : α} (h : f x = f (l.getD i d)) : (l.set i x).map f = l.map f := by
  by_cases hi : i < l.length
  · rw [List.map_set, h]
    refine List.ext_getElem (by simp) fun j h1 h2 => ?_
    rw [List.getElem_set]
    split
    · rename_i e; subst e; simp [List.getD, hi]
    · rfl
  · rw [List.set_eq_of_length_le (by omega)]
theorem Big_congr {β : Type} {F : β → Assn} {hs hs' : List β} (h : hs.map F = hs'.map F) : Big F hs = Big F hs' := by simp only [Big, h]
theorem Hp.bigSnoc {I0 : Ids} {w0 w : World} {L : List Assn} {β : Type} {F : β → Assn} {hs : List β} {k : Nat} {h' : β} (h : Hp I0 w0 (L ++ [F h']) w) (hk : L[k]? = some (Big F hs)) : Hp I0 w0 (L.set k (Big F (hs ++ [h']))) w := by
  have hp1 : (L ++ [F h']).Perm ([F h', Big F hs] ++ L.eraseIdx k) :=
    (List.perm_append_singleton _ _).trans (List.Perm.cons _ (perm_erase hk))
  have h1 := (h.perm hp1).bundle (A := Big F (hs ++ [h'])) fun i hi => by
    obtain ⟨a, b, e1, e2, e3, c, d, e4, e5, e6, e7⟩ := hi
    have hp : (F h' :: hs.map F).Perm ((hs ++ [h']).map F) := by
      rw [List.map_append]; exact (List.perm_append_singleton _ _).symm
    refine Sep.perm hp ⟨a, b, e1, e2, e3, ?_⟩
    exact Sep.ext e6 fun x => by rw [e4 x]; exact ⟨.inl, fun h => h.elim id fun h => absurd h (e7 x)⟩
  exact h1.perm (perm_set _ hk)
end Go.Sv
namespace Go.Ctl
open Go.Sv Go.Perf
/-! ### One domain taken out, and put back -/
/-- The domains' cells and their parts: domain m's parts laid open. -/
theorem openD {I0 : Ids} {w0 w : World} {X : Assn} {ds : List PD} {R : List Assn} (h : Hp I0 w0 (X :: Big pF ds :: R) w) {m : Nat} (hm : m < ds.length) : Hp I0 w0 (X :: pobj (ds.getD m domK.d) ++ (Big pF (ds.eraseIdx m) :: R)) w := by
  have h1 := h.focus (k := 1) (m := m) domK.d rfl hm
  have h2 : Hp I0 w0 (Bun (pobj (ds.getD m domK.d)) :: (X :: (R ++ [Big pF (ds.eraseIdx m)]))) w := h1.perm (List.Perm.swap _ _ _)
  refine h2.unbun.perm ?_
  refine (List.perm_middle).trans (List.Perm.cons _ (List.Perm.append_left _ ?_))
  exact List.perm_append_singleton _ _
theorem closeD {I0 : Ids} {w0 w : World} {X : Assn} {ds : List PD} {R : List Assn} {d : PD} {m : Nat} (h : Hp I0 w0 (X :: pobj d ++ (Big pF (ds.eraseIdx m) :: R)) w) (hm : m < ds.length) : Hp I0 w0 (X :: Big pF (ds.set m d) :: R) w := by
  have h1 : Hp I0 w0 (pobj d ++ (X :: (R ++ [Big pF (ds.eraseIdx m)]))) w := by
    refine h.perm ?_
    refine (List.perm_middle).symm.trans (List.Perm.append_left _ (List.Perm.cons _ ?_))
    exact (List.perm_append_singleton _ _).symm
  have h2 : Hp I0 w0 (([X, pF d] ++ R) ++ [Big pF (ds.eraseIdx m)]) w := by
    refine h1.bun.perm ?_
    exact List.Perm.swap _ _ _
  exact h2.unfocus (k := 1) rfl hm
/-- A new domain joins the others. -/
theorem snocD {I0 : Ids} {w0 w : World} {ds : List PD} {R : List Assn} {d : PD} (h : Hp I0 w0 (pobj d ++ (Big pF ds :: R)) w) : Hp I0 w0 (Big pF (ds ++ [d]) :: R) w := by
  have h1 : Hp I0 w0 ((Big pF ds :: R) ++ [pF d]) w := h.bun.perm (List.perm_append_singleton _ _).symm
  exact h1.bigSnoc (k := 0) rfl
/-! ### What stays of a domain -/
structure DRl (d d' : Dom) : Prop where
  ok : d'.ok
  gr : d'.gr = d.gr
  ys : d'.ys = d.ys
  ld : d'.ld = d.ld
  up : d'.up = d.up
  dn : d'.dn = d.dn
  sm : d'.sm = d.sm
  tr : d'.tr = d.tr
theorem DRl.refl {d : Dom} (h : d.ok) : DRl d d := ⟨h, rfl, rfl, rfl, rfl, rfl, rfl, rfl⟩
theorem DRl.trans {a b c : Dom} (h : DRl a b) (k : DRl b c) : DRl a c := ⟨k.ok, k.gr.trans h.gr, k.ys.trans h.ys, k.ld.trans h.ld, k.up.trans h.up, k.dn.trans h.dn, k.sm.trans h.sm, k.tr.trans h.tr⟩
/-- The governor before a load comes in. -/
def g1D (x : Dom) : Gov := if (topM x : Int) = x.hi then x.g else limG x.g 0 (topM x)
theorem g1D_ok {x : Dom} (h : x.ok) : (g1D x).ok := by
  unfold g1D
  split
  · exact h.g
  · exact limG_ok h.g _ _
theorem g1D_ys (x : Dom) : (g1D x).ys = x.g.ys := by
  unfold g1D
  split
  · rfl
  · exact lim_ys _ _ _
def hiP (d : PD) : PD := { d with x := { d.x with g := g1D d.x, hi := topM d.x } }
theorem req_ok {x : Dom} (h : x.ok) (ld : Int) : (reqD x ld).ok :=
  ⟨h.t, h.f, samp_ok (g1D_ok h) ld, by show (sampG (g1D x) ld).ys = x.ys; rw [samp_ys', g1D_ys]; exact h.gy, h.e, h.tr, h.z, h.zl, topM_lt h, h.l0, h.l1, h.g0, h.g1⟩
theorem req_rl {x : Dom} (h : x.ok) (ld : Int) : DRl x (reqD x ld) := ⟨req_ok h ld, rfl, rfl, rfl, rfl, rfl, rfl, rfl⟩
theorem newE_cases (ys : List Pt) (u d s : Int) : newE ys u d s = 0 ∨ newE ys u d s = 1 := by
  unfold newE
  split
  · split <;> simp
  · simp
end Go.Ctl
set_option linter.unusedSimpArgs false
set_option linter.unusedVariables false
namespace Go.Sv
section
variable {α : Type} {K : Enc α} {w : World} {A : Option Addr} {ys : List α}
theorem RS.cellE (h : RS w K A ys) {m : Nat} {y : α} (hm : m < ys.length) (hy : ys.getD m K.d = y) {j : Nat} {v : Value} (hv : (K.f y)[j]? = some v) : w.cell? ⟨bk A, of A + m * K.sz + j, none⟩ = some v := h.cell hm (by rw [hy]; exact hv)
theorem RS.cellE0 (h : RS w K A ys) {m : Nat} {y : α} (hm : m < ys.length) (hy : ys.getD m K.d = y) {v : Value} (hv : (K.f y)[0]? = some v) : w.cell? ⟨bk A, of A + m * K.sz, none⟩ = some v := h.cell0 hm (by rw [hy]; exact hv)
theorem RS.cellS {m : Nat} {y : α} (h : RS w K A (ys.set m y)) (hm : m < ys.length) {j : Nat} {v : Value} (hv : (K.f y)[j]? = some v) : w.cell? ⟨bk A, of A + m * K.sz + j, none⟩ = some v := h.cell (by rw [List.length_set]; exact hm) (by rw [getD_set_self _ _ _ _ hm]; exact hv)
theorem RS.cellS0 {m : Nat} {y : α} (h : RS w K A (ys.set m y)) (hm : m < ys.length) {v : Value} (hv : (K.f y)[0]? = some v) : w.cell? ⟨bk A, of A + m * K.sz, none⟩ = some v := h.cell0 (by rw [List.length_set]; exact hm) (by rw [getD_set_self _ _ _ _ hm]; exact hv)
end
theorem Hp.nilBig {I0 : Ids} {w0 w : World} {L : List Assn} {β : Type} {F : β → Assn} (h : Hp I0 w0 L w) : Hp I0 w0 (L ++ [Big F []]) w := by
  obtain ⟨I, hs, hx, hi⟩ := h
  exact ⟨I, Sep.append.2 ⟨I, fun _ => False, fun x => by simp, fun _ _ h => h, hs, fun _ => False, fun _ => False, fun x => by simp, fun _ h => h.elim, (fun _ h => h : Sep [] (fun _ => False) w), fun _ h => h⟩, hx, hi⟩
end Go.Sv
namespace Go.Ctl
open Go.Sv Go.Perf
/-! ### A domain's request -/
theorem top_eq {x : Dom} : max 0 ((x.ys.length : Int) - 1 - x.z.at_) = (topM x : Int) := by unfold topM; omega
theorem cu_lt {x : Dom} (h : x.ok) (ld : Int) : (sampG (g1D x) ld).cu < x.ys.length := by
  have h1 := samp_ok (g1D_ok h) ld
  have h2 := h1.l2
  have h3 := h1.l3
  rw [samp_ys', g1D_ys, h.gy] at h3
  omega
theorem req_t {I0 : Ids} {w0 w : World} {dA : Option Addr} {dc : Nat} {ds : List PD} {i : Nat} {d : PD} (hq : ¬ (topM d.x : Int) = d.x.hi)
    (h : Hp I0 w0 ([OS 108 domK dA dc (ds.set i { d with x := { d.x with hi := topM d.x } }), OS 61 ptK d.A d.c d.x.ys, OS 190 trK d.B d.e d.x.tr] ++ gobj 223 d.gb d.gA d.gc (limG d.x.g 0 (topM d.x)) ++ zobj d.zb d.zA d.zc d.oA d.oc d.x.z) w) :
    Hp I0 w0 (OS 108 domK dA dc (ds.set i (hiP d)) :: pobj (hiP d)) w := by
  have e : g1D d.x = limG d.x.g 0 (topM d.x) := if_neg hq
  rw [← e] at h
  have e2 : OS 108 domK dA dc (ds.set i { d with x := { d.x with hi := topM d.x } }) = OS 108 domK dA dc (ds.set i (hiP d)) := OS_congr (by rw [List.map_set, List.map_set]; rfl)
  rw [e2] at h
  exact h
theorem req_f {I0 : Ids} {w0 w : World} {dA : Option Addr} {dc : Nat} {ds : List PD} {i : Nat} {d : PD} (hd : ds.getD i domK.d = d) (hq : ¬ ¬ (topM d.x : Int) = d.x.hi) (h : Hp I0 w0 (OS 108 domK dA dc ds :: pobj d) w) :
    Hp I0 w0 (OS 108 domK dA dc (ds.set i (hiP d)) :: pobj (hiP d)) w := by
  have hq2 := Decidable.not_not.1 hq
  have e : g1D d.x = d.x.g := if_pos hq2
  have e3 : topM d.x = d.x.hi := by omega
  have e2 : OS 108 domK dA dc ds = OS 108 domK dA dc (ds.set i (hiP d)) := OS_congr (map_set_same (d := domK.d) (by rw [hd]; simp only [hiP, domK, e3])).symm
  rw [e2] at h
  have e4 : pobj d = pobj (hiP d) := by simp only [pobj, hiP, e]
  rw [e4] at h
  exact h
theorem req_e {I0 : Ids} {w0 w : World} {dA : Option Addr} {dc : Nat} {ds : List PD} {i : Nat} {d : PD} {ld : Int} {M : List Assn} (h : Hp I0 w0 (OS 108 domK dA dc (ds.set i (hiP d)) :: M) w) : Hp I0 w0 (OS 108 domK dA dc (ds.set i (reqP d ld)) :: M) w := by
  have e2 : OS 108 domK dA dc (ds.set i (hiP d)) = OS 108 domK dA dc (ds.set i (reqP d ld)) := OS_congr (by rw [List.map_set, List.map_set]; rfl)
  rw [e2] at h
  exact h
theorem pow_bd {ys : List Pt} (h : okT ys) (hf : fitT ys) {k : Nat} (hk : k < ys.length) {ld : Int} (h0 : 0 ≤ ld) (h1 : ld ≤ 100) : (0 ≤ (ys.getD k ptK.d).p ∧ (ys.getD k ptK.d).p ≤ 1099511627776) ∧ 0 ≤ (ys.getD k ptK.d).p * ld ∧ (ys.getD k ptK.d).p * ld ≤ 109951162777600 := by
  have hp := (hf k).2.2.1
  have hb := (h.big hk).2.2.2
  have := mul_bd (a := (pt ys k).p) (b := ld) (m := 1099511627776) (n := 100) hp hb h0 h1
  exact ⟨⟨hp, hb⟩, this⟩
/-! ### Loads -/
def slOk (t : PT) (dm ld : Int) : Prop := (0 ≤ dm ∧ dm < t.ds.length) ∧ 0 ≤ ld ∧ ld ≤ 100
def ldP (d : PD) (ld : Int) : PD := { d with x := { d.x with ld := ld } }
def slT (t : PT) (k : Nat) (ld : Int) : PT := { t with ds := t.ds.set k (ldP (pdA t.ds k) ld) }
theorem slT_heap {I0 : Ids} {w0 w : World} {t : PT} {k : Nat} {ld : Int} (h : Hp I0 w0 ((tobj t).set 1 (OS 108 domK t.a.dA t.a.dc (t.ds.set k (ldP (pdA t.ds k) ld)))) w) : Hp I0 w0 (tobj (slT t k ld)) w := by
  have e : Big pF t.ds = Big pF (t.ds.set k (ldP (pdA t.ds k) ld)) := Big_congr (map_set_same (f := pF) (l := t.ds) (i := k) (x := ldP (pdA t.ds k) ld) (d := pd0) rfl).symm
  have e2 : (slT t k ld).ds.length = t.ds.length := List.length_set ..
  have h2 : Hp I0 w0 [Blk t.a.b (.cells #[.slice t.a.dA t.ds.length t.a.dc, .pointer (some ⟨t.a.m.b, 0, none⟩), .int .u64 t.bud, .slice t.a.pA t.ds.length t.a.pc] 103 (0, 0)), OS 108 domK t.a.dA t.a.dc (t.ds.set k (ldP (pdA t.ds k) ld)), Big pF t.ds,
   Blk t.a.m.b (.cells #[.slice t.a.m.hA t.D.length t.a.m.hc, .slice t.a.m.lA t.L.length t.a.m.lc, .int .i64 t.base, .slice t.a.m.eA t.D.length t.a.m.ec, .int .i64 t.rel] 197 (0, 0)), OS 41 hdK t.a.m.hA t.a.m.hc t.D, OS 195 hlK t.a.m.lA t.a.m.lc t.L, OS 2 (intK .i64) t.a.m.eA t.a.m.ec t.E,
   OS 2 (intK .i64) t.a.pA t.a.pc t.p] w := h
  rw [e] at h2
  unfold tobj
  rw [e2]
  exact h2
/-! ### Grants -/
def rqK (ds : List PD) (md : Int) (i : Nat) : List PD := (List.range ds.length).map fun k => if k < i then reqP (pdA ds k) (ldM md (pdA ds k).x) else pdA ds k
theorem rqK_len (ds : List PD) (md : Int) (i : Nat) : (rqK ds md i).length = ds.length := by simp [rqK]
theorem rqK_get (ds : List PD) (md : Int) (i : Nat) {k : Nat} (h : k < ds.length) : (rqK ds md i).getD k domK.d = if k < i then reqP (pdA ds k) (ldM md (pdA ds k).x) else pdA ds k := by simp [rqK, List.getD, h]
theorem rqK_at (ds : List PD) (md : Int) {i : Nat} (h : i < ds.length) : (rqK ds md i).getD i domK.d = pdA ds i := by rw [rqK_get _ _ _ h, if_neg (Nat.lt_irrefl _)]
theorem extP {xs ys : List PD} (hl : xs.length = ys.length) (h : ∀ i, i < xs.length → xs.getD i domK.d = ys.getD i domK.d) : xs = ys := by
  refine List.ext_getElem hl fun i h1 h2 => ?_
  have := h i h1
  simpa [List.getD, h1, h2] using this
theorem rqK_zero (ds : List PD) (md : Int) : rqK ds md 0 = ds := by
  refine extP (rqK_len ..) fun i hi => ?_
  rw [rqK_len] at hi
  rw [rqK_get _ _ _ hi, if_neg (Nat.not_lt_zero _)]
  rfl
theorem getD_set_pd' (l : List PD) {i k : Nat} (x : PD) (h : i < l.length) : (l.set i x).getD k domK.d = if i = k then x else l.getD k domK.d := by
  by_cases e : i = k
  · subst e; rw [if_pos rfl, getD_set_self _ _ _ _ h]
  · rw [if_neg e, getD_set_other _ _ _ e]
theorem rqK_set (ds : List PD) (md : Int) {i : Nat} (h : i < ds.length) : (rqK ds md i).set i (reqP (pdA ds i) (ldM md (pdA ds i).x)) = rqK ds md (i + 1) := by
  refine extP (by simp [rqK]) fun k hk => ?_
  rw [List.length_set, rqK_len] at hk
  rw [getD_set_pd' _ _ (by rw [rqK_len]; exact h), rqK_get _ _ _ hk, rqK_get _ _ _ hk]
  by_cases e : i = k
  · subst e; rw [if_pos rfl, if_pos (by omega)]
  · rw [if_neg e]
    by_cases e2 : k < i
    · rw [if_pos e2, if_pos (by omega)]
    · rw [if_neg e2, if_neg (by omega)]
def ldK (ds : List PD) (md : Int) (i : Nat) : List Int := (List.range ds.length).map fun k => if k < i then ldM md (pdA ds k).x else 0
theorem ldK_len (ds : List PD) (md : Int) (i : Nat) : (ldK ds md i).length = ds.length := by simp [ldK]
theorem ldK_get (ds : List PD) (md : Int) (i : Nat) {k : Nat} (h : k < ds.length) : (ldK ds md i).getD k 0 = if k < i then ldM md (pdA ds k).x else 0 := by simp [ldK, List.getD, h]
theorem ldK_zero (ds : List PD) (md : Int) : ldK ds md 0 = List.replicate ds.length 0 := by simp [ldK, List.map_const']
theorem ldK_set (ds : List PD) (md : Int) {i : Nat} (h : i < ds.length) : (ldK ds md i).set i (ldM md (pdA ds i).x) = ldK ds md (i + 1) := by
  refine ext0 (by simp [ldK]) fun k hk => ?_
  rw [List.length_set, ldK_len] at hk
  rw [getD_set' _ _ _ _ (by rw [ldK_len]; exact h), ldK_get _ _ _ hk, ldK_get _ _ _ hk]
  by_cases e : i = k
  · subst e; rw [if_pos rfl, if_pos (by omega)]
  · rw [if_neg e]
    by_cases e2 : k < i
    · rw [if_pos e2, if_pos (by omega)]
    · rw [if_neg e2, if_neg (by omega)]
theorem ldK_at (ds : List PD) (md : Int) {i : Nat} (h : i < ds.length) : (ldK ds md i).getD i (intK .i64).d = 0 := by
  have := ldK_get ds md i h
  rw [if_neg (Nat.lt_irrefl _)] at this
  exact this
theorem ldK_setat (ds : List PD) (md : Int) {i : Nat} (h : i < ds.length) (v : Int) : ((ldK ds md i).set i v).getD i (intK .i64).d = v := getD_set_self _ _ _ _ (by rw [ldK_len]; exact h)
theorem ldK_end (ds : List PD) (md : Int) {k : Nat} (h : k < ds.length) : (ldK ds md ds.length).getD k (intK .i64).d = ldM md (pdA ds k).x := by
  have := ldK_get ds md ds.length h
  rw [if_pos h] at this
  exact this
theorem ldK_run {ds : List PD} {md : Int} (i : Nat) (h : md = 1) : (pdA ds i).x.ld = ldM md (pdA ds i).x := (if_pos h).symm
theorem ldK_not {ds : List PD} {md : Int} {i : Nat} (h : ¬ md = 1) : (ldK ds md i).set i (ldM md (pdA ds i).x) = ldK ds md i := by
  have e : ldM md (pdA ds i).x = 0 := if_neg h
  rw [e]
  by_cases hi : i < ds.length
  · have h2 := set_getD_self (ldK ds md i) i (0 : Int)
    rwa [show (ldK ds md i).getD i 0 = 0 from ldK_at ds md hi] at h2
  · exact List.set_eq_of_length_le (by rw [ldK_len]; omega)
def acL (ds : List PD) (md : Int) (i : Nat) : List Act := (List.range ds.length).map fun k => if k < i then actM md (pdA ds k).x else act0
theorem acL_len (ds : List PD) (md : Int) (i : Nat) : (acL ds md i).length = ds.length := by simp [acL]
theorem acL_zero (ds : List PD) (md : Int) : acL ds md 0 = List.replicate ds.length act0 := by simp [acL, List.map_const']
theorem acL_set (ds : List PD) (md : Int) {i : Nat} (h : i < ds.length) : (acL ds md i).set i (actM md (pdA ds i).x) = acL ds md (i + 1) := by
  refine List.ext_getElem (by simp [acL]) fun k h1 h2 => ?_
  have hk : k < ds.length := by simpa [acL] using h2
  simp only [List.getElem_set, acL, List.getElem_map, List.getElem_range]
  by_cases e : i = k
  · subst e; rw [if_pos rfl, if_pos (by omega)]
  · rw [if_neg e]
    by_cases e2 : k < i
    · rw [if_pos e2, if_pos (by omega)]
    · rw [if_neg e2, if_neg (by omega)]
theorem acL_end (ds : List PD) (md : Int) : acL ds md ds.length = (ds.map (·.x)).map (actM md) := by
  refine List.ext_getElem (by simp [acL]) fun k h1 h2 => ?_
  have hk : k < ds.length := by simpa [acL] using h1
  simp [acL, hk, pdA, List.getD]
/-- What a whole in order gives for its domains. -/
theorem TS.ok.dom {t : PT} {lim : Int} (h : t.T.ok lim) {i : Nat} (hi : i < t.ds.length) : (pdA t.ds i).x.ok := by
  have := h.d i (by simpa [PT.T] using hi)
  rwa [show t.T.ds = t.ds.map (·.x) from rfl, dm_of t.ds hi] at this
theorem TS.ok.n8' {t : PT} {lim : Int} (h : t.T.ok lim) : t.ds.length ≤ 8 := by have := h.n8; simpa [PT.T] using this
theorem TS.ok.pl' {t : PT} {lim : Int} (h : t.T.ok lim) : t.p.length = t.ds.length := by
  have h1 := h.pl
  have h2 := h.n
  have h3 : t.T.ds.length = t.ds.length := by simp [PT.T]
  exact h1.trans (h2.symm.trans h3)
theorem TS.ok.dl' {t : PT} {lim : Int} (h : t.T.ok lim) : t.D.length = t.ds.length := by
  have h2 := h.n
  have h3 : t.T.ds.length = t.ds.length := by simp [PT.T]
  exact h2.symm.trans h3
theorem as_ok {t : PT} {lim : Int} (h : t.T.ok lim) (md : Int) : AsOk ((t.ds.map (·.x)).map (actM md)) := by
  refine ⟨by have := h.n8'; simp; omega, fun i hi => ?_⟩
  have hi2 : i < t.ds.length := by simpa using hi
  rw [act_at (by simpa using hi2), dm_of t.ds hi2]
  have hd := h.dom hi2
  refine ⟨?_, Int.le_refl _, hd.g0, Int.le_trans hd.g1 (by decide)⟩
  show 0 ≤ reqV (pdA t.ds i).x _
  unfold reqV
  split
  · exact Int.le_refl _
  · exact (hd.f _).2.2.1
theorem as_tot0 {t : PT} {lim : Int} (h : t.T.ok lim) (md : Int) : tot ((t.ds.map (·.x)).map (actM md)) 0 = 0 := by
  refine tot_mono_zero (as_ok h md).a fun i hi => ?_
  have hi2 : i < t.ds.length := by simpa using hi
  rw [act_at (by simpa using hi2)]
  rfl
def pwK (ds : List PD) (md : Int) (g p : List Int) (i : Nat) : List Int := (List.range p.length).map fun k => if k < i then powM (pdA ds k).x.ys (ldM md (pdA ds k).x) (g.getD k 0) else p.getD k 0
theorem pwK_len (ds : List PD) (md : Int) (g p : List Int) (i : Nat) : (pwK ds md g p i).length = p.length := by simp [pwK]
theorem pwK_get (ds : List PD) (md : Int) (g p : List Int) (i : Nat) {k : Nat} (h : k < p.length) : (pwK ds md g p i).getD k 0 = if k < i then powM (pdA ds k).x.ys (ldM md (pdA ds k).x) (g.getD k 0) else p.getD k 0 := by simp [pwK, List.getD, h]
theorem pwK_zero (ds : List PD) (md : Int) (g p : List Int) : pwK ds md g p 0 = p := by
  refine ext0 (pwK_len ..) fun i hi => ?_
  rw [pwK_len] at hi
  rw [pwK_get _ _ _ _ _ hi, if_neg (Nat.not_lt_zero _)]
theorem pwK_set (ds : List PD) (md : Int) (g p : List Int) {i : Nat} (h : i < p.length) (u : Int) : ((pwK ds md g p i).set i u).set i (powM (pdA ds i).x.ys (ldM md (pdA ds i).x) (g.getD i (intK .u64).d)) = pwK ds md g p (i + 1) := by
  rw [List.set_set]
  refine ext0 (by simp [pwK]) fun k hk => ?_
  rw [List.length_set, pwK_len] at hk
  rw [getD_set' _ _ _ _ (by rw [pwK_len]; exact h), pwK_get _ _ _ _ _ hk, pwK_get _ _ _ _ _ hk]
  by_cases e : i = k
  · subst e; rw [if_pos rfl, if_pos (by omega)]; rfl
  · rw [if_neg e]
    by_cases e2 : k < i
    · rw [if_pos e2, if_pos (by omega)]
    · rw [if_neg e2, if_neg (by omega)]
theorem pwK_end {t : PT} {lim : Int} (h : t.T.ok lim) {md : Int} {g : List Int} (hg : Alc ((t.ds.map (·.x)).map (actM md)) t.bud g) : PwR t.T.ds md t.bud (pwK t.ds md g t.p t.ds.length) := by
  refine ⟨g, hg, ?_⟩
  refine List.ext_getElem (by simp [pwK, PT.T, h.pl']) fun k h1 h2 => ?_
  have hk : k < t.ds.length := by simpa [PT.T] using h2
  have e : dmA t.T.ds k = (pdA t.ds k).x := dm_of t.ds hk
  simp only [pwK, List.getElem_map, List.getElem_range, e, if_pos hk]
theorem pF_pts {d : PD} {w : World} {I : Ids} (h : (pF d).sat w I) : RS w ptK d.A d.x.ys := by
  obtain ⟨i, j, _, _, h1, _⟩ := h
  exact OS.rs h1
theorem rqK_ys (ds : List PD) (md : Int) (j : Nat) {i : Nat} (h : i < ds.length) : ((rqK ds md j).getD i domK.d).x.ys = (pdA ds i).x.ys := by
  rw [rqK_get _ _ _ h]
  split <;> rfl
theorem rqK_rl {t : PT} {lim : Int} (h : t.T.ok lim) (md : Int) (j : Nat) {i : Nat} (hi : i < t.ds.length) : DRl (pdA t.ds i).x ((rqK t.ds md j).getD i domK.d).x := by
  rw [rqK_get _ _ _ hi]
  split
  · exact req_rl (h.dom hi) _
  · exact DRl.refl (h.dom hi)
theorem tobj_of {I0 : Ids} {w0 w : World} (t : PT) {n1 n2 : Nat} (h1 : n1 = t.ds.length) (h2 : n2 = t.ds.length)
    (h : Hp I0 w0 [Blk t.a.b (.cells #[.slice t.a.dA n1 t.a.dc, .pointer (some ⟨t.a.m.b, 0, none⟩), .int .u64 t.bud, .slice t.a.pA n2 t.a.pc] 103 (0, 0)), OS 108 domK t.a.dA t.a.dc t.ds, Big pF t.ds,
   Blk t.a.m.b (.cells #[.slice t.a.m.hA t.D.length t.a.m.hc, .slice t.a.m.lA t.L.length t.a.m.lc, .int .i64 t.base, .slice t.a.m.eA t.D.length t.a.m.ec, .int .i64 t.rel] 197 (0, 0)), OS 41 hdK t.a.m.hA t.a.m.hc t.D, OS 195 hlK t.a.m.lA t.a.m.lc t.L, OS 2 (intK .i64) t.a.m.eA t.a.m.ec t.E,
   OS 2 (intK .i64) t.a.pA t.a.pc t.p] w) : Hp I0 w0 (tobj t) w := by
  subst h1; subst h2; exact h
/-! ### A new control -/
structure NLg where
  ds : List PD
  dA : Option Addr
  dc : Nat
  hA : Option Addr
  hc : Nat
def hdL (l : List RB) (i : Nat) : List HD := (l.take i).map (·.h)
theorem hdL_succ (l : List RB) {i : Nat} (h : i < l.length) : hdL l (i + 1) = hdL l i ++ [(l.getD i rbK.d).h] := by
  rw [hdL, List.take_add_one, List.getD, List.getElem?_eq_getElem h, List.map_append]; rfl
theorem hdL_len (l : List RB) {i : Nat} (h : i ≤ l.length) : (hdL l i).length = i := by simp [hdL]; omega
theorem hdL_end (l : List RB) : hdL l l.length = (l.map RB.bd).map (·.h) := by rw [hdL, List.take_length, List.map_map]; rfl
theorem bd_at (l : List RB) {i : Nat} (h : i < l.length) : bdA (l.map RB.bd) i = (l.getD i rbK.d).bd := by simp [bdA, List.getD, h]
theorem mk_succ (l : List RB) {i : Nat} (h : i < l.length) (base lim : Int) : ((l.take (i + 1)).map RB.bd).map (mkD base lim) = ((l.take i).map RB.bd).map (mkD base lim) ++ [mkD base lim (l.getD i rbK.d).bd] := by
  rw [List.take_add_one, List.getD, List.getElem?_eq_getElem h, List.map_append, List.map_append]; rfl
theorem newT_eq {t : PT} {l : List RB} {M : List HL} {base lim bud : Int} (h1 : t.ds.map (·.x) = ((l.take l.length).map RB.bd).map (mkD base lim)) (h2 : t.D = (l.map RB.bd).map (·.h)) (h3 : t.L = M) (h4 : t.base = base) (h5 : t.E = t.D.map fun x => x.cap * base) (h6 : t.rel = 0) (h7 : t.bud = bud) (h8 : t.p = List.replicate l.length 0) : t.T = newTS (l.map RB.bd) M base lim bud := by
  rw [List.take_length] at h1
  unfold PT.T newTS
  rw [h5, h2, h1, h3, h4, h6, h7, h8]
  simp
end Go.Ctl
set_option linter.unusedSimpArgs false
set_option linter.unusedVariables false
namespace Go.Ctl
open Go.Sv Go.Perf
theorem pwR_len {ds : List Dom} {md b : Int} {p : List Int} (h : PwR ds md b p) : p.length = ds.length := by
  obtain ⟨g, _, rfl⟩ := h
  simp
theorem pw_any {T : TS} {md lim : Int} {p : List Int} (k : T.ok lim) (h : if md = 0 then p = List.replicate T.ds.length 0 else PwR T.ds md T.bud p) : PwOk T.ds md T.bud p := by
  by_cases e : md = 0
  · rw [if_pos e] at h
    rw [h]; exact pw_off k.b0 k.d md
  · rw [if_neg e] at h
    exact pw_ok k.d h
theorem stepOk_of {T : TS} {md lim : Int} {p : List Int} (k : T.ok lim) (hw : PwOk T.ds md T.bud p) : StepOk T.D T.L T.base T.E p lim := by
  have hgr : ∀ j, j < T.D.length → p.getD j 0 ≤ grM (hdA T.D j) T.base lim := fun j hj => by
    have h1 := hw.gr j (by rw [k.n]; exact hj)
    rwa [k.gr j (by rw [k.n]; exact hj)] at h1
  refine ⟨k.v, k.e, k.l1, k.tm, hw.len.trans k.n, fun j hj => ⟨hw.lo j (by rw [k.n]; exact hj), ?_⟩, fun j hj => ?_⟩
  · have := hgr j hj
    unfold grM at this
    omega
  · have := hgr j hj
    unfold grM at this
    show _ ≤ (hdA T.D j).amb * (lim - T.base)
    omega
theorem rep_len {t : PT} : List.replicate t.ds.length (0 : Int) = List.replicate t.T.ds.length 0 := by simp [PT.T]
theorem run_of {t : PT} {md : Int} {y : List PD} {p : List Int} {rel : Int} (hl : y.length = t.ds.length) (hr : ∀ k, k < t.ds.length → DRl (pdA t.ds k).x (y.getD k domK.d).x)
    (hp : if md = 0 then p = List.replicate t.T.ds.length 0 else PwR t.T.ds md t.bud p) : RunR md t.T (PT.T { t with ds := y, E := stepE t.D t.L t.base t.E p, rel := rel, p := p }) := by
  have hn : t.T.ds.length = t.ds.length := by simp [PT.T]
  refine ⟨rfl, rfl, rfl, rfl, by simp [PT.T, hl], fun i hi => ?_, hp, rfl⟩
  have hi2 : i < t.ds.length := by rw [← hn]; exact hi
  have e1 : dmA t.T.ds i = (pdA t.ds i).x := dm_of t.ds hi2
  have e2 : dmA (PT.T { t with ds := y, E := stepE t.D t.L t.base t.E p, rel := rel, p := p }).ds i = (y.getD i domK.d).x := dm_of y (by rw [hl]; exact hi2)
  rw [e1, e2]
  have h := hr i hi2
  exact ⟨h.ok, h.gr, h.ys, h.ld, h.up, h.dn, h.sm, h.tr⟩
def zP (d : PD) (z : Zn) : PD := { d with x := { d.x with z := z } }
theorem zP_os {A : Option Addr} {c : Nat} {y : List PD} {i : Nat} {z : Zn} : OS 108 domK A c (y.set i (zP (y.getD i domK.d) z)) = OS 108 domK A c y := OS_congr (map_set_same (f := domK.f) (l := y) (i := i) (x := zP (y.getD i domK.d) z) (d := domK.d) rfl)
theorem zP_rl {x : Dom} {d : PD} {z : Zn} (h : DRl x d.x) (hz : d.x.z.nx z) : DRl x (zP d z).x := by
  have k := h.ok
  exact ⟨⟨k.t, k.f, k.g, k.gy, k.e, k.tr, hz.ok k.z, hz.lv.trans k.zl, k.h, k.l0, k.l1, k.g0, k.g1⟩, h.gr, h.ys, h.ld, h.up, h.dn, h.sm, h.tr⟩
theorem rl_set {t : PT} {y : List PD} {i : Nat} {d : PD} (hl : y.length = t.ds.length) (h : ∀ k, k < t.ds.length → DRl (pdA t.ds k).x (y.getD k domK.d).x) (hd : DRl (pdA t.ds i).x d.x) : ∀ k, k < t.ds.length → DRl (pdA t.ds k).x ((y.set i d).getD k domK.d).x := fun k hk => by
  by_cases hi : i < y.length
  · rw [getD_set_pd' _ _ hi]
    split
    · rename_i e; subst e; exact hd
    · exact h k hk
  · rw [List.set_eq_of_length_le (by omega)]; exact h k hk
theorem pF_gov {d : PD} {w : World} {I : Ids} (h : (pF d).sat w I) : w.heap[d.gb]? = some (.cells #[.slice d.gA d.x.g.ys.length d.gc, .int .i64 d.x.g.up, .int .i64 d.x.g.dn, .int .i64 d.x.g.sm, .int .i64 d.x.g.lo, .int .i64 d.x.g.hi, .int .i64 d.x.g.cu, .int .i64 d.x.g.n] 223 (0, 0)) := by
  obtain ⟨i, j, _, _, _, i2, j2, _, _, _, i3, j3, _, _, h3, _⟩ := h
  exact h3.2
/-! ### The governors' points -/
def cuK (ds : List PD) (i : Nat) : List Int := (List.range ds.length).map fun k => if k < i then ((pdA ds k).x.g.cu : Int) else 0
theorem cuK_len (ds : List PD) (i : Nat) : (cuK ds i).length = ds.length := by simp [cuK]
theorem cuK_get (ds : List PD) (i : Nat) {k : Nat} (h : k < ds.length) : (cuK ds i).getD k 0 = if k < i then ((pdA ds k).x.g.cu : Int) else 0 := by simp [cuK, List.getD, h]
theorem cuK_zero (ds : List PD) : cuK ds 0 = List.replicate ds.length 0 := by simp [cuK, List.map_const']
theorem cuK_set (ds : List PD) {i : Nat} (h : i < ds.length) : (cuK ds i).set i (((ds.getD i domK.d).x.g.cu : Nat) : Int) = cuK ds (i + 1) := by
  refine ext0 (by simp [cuK]) fun k hk => ?_
  rw [List.length_set, cuK_len] at hk
  rw [getD_set' _ _ _ _ (by rw [cuK_len]; exact h), cuK_get _ _ hk, cuK_get _ _ hk]
  by_cases e : i = k
  · subst e; rw [if_pos rfl, if_pos (by omega)]; rfl
  · rw [if_neg e]
    by_cases e2 : k < i
    · rw [if_pos e2, if_pos (by omega)]
    · rw [if_neg e2, if_neg (by omega)]
theorem chk12 {tr : List Trp} (h : chkT tr = 0) : tr.length ≤ 12 := by
  refine Classical.byContradiction fun k => ?_
  rw [chkT_long k] at h; cases h
/-! ### A restart -/
theorem res_set {t : PT} {y : List PD} {i : Nat} {d : PD} (hl : y.length = t.ds.length) (hi : i < t.ds.length) (h1 : ∀ k, k < i → (y.getD k domK.d).x = resD (pdA t.ds k).x) (hd : d.x = resD (pdA t.ds i).x) : ∀ k, k < i + 1 → ((y.set i d).getD k domK.d).x = resD (pdA t.ds k).x := fun k hk => by
  rw [getD_set_pd' _ _ (by omega)]
  split
  · rename_i e; subst e; exact hd
  · exact h1 k (by omega)
theorem res_rest {t : PT} {y : List PD} {i : Nat} {d : PD} (hl : y.length = t.ds.length) (hi : i < t.ds.length) (h1 : ∀ k, i ≤ k → k < t.ds.length → y.getD k domK.d = pdA t.ds k) : ∀ k, i + 1 ≤ k → k < t.ds.length → (y.set i d).getD k domK.d = pdA t.ds k := fun k hk hk2 => by
  rw [getD_set_pd' _ _ (by omega), if_neg (by omega)]
  exact h1 k (by omega) hk2
end Go.Ctl
set_option linter.unusedSimpArgs false
set_option linter.unusedVariables false
namespace Go.Sv
theorem cells_of {w : World} {b : Nat} {cs : Array Value} {t : TypeId} {fz : Nat × Nat} (h : w.heap[b]? = some (.cells cs t fz)) (o : Nat) (vs : List Value) (hv : (cs.toList.drop o).take vs.length = vs) : ∀ j v, vs[j]? = some v → w.cell? ⟨b, o + j, none⟩ = some v := fun j v hj => by
  rw [cell_of h]
  rw [← hv, List.getElem?_take] at hj
  split at hj
  · rw [List.getElem?_drop] at hj; simpa using hj
  · cases hj
/-- A loop that leaves in its first round. -/
theorem CV.loop0 {P : Program} {N : NN} {c : Code} {Q : Exit → Act → World → Prop} {E : Env} {S : World → Prop} (hE : Sub E E) (h : ∀ K : Act → World → Prop, CV P N c (Exit.then K Q) E S) : CV P N (.loop c) Q E S :=
  CV.loop (α := Unit) (fun _ => 0) (fun _ => E) (fun _ => S) () hE (fun _ h => h) fun _ => h _
end Go.Sv
namespace Go.Ctl
open Go.Sv Go.Perf
/-- Rows of empty rows. -/
def nslK : Enc Unit where
  f _ := [.slice none 0 0]
  sz := 1
  d := ()
  len _ := rfl
  pos := by decide
  one r v hv := by simp at hv; subst hv; rfl
/-- A device's state in the manager of run-time power. -/
def src96 : List Value := [.bool false, .bool false, .int .u64 0, .bool false, .bool false, .int .u64 0, .bool false, .bool false, .int .u64 0, .bool false, .bool false, .int .u64 0, .bool false, .bool false, .int .u64 0, .bool false, .bool false, .int .u64 0, .bool false, .bool false, .int .u64 0, .bool false, .bool false, .int .u64 0, .bool false, .bool false, .int .u64 0, .bool false, .bool false, .int .u64 0, .bool false, .bool false, .int .u64 0, .bool false, .bool false, .int .u64 0, .bool false, .bool false, .int .u64 0, .bool false, .bool false, .int .u64 0, .bool false, .bool false, .int .u64 0, .bool false, .bool false, .int .u64 0, .bool false, .bool false, .int .u64 0, .bool false, .bool false, .int .u64 0, .bool false, .bool false, .int .u64 0, .bool false, .bool false, .int .u64 0, .bool false, .bool false, .int .u64 0, .bool false, .bool false, .int .u64 0, .bool false, .bool false, .int .u64 0, .bool false, .bool false, .int .u64 0, .bool false, .bool false, .int .u64 0, .bool false, .bool false, .int .u64 0, .bool false, .bool false, .int .u64 0, .bool false, .bool false, .int .u64 0, .bool false, .bool false, .int .u64 0, .bool false, .bool false, .int .u64 0, .bool false, .bool false, .int .u64 0, .bool false, .bool false, .int .u64 0]
/-- Wake sources of which none is active. -/
abbrev srcA (n : Int) (ar : Bool) (ck : Int) : Array Value := #[.bool false, .bool false, .int .u64 0, .bool false, .bool false, .int .u64 0, .bool false, .bool false, .int .u64 0, .bool false, .bool false, .int .u64 0, .bool false, .bool false, .int .u64 0, .bool false, .bool false, .int .u64 0, .bool false, .bool false, .int .u64 0, .bool false, .bool false, .int .u64 0, .bool false, .bool false, .int .u64 0, .bool false, .bool false, .int .u64 0, .bool false, .bool false, .int .u64 0, .bool false, .bool false, .int .u64 0, .bool false, .bool false, .int .u64 0, .bool false, .bool false, .int .u64 0, .bool false, .bool false, .int .u64 0, .bool false, .bool false, .int .u64 0, .bool false, .bool false, .int .u64 0, .bool false, .bool false, .int .u64 0, .bool false, .bool false, .int .u64 0, .bool false, .bool false, .int .u64 0, .bool false, .bool false, .int .u64 0, .bool false, .bool false, .int .u64 0, .bool false, .bool false, .int .u64 0, .bool false, .bool false, .int .u64 0, .bool false, .bool false, .int .u64 0, .bool false, .bool false, .int .u64 0, .bool false, .bool false, .int .u64 0, .bool false, .bool false, .int .u64 0, .bool false, .bool false, .int .u64 0, .bool false, .bool false, .int .u64 0, .bool false, .bool false, .int .u64 0, .bool false, .bool false, .int .u64 0, .int .i64 n, .bool false, .int .u64 0, .int .i64 0, .bool ar, .int .i64 0, .int .u64 ck]
theorem src_get (n : Int) (ar : Bool) (ck : Int) : ∀ (i : Nat), i < 32 → ((srcA n ar ck).toList.drop (i * 3)).take 3 = [.bool false, .bool false, .int .u64 0]
  | 0, _ => rfl
  | 1, _ => rfl
  | 2, _ => rfl
  | 3, _ => rfl
  | 4, _ => rfl
  | 5, _ => rfl
  | 6, _ => rfl
  | 7, _ => rfl
  | 8, _ => rfl
  | 9, _ => rfl
  | 10, _ => rfl
  | 11, _ => rfl
  | 12, _ => rfl
  | 13, _ => rfl
  | 14, _ => rfl
  | 15, _ => rfl
  | 16, _ => rfl
  | 17, _ => rfl
  | 18, _ => rfl
  | 19, _ => rfl
  | 20, _ => rfl
  | 21, _ => rfl
  | 22, _ => rfl
  | 23, _ => rfl
  | 24, _ => rfl
  | 25, _ => rfl
  | 26, _ => rfl
  | 27, _ => rfl
  | 28, _ => rfl
  | 29, _ => rfl
  | 30, _ => rfl
  | 31, _ => rfl
  | n + 32, h => by omega
/-! ### The freezer -/
def allLe (es : List Int) (x : Int) (k : Nat) : Bool := decide (∀ i, i < k → es.getD i 0 ≤ x)
theorem allLe_zero (es : List Int) (x : Int) : allLe es x 0 = true := decide_eq_true fun i hi => absurd hi (Nat.not_lt_zero _)
theorem allLe_t {es : List Int} {x : Int} {k : Nat} (h : es.getD k (intK .u64).d ≤ x) : allLe es x (k + 1) = allLe es x k := by
  unfold allLe
  refine decide_eq_decide.2 ⟨fun hh i hi => hh i (by omega), fun hh i hi => ?_⟩
  by_cases e : i = k
  · subst e; exact h
  · exact hh i (by omega)
theorem allLe_f {es : List Int} {x : Int} {k : Nat} (h : ¬ es.getD k (intK .u64).d ≤ x) : allLe es x (k + 1) = false := by
  unfold allLe
  exact decide_eq_false fun hh => h (hh k (by omega))
/-- What an advance makes of the state while the processes are being frozen. -/
def adS (es : List Int) (dl now : Int) : Int := if allLe es (min now dl) es.length = true then 2 else if dl ≤ now then 0 else 1
def adE (es : List Int) (dl now : Int) : Int := if allLe es (min now dl) es.length = true then 0 else if dl ≤ now then 14 else 0
def adB (es : List Int) (dl now : Int) : Bool := allLe es (min now dl) es.length
abbrev frC (st ck dl : Int) (A : Option Addr) (n c : Nat) : Array Value := #[.int .i64 st, .int .u64 ck, .int .u64 dl, .slice A n c]
abbrev slC (pp wp fp sp : Option Addr) (md sy la ea : Int) : Array Value := #[.pointer pp, .pointer wp, .pointer fp, .pointer sp, .int .i64 md, .int .i64 sy, .int .i64 la, .int .i64 ea]
abbrev sqC (A : Option Addr) (c : Nat) (st : Int) (rest : List Value) : Array Value := (.slice A 0 c :: .int .i64 st :: rest).toArray
end Go.Ctl
set_option linter.unusedSimpArgs false
set_option linter.unusedVariables false
namespace Go.Ctl
open Go.Sv Go.Perf
theorem TS.ok.chg {t : PT} {lim : Int} (h : t.T.ok lim) {y : List PD} (hl : y.length = t.ds.length) (hd : ∀ k, k < t.ds.length → (y.getD k domK.d).x.ok ∧ (y.getD k domK.d).x.gr = (pdA t.ds k).x.gr) : (PT.T { t with ds := y }).ok lim := by
  have hn : t.T.ds.length = t.ds.length := by simp [PT.T]
  have hn2 : (PT.T { t with ds := y }).ds.length = y.length := by simp [PT.T]
  have e2 : ∀ i, i < y.length → dmA (PT.T { t with ds := y }).ds i = (y.getD i domK.d).x := fun i hi => dm_of y hi
  refine ⟨h.v, ?_, ?_, h.e, h.pl, fun i hi => ?_, fun i hi => ?_, h.l0, h.l1, h.tm, h.b0, h.b1, h.ll⟩
  · rw [hn2, hl, ← hn]; exact h.n
  · rw [hn2, hl, ← hn]; exact h.n8
  · rw [hn2] at hi
    rw [e2 i hi]; exact (hd i (by omega)).1
  · rw [hn2] at hi
    rw [e2 i hi, (hd i (by omega)).2]
    have := h.gr i (by rw [hn]; omega)
    rwa [show dmA t.T.ds i = (pdA t.ds i).x from dm_of t.ds (by omega)] at this
theorem ld_ok {x : Dom} (h : x.ok) {ld : Int} (h0 : 0 ≤ ld) (h1 : ld ≤ 100) : ({ x with ld := ld } : Dom).ok := ⟨h.t, h.f, h.g, h.gy, h.e, h.tr, h.z, h.zl, h.h, h0, h1, h.g0, h.g1⟩
theorem slT_ok {t : PT} {lim : Int} (h : t.T.ok lim) {dm ld : Int} (hs : slOk t dm ld) : (slT t dm.toNat ld).T.ok lim := by
  have hk : dm.toNat < t.ds.length := by have := hs.1.1; have := hs.1.2; omega
  refine h.chg (y := t.ds.set dm.toNat (ldP (pdA t.ds dm.toNat) ld)) (List.length_set ..) fun k hk2 => ?_
  rw [getD_set_pd' _ _ hk]
  split
  · rename_i e; subst e
    exact ⟨ld_ok (h.dom hk2) hs.2.1 hs.2.2, rfl⟩
  · exact ⟨h.dom hk2, rfl⟩
theorem res_ok {t : PT} {lim : Int} (h : t.T.ok lim) {y : List PD} (hl : y.length = t.ds.length) (hy : ∀ k, k < t.ds.length → (y.getD k domK.d).x = resD (pdA t.ds k).x) : (PT.T { t with ds := y }).ok lim :=
  h.chg hl fun k hk => by rw [hy k hk]; exact ⟨resD_ok (h.dom hk), rfl⟩
/-! ### The example -/
def awY : List Pt := [⟨1, 0, 8⟩]
def awD : BD := ⟨⟨10, 1⟩, awY, 50, 0, 1, []⟩
theorem awF : fitT awY := fitT_of fun i hi => by
  have : i = 0 := by simp [awY] at hi; omega
  subst this
  exact ⟨⟨by decide, by decide⟩, ⟨by decide, by decide⟩, ⟨by decide, by decide⟩⟩
theorem awE : newE awY 50 0 1 = 0 := by decide +kernel
theorem awC : chkT [] = 0 := by decide +kernel
theorem awS : susE ⟨10, 1⟩ 20 30 := susE_of (by decide) (by decide) (by decide) (by decide) (by decide) (by decide) (by decide)
theorem awN : NewOk [awD] [] 20 30 9 := ⟨by decide, by decide, fun h => rfl, fun i hi => by
  have : i = 0 := by simp at hi; omega
  subst this
  exact ⟨awS, awE, awC⟩, fun _ => awS.1⟩
theorem awT : (newTS [awD] [] 20 30 9).ok 30 := newTS_ok (fun i hi => by
  have : i = 0 := by simp at hi; omega
  subst this
  exact awF) (by decide) (by decide) (by decide) awN
def awX : Dom := { mkD 20 30 awD with ld := 50 }
theorem aw_g : atM (actM 1 awX) 4294967296 = 8 := by decide +kernel
theorem aw_t : tot [actM 1 awX] 4294967296 ≤ 9 := by decide +kernel
theorem aw_p : powM awX.ys (ldM 1 awX) 8 = 4 := by decide +kernel
theorem aw_pow {p : List Int} (h : PwR [awX] 1 9 p) : p = [4] := by
  obtain ⟨g, hg, rfl⟩ := h
  have h1 := hg.all aw_t 0 (by decide)
  have h2 : g.getD 0 0 = 8 := h1.trans aw_g
  show [powM awX.ys (ldM 1 awX) (g.getD 0 0)] = [4]
  rw [h2, aw_p]
theorem aw_ds {t : PT} (h : t.T = newTS [awD] [] 20 30 9) : (slT t 0 50).T.ds = [awX] ∧ t.ds.length = 1 ∧ t.bud = 9 := by
  have h1 : t.ds.map (·.x) = [mkD 20 30 awD] := congrArg TS.ds h
  have h2 : t.bud = 9 := congrArg TS.bud h
  have h3 : t.ds.length = 1 := by simpa using congrArg List.length h1
  obtain ⟨d, hd⟩ : ∃ d, t.ds = [d] := by
    cases hds : t.ds with
    | nil => rw [hds] at h3; cases h3
    | cons d r =>
      cases r with
      | nil => exact ⟨d, rfl⟩
      | cons e r => rw [hds] at h3; simp at h3
  refine ⟨?_, h3, h2⟩
  rw [hd] at h1
  have h4 : d.x = mkD 20 30 awD := by simpa using h1
  show ((t.ds.set 0 (ldP (pdA t.ds 0) 50)).map (·.x)) = [awX]
  rw [hd]
  show [({ d.x with ld := 50 } : Dom)] = [awX]
  rw [h4]; rfl
theorem ext0' {d : Int} {xs ys : List Int} (hl : xs.length = ys.length) (h : ∀ i, i < xs.length → xs.getD i d = ys.getD i d) : xs = ys := by
  refine List.ext_getElem hl fun i h1 h2 => ?_
  have := h i h1
  simpa [List.getD, h1, h2] using this
end Go.Ctl
set_option linter.unusedSimpArgs false
set_option linter.unusedVariables false
namespace Go.Ctl
open Go.Sv Go.Perf
theorem modNat (x : Int) {n : Nat} (h : 0 < n) : ∃ k : Nat, modM x n = k ∧ k < n := by
  have := modM_lt x h
  exact ⟨(modM x n).toNat, by omega, by omega⟩
theorem wr_rem (x : Int) {n : Int} (h : 0 < n) : 0 ≤ (IntKind.u64.wrap x).tmod n ∧ (IntKind.u64.wrap x).tmod n < n := tmB _ _ (u64_nonneg x) h
/-- The first loop: the domains made so far. -/
def smD (n : Nat) (D : List HD) (i : Nat) : Prop := D.length = n ∧ ∀ k, k < i → (1 ≤ (D.getD k hdK.d).amb ∧ (D.getD k hdK.d).amb ≤ 6) ∧ (D.getD k hdK.d).amb ≤ (D.getD k hdK.d).cap ∧ (D.getD k hdK.d).cap ≤ 13
theorem smD_set {n : Nat} {D : List HD} {i : Nat} (h : smD n D i) (hi : i < n) {x : HD} (h1 : 1 ≤ x.amb) (h2 : x.amb ≤ 6) (h3 : x.amb ≤ x.cap) (h4 : x.cap ≤ 13) : smD n (D.set i x) (i + 1) := by
  refine ⟨by rw [List.length_set]; exact h.1, fun k hk => ?_⟩
  by_cases e : i = k
  · subst e
    have e2 : (D.set i x).getD i hdK.d = x := getD_set_self _ _ _ _ (by rw [h.1]; exact hi)
    rw [e2]; exact ⟨⟨h1, h2⟩, h3, h4⟩
  · have e2 : (D.set i x).getD k hdK.d = D.getD k hdK.d := getD_set_other _ _ _ e
    rw [e2]; exact h.2 k (by omega)
/-- The second loop: the links made so far. -/
structure SmI (n : Nat) (D : List HD) (M : List HL) : Prop where
  len : D.length = n
  amb : ∀ k, k < n → 1 ≤ (D.getD k hdK.d).amb ∧ (D.getD k hdK.d).amb ≤ 6
  need : ∀ k, k < n → need D M k ≤ (D.getD k hdK.d).cap
  cap : ∀ k, k < n → (D.getD k hdK.d).cap ≤ 13 + 10 * M.length
  lnk : ∀ i, i < M.length → lnkOk n M i
theorem SmI.start {n : Nat} {D : List HD} (h : smD n D n) : SmI n D [] :=
  ⟨h.1, fun k hk => (h.2 k hk).1, fun k hk => by
    have := (h.2 k hk).2.1
    have e : Ctl.need D [] k = (D.getD k hdK.d).amb := by unfold Ctl.need; simp [wof]; rfl
    rw [e]; exact this, fun k hk => by have := (h.2 k hk).2.2; simp; exact this, fun i hi => by simp at hi⟩
theorem SmI.cap0 {n : Nat} {D : List HD} {M : List HL} (h : SmI n D M) {k : Nat} (hk : k < n) : 1 ≤ (D.getD k hdK.d).cap := by
  have h1 := h.need k hk
  have h2 := (h.amb k hk).1
  have h3 := wof_nn' (i := k) (g_all fun i hi => (h.lnk i hi).2.1)
  have e : Ctl.need D M k = (D.getD k hdK.d).amb + wof k M := rfl
  rw [e] at h1
  omega
structure LKg where
  M : List HL
  B : Option Addr
  d : Nat
def okL (M : List HL) (l : HL) (k : Nat) : Bool := decide (¬ l.a = l.b ∧ ∀ i, i < k → ¬ pairEq (M.getD i hlK.d) l)
theorem okL_zero {M : List HL} {l : HL} : decide (¬ l.a = l.b) = okL M l 0 := by
  unfold okL
  refine decide_eq_decide.2 ⟨fun h => ⟨h, fun i hi => absurd hi (Nat.not_lt_zero _)⟩, fun h => h.1⟩
theorem okL_no {M : List HL} {l : HL} {k : Nat} (h : okL M l k = false) : false = okL M l (k + 1) := by
  unfold okL at h ⊢
  have h2 := of_decide_eq_false h
  exact (decide_eq_false fun h3 => h2 ⟨h3.1, fun i hi => h3.2 i (by omega)⟩).symm
theorem okL_dup {M : List HL} {l : HL} {k : Nat} (h : pairEq (M.getD k hlK.d) l) : false = okL M l (k + 1) := by
  unfold okL
  exact (decide_eq_false fun h3 => h3.2 k (by omega) h).symm
theorem okL_new {M : List HL} {l : HL} {k : Nat} (h0 : okL M l k = true) (h : ¬ pairEq (M.getD k hlK.d) l) : true = okL M l (k + 1) := by
  unfold okL at h0 ⊢
  have h2 := of_decide_eq_true h0
  refine (decide_eq_true ⟨h2.1, fun i hi => ?_⟩).symm
  by_cases e : i = k
  · subst e; exact h
  · exact h2.2 i (by omega)
theorem hlA_app_old {M : List HL} {l : HL} {i : Nat} (h : i < M.length) : hlA (M ++ [l]) i = hlA M i := by simp [hlA, List.getD, List.getElem?_append_left h]
theorem hlA_app_new {M : List HL} {l : HL} : hlA (M ++ [l]) M.length = l := by simp [hlA, List.getD]
theorem SmI.next {n : Nat} {D : List HD} {M : List HL} (h : SmI n D M) {a b : Nat} {g : Int} (ha : a < n) (hb : b < n) (hg : 1 ≤ g) (hg2 : g ≤ 5) (hok : okL M ⟨a, b, g⟩ M.length = true) :
    SmI n ((D.set a ⟨(D.getD a hdK.d).cap + g, (D.getD a hdK.d).amb⟩).set b ⟨((D.set a ⟨(D.getD a hdK.d).cap + g, (D.getD a hdK.d).amb⟩).getD b hdK.d).cap + g, ((D.set a ⟨(D.getD a hdK.d).cap + g, (D.getD a hdK.d).amb⟩).getD b hdK.d).amb⟩) (M ++ [⟨a, b, g⟩]) := by
  have hk := of_decide_eq_true hok
  have hne : a ≠ b := fun e => hk.1 (by rw [e])
  have hl := h.len
  have eb : (D.set a ⟨(D.getD a hdK.d).cap + g, (D.getD a hdK.d).amb⟩).getD b hdK.d = D.getD b hdK.d := getD_set_other _ _ _ hne
  rw [eb]
  have get : ∀ k, ((D.set a ⟨(D.getD a hdK.d).cap + g, (D.getD a hdK.d).amb⟩).set b ⟨(D.getD b hdK.d).cap + g, (D.getD b hdK.d).amb⟩).getD k hdK.d = ⟨(D.getD k hdK.d).cap + ((if a = k then g else 0) + (if b = k then g else 0)), (D.getD k hdK.d).amb⟩ := fun k => by
    by_cases e1 : b = k
    · subst e1
      rw [getD_set_self _ _ _ _ (by rw [List.length_set, hl]; exact hb), if_neg hne, if_pos rfl, Int.zero_add]
    · rw [getD_set_other _ _ _ e1, if_neg e1]
      by_cases e2 : a = k
      · subst e2
        rw [getD_set_self _ _ _ _ (by rw [hl]; exact ha), if_pos rfl, Int.add_zero]
      · rw [getD_set_other _ _ _ e2, if_neg e2]
        simp
  have hlen : ((D.set a ⟨(D.getD a hdK.d).cap + g, (D.getD a hdK.d).amb⟩).set b ⟨(D.getD b hdK.d).cap + g, (D.getD b hdK.d).amb⟩).length = n := by rw [List.length_set, List.length_set, hl]
  generalize ((D.set a ⟨(D.getD a hdK.d).cap + g, (D.getD a hdK.d).amb⟩).set b ⟨(D.getD b hdK.d).cap + g, (D.getD b hdK.d).amb⟩) = D2 at *
  refine ⟨hlen, fun k hk => ?_, fun k hk => ?_, fun k hk => ?_, fun i hi => ?_⟩
  · rw [get k]; exact h.amb k hk
  · have h1 := h.need k hk
    have e1 : Ctl.need D2 (M ++ [⟨a, b, g⟩]) k = (D2.getD k hdK.d).amb + wof k (M ++ [⟨a, b, g⟩]) := rfl
    have e2 : Ctl.need D M k = (D.getD k hdK.d).amb + wof k M := rfl
    rw [e1, wof_app, wof_one, get k]
    rw [e2] at h1
    simp only [Int.toNat_natCast]
    omega
  · have h1 := h.cap k hk
    rw [get k, List.length_append]
    simp only [List.length_cons, List.length_nil]
    split <;> split <;> omega
  · rw [List.length_append] at hi
    simp only [List.length_cons, List.length_nil] at hi
    by_cases e : i < M.length
    · obtain ⟨h1, h2, h3, h4⟩ := h.lnk i e
      unfold lnkOk
      rw [hlA_app_old e]
      exact ⟨h1, h2, h3, fun k hk2 => by rw [hlA_app_old (by omega)]; exact h4 k hk2⟩
    · have e2 : i = M.length := by omega
      subst e2
      unfold lnkOk
      rw [hlA_app_new]
      refine ⟨⟨by show (0 : Int) ≤ a; omega, by show (a : Int) < n; omega, by show (0 : Int) ≤ b; omega, by show (b : Int) < n; omega, by show ¬ (a : Int) = b; omega⟩, hg, by show g ≤ 16777216; omega, fun k hk2 => ?_⟩
      rw [hlA_app_old hk2]
      exact hk.2 k hk2
theorem SmI.vld {n : Nat} {D : List HD} {M : List HL} (h : SmI n D M) (h1 : 1 ≤ n) (h2 : n ≤ 5) (hm : M.length ≤ 12) {base : Int} (hb : -100 ≤ base) (hb2 : base ≤ 100) : Vld D M base := by
  have hl := h.len
  refine ⟨by omega, by omega, by omega, by omega, fun i hi => ?_, fun i hi => ?_, fun i hi => ?_⟩
  · have := h.amb i (by omega)
    show 1 ≤ (D.getD i hdK.d).amb ∧ (D.getD i hdK.d).amb ≤ 16777216
    omega
  · rw [hl]; exact h.lnk i hi
  · have := h.cap i (by omega)
    refine ⟨h.need i (by omega), ?_⟩
    show (D.getD i hdK.d).cap ≤ 16777216
    omega
structure SmOk (D : List HD) (M : List HL) (base : Int) : Prop where
  n1 : 1 ≤ D.length
  n2 : D.length ≤ 5
  m : M.length ≤ 12
  b1 : -100 ≤ base
  b2 : base ≤ 100
  v : Vld D M base
/-! ### Domains of a climate -/
structure RbOk (x : HD) (r : RB) : Prop where
  h : r.h = x
  f : fitT r.ys
  e : newE r.ys r.up r.dn r.sm = 0
  t : chkT r.tr = 0
  y : r.ys.length ≤ 8
  r : r.tr.length ≤ 6
theorem fitT_table {raw : List Pt} (h : fitT raw) : fitT (tableM raw) := by
  refine fitT_of fun i hi => ?_
  rw [table_length] at hi
  have hN := (tabN_pos raw).2
  have hb := tabE_bd h i
  have e : pt (tableM raw) i = tabE raw i := tabM_get raw hi
  rw [e]
  unfold fitP
  omega
theorem newE_tab {raw : List Pt} (h : fitT raw) {u d s : Int} (h1 : 1 ≤ u) (h2 : u ≤ 100) (h3 : 0 ≤ d) (h4 : d < u) (h5 : 1 ≤ s) (h6 : s ≤ 4) : newE (tableM raw) u d s = 0 := newE_ok (table_chk h) (by unfold badPr; omega)
theorem fitT_nil : fitT [] := fitT_of fun i hi => by simp at hi
theorem tab_len8 (raw : List Pt) : (tableM raw).length ≤ 8 := by rw [table_length]; exact (tabN_pos raw).2
structure LBg where
  l : List RB
  A : Option Addr
  c : Nat
/-- The domains of a climate made so far. -/
def clI (D : List HD) (l : List RB) (i : Nat) : Prop := l.length = i ∧ ∀ k, k < i → RbOk (D.getD k hdK.d) (l.getD k rbK.d)
theorem clI_next {D : List HD} {l : List RB} {i : Nat} {r : RB} (h : clI D l i) (hr : RbOk (D.getD i hdK.d) r) : clI D (l ++ [r]) (i + 1) := by
  refine ⟨by rw [List.length_append, h.1]; rfl, fun k hk => ?_⟩
  by_cases e : k < i
  · have e1 : (l ++ [r]).getD k rbK.d = l.getD k rbK.d := by simp only [List.getD]; rw [List.getElem?_append_left (by rw [h.1]; exact e)]
    rw [e1]; exact h.2 k e
  · have e2 : k = l.length := by rw [h.1]; omega
    subst e2
    have e1 : (l ++ [r]).getD l.length rbK.d = r := by simp [List.getD]
    have e3 : l.length = i := h.1
    rw [e1, e3]; exact hr
structure ClOk (l : List RB) (M : List HL) (base lim bud : Int) : Prop where
  n1 : 1 ≤ l.length
  n2 : l.length ≤ 5
  m : M.length ≤ 12
  ok : NewOk (l.map RB.bd) M base lim bud
  r : ∀ k, k < l.length → ∃ x, RbOk x (l.getD k rbK.d)
  b0 : 0 ≤ bud
  b1 : bud ≤ 700
  s1 : -100 ≤ base
  s2 : base ≤ 100
  l0 : base ≤ lim
  l1 : lim ≤ 200
theorem ClOk.of {D : List HD} {M : List HL} {base lim bud : Int} {l : List RB} (h : SmOk D M base) (hc : clI D l D.length) (h1 : base ≤ lim) (h2 : lim ≤ 200) (h3 : 0 ≤ bud) (h4 : bud ≤ 700) : ClOk l M base lim bud := by
  have hl : l.length = D.length := hc.1
  have hD : (l.map RB.bd).map (·.h) = D := by
    refine List.ext_getElem (by simp [hl]) fun i a1 a2 => ?_
    have := (hc.2 i a2).h
    simp only [List.getElem_map]
    have e1 : l.getD i rbK.d = l[i]'(by omega) := by simp [List.getD, show i < l.length by omega]
    have e2 : D.getD i hdK.d = D[i] := by simp [List.getD, a2]
    rw [e1, e2] at this
    exact this
  have hlen : (l.map RB.bd).length = D.length := by rw [List.length_map, hl]
  refine ⟨by rw [hl]; exact h.n1, by rw [hl]; exact h.n2, h.m, ⟨by rw [hlen]; have := h.n2; omega, by omega, fun h0 => by rw [hlen] at h0; have := h.n1; omega, fun i hi => ?_, fun _ => by rw [hD]; exact h.v⟩, fun k hk => ⟨_, hc.2 k (by rw [← hl]; exact hk)⟩, h3, h4, h.b1, h.b2, h1, h2⟩
  rw [hlen] at hi
  rw [bd_at l (by omega)]
  have hr := hc.2 i hi
  refine ⟨?_, hr.e, hr.t⟩
  have e : (l.getD i rbK.d).bd.h = D.getD i hdK.d := hr.h
  rw [e]
  have a1 := vld_amb h.v hi
  have a2 := vld_cap h.v hi
  have a3 := wof_nn (i := i) h.v.ok.lnk
  have a4 := h.b1
  have a5 := h.b2
  have e2 : need D M i = (D.getD i hdK.d).amb + wof i M := rfl
  rw [e2] at a2
  exact susE_of a1.1 (by omega) a2.2 (by omega) (by omega) h1 (by omega)
/-- A new control for a climate. -/
theorem ClOk.ts {l : List RB} {M : List HL} {base lim bud : Int} (h : ClOk l M base lim bud) : (newTS (l.map RB.bd) M base lim bud).ok lim := by
  refine newTS_ok (fun i hi => ?_) (by rw [List.length_map]; have := h.n1; omega) h.b0 (by have := h.m; omega) h.ok
  rw [List.length_map] at hi
  rw [bd_at l hi]
  obtain ⟨x, hx⟩ := h.r i hi
  exact hx.f
theorem snocR {I0 : Ids} {w0 w : World} {l : List RB} {R : List Assn} {r : RB} (h : Hp I0 w0 ([OS 61 ptK r.A r.c r.ys, OS 190 trK r.B r.e r.tr] ++ (Big rF l :: R)) w) : Hp I0 w0 (Big rF (l ++ [r]) :: R) w := by
  have h1 : Hp I0 w0 ((Big rF l :: R) ++ [rF r]) w := h.bun.perm (List.perm_append_singleton _ _).symm
  exact h1.bigSnoc (k := 0) rfl
end Go.Ctl
namespace Go.Ctl
open Go.Sv Go.Perf
theorem tr_next {tr : List Trp} {i : Nat} {x : Trp} (hl : tr.length = i) (h : ∀ k, k < i → ¬ badT (tr.getD k trK.d)) (hx : ¬ badT x) : ∀ k, k < i + 1 → ¬ badT ((tr ++ [x]).getD k trK.d) := fun k hk => by
  by_cases e : k < i
  · have e1 : (tr ++ [x]).getD k trK.d = tr.getD k trK.d := by simp only [List.getD]; rw [List.getElem?_append_left (by omega)]
    rw [e1]; exact h k e
  · have e2 : k = tr.length := by omega
    subst e2
    have e1 : (tr ++ [x]).getD tr.length trK.d = x := by simp [List.getD]
    rw [e1]; exact hx
end Go.Ctl
namespace Go.Ctl
open Go.Sv Go.Perf
/-- A step of a law. -/
structure RN where
  dm : Int
  ld : Int
  md : Int
  re : Bool
  rw : Bool
def rn0 : RN := ⟨0, 0, 0, false, false⟩
def rnK : Enc RN where
  f r := [.int .i64 r.dm, .int .i64 r.ld, .int .i64 r.md, .bool r.re, .bool r.rw]
  sz := 5
  d := rn0
  len _ := rfl
  pos := by decide
  one r v hv := by simp at hv; rcases hv with rfl | rfl | rfl | rfl | rfl <;> rfl
def mdM (x : Int) : Int := if modM x 8 ≤ 4 then modM x 8 else 1
theorem mdM_bd (x : Int) : 0 ≤ mdM x ∧ mdM x ≤ 4 := by
  have := modM_lt x (n := 8) (by omega)
  unfold mdM
  split <;> omega
def small (l : List RB) : Prop := l.length ≤ 10 ∧ ∀ i, i < l.length → (l.getD i rbK.d).ys.length ≤ 20 ∧ (l.getD i rbK.d).tr.length ≤ 20
/-- What is known of domains that come in. -/
structure RawOk (l : List RB) (w : World) : Prop where
  r : ∀ i, i < l.length → (l.getD i rbK.d).rs w
  f : ∀ i, i < l.length → fitT (l.getD i rbK.d).ys
  s : small l
end Go.Ctl
