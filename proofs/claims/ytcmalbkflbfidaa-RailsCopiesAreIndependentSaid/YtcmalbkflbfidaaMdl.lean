/-
  Plain models of the rails.
-/
import Derived.Test.YtcmalbkflbfidaaSv6
set_option linter.unusedSimpArgs false
set_option linter.unusedVariables false
namespace Go.Rails
open Go.Sv
structure Rail where
  supply : Int
  up : Int
  down : Int
structure ROp where
  rail : Int
  on : Bool
  start : Int
  done : Int
  deriving DecidableEq
structure St where
  rails : List Rail
  count : List Int
  done : List Int
  clock : Int
def railK : Enc Rail where
  f r := [.int .i64 r.supply, .int .u64 r.up, .int .u64 r.down]
  sz := 3
  d := ⟨0, 0, 0⟩
  len _ := rfl
  pos := by decide
  one r v hv := by simp at hv; rcases hv with rfl | rfl | rfl <;> rfl
def opK : Enc ROp where
  f r := [.int .i64 r.rail, .bool r.on, .int .u64 r.start, .int .u64 r.done]
  sz := 4
  d := ⟨0, false, 0, 0⟩
  len _ := rfl
  pos := by decide
  one r v hv := by simp at hv; rcases hv with rfl | rfl | rfl | rfl <;> rfl
def intK (k : IntKind) : Enc Int where
  f n := [.int k n]
  sz := 1
  d := 0
  len _ := rfl
  pos := by decide
  one r v hv := by simp at hv; subst hv; rfl
/-- Where the three slices of an object lie. -/
structure RA where
  A0 : Option Addr
  c0 : Nat
  A1 : Option Addr
  c1 : Nat
  A2 : Option Addr
  c2 : Nat
def robj (t : TypeId) (b : Nat) (a : RA) (st : St) : List Assn :=
  [Blk b (.cells #[.slice a.A0 st.rails.length a.c0, .slice a.A1 st.rails.length a.c1, .slice a.A2 st.rails.length a.c2, .int .u64 st.clock] t (0, 0)),
   OS 35 railK a.A0 a.c0 st.rails, OS 3 (intK .i64) a.A1 a.c1 st.count, OS 33 (intK .u64) a.A2 a.c2 st.done]
structure St.wf (st : St) : Prop where
  count : st.count.length = st.rails.length
  done : st.done.length = st.rails.length
/-- No rail is fed by itself. -/
def Acy (rails : List Rail) (rk : Nat → Nat) : Prop := ∀ i, i < rails.length → ∀ s : Nat, (rails.getD i railK.d).supply = (s : Int) → s < rails.length ∧ rk s < rk i
def St.c (st : St) (i : Nat) : Int := st.count.getD i 0
def St.t (st : St) (i : Nat) : Int := st.done.getD i 0
def St.r (st : St) (i : Nat) : Rail := st.rails.getD i railK.d
def St.setC (st : St) (i : Nat) (x : Int) : St := { st with count := st.count.set i x }
def St.setD (st : St) (i : Nat) (x : Int) : St := { st with done := st.done.set i x }
def addP : Nat → St → Nat → Int → List ROp → St × List ROp
  | 0, st, _, _, ops => (st, ops)
  | f + 1, st, i, now, ops =>
    if st.c i = 0 then
      let q := if 0 ≤ (st.r i).supply then
          let p := addP f st (st.r i).supply.toNat now ops
          (p.1, p.2, max (max now (st.t i)) (p.1.t (st.r i).supply.toNat))
        else (st, ops, max now (st.t i))
      let dn := IntKind.u64.wrap (q.2.2 + (st.r i).up)
      let st2 := q.1.setD i dn
      (st2.setC i (IntKind.i64.wrap (st2.c i + 1)), q.2.1 ++ [⟨i, true, q.2.2, dn⟩])
    else (st.setC i (IntKind.i64.wrap (st.c i + 1)), ops)
/-- The latest completion among s0 and the first k rails that rail i feeds. -/
def feedM (st : St) (i : Int) : Nat → Int → Int
  | 0, s0 => s0
  | k + 1, s0 => if (st.r k).supply = i then max (feedM st i k s0) (st.t k) else feedM st i k s0
def remP : Nat → St → Nat → Int → List ROp → St × List ROp
  | 0, st, _, _, ops => (st, ops)
  | f + 1, st0, i, now, ops =>
    let st := st0.setC i (IntKind.i64.wrap (st0.c i - 1))
    if 0 < st.c i then (st, ops)
    else
      let start := feedM st i st.rails.length (max now (st.t i))
      let dn := IntKind.u64.wrap (start + (st.r i).down)
      let st2 := st.setD i dn
      let ops2 := ops ++ [⟨i, false, start, dn⟩]
      if 0 ≤ (st.r i).supply then remP f st2 (st.r i).supply.toNat now ops2 else (st2, ops2)
/-- How many of the first k rails are in use and fed by rail i. -/
def heldM (st : St) (i : Int) : Nat → Int
  | 0 => 0
  | k + 1 => if (st.r k).supply = i ∧ 0 < st.c k then heldM st i k + 1 else heldM st i k
theorem heldM_le (st : St) (i : Int) (k : Nat) : 0 ≤ heldM st i k ∧ heldM st i k ≤ k := by
  induction k with
  | zero => simp [heldM]
  | succ k ih => simp only [heldM]; split <;> omega
theorem setC_wf {st : St} (h : st.wf) (i : Nat) (x : Int) : (st.setC i x).wf := ⟨by simp [St.setC, h.count], h.done⟩
theorem setD_wf {st : St} (h : st.wf) (i : Nat) (x : Int) : (st.setD i x).wf := ⟨h.count, by simp [St.setD, h.done]⟩
theorem addP_keep (f : Nat) : ∀ (st : St) (i : Nat) (now : Int) (ops : List ROp), (addP f st i now ops).1.rails = st.rails ∧ (addP f st i now ops).1.clock = st.clock ∧ (addP f st i now ops).1.count.length = st.count.length ∧ (addP f st i now ops).1.done.length = st.done.length ∧ (addP f st i now ops).2.length ≤ ops.length + f := by
  induction f with
  | zero => intros; simp [addP]
  | succ f ih =>
    intro st i now ops
    simp only [addP]
    obtain ⟨h1, h2, h3, h4, h5⟩ := ih st (st.r i).supply.toNat now ops
    split
    · split
      · exact ⟨h1, h2, by simp [St.setC, St.setD, h3], by simp [St.setC, St.setD, h4], by simp; omega⟩
      · exact ⟨rfl, rfl, by simp [St.setC, St.setD], by simp [St.setC, St.setD], by simp⟩
    · exact ⟨rfl, rfl, by simp [St.setC], rfl, by show ops.length ≤ _; omega⟩
theorem remP_keep (f : Nat) : ∀ (st : St) (i : Nat) (now : Int) (ops : List ROp), (remP f st i now ops).1.rails = st.rails ∧ (remP f st i now ops).1.clock = st.clock ∧ (remP f st i now ops).1.count.length = st.count.length ∧ (remP f st i now ops).1.done.length = st.done.length ∧ (remP f st i now ops).2.length ≤ ops.length + f := by
  induction f with
  | zero => intros; simp [remP]
  | succ f ih =>
    intro st i now ops
    simp only [remP]
    split
    · exact ⟨rfl, rfl, by simp [St.setC], rfl, by show ops.length ≤ _; omega⟩
    · split
      · refine ⟨(ih _ _ _ _).1, (ih _ _ _ _).2.1, (ih _ _ _ _).2.2.1.trans (by simp [St.setC, St.setD]), (ih _ _ _ _).2.2.2.1.trans (by simp [St.setC, St.setD]), Nat.le_trans (ih _ _ _ _).2.2.2.2 (by simp; omega)⟩
      · exact ⟨rfl, rfl, by simp [St.setC, St.setD], by simp [St.setC, St.setD], by simp⟩
theorem addP_pos {f : Nat} {st : St} {i : Nat} {now : Int} {ops : List ROp} (h : ¬ st.c i = 0) : addP (f + 1) st i now ops = (st.setC i (IntKind.i64.wrap (st.c i + 1)), ops) := by rw [addP, if_neg h]
theorem addP_sup {f : Nat} {st p1 : St} {i s : Nat} {now : Int} {ops p2 : List ROp} (h : st.c i = 0) (hs : (st.r i).supply = (s : Int)) (hp : addP f st s now ops = (p1, p2)) :
    addP (f + 1) st i now ops = ((p1.setD i (IntKind.u64.wrap (max (max now (st.t i)) (p1.t s) + (p1.r i).up))).setC i (IntKind.i64.wrap ((p1.setD i (IntKind.u64.wrap (max (max now (st.t i)) (p1.t s) + (p1.r i).up))).c i + 1)),
      p2 ++ [⟨i, true, max (max now (st.t i)) (p1.t s), IntKind.u64.wrap (max (max now (st.t i)) (p1.t s) + (p1.r i).up)⟩]) := by
  have hk := (addP_keep f st s now ops).1
  rw [hp] at hk
  have hr : p1.r i = st.r i := by unfold St.r; rw [hk]
  rw [addP, if_pos h]
  simp only [hs, Int.toNat_natCast, hp, hr, Int.natCast_nonneg, if_true]
theorem addP_neg {f : Nat} {st : St} {i : Nat} {now : Int} {ops : List ROp} (h : st.c i = 0) (hs : ¬ 0 ≤ (st.r i).supply) :
    addP (f + 1) st i now ops = ((st.setD i (IntKind.u64.wrap (max now (st.t i) + (st.r i).up))).setC i (IntKind.i64.wrap ((st.setD i (IntKind.u64.wrap (max now (st.t i) + (st.r i).up))).c i + 1)),
      ops ++ [⟨i, true, max now (st.t i), IntKind.u64.wrap (max now (st.t i) + (st.r i).up)⟩]) := by
  rw [addP, if_pos h]
  simp only [hs, if_false]
theorem remP_pos {f : Nat} {st : St} {i : Nat} {now : Int} {ops : List ROp} (h : 0 < (st.setC i (IntKind.i64.wrap (st.c i - 1))).c i) : remP (f + 1) st i now ops = (st.setC i (IntKind.i64.wrap (st.c i - 1)), ops) := by
  rw [remP]; simp only [h, if_true]
theorem remP_sup {f : Nat} {st0 st : St} {i s : Nat} {now m : Int} {ops : List ROp} (hst : st0.setC i (IntKind.i64.wrap (st0.c i - 1)) = st) (h : ¬ 0 < st.c i) (hs : (st.r i).supply = (s : Int)) (hm : feedM st i st.rails.length (max now (st.t i)) = m) :
    remP (f + 1) st0 i now ops = remP f (st.setD i (IntKind.u64.wrap (m + (st.r i).down))) s now (ops ++ [⟨i, false, m, IntKind.u64.wrap (m + (st.r i).down)⟩]) := by
  rw [remP]; simp only [hst, h, if_false, hs, Int.natCast_nonneg, if_true, hm, Int.toNat_natCast]
theorem remP_neg {f : Nat} {st0 st : St} {i : Nat} {now m : Int} {ops : List ROp} (hst : st0.setC i (IntKind.i64.wrap (st0.c i - 1)) = st) (h : ¬ 0 < st.c i) (hs : ¬ 0 ≤ (st.r i).supply) (hm : feedM st i st.rails.length (max now (st.t i)) = m) :
    remP (f + 1) st0 i now ops = (st.setD i (IntKind.u64.wrap (m + (st.r i).down)), ops ++ [⟨i, false, m, IntKind.u64.wrap (m + (st.r i).down)⟩]) := by
  rw [remP]; simp only [hst, h, if_false, hs, hm]
def St.tick (st : St) (now : Int) : St := { st with clock := now }
def St.ok (st : St) (x now : Int) : Prop := (0 ≤ x ∧ x < st.rails.length) ∧ st.clock ≤ now ∧ now ≤ 1152921504606846976
instance (st : St) (x now : Int) : Decidable (st.ok x now) := inferInstanceAs (Decidable (_ ∧ _))
structure Res where
  st : St
  ops : List ROp
  err : Int
def acqM (f : Nat) (st : St) (x now : Int) : Res :=
  if st.ok x now then ⟨(addP f (st.tick now) x.toNat now []).1, (addP f (st.tick now) x.toNat now []).2, 0⟩ else ⟨st, [], 1⟩
def relM (f : Nat) (st : St) (x now : Int) : Res :=
  if st.ok x now then
    if st.c x.toNat ≤ heldM st x st.rails.length then ⟨st, [], 9⟩
    else ⟨(remP f (st.tick now) x.toNat now []).1, (remP f (st.tick now) x.toNat now []).2, 0⟩
  else ⟨st, [], 1⟩
theorem feedM_pos {st : St} {i : Int} {k : Nat} {s0 : Int} (h : (st.r k).supply = i) : feedM st i (k + 1) s0 = max (feedM st i k s0) (st.t k) := by rw [feedM, if_pos h]
theorem feedM_neg {st : St} {i : Int} {k : Nat} {s0 : Int} (h : ¬ (st.r k).supply = i) : feedM st i (k + 1) s0 = feedM st i k s0 := by rw [feedM, if_neg h]
theorem heldM_pos {st : St} {i : Int} {k : Nat} (h : (st.r k).supply = i) (h2 : 0 < st.c k) : heldM st i (k + 1) = heldM st i k + 1 := by rw [heldM, if_pos ⟨h, h2⟩]
theorem heldM_neg {st : St} {i : Int} {k : Nat} (h : ¬ (st.r k).supply = i) : heldM st i (k + 1) = heldM st i k := by rw [heldM, if_neg (fun x => h x.1)]
theorem heldM_neg2 {st : St} {i : Int} {k : Nat} (h : ¬ 0 < st.c k) : heldM st i (k + 1) = heldM st i k := by rw [heldM, if_neg (fun x => h x.2)]
theorem acqM_yes {f : Nat} {st : St} {x now : Int} (h : st.ok x now) : acqM f st x now = ⟨(addP f (st.tick now) x.toNat now []).1, (addP f (st.tick now) x.toNat now []).2, 0⟩ := if_pos h
theorem acqM_no {f : Nat} {st : St} {x now : Int} (h : ¬ st.ok x now) : acqM f st x now = ⟨st, [], 1⟩ := if_neg h
theorem relM_yes {f : Nat} {st : St} {x now : Int} (h : st.ok x now) (h2 : ¬ st.c x.toNat ≤ heldM st x st.rails.length) : relM f st x now = ⟨(remP f (st.tick now) x.toNat now []).1, (remP f (st.tick now) x.toNat now []).2, 0⟩ := by rw [relM, if_pos h, if_neg h2]
theorem relM_held {f : Nat} {st : St} {x now : Int} (h : st.ok x now) (h2 : st.c x.toNat ≤ heldM st x st.rails.length) : relM f st x now = ⟨st, [], 9⟩ := by rw [relM, if_pos h, if_pos h2]
theorem relM_no {f : Nat} {st : St} {x now : Int} (h : ¬ st.ok x now) : relM f st x now = ⟨st, [], 1⟩ := if_neg h
/-! ### The reference -/
def addR : Nat → St → Nat → Int → List ROp → St × List ROp
  | 0, st, _, _, ops => (st, ops)
  | f + 1, st0, i, now, ops =>
    let st := st0.setC i (IntKind.i64.wrap (st0.c i + 1))
    if 1 < st.c i then (st, ops)
    else
      let q := if 0 ≤ (st.r i).supply then
          let p := addR f st (st.r i).supply.toNat now ops
          (p.1, p.2, max (max now (st.t i)) (p.1.t (st.r i).supply.toNat))
        else (st, ops, max now (st.t i))
      let dn := IntKind.u64.wrap (q.2.2 + (st.r i).up)
      (q.1.setD i dn, q.2.1 ++ [⟨i, true, q.2.2, dn⟩])
theorem addR_keep (f : Nat) : ∀ (st : St) (i : Nat) (now : Int) (ops : List ROp), (addR f st i now ops).1.rails = st.rails ∧ (addR f st i now ops).1.clock = st.clock ∧ (addR f st i now ops).1.count.length = st.count.length ∧ (addR f st i now ops).1.done.length = st.done.length ∧ (addR f st i now ops).2.length ≤ ops.length + f := by
  induction f with
  | zero => intros; simp [addR]
  | succ f ih =>
    intro st0 i now ops
    simp only [addR]
    generalize hst : st0.setC i (IntKind.i64.wrap (st0.c i + 1)) = st
    have e1 : st.rails = st0.rails := by rw [← hst]; rfl
    have e2 : st.clock = st0.clock := by rw [← hst]; rfl
    have e3 : st.count.length = st0.count.length := by rw [← hst]; simp [St.setC]
    have e4 : st.done.length = st0.done.length := by rw [← hst]; rfl
    obtain ⟨h1, h2, h3, h4, h5⟩ := ih st (st.r i).supply.toNat now ops
    split
    · exact ⟨e1, e2, e3, e4, by show ops.length ≤ _; omega⟩
    · split
      · exact ⟨h1.trans e1, h2.trans e2, h3.trans e3, by simp [St.setD, h4, e4], by simp; omega⟩
      · exact ⟨e1, e2, e3, by simp [St.setD, e4], by simp⟩
theorem addR_pos {f : Nat} {st0 st : St} {i : Nat} {now : Int} {ops : List ROp} (hst : st0.setC i (IntKind.i64.wrap (st0.c i + 1)) = st) (h : 1 < st.c i) : addR (f + 1) st0 i now ops = (st, ops) := by
  rw [addR]; simp only [hst, h, if_true]
theorem addR_sup {f : Nat} {st0 st p1 : St} {i s : Nat} {now : Int} {ops p2 : List ROp} (hst : st0.setC i (IntKind.i64.wrap (st0.c i + 1)) = st) (h : ¬ 1 < st.c i) (hs : (st.r i).supply = (s : Int)) (hp : addR f st s now ops = (p1, p2)) :
    addR (f + 1) st0 i now ops = (p1.setD i (IntKind.u64.wrap (max (max now (st.t i)) (p1.t s) + (p1.r i).up)), p2 ++ [⟨i, true, max (max now (st.t i)) (p1.t s), IntKind.u64.wrap (max (max now (st.t i)) (p1.t s) + (p1.r i).up)⟩]) := by
  have hk := (addR_keep f st s now ops).1
  rw [hp] at hk
  have hr : p1.r i = st.r i := by unfold St.r; rw [hk]
  rw [addR]
  simp only [hst, h, if_false, hs, Int.toNat_natCast, hp, hr, Int.natCast_nonneg, if_true]
theorem addR_neg {f : Nat} {st0 st : St} {i : Nat} {now : Int} {ops : List ROp} (hst : st0.setC i (IntKind.i64.wrap (st0.c i + 1)) = st) (h : ¬ 1 < st.c i) (hs : ¬ 0 ≤ (st.r i).supply) :
    addR (f + 1) st0 i now ops = (st.setD i (IntKind.u64.wrap (max now (st.t i) + (st.r i).up)), ops ++ [⟨i, true, max now (st.t i), IntKind.u64.wrap (max now (st.t i) + (st.r i).up)⟩]) := by
  rw [addR]
  simp only [hst, h, if_false, hs]
def ownM (st : St) (i : Int) (n0 : Int) : Nat → Int
  | 0 => n0
  | k + 1 => if (st.r k).supply = i ∧ 0 < st.c k then IntKind.i64.wrap (ownM st i n0 k - 1) else ownM st i n0 k
theorem ownM_pos {st : St} {i n0 : Int} {k : Nat} (h : (st.r k).supply = i) (h2 : 0 < st.c k) : ownM st i n0 (k + 1) = IntKind.i64.wrap (ownM st i n0 k - 1) := by rw [ownM, if_pos ⟨h, h2⟩]
theorem ownM_neg {st : St} {i n0 : Int} {k : Nat} (h : ¬ (st.r k).supply = i) : ownM st i n0 (k + 1) = ownM st i n0 k := by rw [ownM, if_neg (fun x => h x.1)]
theorem ownM_neg2 {st : St} {i n0 : Int} {k : Nat} (h : ¬ 0 < st.c k) : ownM st i n0 (k + 1) = ownM st i n0 k := by rw [ownM, if_neg (fun x => h x.2)]
def acqR (f : Nat) (st : St) (x now : Int) : Res :=
  if st.ok x now then ⟨(addR f (st.tick now) x.toNat now []).1, (addR f (st.tick now) x.toNat now []).2, 0⟩ else ⟨st, [], 1⟩
def relR (f : Nat) (st : St) (x now : Int) : Res :=
  if st.ok x now then
    if ownM st x (st.c x.toNat) st.rails.length = 0 then ⟨st, [], 9⟩
    else ⟨(remP f (st.tick now) x.toNat now []).1, (remP f (st.tick now) x.toNat now []).2, 0⟩
  else ⟨st, [], 1⟩
theorem acqR_yes {f : Nat} {st : St} {x now : Int} (h : st.ok x now) : acqR f st x now = ⟨(addR f (st.tick now) x.toNat now []).1, (addR f (st.tick now) x.toNat now []).2, 0⟩ := if_pos h
theorem acqR_no {f : Nat} {st : St} {x now : Int} (h : ¬ st.ok x now) : acqR f st x now = ⟨st, [], 1⟩ := if_neg h
theorem relR_yes {f : Nat} {st : St} {x now : Int} (h : st.ok x now) (h2 : ¬ ownM st x (st.c x.toNat) st.rails.length = 0) : relR f st x now = ⟨(remP f (st.tick now) x.toNat now []).1, (remP f (st.tick now) x.toNat now []).2, 0⟩ := by rw [relR, if_pos h, if_neg h2]
theorem relR_own {f : Nat} {st : St} {x now : Int} (h : st.ok x now) (h2 : ownM st x (st.c x.toNat) st.rails.length = 0) : relR f st x now = ⟨st, [], 9⟩ := by rw [relR, if_pos h, if_pos h2]
theorem relR_no {f : Nat} {st : St} {x now : Int} (h : ¬ st.ok x now) : relR f st x now = ⟨st, [], 1⟩ := if_neg h
end Go.Rails
