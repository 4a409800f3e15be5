/-
  What an access does.
-/
import Derived.Test.YthdpojggdodpfaaMdl5
set_option linter.unusedSimpArgs false
set_option linter.unusedVariables false
namespace Go.Ios
open Go.Sv
def lvM (s : BS) (a : Acs) : Bool := match fnd s a.space a.addr with
  | some i => s.en.getD (mh (s.sp a.space.toNat).hs i).own.toNat false && decide (a.addr + a.width - 1 ≤ (mh (s.sp a.space.toNat).hs i).lst)
  | none => false
def flM (s : BS) (a : Acs) : Bool := lvM s a && decide (hitN s.fl a < s.fl.length)
def stF (s : BS) (a : Acs) : BS := if lvM s a = true then { s with fl := useL s.fl a } else s
/-- The state with mapping i of space m replaced. -/
def setM (s : BS) (m i : Nat) (h : MH) : BS := { s with sps := s.sps.set m { s.sp m with hs := (s.sp m).hs.set i h } }
def fi (s : BS) (a : Acs) : Nat := (fnd s a.space a.addr).getD 0
def fh (s : BS) (a : Acs) : MH := mh (s.sp a.space.toNat).hs (fi s a)
def wrH (h : MH) (a : Acs) (A : Option Addr) (c : Nat) : MH := { h with A := A, c := c, bs := wrK (raw0 h) (a.addr - h.base).toNat a.val a.width.toNat }
def wrs (s : BS) (a : Acs) : Prop := a.wr = true ∧ lvM s a = true ∧ flM s a = false
instance (s : BS) (a : Acs) : Decidable (wrs s a) := inferInstanceAs (Decidable (_ ∧ _ ∧ _))
def stW (s : BS) (a : Acs) (A : Option Addr) (c : Nat) : BS := if wrs s a then setM (stF s a) a.space.toNat (fi s a) (wrH (fh s a) a A c) else stF s a
def vlM (s : BS) (a : Acs) : Int := if a.wr = true then ((a.val.toNat &&& (onesM a.width).toNat : Nat) : Int) else if lvM s a = true then (if flM s a = true then 0 else rdL (fh s a).bs (a.addr - (fh s a).base).toNat a.width.toNat) else onesM a.width
def rec (s : BS) (a : Acs) : Trc := ⟨{ a with val := vlM s a }, ownM s a.space a.addr, lvM s a, flM s a⟩
def accS (s : BS) (a : Acs) (A : Option Addr) (c : Nat) (tA : Option Addr) (tc : Nat) : BS := { stW s a A c with tA := tA, tc := tc, tr := s.tr ++ [rec s a] }
def accV (s : BS) (a : Acs) : Int := if flM s a = true then 0 else if a.wr = true then 0 else vlM s a
def accE (s : BS) (a : Acs) : Int := if flM s a = true then 15 else 0
theorem lv_none {s : BS} {a : Acs} (h : fnd s a.space a.addr = none) : lvM s a = false := by rw [lvM, h]
theorem fi_some {s : BS} {a : Acs} {i : Nat} (h : fnd s a.space a.addr = some i) : fi s a = i := by rw [fi, h]; rfl
theorem lv_some {s : BS} {a : Acs} {m i : Nat} (hm : a.space = m) (h : fnd s m a.addr = some i) : lvM s a = (s.en.getD (mh (s.sp m).hs i).own.toNat false && decide (a.addr + a.width - 1 ≤ (mh (s.sp m).hs i).lst)) := by
  rw [lvM, hm, h]; rfl
theorem lv_fnd {s : BS} {a : Acs} (hk : s.ok) (h : lvM s a = true) : ∃ (m i : Nat), a.space = (m : Int) ∧ m < 3 ∧ fnd s m a.addr = some i ∧ i < (s.sp m).hs.length ∧ (mh (s.sp m).hs i).base ≤ a.addr ∧ a.addr + a.width - 1 ≤ (mh (s.sp m).hs i).lst ∧ s.en.getD (mh (s.sp m).hs i).own.toNat false = true ∧ fh s a = mh (s.sp m).hs i ∧ fi s a = i := by
  by_cases hn : fptr s a.space a.addr = none
  · rw [lv_none (fptr_no hn)] at h; cases h
  · obtain ⟨m, i, e, hm, hf, hi, hb, hl⟩ := fptr_cases hk hn
    rw [lv_some e hf, Bool.and_eq_true, decide_eq_true_eq] at h
    have e2 : fi s a = i := fi_some (by rw [e]; exact hf)
    exact ⟨m, i, e, hm, hf, hi, hb, h.2, h.1, by rw [fh, e2, e]; rfl, e2⟩
theorem stF_t {s : BS} {a : Acs} (h : lvM s a = true) : stF s a = { s with fl := useL s.fl a } := if_pos h
theorem stF_f {s : BS} {a : Acs} (h : lvM s a = false) : stF s a = s := if_neg (by rw [h]; decide)
theorem stF_sps (s : BS) (a : Acs) : (stF s a).sps = s.sps := by unfold stF; split <;> rfl
theorem stF_en (s : BS) (a : Acs) : (stF s a).en = s.en := by unfold stF; split <;> rfl
theorem stF_tot (s : BS) (a : Acs) : (stF s a).total = s.total := by unfold stF; split <;> rfl
theorem stF_tr (s : BS) (a : Acs) : (stF s a).tr = s.tr ∧ (stF s a).tA = s.tA ∧ (stF s a).tc = s.tc := by unfold stF; split <;> exact ⟨rfl, rfl, rfl⟩
theorem stF_wf {s : BS} {a : Acs} (h : s.wf) : (stF s a).wf := ⟨by rw [stF_sps]; exact h.sp, by rw [stF_en]; exact h.en⟩
theorem stW_wf {s : BS} {a : Acs} {A : Option Addr} {c : Nat} (h : s.wf) : (stW s a A c).wf := by
  unfold stW
  split
  · exact ⟨by show ((stF s a).sps.set _ _).length = 3; rw [List.length_set]; exact (stF_wf h).sp, (stF_wf h).en⟩
  · exact stF_wf h
theorem stW_tr (s : BS) (a : Acs) (A : Option Addr) (c : Nat) : (stW s a A c).tr = s.tr ∧ (stW s a A c).tA = s.tA ∧ (stW s a A c).tc = s.tc := by
  unfold stW
  split
  · exact stF_tr s a
  · exact stF_tr s a
theorem andOnes {v w : Int} (h0 : isU v) (hw : isW w) : IntKind.u64.wrap ((BitVec.ofInt IntKind.u64.bits v &&& BitVec.ofInt IntKind.u64.bits (onesM w)).toNat) = ((v.toNat &&& (onesM w).toNat : Nat) : Int) := by
  have := ones_bd hw
  exact and_u64 h0.1 h0.2 this.1 this.2
/-! ### Opening a mapping -/
section
variable {I0 : Ids} {w0 w : World} {B0 : Assn} {R : List Assn} {sps : List Sp} {m i : Nat}
theorem openM {q : Sp} {h0 : MH} (h : Hp I0 w0 (B0 :: Big spA sps :: R) w) (hm : m < sps.length) (hq : sps.getD m spD = q) (hi : i < q.hs.length) (hh : q.hs.getD i mhD = h0) :
    Hp I0 w0 (mhL h0 ++ (B0 :: OS 78 ptrK q.A q.c (q.hs.map fun h => some h.p) :: Big mhA (q.hs.eraseIdx i) :: Big spA (sps.eraseIdx m) :: R)) w := by
  subst hq; subst hh
  have h1 := openSp h hm
  have h2 := h1.focus mhD (k := 2) rfl hi
  have h3 := h2.splice (k := 2) (A := mhA ((sps.getD m spD).hs.getD i mhD)) (M := mhL ((sps.getD m spD).hs.getD i mhD)) rfl fun i hi => hi
  refine h3.perm (List.Perm.append_left _ ?_)
  show (B0 :: OS 78 ptrK _ _ _ :: Big spA (sps.eraseIdx m) :: (R ++ [Big mhA _])).Perm _
  refine List.Perm.cons _ (List.Perm.cons _ ?_)
  exact ((List.perm_append_singleton (Big mhA ((sps.getD m spD).hs.eraseIdx i)) R).cons _).trans (List.Perm.swap _ _ _)
theorem closeM {q : Sp} {h0 h' : MH} (h : Hp I0 w0 (mhL h' ++ (B0 :: OS 78 ptrK q.A q.c (q.hs.map fun h => some h.p) :: Big mhA (q.hs.eraseIdx i) :: Big spA (sps.eraseIdx m) :: R)) w) (hm : m < sps.length) (hi : i < q.hs.length) (hp : h'.p = (q.hs.getD i mhD).p) :
    Hp I0 w0 (B0 :: Big spA (sps.set m { q with hs := q.hs.set i h' }) :: R) w := by
  have h1 : Hp I0 w0 (mhA h' :: (B0 :: OS 78 ptrK q.A q.c (q.hs.map fun h => some h.p) :: Big mhA (q.hs.eraseIdx i) :: Big spA (sps.eraseIdx m) :: R)) w := Hp.bundle (M := mhL h') h fun i hi => hi
  have p1 : (mhA h' :: (B0 :: OS 78 ptrK q.A q.c (q.hs.map fun h => some h.p) :: Big mhA (q.hs.eraseIdx i) :: Big spA (sps.eraseIdx m) :: R)).Perm
      ((B0 :: OS 78 ptrK q.A q.c (q.hs.map fun h => some h.p) :: mhA h' :: Big spA (sps.eraseIdx m) :: R) ++ [Big mhA (q.hs.eraseIdx i)]) := by
    refine (List.Perm.swap _ _ _).trans (List.Perm.cons _ ((List.Perm.swap _ _ _).trans (List.Perm.cons _ (List.Perm.cons _ ?_))))
    exact (List.Perm.swap _ _ _).trans (List.Perm.cons _ (List.perm_append_singleton _ _).symm)
  have h2 := (h1.perm p1).unfocus (k := 2) rfl hi
  have e : (q.hs.set i h').map (fun h => some h.p) = q.hs.map fun h => some h.p := by
    rw [List.map_set, hp]
    refine set_self ?_
    simp [List.getD, hi]
  refine closeSp (q := { q with hs := q.hs.set i h' }) ?_ hm
  show Hp I0 w0 (B0 :: OS 78 ptrK q.A q.c ((q.hs.set i h').map fun h => some h.p) :: Big mhA (q.hs.set i h') :: Big spA (sps.eraseIdx m) :: R) w
  rw [e]; exact h2
end
end Go.Ios
namespace Go.Ios
open Go.Sv
theorem busC_setM (s : BS) {m : Nat} (i : Nat) (h : MH) (hm : m < s.sps.length) : busC (setM s m i h) = busC s := by
  have e : (s.sps.set m { s.sp m with hs := (s.sp m).hs.set i h }).map (fun p => Value.slice p.A p.hs.length p.c) = s.sps.map fun p => Value.slice p.A p.hs.length p.c := by
    rw [List.map_set]
    refine set_self ?_
    simp [List.getD, hm]
  simp only [busC, setM, e]
theorem busL_setM (b : Nat) (s : BS) {m : Nat} (i : Nat) (h : MH) (hm : m < s.sps.length) : busL b (setM s m i h) = [Blk b (.cells (busC s).toArray 71 (0, 0)), Big spA (s.sps.set m { s.sp m with hs := (s.sp m).hs.set i h }), OS 86 fltK s.fA s.fc s.fl, OS 63 trcK s.tA s.tc s.tr] := by
  rw [busL, busC_setM s i h hm]; rfl
theorem stW_no {s : BS} {a : Acs} (h : ¬ wrs s a) : stW s a none 0 = stF s a := if_neg h
theorem stW_yes {s : BS} {a : Acs} {m i : Nat} (h : wrs s a) (hsm : a.space = m) (hfi : fi s a = i) (hfh : fh s a = mh (s.sp m).hs i) (A : Option Addr) (c : Nat) : stW s a A c = setM { s with fl := useL s.fl a } m i (wrH (mh (s.sp m).hs i) a A c) := by
  rw [stW, if_pos h, stF_t h.2.1, hsm, hfi, hfh, Int.toNat_natCast]
theorem vl_w {s : BS} {a : Acs} (h : a.wr = true) : vlM s a = ((a.val.toNat &&& (onesM a.width).toNat : Nat) : Int) := if_pos h
theorem vl_dead {s : BS} {a : Acs} (h : a.wr = false) (hl : lvM s a = false) : vlM s a = onesM a.width := by rw [vlM, if_neg (by rw [h]; decide), if_neg (by rw [hl]; decide)]
theorem vl_fail {s : BS} {a : Acs} (h : a.wr = false) (hl : lvM s a = true) (hf : flM s a = true) : vlM s a = 0 := by rw [vlM, if_neg (by rw [h]; decide), if_pos hl, if_pos hf]
theorem vl_read {s : BS} {a : Acs} {m i : Nat} (h : a.wr = false) (hl : lvM s a = true) (hf : flM s a = false) (hfh : fh s a = mh (s.sp m).hs i) : vlM s a = rdL (mh (s.sp m).hs i).bs (a.addr - (mh (s.sp m).hs i).base).toNat a.width.toNat := by
  rw [vlM, if_neg (by rw [h]; decide), if_pos hl, if_neg (by rw [hf]; decide), hfh]
end Go.Ios
namespace Go.Ios
theorem not_tru {b : Bool} (h : (!b) = true) : b = false := by cases b <;> simp_all
theorem not_fls {b : Bool} (h : (!b) = false) : b = true := by cases b <;> simp_all
end Go.Ios
