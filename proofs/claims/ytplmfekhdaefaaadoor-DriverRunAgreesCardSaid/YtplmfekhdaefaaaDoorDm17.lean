/-
  The reference's instances.
-/
import Derived.Test.YtplmfekhdaefaaaDoorDmB
set_option linter.unusedSimpArgs false
set_option linter.unusedVariables false
namespace Go.Drv
open Go.Sv
def wtI (s : IS) : Int := if s.wt = true then (s.cd : Int) else -1
theorem wtI_t {s : IS} (h : 0 ≤ wtI s) : s.wt = true := by
  cases hw : s.wt with
  | true => rfl
  | false => unfold wtI at h; rw [if_neg (by rw [hw]; decide)] at h; omega
theorem wtI_f {s : IS} (h : ¬ 0 ≤ wtI s) : s.wt = false := by
  cases hw : s.wt with
  | false => rfl
  | true => unfold wtI at h; rw [if_pos hw] at h; omega
theorem wtI_d (s : IS) : decide (0 ≤ wtI s) = s.wt := by
  cases hw : s.wt with
  | true => unfold wtI; rw [if_pos hw]; exact decide_eq_true (by omega)
  | false => unfold wtI; rw [if_neg (by rw [hw]; decide)]; rfl
def rinC (q : Nat) (d : DH) (st wi : Int) (ev : Bs) : List Assn := [Blk q (.cells #[.string (bs d.name), .slice d.sA d.ss.length d.sc, .slice d.tA d.hs.length d.tc, .int .i64 st, .int .i64 wi, .string (bs ev)] 50 (0, 0)), OS 9 strK d.sA d.sc d.ss, OS 61 thK d.tA d.tc d.hs, Big opA d.hs]
/-- The event that the reference keeps is the candidate's. -/
def EvI (T : List Tr) (s : IS) (ev : Bs) : Prop := s.wt = true → s.cd < T.length ∧ (trA T s.cd).ev = ev
theorem EvI.ok {T : List Tr} {s : IS} {ev : Bs} (h : EvI T s ev) : ISok T s := fun hw => (h hw).1
theorem evi_con {T : List Tr} {s : IS} (h : s.wt = false) (ev : Bs) (k : Nat) : EvI T (conM T s ev k).1 ev := by
  intro hw
  unfold conM at hw ⊢
  cases hf : fndM T s.st ev k with
  | none => rw [hf] at hw; simp only [] at hw; rw [h] at hw; cases hw
  | some i =>
    rw [hf] at hw
    simp only [] at hw ⊢
    split
    · rename_i hu; rw [if_pos hu] at hw; simp only [] at hw; rw [h] at hw; cases hw
    · have := fnd_lt hf
      exact ⟨this.2.1, (mtch_iff.1 this.2.2).2⟩
theorem evi_hdl {T : List Tr} {s : IS} {e0 : Bs} (h : EvI T s e0) (ev : Bs) : EvI T (hdlM T s ev).1.1 (if s.wt = true then e0 else ev) := by
  unfold hdlM
  cases hw : s.wt with
  | true => rw [if_pos rfl, if_pos rfl]; exact h
  | false => rw [if_neg (by decide), if_neg (by decide)]; exact evi_con hw ev 0
theorem evi_rpl {T : List Tr} {s : IS} {e0 : Bs} (h : EvI T s e0) (v : Int) : EvI T (rplM T s v).1.1 e0 := by
  unfold rplM
  cases hw : s.wt with
  | false => rw [if_pos rfl]; exact h
  | true =>
    rw [if_neg (by decide)]
    split
    · intro hw; cases hw
    · rw [(h hw).2]; exact evi_con rfl e0 _
end Go.Drv
