/-
  Reachable: its steps.
-/
import Derived.Test.YtplmfekhdaefaaaGreatDoorDmB
set_option linter.unusedSimpArgs false
set_option linter.unusedVariables false
namespace Go.Drv
open Go.Sv
def rndT (hs : List TH) (r : List Bool) (i : Nat) : List Bool := rndR ((hs.map (·.t)).take i) r
theorem rndT_len (hs : List TH) (r : List Bool) (i : Nat) : (rndT hs r i).length = r.length := rndR_len _ _
theorem rndT_all (hs : List TH) (r : List Bool) : rndT hs r hs.length = rndR (hs.map (·.t)) r := by
  unfold rndT
  rw [List.take_of_length_le (by rw [List.length_map]; exact Nat.le_refl _)]
theorem rndT_s {hs : List TH} {r : List Bool} {i : Nat} (hi : i < hs.length) : rndT hs r (i + 1) = stR (rndT hs r i) (hs.getD i thK.d).t := by
  unfold rndT rndR
  rw [take_snoc tr0 (by simpa using hi), List.foldl_append, show (hs.map (·.t)).getD i tr0 = (hs.getD i thK.d).t from trA_th hs i]; rfl
theorem rndT_set {hs : List TH} {r : List Bool} {i : Nat} (hi : i < hs.length) (hf : (rndT hs r i).getD (hs.getD i thK.d).t.frm.toNat boolK.d = true) : rndT hs r (i + 1) = (rndT hs r i).set (hs.getD i thK.d).t.to.toNat true := by
  rw [rndT_s hi]; exact if_pos hf
theorem rndT_f {hs : List TH} {r : List Bool} {i : Nat} (hi : i < hs.length) (hf : (rndT hs r i).getD (hs.getD i thK.d).t.frm.toNat boolK.d = false) : rndT hs r (i + 1) = rndT hs r i := by
  rw [rndT_s hi]; exact if_neg (by rw [show (rndT hs r i).getD (hs.getD i thK.d).t.frm.toNat false = false from hf]; decide)
theorem set_same {r : List Bool} {i : Nat} (h : r.getD i false = true) : r.set i true = r := by
  apply List.ext_getElem?
  intro k
  rw [List.getElem?_set]
  split
  · rename_i e; subst e
    split
    · rename_i hl
      simp [List.getD, List.getElem?_eq_getElem hl] at h
      rw [List.getElem?_eq_getElem hl, h]
    · rename_i hl; rw [List.getElem?_eq_none (by omega)]
  · rfl
theorem rndT_tt {hs : List TH} {r : List Bool} {i : Nat} (hi : i < hs.length) (hf : (rndT hs r i).getD (hs.getD i thK.d).t.frm.toNat boolK.d = true) (ht : (rndT hs r i).getD (hs.getD i thK.d).t.to.toNat boolK.d = true) : rndT hs r (i + 1) = rndT hs r i := by
  rw [rndT_set hi hf]; exact set_same ht
theorem rndT_cnt {hs : List TH} {r : List Bool} {i : Nat} (hi : i < hs.length) (hf : (rndT hs r i).getD (hs.getD i thK.d).t.frm.toNat boolK.d = true) (ht : (rndT hs r i).getD (hs.getD i thK.d).t.to.toNat boolK.d = false) (hl : (hs.getD i thK.d).t.to.toNat < (rndT hs r i).length) :
    cntR r < cntR (rndT hs r (i + 1)) := by
  have h0 : cntR r ≤ cntR (rndT hs r i) := by
    rcases fold_cnt ((hs.map (·.t)).take i) r with h | h
    · exact Nat.le_of_eq (by unfold rndT; rw [h])
    · exact Nat.le_of_lt h
  rw [rndT_set hi hf]
  rcases set_cnt (rndT hs r i) (hs.getD i thK.d).t.to.toNat with h | h
  · exfalso
    have h2 : ((rndT hs r i).set (hs.getD i thK.d).t.to.toNat true).getD (hs.getD i thK.d).t.to.toNat false = true := getD_set_self _ _ _ _ hl
    rw [h] at h2
    rw [show (rndT hs r i).getD (hs.getD i thK.d).t.to.toNat false = false from ht] at h2; cases h2
  · omega
theorem chk_rng {d : DH} (h : chkM d.d = 0) {i : Nat} (hi : i < d.hs.length) : (0 ≤ (d.hs.getD i thK.d).t.frm ∧ (d.hs.getD i thK.d).t.frm < d.ss.length) ∧ (0 ≤ (d.hs.getD i thK.d).t.to ∧ (d.hs.getD i thK.d).t.to < d.ss.length) := by
  have h1 := (okT_iff _ _).1 (chk_t h (i := i) (by show i < (d.hs.map (·.t)).length; rw [List.length_map]; exact hi))
  have e : trA d.d.ts i = (d.hs.getD i thK.d).t := trA_th d.hs i
  rw [e] at h1
  exact ⟨h1.1, h1.2.1⟩
def bN (b : Bool) : Nat := if b = true then 1 else 0
theorem rch_inv {hs : List TH} {r : List Bool} {k : Nat} {b : Bool} (h : b = false → rndT hs (itR (hs.map (·.t)) r k) hs.length = itR (hs.map (·.t)) r k) (hb : b = false) :
    rndR (hs.map (·.t)) (itR (hs.map (·.t)) r (k + 1)) = itR (hs.map (·.t)) r (k + 1) := by
  have h1 := h hb
  rw [rndT_all] at h1
  show rndR _ (rndR _ _) = rndR _ _
  rw [h1, h1]
theorem rch_lt {hs : List TH} {r : List Bool} {k n : Nat} {b c : Bool} (hb : b = true) (h : (c = false → rndT hs (itR (hs.map (·.t)) r k) hs.length = itR (hs.map (·.t)) r k) ∧ (c = true → cntR (itR (hs.map (·.t)) r k) < cntR (rndT hs (itR (hs.map (·.t)) r k) hs.length))) (hl : (itR (hs.map (·.t)) r (k + 1)).length = n) :
    n - cntR (itR (hs.map (·.t)) r (k + 1)) + bN c < n - cntR (itR (hs.map (·.t)) r k) + bN b := by
  have h0 := cnt_le (itR (hs.map (·.t)) r (k + 1))
  rw [rndT_all] at h
  have e : itR (hs.map (·.t)) r (k + 1) = rndR (hs.map (·.t)) (itR (hs.map (·.t)) r k) := rfl
  rw [← e] at h
  subst hb
  cases c with
  | true =>
    have := h.2 rfl
    show _ - _ + 1 < _ - _ + 1
    omega
  | false =>
    rw [h.1 rfl]
    show _ - _ + 0 < _ - _ + 1
    omega
end Go.Drv
