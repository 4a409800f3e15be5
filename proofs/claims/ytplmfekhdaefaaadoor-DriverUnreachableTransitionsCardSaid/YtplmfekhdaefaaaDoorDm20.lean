/-
  A driver without the transitions of states that cannot be reached.
-/
import Derived.Test.YtplmfekhdaefaaaDoorDm19
set_option linter.unusedSimpArgs false
set_option linter.unusedVariables false
namespace Go.Drv
open Go.Sv
def kq (d : Dv) (t : Tr) : Bool := decide (t.frm < 0) || kpt d t
theorem kq_of {d : Dv} (t : Tr) (h : (rchM d).getD t.frm.toNat false = true) : kq d t = true := by
  unfold kq
  rcases Int.lt_or_le t.frm 0 with h0 | h0
  · rw [decide_eq_true h0]; rfl
  · rw [kpt_of t h0 h, Bool.or_true]
def lsF (d : DH) (k : Nat) : List TH := (d.hs.take k).filter (fun h => kpt d.d h.t)
theorem lsF_t {d : DH} {k : Nat} (hk : k < d.hs.length) (h : kpt d.d (d.hs.getD k thK.d).t = true) : lsF d (k + 1) = lsF d k ++ [d.hs.getD k thK.d] := by
  unfold lsF
  rw [take_snoc thK.d hk, List.filter_append, List.filter_cons, if_pos h]; rfl
theorem lsF_f {d : DH} {k : Nat} (hk : k < d.hs.length) (h : kpt d.d (d.hs.getD k thK.d).t = false) : lsF d (k + 1) = lsF d k := by
  unfold lsF
  rw [take_snoc thK.d hk, List.filter_append, List.filter_cons, if_neg (by rw [h]; decide)]
  exact List.append_nil _
theorem lsF_le (d : DH) (k : Nat) : (lsF d k).length ≤ k := by
  unfold lsF
  exact Nat.le_trans (List.length_filter_le _ _) (List.length_take_le _ _)
def lsD (d : DH) (A : Option Addr) (c : Nat) : DH := ⟨d.name, d.sA, d.sc, d.ss, A, c, lsF d d.hs.length⟩
theorem lsD_ts {d : DH} (h : chkM d.d = 0) (A : Option Addr) (c : Nat) : (lsD d A c).d.ts = d.d.ts.filter (kq d.d) := by
  show ((d.hs.take d.hs.length).filter (fun h => kpt d.d h.t)).map (·.t) = (d.hs.map (·.t)).filter (kq d.d)
  rw [List.take_length, List.filter_map]
  congr 1
  apply List.filter_congr
  intro x hx
  show kpt d.d x.t = kq d.d x.t
  obtain ⟨i, hi, rfl⟩ := List.getElem_of_mem hx
  have h1 := chk_rng h hi
  have e : d.hs.getD i thK.d = d.hs[i] := by simp [List.getD, hi]
  rw [e] at h1
  unfold kq
  rw [decide_eq_false (by omega), Bool.false_or]
theorem asc_pair {ts : List Tr} : (∀ k, k < ts.length → ascAt ts k) ↔ ts.Pairwise (fun a b => a.frm ≤ b.frm) := by
  rw [List.pairwise_iff_getElem]
  constructor
  · intro h i j hi hj hij
    obtain ⟨n, rfl⟩ : ∃ n, j = i + 1 + n := ⟨j - i - 1, by omega⟩
    induction n with
    | zero =>
      have := h (i + 1) hj
      rcases this with h0 | h0
      · omega
      · simpa [List.getD, hi, hj] using h0
    | succ n ih =>
      have h1 := ih (by omega) (by omega)
      have h2 := h (i + 1 + (n + 1)) hj
      rcases h2 with h0 | h0
      · omega
      · have h3 : (ts[i + 1 + n]'(by omega)).frm ≤ (ts[i + 1 + (n + 1)]'hj).frm := by
          have e : i + 1 + (n + 1) - 1 = i + 1 + n := by omega
          rw [e] at h0
          simpa [List.getD, hj, show i + 1 + n < ts.length by omega] using h0
        exact Int.le_trans h1 h3
  · intro h k hk
    match k with
    | 0 => exact .inl rfl
    | k + 1 =>
      refine .inr ?_
      have := h k (k + 1) (by omega) hk (by omega)
      simpa [List.getD, hk, show k < ts.length by omega] using this
theorem chk_filter {n : Bs} {ss : List Bs} {ts : List Tr} (p : Tr → Bool) (h : chkM ⟨n, ss, ts⟩ = 0) : chkM ⟨n, ss, ts.filter p⟩ = 0 := by
  have hA : chkA ⟨n, ss, ts⟩ = true := by
    unfold chkM at h
    cases hc : chkA ⟨n, ss, ts⟩ with
    | true => rfl
    | false => rw [hc] at h; simp at h
  have hN : ss.Nodup := by
    unfold chkM at h
    rw [if_pos hA] at h
    by_cases hd : ss.Nodup
    · exact hd
    · rw [if_neg hd] at h; cases h
  obtain ⟨h1, h2, h3, h4, h5⟩ := (chkA_iff _).1 hA
  refine chk_ok ((chkA_iff _).2 ⟨h1, ⟨h2.1, h2.2.1, Nat.le_trans (List.length_filter_le _ _) h2.2.2⟩, h3, ?_, ?_⟩) hN
  · have h6 : ts.all (okT ss.length) = true := (all_iff tr0).2 h4
    have h7 : (ts.filter p).all (okT ss.length) = true := by
      rw [List.all_eq_true] at h6 ⊢
      intro x hx
      exact h6 x (List.mem_filter.1 hx).1
    exact (all_iff tr0).1 h7
  · exact asc_pair.2 ((asc_pair.1 h5).filter _)
theorem lsD_chk {d : DH} (h : chkM d.d = 0) (A : Option Addr) (c : Nat) : chkM (lsD d A c).d = 0 := by
  have e : (lsD d A c).d = ⟨d.d.name, d.d.ss, d.d.ts.filter (kq d.d)⟩ := by
    have := lsD_ts h A c
    show (⟨d.name, d.ss, (lsD d A c).d.ts⟩ : Dv) = _
    rw [this]; rfl
  rw [e]; exact chk_filter _ h
theorem lsF_mem {d : DH} {k i : Nat} (hi : i < (lsF d k).length) : ∃ m, m < d.hs.length ∧ (lsF d k).getD i thD = d.hs.getD m thD := by
  have h1 : (lsF d k).getD i thD ∈ lsF d k := by simp [List.getD, hi]
  have h2 : (lsF d k).getD i thD ∈ d.hs := List.mem_of_mem_take (List.mem_filter.1 h1).1
  obtain ⟨m, hm, e⟩ := List.getElem_of_mem h2
  exact ⟨m, hm, by rw [← e]; simp [List.getD, hm]⟩
theorem DR.ofLs {I : Ids} {w0 w : World} {L : List Assn} {k1 k2 k3 : Nat} {d : DH} {A : Option Addr} {c : Nat} (h : Hp I w0 L w) (h1 : L[k1]? = some (OS 9 strK d.sA d.sc d.ss)) (h2 : L[k2]? = some (OS 61 thK A c (lsF d d.hs.length))) (h3 : L[k3]? = some (Big opA d.hs)) : DR w (lsD d A c) := by
  refine ⟨h.os k1 h1, h.os k2 h2, fun i hi => ?_⟩
  obtain ⟨m, hm, e⟩ := lsF_mem (d := d) (k := d.hs.length) hi
  show RS w roK ((lsF d d.hs.length).getD i thD).A ((lsF d d.hs.length).getD i thD).t.ops
  rw [e]
  exact bigRS h h3 hm
theorem kpt_f {d : DH} {t : Tr} : fndI (outR (rchM d.d) d.ss.length) t.frm (outR (rchM d.d) d.ss.length).length = kpt d.d t := kpt_fnd
end Go.Drv
