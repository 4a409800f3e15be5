/-
  Texts joined: Dm28, Dm29, Dm30.
-/
import Derived.Test.YtplmfekhdaefaaaGreatDoorDmA
import Derived.Lib.ItoaNum
import Derived.Test.YtplmfekhdaefaaaGreatDoorDmB
import Derived.Lib.ItoaLen
import Derived.Lib.Join
set_option linter.unusedSimpArgs false
set_option linter.unusedVariables false
namespace Go.Drv
open Go.Sv
def dec (v : Int) : Bs := Lib.decDigits v.toNat
theorem ofN_toNat {n : Nat} (h : n < 256) : (UInt8.ofNat n).toNat = n := by simp [UInt8.toNat_ofNat]; omega
theorem dig_at {d : Nat} (h : d < 10) : digB (UInt8.ofNat (48 + d)) = true := decide_eq_true (by rw [ofN_toNat (by omega)]; omega)
theorem dec_dig (u : Nat) : ∀ x ∈ Lib.decDigits u, digB x = true := by
  induction u using Nat.strongRecOn with
  | _ u ih =>
    rw [Lib.decDigits]
    split
    · rename_i h
      intro x hx
      obtain rfl := List.mem_singleton.1 hx
      exact dig_at h
    · rename_i h
      intro x hx
      rcases List.mem_append.1 hx with hx | hx
      · exact ih (u / 10) (by omega) x hx
      · obtain rfl := List.mem_singleton.1 hx
        exact dig_at (Nat.mod_lt _ (by decide))
theorem dec_ne (u : Nat) : Lib.decDigits u ≠ [] := by
  rw [Lib.decDigits]
  split <;> simp
theorem valD_app (n : Nat) (a b : Bs) : valD n (a ++ b) = valD (valD n a) b := by simp [valD]
theorem dec_val (u : Nat) : valD 0 (Lib.decDigits u) = u := by
  induction u using Nat.strongRecOn with
  | _ u ih =>
    rw [Lib.decDigits]
    split
    · rename_i h
      rw [valD_cons, valD_nil, ofN_toNat (by omega)]; omega
    · rename_i h
      rw [valD_app, ih (u / 10) (by omega), valD_cons, valD_nil, ofN_toNat (by omega)]; omega
theorem dec_first (u : Nat) (h : 0 < u) : (Lib.decDigits u).getD 0 0 ≠ 48 := by
  induction u using Nat.strongRecOn with
  | _ u ih =>
    rw [Lib.decDigits]
    split
    · rename_i h2
      intro k
      have k2 : (UInt8.ofNat (48 + u)).toNat = 48 := congrArg UInt8.toNat k
      rw [ofN_toNat (by omega)] at k2
      omega
    · rename_i h2
      have h3 := ih (u / 10) (by omega) (by omega)
      have h4 := dec_ne (u / 10)
      cases hl : Lib.decDigits (u / 10) with
      | nil => exact absurd hl h4
      | cons a r => rw [hl] at h3; exact h3
theorem dec_isNm (u : Nat) : isNm (Lib.decDigits u) = false := by
  refine isNm_f3 ?_
  have h := dec_ne u
  have h2 := dec_dig u
  cases hl : Lib.decDigits u with
  | nil => exact absurd hl h
  | cons a r => rw [hl] at h2; exact h2 a (List.mem_cons_self ..)
theorem dec_numW (u : Nat) : numW (Lib.decDigits u) = true := by
  rw [numW_iff]
  refine ⟨dec_ne u, ?_, fun k hk => ?_⟩
  · by_cases h : 0 < u
    · exact .inr (dec_first u h)
    · obtain rfl : u = 0 := by omega
      left; rw [Lib.decDigits, dif_pos (by decide)]; rfl
  · have := dec_dig u ((Lib.decDigits u).getD k 0) (by simp [List.getD, hk])
    exact this
theorem wt_dec {v : Int} (h0 : 0 ≤ v) (h1 : v < 18446744073709551616) : wordTok (dec v) = some (.num v) := by
  have e : (valD 0 (dec v) : Int) = v := by unfold dec; rw [dec_val]; omega
  exact (wt_num (w := dec v) (dec_isNm _) (dec_numW _) (by omega)).trans (by rw [e])
/-! ### Tokens with spaces before them -/
def ttx : MT → Bs
  | .nm t => t
  | .num v => dec v
  | .sym c => symT c
def reps (sp : Bs) : Nat → Bs
  | 0 => []
  | n + 1 => sp ++ reps sp n
def ren (sp : Bs) : List (Nat × MT) → Bs
  | [] => []
  | (n, t) :: r => reps sp n ++ (ttx t ++ ren sp r)
theorem ren_app (sp : Bs) (a b : List (Nat × MT)) : ren sp (a ++ b) = ren sp a ++ ren sp b := by
  induction a with
  | nil => rfl
  | cons x a ih => obtain ⟨n, t⟩ := x; simp [ren, ih]
def tOk : MT → Prop
  | .nm t => isNm t = true
  | .num v => 0 ≤ v ∧ v < 18446744073709551616
  | .sym c => okN c
/-- Behind a word comes a space or a sign. -/
def gapW : List (Nat × MT) → Prop
  | [] => True
  | (_ + 1, _) :: _ => True
  | (0, .sym _) :: _ => True
  | (0, _) :: _ => False
def gap : MT → List (Nat × MT) → Prop
  | .sym _, _ => True
  | _, r => gapW r
def goodL : List (Nat × MT) → Prop
  | [] => True
  | (n, t) :: r => tOk t ∧ gap t r ∧ goodL r
theorem goodL_app {a b : List (Nat × MT)} (ha : goodL a) (hb : goodL b) (hg : gapW b) : goodL (a ++ b) := by
  induction a with
  | nil => exact hb
  | cons x a ih =>
    obtain ⟨n, t⟩ := x
    refine ⟨ha.1, ?_, ih ha.2.2⟩
    have h2 := ha.2.1
    cases t with
    | sym c => exact trivial
    | nm w =>
      cases a with
      | nil => exact hg
      | cons y a => obtain ⟨m, s⟩ := y; cases m <;> cases s <;> exact h2
    | num w =>
      cases a with
      | nil => exact hg
      | cons y a => obtain ⟨m, s⟩ := y; cases m <;> cases s <;> exact h2
def stopW (l : Bs) : Prop := l = [] ∨ wrdB (l.getD 0 0) = false
theorem sp_wrd {c : UInt8} (h : spB c = true) : wrdB c = false := by
  rcases of_decide_eq_true h with rfl | rfl <;> rfl
theorem stop_sp {sp r : Bs} (h : ∀ x ∈ sp, spB x = true) (h0 : sp ≠ []) : stopW (sp ++ r) := by
  cases sp with
  | nil => exact absurd rfl h0
  | cons a s => exact .inr (sp_wrd (h a (List.mem_cons_self ..)))
theorem reps_sp {sp : Bs} (h : ∀ x ∈ sp, spB x = true) : ∀ n, ∀ x ∈ reps sp n, spB x = true
  | 0, x, hx => by cases hx
  | n + 1, x, hx => by
    rcases List.mem_append.1 hx with hx | hx
    · exact h x hx
    · exact reps_sp h n x hx
theorem tk_sps {s r : Bs} (h : ∀ x ∈ s, spB x = true) : tk (s ++ r) = tk r := by
  induction s with
  | nil => rfl
  | cons a s ih => rw [List.cons_append, tk_sp (h a (List.mem_cons_self ..)), ih fun x hx => h x (List.mem_cons_of_mem _ hx)]
theorem stop_ren {sp tail : Bs} (hs : ∀ x ∈ sp, spB x = true) (h0 : sp ≠ []) (ht : stopW tail) {l : List (Nat × MT)} (hg : goodL l) (hw : gapW l) : stopW (ren sp l ++ tail) := by
  cases l with
  | nil => exact ht
  | cons x l =>
    obtain ⟨n, t⟩ := x
    cases n with
    | succ n => simp only [ren, reps, List.append_assoc]; exact stop_sp hs h0
    | zero =>
      cases t with
      | nm w => exact hw.elim
      | num w => exact hw.elim
      | sym c =>
        rcases hg.1 with rfl | rfl | rfl | rfl | rfl <;> exact .inr rfl
theorem wrd_head {w rest : Bs} (h0 : w ≠ []) (h1 : ∀ x ∈ w, wrdB x = true) (h2 : stopW rest) {t : MT} (ht : wordTok w = some t) : tk (w ++ rest) = (tk rest).map (fun x => t :: x) := by
  obtain ⟨hw1, hw2⟩ := tw_split (l := w ++ rest) rfl h1 h2
  cases hw : w with
  | nil => exact absurd hw h0
  | cons c r =>
    rw [hw] at h1 hw1 hw2 ht
    have hc : wrdB c = true := h1 c (List.mem_cons_self ..)
    have e1 : spB c = false := by
      cases hs : spB c with
      | false => rfl
      | true => rw [sp_wrd hs] at hc; cases hc
    have e2 : symB c = false := by
      cases hs : symB c with
      | false => rfl
      | true => rcases of_decide_eq_true hs with rfl | rfl | rfl | rfl <;> exact absurd hc (by decide)
    have e3 : ¬ (c = 45 ∧ (r ++ rest).getD 0 0 = 62) := fun k => by rw [k.1] at hc; exact absurd hc (by decide)
    rw [List.cons_append, tk_word e1 e2 e3]
    rw [List.cons_append] at hw1 hw2
    rw [hw1, hw2, ht]
theorem nm_wrd {w : Bs} (h : isNm w = true) : w ≠ [] ∧ ∀ x ∈ w, wrdB x = true := by
  have h2 := (isNm_iff w).1 h
  refine ⟨fun e => by rw [e] at h2; exact absurd h2.1 (by decide), fun x hx => ?_⟩
  obtain ⟨i, hi, rfl⟩ := List.getElem_of_mem hx
  have := h2.2.2.2 i hi
  simpa [List.getD, hi] using this
theorem dig_wrd {c : UInt8} (h : digB c = true) : wrdB c = true := by unfold wrdB; rw [h]; simp
theorem tk_ren {sp tail : Bs} (hs : ∀ x ∈ sp, spB x = true) (h0 : sp ≠ []) (ht : stopW tail) : ∀ {l : List (Nat × MT)}, goodL l → tk (ren sp l ++ tail) = (tk tail).map (fun x => l.map (·.2) ++ x)
  | [], _ => by simp [ren]
  | (n, t) :: r, hg => by
    have ih := tk_ren hs h0 ht hg.2.2
    have hmap : ∀ y : Option (List MT), (y.map (fun x => r.map (·.2) ++ x)).map (fun x => t :: x) = y.map (fun x => ((n, t) :: r).map (·.2) ++ x) := fun y => by cases y <;> rfl
    simp only [ren, List.append_assoc]
    rw [tk_sps (reps_sp hs n)]
    cases t with
    | nm w =>
      obtain ⟨e1, e2⟩ := nm_wrd hg.1
      show tk (w ++ (ren sp r ++ tail)) = _
      rw [wrd_head e1 e2 (stop_ren hs h0 ht hg.2.2 hg.2.1) (wt_name hg.1), ih, hmap]
    | num v =>
      show tk (dec v ++ (ren sp r ++ tail)) = _
      rw [wrd_head (w := dec v) (dec_ne _) (fun x hx => dig_wrd (dec_dig _ x hx)) (stop_ren hs h0 ht hg.2.2 hg.2.1) (wt_dec hg.1.1 hg.1.2), ih, hmap]
    | sym c =>
      show tk (symT c ++ (ren sp r ++ tail)) = _
      rcases hg.1 with rfl | rfl | rfl | rfl | rfl
      · show tk (58 :: (ren sp r ++ tail)) = _
        rw [tk_sym rfl rfl, ih]; exact hmap _
      · show tk (59 :: (ren sp r ++ tail)) = _
        rw [tk_sym rfl rfl, ih]; exact hmap _
      · show tk (38 :: (ren sp r ++ tail)) = _
        rw [tk_sym rfl rfl, ih]; exact hmap _
      · show tk (61 :: (ren sp r ++ tail)) = _
        rw [tk_sym rfl rfl, ih]; exact hmap _
      · show tk (45 :: 62 :: (ren sp r ++ tail)) = _
        rw [tk_arr rfl]
        show (tk (ren sp r ++ tail)).map _ = _
        rw [ih]; exact hmap _
/-! ### Bytes that do not occur -/
theorem wrd_no {c : UInt8} (h : wrdB c = true) : c ≠ 35 ∧ c ≠ 10 ∧ c ≠ 32 := by
  refine ⟨?_, ?_, ?_⟩ <;> (rintro rfl; exact absurd h (by decide))
theorem ttx_no {t : MT} (h : tOk t) : ∀ x ∈ ttx t, x ≠ 35 ∧ x ≠ 10 ∧ x ≠ 32 := by
  intro x hx
  cases t with
  | nm w => exact wrd_no ((nm_wrd h).2 x hx)
  | num v => exact wrd_no (dig_wrd (dec_dig _ x hx))
  | sym c =>
    rcases h with rfl | rfl | rfl | rfl | rfl <;> (revert x; show ∀ x ∈ symT _, _; decide)
theorem ren_no {sp : Bs} (hs : ∀ x ∈ sp, spB x = true) : ∀ {l : List (Nat × MT)}, goodL l → ∀ x ∈ ren sp l, x ≠ 35 ∧ x ≠ 10
  | [], _, x, hx => by cases hx
  | (n, t) :: r, hg, x, hx => by
    rcases List.mem_append.1 hx with hx | hx
    · rcases of_decide_eq_true (reps_sp hs n x hx) with rfl | rfl <;> decide
    · rcases List.mem_append.1 hx with hx | hx
      · have := ttx_no hg.1 x hx; exact ⟨this.1, this.2.1⟩
      · exact ren_no hs hg.2.2 x hx
theorem cutH_app {a b : Bs} (h : ∀ x ∈ a, x ≠ 35) : cutH (a ++ b) = a ++ cutH b := by
  unfold cutH
  rw [List.takeWhile_append_of_pos (fun x hx => decide_eq_true (h x hx))]
theorem cutH_no {a : Bs} (h : ∀ x ∈ a, x ≠ 35) : cutH a = a := by
  have := cutH_app (b := []) h
  simpa [cutH] using this
theorem ln_ren {sp : Bs} (hs : ∀ x ∈ sp, spB x = true) (h0 : sp ≠ []) {l : List (Nat × MT)} (hg : goodL l) (p : PS) : lnM p (ren sp l) = lineM p (l.map (·.2)) := by
  unfold lnM
  rw [cutH_no fun x hx => (ren_no hs hg x hx).1]
  have := tk_ren hs h0 (tail := []) (.inl rfl) hg
  rw [List.append_nil, tk_nil] at this
  rw [this]; simp
theorem ln_note {sp : Bs} (hs : ∀ x ∈ sp, spB x = true) (h0 : sp ≠ []) {l : List (Nat × MT)} (hg : goodL l) (p : PS) (note : Bs) : lnM p (ren sp l ++ (32 :: 35 :: note)) = lineM p (l.map (·.2)) := by
  unfold lnM
  rw [cutH_app fun x hx => (ren_no hs hg x hx).1]
  have e : cutH (32 :: 35 :: note) = [32] := rfl
  rw [e, tk_ren hs h0 (tail := [32]) (.inr rfl) hg]
  have e2 : tk [32] = some [] := rfl
  rw [e2]; simp
theorem ln_com (p : PS) (note : Bs) : lnM p (35 :: note) = some p := by
  unfold lnM
  have e : cutH (35 :: note) = [] := rfl
  rw [e]; rfl
theorem ln_nil (p : PS) : lnM p [] = some p := rfl
theorem ln_tab (p : PS) : lnM p [32, 9] = some p := rfl
end Go.Drv
set_option linter.unusedSimpArgs false
set_option linter.unusedVariables false
namespace Go.Drv
open Go.Sv
def drL (d : Dv) : List (Nat × MT) := [(0, .nm sDriver), (1, .nm d.name)]
def stL (s : Bs) : List (Nat × MT) := [(0, .nm sState), (1, .nm s)]
def gdL (g : Gd) : List (Nat × MT) := if g.used = true then [(1, .nm sIf), (1, .num g.reg), (1, .sym 38), (1, .num g.mask), (1, .sym 61), (1, .num g.val)] else []
def roL (o : Ro) : List (Nat × MT) := if o.wr = true then [(1, .nm sWrite), (1, .num o.reg), (1, .num o.val)] else [(1, .nm sRead), (1, .num o.reg)]
def opsL : List Ro → List (Nat × MT)
  | [] => []
  | o :: r => (0, .sym 58) :: roL o ++ r.flatMap (fun o => (0, .sym 59) :: roL o)
def tgt (ss : List Bs) (t : Tr) : Bs := ss.getD t.to.toNat []
def trL (ss : List Bs) (t : Tr) : List (Nat × MT) := [(2, .nm sOn), (1, .nm t.ev)] ++ (gdL t.gd ++ ([(1, .sym 62), (1, .nm (tgt ss t))] ++ opsL t.ops))
def ofS (d : Dv) (i : Nat) : List Tr := d.ts.filter (fun t => decide (t.frm = (i : Int)))
def blkL (d : Dv) (i : Nat) : List (List (Nat × MT)) := stL (d.ss.getD i []) :: (ofS d i).map (trL d.ss)
def fmtLs (d : Dv) : List (List (Nat × MT)) := drL d :: (List.range d.ss.length).flatMap (blkL d)
def unl (ls : List Bs) : Bs := ls.flatMap (fun l => l ++ [10])
def fmtM (d : Dv) : Bs := unl ((fmtLs d).map (ren [32]))
def u64 (v : Int) : Prop := 0 ≤ v ∧ v < 18446744073709551616
def rgO (o : Ro) : Prop := u64 o.reg ∧ u64 o.val
def rgG (g : Gd) : Prop := u64 g.reg ∧ u64 g.mask ∧ u64 g.val
def rgT (t : Tr) : Prop := rgG t.gd ∧ ∀ o ∈ t.ops, rgO o
def rgD (d : Dv) : Prop := ∀ t ∈ d.ts, rgT t
/-! ### The lines are good -/
theorem good_ro {o : Ro} (h : rgO o) : goodL (roL o) ∧ gapW (roL o) := by
  unfold roL
  split
  · exact ⟨⟨rfl, trivial, h.1, trivial, h.2, trivial, trivial⟩, trivial⟩
  · exact ⟨⟨rfl, trivial, h.1, trivial, trivial⟩, trivial⟩
theorem gapW_ro (o : Ro) (r : List (Nat × MT)) : gapW (roL o ++ r) := by
  unfold roL; split <;> exact trivial
theorem good_more : ∀ {l : List Ro}, (∀ o ∈ l, rgO o) → goodL (l.flatMap (fun o => (0, MT.sym 59) :: roL o)) ∧ gapW (l.flatMap (fun o => (0, MT.sym 59) :: roL o))
  | [], _ => ⟨trivial, trivial⟩
  | o :: r, h => by
    have ih := good_more (l := r) fun x hx => h x (List.mem_cons_of_mem _ hx)
    have h1 := good_ro (h o (List.mem_cons_self ..))
    rw [List.flatMap_cons]
    exact ⟨⟨.inr (.inl rfl), trivial, goodL_app h1.1 ih.1 ih.2⟩, trivial⟩
theorem good_ops {l : List Ro} (h : ∀ o ∈ l, rgO o) : goodL (opsL l) ∧ gapW (opsL l) := by
  cases l with
  | nil => exact ⟨trivial, trivial⟩
  | cons o r =>
    have ih := good_more (l := r) fun x hx => h x (List.mem_cons_of_mem _ hx)
    have h1 := good_ro (h o (List.mem_cons_self ..))
    exact ⟨⟨.inl rfl, trivial, goodL_app h1.1 ih.1 ih.2⟩, trivial⟩
theorem good_gd {g : Gd} (h : rgG g) : goodL (gdL g) := by
  unfold gdL
  split
  · exact ⟨rfl, trivial, h.1, trivial, .inr (.inr (.inl rfl)), trivial, h.2.1, trivial, .inr (.inr (.inr (.inl rfl))), trivial, h.2.2, trivial, trivial⟩
  · exact trivial
theorem good_tr {ss : List Bs} {t : Tr} (he : isNm t.ev = true) (ht : isNm (tgt ss t) = true) (hr : rgT t) : goodL (trL ss t) := by
  have h1 : goodL ([(1, .sym 62), (1, .nm (tgt ss t))] ++ opsL t.ops) := by
    refine goodL_app (a := [(1, .sym 62), (1, .nm (tgt ss t))]) ⟨.inr (.inr (.inr (.inr rfl))), trivial, ht, trivial, trivial⟩ (good_ops hr.2).1 (good_ops hr.2).2
  have h2 : goodL (gdL t.gd ++ ([(1, .sym 62), (1, .nm (tgt ss t))] ++ opsL t.ops)) := goodL_app (good_gd hr.1) h1 trivial
  have h3 : gapW (gdL t.gd ++ ([(1, .sym 62), (1, .nm (tgt ss t))] ++ opsL t.ops)) := by
    unfold gdL; split <;> exact trivial
  exact ⟨rfl, trivial, he, by exact h3, h2⟩
theorem good_dr {d : Dv} (h : isNm d.name = true) : goodL (drL d) := ⟨rfl, trivial, h, trivial, trivial⟩
theorem good_st {s : Bs} (h : isNm s = true) : goodL (stL s) := ⟨rfl, trivial, h, trivial, trivial⟩
/-! ### What a line says -/
def sn : List (Nat × MT) → List MT := fun l => l.map (·.2)
theorem sn_app (a b : List (Nat × MT)) : sn (a ++ b) = sn a ++ sn b := List.map_append
theorem op_ro {o : Ro} (h : roOk o = true) (r : List MT) : opM (sn (roL o) ++ r) = some (o, r) := by
  obtain ⟨wr, reg, val⟩ := o
  cases wr with
  | true => rfl
  | false =>
    obtain rfl : val = 0 := by simpa [roOk] using h
    rfl
theorem ops_more : ∀ (l : List Ro) (o : Ro) (n : Nat), l.length < n → (∀ x ∈ o :: l, roOk x = true) → opsM n (sn (roL o) ++ sn (l.flatMap (fun o => (0, MT.sym 59) :: roL o))) = some (o :: l)
  | [], o, n + 1, _, h => by
    rw [opsM_succ, op_ro (h o (List.mem_cons_self ..))]; rfl
  | p :: l, o, n + 1, hn, h => by
    have ih := ops_more l p n (by simp at hn; omega) fun x hx => h x (List.mem_cons_of_mem _ hx)
    rw [opsM_succ, op_ro (h o (List.mem_cons_self ..))]
    rw [List.flatMap_cons, sn_app]
    show (opsM n (sn (roL p) ++ sn (l.flatMap (fun o => (0, MT.sym 59) :: roL o)))).map (fun x => o :: x) = _
    rw [ih]; rfl
theorem flat_len (l : List Ro) : l.length ≤ (sn (l.flatMap (fun o => (0, MT.sym 59) :: roL o))).length := by
  induction l with
  | nil => exact Nat.zero_le _
  | cons o l ih =>
    rw [List.flatMap_cons, sn_app, List.length_append]
    have : 1 ≤ (sn ((0, MT.sym 59) :: roL o)).length := by simp [sn]
    simp only [List.length_cons]; omega
theorem tail_ops {l : List Ro} (h : ∀ x ∈ l, roOk x = true) : tailM (sn (opsL l)) = some l := by
  cases l with
  | nil => rfl
  | cons o l =>
    have e : sn (opsL (o :: l)) = .sym 58 :: (sn (roL o) ++ sn (l.flatMap (fun o => (0, MT.sym 59) :: roL o))) := by
      show sn ((0, .sym 58) :: roL o ++ _) = _
      rw [sn_app]; rfl
    rw [e]
    show opsM (_ + 1) _ = _
    refine ops_more l o _ ?_ h
    have := flat_len l
    rw [List.length_append]; omega
theorem gd_toks {g : Gd} (h : gdOk g = true) (r : List MT) : gdM (sn (gdL g) ++ .sym 62 :: r) = some (g, .sym 62 :: r) := by
  obtain ⟨used, reg, mask, val⟩ := g
  cases used with
  | true => rfl
  | false =>
    obtain ⟨rfl, rfl, rfl⟩ : reg = 0 ∧ mask = 0 ∧ val = 0 := by simpa [gdOk] using h
    rfl
theorem on_tr {ss : List Bs} {t : Tr} (hg : gdOk t.gd = true) (ho : ∀ x ∈ t.ops, roOk x = true) : onM (sn (trL ss t)).tail = some (⟨0, t.ev, t.gd, t.ops, 0⟩, tgt ss t) := by
  have e : (sn (trL ss t)).tail = .nm t.ev :: (sn (gdL t.gd) ++ .sym 62 :: (.nm (tgt ss t) :: sn (opsL t.ops))) := by
    show MT.nm t.ev :: sn (gdL t.gd ++ ([(1, .sym 62), (1, .nm (tgt ss t))] ++ opsL t.ops)) = _
    rw [sn_app, sn_app]; rfl
  rw [e, onM_eq, gd_toks hg]
  show (tailM (sn (opsL t.ops))).map _ = _
  rw [tail_ops ho]; rfl
theorem line_tr {p : PS} {ss : List Bs} {t : Tr} (hn : p.named = true) (hs : p.ss ≠ []) (hg : gdOk t.gd = true) (ho : ∀ x ∈ t.ops, roOk x = true) :
    lineM p (sn (trL ss t)) = some { p with ts := p.ts ++ [⟨(p.ss.length : Int) - 1, t.ev, t.gd, t.ops, 0⟩], tg := p.tg ++ [tgt ss t] } := by
  have e : sn (trL ss t) = .nm sOn :: (sn (trL ss t)).tail := rfl
  have h1 := on_tr (ss := ss) hg ho
  rw [e]
  show (if p.named = false then _ else if sOn = sState then _ else if sOn = sOn ∧ p.ss ≠ [] then (onM (sn (trL ss t)).tail).map _ else none) = _
  rw [if_neg (by rw [hn]; decide), if_neg (by decide), if_pos ⟨rfl, hs⟩, h1]
  rfl
theorem line_st {p : PS} {s : Bs} (hn : p.named = true) : lineM p (sn (stL s)) = some { p with ss := p.ss ++ [s] } := by
  show (if p.named = false then _ else if sState = sState then some { p with ss := p.ss ++ [s] } else _) = _
  rw [if_neg (by rw [hn]; decide), if_pos rfl]
theorem line_dr (d : Dv) : lineM ps0 (sn (drL d)) = some { ps0 with named := true, name := d.name } := rfl
/-! ### All lines -/
def runT (p : PS) : List (List (Nat × MT)) → Option PS
  | [] => some p
  | l :: r => (lineM p (sn l)).bind fun q => runT q r
theorem runT_app (p : PS) : ∀ (a b : List (List (Nat × MT))), runT p (a ++ b) = (runT p a).bind fun q => runT q b := by
  intro a
  induction a generalizing p with
  | nil => intro b; rfl
  | cons l r ih =>
    intro b
    rw [List.cons_append, runT, runT]
    cases lineM p (sn l) with
    | none => rfl
    | some q => exact ih q b
def zT (t : Tr) : Tr := { t with to := 0 }
theorem run_trs {ss : List Bs} : ∀ (l : List Tr) (p : PS), p.named = true → p.ss ≠ [] → (∀ t ∈ l, t.frm = (p.ss.length : Int) - 1 ∧ gdOk t.gd = true ∧ ∀ x ∈ t.ops, roOk x = true) →
    runT p (l.map (trL ss)) = some { p with ts := p.ts ++ l.map zT, tg := p.tg ++ l.map (tgt ss) }
  | [], p, _, _, _ => by simp [runT]
  | t :: l, p, hn, hs, h => by
    obtain ⟨h1, h2, h3⟩ := h t (List.mem_cons_self ..)
    rw [List.map_cons, runT, line_tr hn hs h2 h3]
    have e : (⟨(p.ss.length : Int) - 1, t.ev, t.gd, t.ops, 0⟩ : Tr) = zT t := by rw [← h1]; rfl
    have h4 := run_trs (ss := ss) l { p with ts := p.ts ++ [⟨(p.ss.length : Int) - 1, t.ev, t.gd, t.ops, 0⟩], tg := p.tg ++ [tgt ss t] } hn hs (fun x hx => h x (List.mem_cons_of_mem _ hx))
    rw [Option.bind_some, h4]
    simp only [e, List.map_cons, List.append_assoc, List.cons_append, List.nil_append]
def upTo (d : Dv) (i : Nat) : List Tr := (List.range i).flatMap (ofS d)
theorem upTo_succ (d : Dv) (i : Nat) : upTo d (i + 1) = upTo d i ++ ofS d i := by
  unfold upTo
  rw [List.range_succ, List.flatMap_append]; simp
structure OkD (d : Dv) : Prop where
  name : isNm d.name = true
  pos : 0 < d.ss.length
  few : d.ss.length ≤ 32
  fewT : d.ts.length ≤ 128
  nms : ∀ k, k < d.ss.length → isNm (d.ss.getD k []) = true
  tr : ∀ t ∈ d.ts, okT d.ss.length t = true
  asc : d.ts.Pairwise (fun a b => a.frm ≤ b.frm)
  nd : d.ss.Nodup
theorem ok_of {d : Dv} (h : chkM d = 0) : OkD d := by
  have ha : chkA d = true := by
    refine Decidable.byContradiction fun k => ?_
    rw [chk_bad k] at h; exact absurd h (by decide)
  have hd : d.ss.Nodup := by
    refine Decidable.byContradiction fun k => ?_
    rw [chk_dup ha k] at h; exact absurd h (by decide)
  obtain ⟨h1, h2, h3, h4, h5⟩ := (chkA_iff d).1 ha
  have hg : ∀ i (hi : i < d.ts.length), d.ts.getD i tr0 = d.ts[i] := fun i hi => by simp [List.getD, hi]
  refine ⟨h1, h2.1, h2.2.1, h2.2.2, h3, fun t ht => ?_, ?_, hd⟩
  · obtain ⟨i, hi, rfl⟩ := List.getElem_of_mem ht
    rw [← hg i hi]; exact h4 i hi
  · rw [List.pairwise_iff_getElem]
    intro i j hi hj hij
    have : ∀ n, i + n < d.ts.length → (d.ts.getD i tr0).frm ≤ (d.ts.getD (i + n) tr0).frm := by
      intro n
      induction n with
      | zero => intro _; exact Int.le_refl _
      | succ n ih =>
        intro hn
        have h6 := ih (by omega)
        rcases h5 (i + (n + 1)) hn with h7 | h7
        · omega
        · have e : i + (n + 1) - 1 = i + n := by omega
          rw [e] at h7
          omega
    have h8 := this (j - i) (by omega)
    rw [show i + (j - i) = j by omega, hg i hi, hg j hj] at h8
    exact h8
theorem tr_ok {d : Dv} (h : OkD d) {t : Tr} (ht : t ∈ d.ts) : 0 ≤ t.frm ∧ t.frm < d.ss.length ∧ 0 ≤ t.to ∧ t.to < d.ss.length ∧ isNm t.ev = true ∧ gdOk t.gd = true ∧ t.ops.length ≤ 16 ∧ ∀ x ∈ t.ops, roOk x = true := by
  obtain ⟨h1, h2, h3, h4, h5, h6⟩ := (okT_iff _ _).1 (h.tr t ht)
  refine ⟨h1.1, h1.2, h2.1, h2.2, h3, h4, h5, fun x hx => ?_⟩
  obtain ⟨i, hi, rfl⟩ := List.getElem_of_mem hx
  have := h6 i hi
  simpa [List.getD, hi] using this
theorem tgt_nm {d : Dv} (h : OkD d) {t : Tr} (ht : t ∈ d.ts) : isNm (tgt d.ss t) = true := by
  obtain ⟨_, _, h1, h2, _⟩ := tr_ok h ht
  exact h.nms _ (by omega)
theorem take_snocB {l : List Bs} {j : Nat} (h : j < l.length) : l.take (j + 1) = l.take j ++ [l.getD j []] := by
  rw [List.take_add_one, List.getD, List.getElem?_eq_getElem h]; rfl
theorem run_blks {d : Dv} (h : OkD d) : ∀ i, i ≤ d.ss.length → runT { ps0 with named := true, name := d.name } ((List.range i).flatMap (blkL d)) = some ⟨true, d.name, d.ss.take i, (upTo d i).map zT, (upTo d i).map (tgt d.ss)⟩
  | 0, _ => rfl
  | i + 1, hi => by
    have ih := run_blks h i (by omega)
    rw [List.range_succ, List.flatMap_append, runT_app, ih, Option.bind_some]
    have e : [i].flatMap (blkL d) = stL (d.ss.getD i []) :: (ofS d i).map (trL d.ss) := by simp [blkL]
    rw [e, runT, line_st rfl, Option.bind_some]
    have hlen : ((d.ss.take i) ++ [d.ss.getD i []]).length = i + 1 := by rw [List.length_append, List.length_take]; simp; omega
    rw [run_trs (ofS d i) ⟨true, d.name, d.ss.take i ++ [d.ss.getD i []], (upTo d i).map zT, (upTo d i).map (tgt d.ss)⟩ rfl (by simp) (fun t ht => ?_)]
    · simp only [upTo_succ, List.map_append]
      rw [take_snocB (show i < d.ss.length by omega)]
    · have ht2 := List.mem_filter.1 ht
      obtain ⟨_, _, _, _, _, h2, _, h3⟩ := tr_ok h ht2.1
      refine ⟨?_, h2, h3⟩
      show t.frm = (((d.ss.take i) ++ [d.ss.getD i []]).length : Int) - 1
      rw [hlen]
      have := of_decide_eq_true ht2.2
      omega
theorem filt_succ : ∀ {l : List Tr} (n : Int), l.Pairwise (fun a b => a.frm ≤ b.frm) → l.filter (fun t => decide (t.frm < n + 1)) = l.filter (fun t => decide (t.frm < n)) ++ l.filter (fun t => decide (t.frm = n))
  | [], _, _ => rfl
  | a :: l, n, h => by
    obtain ⟨h1, h2⟩ := List.pairwise_cons.1 h
    have ih := filt_succ n h2
    by_cases c1 : a.frm < n
    · rw [List.filter_cons_of_pos (by exact decide_eq_true (by omega)), List.filter_cons_of_pos (by exact decide_eq_true c1), List.filter_cons_of_neg (by simp; omega), ih]; rfl
    · have hn : l.filter (fun t => decide (t.frm < n)) = [] := List.filter_eq_nil_iff.2 fun x hx => by have := h1 x hx; simp; omega
      rw [hn] at ih
      by_cases c2 : a.frm = n
      · rw [List.filter_cons_of_pos (by exact decide_eq_true (by omega)), List.filter_cons_of_neg (by simp; omega), List.filter_cons_of_pos (by exact decide_eq_true c2), hn, ih]; rfl
      · rw [List.filter_cons_of_neg (by simp; omega), List.filter_cons_of_neg (by simp; omega), List.filter_cons_of_neg (by simp; omega), hn, ih]
theorem upTo_filt {d : Dv} (h : OkD d) : ∀ i : Nat, upTo d i = d.ts.filter (fun t => decide (t.frm < (i : Int)))
  | 0 => by
    refine (List.filter_eq_nil_iff.2 fun x hx => ?_).symm
    have := (tr_ok h hx).1
    simp; omega
  | i + 1 => by
    rw [upTo_succ, upTo_filt h i, Int.natCast_succ, filt_succ _ h.asc]; rfl
theorem upTo_all {d : Dv} (h : OkD d) : upTo d d.ss.length = d.ts := by
  rw [upTo_filt h]
  exact List.filter_eq_self.2 fun x hx => decide_eq_true (tr_ok h hx).2.1
theorem idx_tgt {d : Dv} (h : OkD d) {t : Tr} (ht : t ∈ d.ts) : idxOf d.ss (tgt d.ss t) = some t.to.toNat := by
  obtain ⟨_, _, h1, h2, _⟩ := tr_ok h ht
  unfold idxOf
  rw [List.find?_range_eq_some]
  refine ⟨decide_eq_true rfl, List.mem_range.2 (by omega), fun j hj => ?_⟩
  have := nodup_iff.1 h.nd j t.to.toNat hj (by omega)
  simp only [Bool.not_eq_true', decide_eq_false_iff_not]
  exact this
theorem link_tgt {d : Dv} (h : OkD d) : ∀ {l : List Tr}, (∀ t ∈ l, t ∈ d.ts) → linkM d.ss (l.map zT) (l.map (tgt d.ss)) = some l
  | [], _ => rfl
  | t :: l, hl => by
    have h1 := hl t (List.mem_cons_self ..)
    rw [List.map_cons, List.map_cons, linkM, idx_tgt h h1]
    show (linkM d.ss (l.map zT) (l.map (tgt d.ss))).map _ = _
    rw [link_tgt h fun x hx => hl x (List.mem_cons_of_mem _ hx)]
    have e : ({ zT t with to := ((t.to.toNat : Nat) : Int) } : Tr) = t := by
      have h2 : ((t.to.toNat : Nat) : Int) = t.to := by have := (tr_ok h h1).2.2.1; omega
      rw [h2]; rfl
    show some (_ :: l) = _
    rw [e]
theorem run_fmt {d : Dv} (h : OkD d) : runT ps0 (fmtLs d) = some ⟨true, d.name, d.ss, d.ts.map zT, d.ts.map (tgt d.ss)⟩ := by
  rw [fmtLs, runT, line_dr]
  show runT _ _ = _
  rw [run_blks h _ (Nat.le_refl _), upTo_all h, List.take_length]
theorem fin_fmt {d : Dv} (h : chkM d = 0) : finM ⟨true, d.name, d.ss, d.ts.map zT, d.ts.map (tgt d.ss)⟩ = (0, d) := fin_ok rfl (ok_of h).nd (link_tgt (ok_of h) fun _ ht => ht) h
/-! ### The texts -/
theorem split_unl : ∀ {ls : List Bs}, (∀ l ∈ ls, ∀ c ∈ l, c ≠ 10) → splitNL (unl ls) = ls ++ [[]]
  | [], _ => rfl
  | l :: ls, h => by
    have ih := split_unl (ls := ls) fun x hx => h x (List.mem_cons_of_mem _ hx)
    have e : unl (l :: ls) = l ++ 10 :: unl ls := by unfold unl; rw [List.flatMap_cons, List.append_assoc]; rfl
    rw [e, splitNL_app l _ (h l (List.mem_cons_self ..)), ih]; rfl
theorem goodLs {d : Dv} (h : OkD d) (hr : rgD d) : ∀ l ∈ fmtLs d, goodL l := by
  intro l hl
  rcases List.mem_cons.1 hl with rfl | hl
  · exact good_dr h.name
  · obtain ⟨i, hi, hl⟩ := List.mem_flatMap.1 hl
    have hi := List.mem_range.1 hi
    rcases List.mem_cons.1 hl with rfl | hl
    · exact good_st (h.nms i hi)
    · obtain ⟨t, ht, rfl⟩ := List.mem_map.1 hl
      have ht := (List.mem_filter.1 ht).1
      exact good_tr (tr_ok h ht).2.2.2.2.1 (tgt_nm h ht) (hr t ht)
theorem run_ren {sp : Bs} (hs : ∀ x ∈ sp, spB x = true) (h0 : sp ≠ []) : ∀ {ls : List (List (Nat × MT))} (p : PS), (∀ l ∈ ls, goodL l) → runM p (ls.map (ren sp)) = runT p ls
  | [], p, _ => rfl
  | l :: ls, p, h => by
    rw [List.map_cons, runM, runT, ln_ren hs h0 (h l (List.mem_cons_self ..))]
    show (lineM p (sn l)).bind _ = _
    cases lineM p (sn l) with
    | none => rfl
    | some q => exact run_ren hs h0 q fun x hx => h x (List.mem_cons_of_mem _ hx)
theorem sp32 : ∀ x ∈ ([32] : Bs), spB x = true := by decide
theorem round_trip {d : Dv} (h : chkM d = 0) (hr : rgD d) : parseM (fmtM d) = (0, d) := by
  have hg := goodLs (ok_of h) hr
  have e : runM ps0 (splitNL (fmtM d)) = some ⟨true, d.name, d.ss, d.ts.map zT, d.ts.map (tgt d.ss)⟩ := by
    unfold fmtM
    rw [split_unl ?_, runM_app, run_ren sp32 (by simp) _ hg, run_fmt (ok_of h)]
    · rfl
    · intro l hl c hc
      obtain ⟨l', hl', rfl⟩ := List.mem_map.1 hl
      exact (ren_no sp32 (hg l' hl') c hc).2
  rw [parse_some e, fin_fmt h]
/-! ### Layout -/
def padC (note sp : Bs) (c : UInt8) : Bs := if c = 10 then [32, 35] ++ note ++ [10, 32, 9, 10] else if c = 32 then sp else [c]
def padM (note sp s : Bs) : Bs := [35] ++ note ++ [10, 10] ++ s.flatMap (padC note sp)
theorem pad_id (note sp : Bs) : ∀ {w : Bs}, (∀ x ∈ w, x ≠ 10 ∧ x ≠ 32) → w.flatMap (padC note sp) = w
  | [], _ => rfl
  | a :: w, h => by
    have h1 := h a (List.mem_cons_self ..)
    rw [List.flatMap_cons, pad_id note sp fun x hx => h x (List.mem_cons_of_mem _ hx), padC, if_neg h1.1, if_neg h1.2]; rfl
theorem pad_reps (note sp : Bs) : ∀ n, (reps [32] n).flatMap (padC note sp) = reps sp n
  | 0 => rfl
  | n + 1 => by
    rw [reps, List.flatMap_append, pad_reps note sp n, List.flatMap_cons, List.flatMap_nil, padC, if_neg (by decide), if_pos rfl, List.append_nil]; rfl
theorem pad_ren (note sp : Bs) : ∀ {l : List (Nat × MT)}, goodL l → (ren [32] l).flatMap (padC note sp) = ren sp l
  | [], _ => rfl
  | (n, t) :: r, h => by
    rw [ren, List.flatMap_append, List.flatMap_append, pad_reps, pad_id note sp (fun x hx => (ttx_no h.1 x hx).2), pad_ren note sp h.2.2]; rfl
def padL (note sp : Bs) (l : List (Nat × MT)) : List Bs := [ren sp l ++ (32 :: 35 :: note), [32, 9]]
theorem pad_unl (note sp : Bs) : ∀ {ls : List (List (Nat × MT))}, (∀ l ∈ ls, goodL l) → (unl (ls.map (ren [32]))).flatMap (padC note sp) = unl (ls.flatMap (padL note sp))
  | [], _ => rfl
  | l :: ls, h => by
    have ih := pad_unl note sp (ls := ls) fun x hx => h x (List.mem_cons_of_mem _ hx)
    have e1 : unl ((l :: ls).map (ren [32])) = ren [32] l ++ ([10] ++ unl (ls.map (ren [32]))) := by unfold unl; simp [List.flatMap_cons]
    have e2 : unl ((l :: ls).flatMap (padL note sp)) = ren sp l ++ ([32, 35] ++ note ++ [10, 32, 9, 10] ++ unl (ls.flatMap (padL note sp))) := by unfold unl padL; simp [List.flatMap_cons]
    rw [e1, e2, List.flatMap_append, List.flatMap_append, pad_ren note sp (h l (List.mem_cons_self ..)), ih]
    have e3 : ([10] : Bs).flatMap (padC note sp) = [32, 35] ++ note ++ [10, 32, 9, 10] := by simp [padC]
    rw [e3]
theorem run_pad {note sp : Bs} (hs : ∀ x ∈ sp, spB x = true) (h0 : sp ≠ []) : ∀ {ls : List (List (Nat × MT))} (p : PS), (∀ l ∈ ls, goodL l) → runM p (ls.flatMap (padL note sp)) = runT p ls
  | [], p, _ => rfl
  | l :: ls, p, h => by
    rw [List.flatMap_cons]
    show runM p ((ren sp l ++ (32 :: 35 :: note)) :: [32, 9] :: ls.flatMap (padL note sp)) = _
    rw [runM, runT, ln_note hs h0 (h l (List.mem_cons_self ..))]
    show (lineM p (sn l)).bind _ = _
    cases lineM p (sn l) with
    | none => rfl
    | some q =>
      show runM q ([32, 9] :: ls.flatMap (padL note sp)) = _
      rw [runM, ln_tab]
      exact run_pad hs h0 q fun x hx => h x (List.mem_cons_of_mem _ hx)
theorem layout {d : Dv} (h : chkM d = 0) (hr : rgD d) {note sp : Bs} (hn : ∀ x ∈ note, x ≠ 10) (hs : ∀ x ∈ sp, spB x = true) (h0 : sp ≠ []) : parseM (padM note sp (fmtM d)) = (0, d) := by
  have hg := goodLs (ok_of h) hr
  have e0 : padM note sp (fmtM d) = unl ((35 :: note) :: [] :: (fmtLs d).flatMap (padL note sp)) := by
    unfold padM fmtM
    rw [pad_unl note sp hg]
    unfold unl
    simp [List.flatMap_cons]
  have e : runM ps0 (splitNL (padM note sp (fmtM d))) = some ⟨true, d.name, d.ss, d.ts.map zT, d.ts.map (tgt d.ss)⟩ := by
    rw [e0, split_unl ?_, runM_app]
    · have e1 : runM ps0 ((35 :: note) :: [] :: (fmtLs d).flatMap (padL note sp)) = some ⟨true, d.name, d.ss, d.ts.map zT, d.ts.map (tgt d.ss)⟩ := by
        rw [runM, ln_com, Option.bind_some, runM, ln_nil, Option.bind_some, run_pad hs h0 _ hg, run_fmt (ok_of h)]
      rw [e1]; rfl
    · intro l hl c hc
      rcases List.mem_cons.1 hl with rfl | hl
      · rcases List.mem_cons.1 hc with rfl | hc
        · decide
        · exact hn c hc
      rcases List.mem_cons.1 hl with rfl | hl
      · cases hc
      obtain ⟨l', hl', hl⟩ := List.mem_flatMap.1 hl
      rcases List.mem_cons.1 hl with rfl | hl
      · rcases List.mem_append.1 hc with hc | hc
        · exact (ren_no hs (hg l' hl') c hc).2
        · rcases List.mem_cons.1 hc with rfl | hc
          · decide
          · rcases List.mem_cons.1 hc with rfl | hc
            · decide
            · exact hn c hc
      · obtain rfl := List.mem_singleton.1 hl
        revert c; decide
  rw [parse_some e, fin_fmt h]
end Go.Drv
set_option linter.unusedSimpArgs false
set_option linter.unusedVariables false
namespace Go.Drv
open Go.Sv
def sOnS : Bs := [32, 32, 111, 110, 32]
def sIfS : Bs := [32, 105, 102, 32]
def sAmp : Bs := [32, 38, 32]
def sEqS : Bs := [32, 61, 32]
def sArr : Bs := [32, 45, 62, 32]
def sWrS : Bs := [119, 114, 105, 116, 101, 32]
def sRdS : Bs := [114, 101, 97, 100, 32]
def sDrS : Bs := [100, 114, 105, 118, 101, 114, 32]
def sStS : Bs := [115, 116, 97, 116, 101, 32]
def gdT (g : Gd) : Bs := if g.used = true then (((((sIfS ++ dec g.reg) ++ sAmp) ++ dec g.mask) ++ sEqS) ++ dec g.val) else []
def roT (o : Ro) : Bs := if o.wr = true then ((sWrS ++ dec o.reg) ++ [32]) ++ dec o.val else sRdS ++ dec o.reg
def moreT (l : List Ro) : Bs := l.flatMap (fun o => [59, 32] ++ roT o)
def opsT : List Ro → Bs
  | [] => []
  | o :: r => [58, 32] ++ (roT o ++ moreT r)
def trT (ss : List Bs) (t : Tr) : Bs := (((((sOnS ++ t.ev) ++ gdT t.gd) ++ sArr) ++ tgt ss t) ++ opsT t.ops) ++ [10]
theorem ren_ro (n : Nat) (c : MT) (o : Ro) : ren [32] ((0, c) :: roL o) = ttx c ++ ([32] ++ roT o) := by
  unfold roL roT
  split <;> simp [ren, reps, ttx, sWrite, sRead, sWrS, sRdS]
theorem ren_more (l : List Ro) : ren [32] (l.flatMap (fun o => (0, MT.sym 59) :: roL o)) = moreT l := by
  unfold moreT
  induction l with
  | nil => rfl
  | cons o l ih =>
    rw [List.flatMap_cons, List.flatMap_cons, ren_app, ih, ren_ro 0]
    rfl
theorem ren_ops (l : List Ro) : ren [32] (opsL l) = opsT l := by
  cases l with
  | nil => rfl
  | cons o l =>
    show ren [32] (((0, .sym 58) :: roL o) ++ l.flatMap (fun o => (0, MT.sym 59) :: roL o)) = _
    rw [ren_app, ren_more, ren_ro 0]
    show ([58] ++ ([32] ++ roT o)) ++ moreT l = [58, 32] ++ (roT o ++ moreT l)
    simp
theorem ren_gd (g : Gd) : ren [32] (gdL g) = gdT g := by
  unfold gdL gdT
  split
  · simp [ren, reps, ttx, symT, sIf, sIfS, sAmp, sEqS]
  · rfl
theorem tr_text (ss : List Bs) (t : Tr) : ren [32] (trL ss t) ++ [10] = trT ss t := by
  unfold trL trT
  rw [ren_app, ren_app, ren_app, ren_gd, ren_ops]
  simp [ren, reps, ttx, symT, sOn, sOnS, sArr]
theorem join_more (o : Ro) (l : List Ro) : Lib.join ((o :: l).map roT) [59, 32] = roT o ++ moreT l := by
  rw [List.map_cons, Lib.join_cons]
  have e : ∀ l : List Ro, Lib.joinTail [59, 32] (l.map roT) = moreT l := by
    intro l
    unfold Lib.joinTail moreT
    induction l with
    | nil => rfl
    | cons p l ih => rw [List.map_cons, List.map_cons, List.flatten_cons, List.flatMap_cons, ih]
  rw [e]
/-! ### As they are written -/
def stT (s : Bs) : Bs := (sStS ++ s) ++ [10]
theorem st_text (s : Bs) : ren [32] (stL s) ++ [10] = stT s := by simp [stL, stT, ren, reps, ttx, sState, sStS]
def drT (d : Dv) : Bs := (sDrS ++ d.name) ++ [10]
theorem dr_text (d : Dv) : ren [32] (drL d) ++ [10] = drT d := by simp [drL, drT, ren, reps, ttx, sDriver, sDrS]
def trsT (ss : List Bs) (l : List Tr) : Bs := l.flatMap (trT ss)
theorem unl_trs (ss : List Bs) (l : List Tr) : unl ((l.map (trL ss)).map (ren [32])) = trsT ss l := by
  unfold unl trsT
  induction l with
  | nil => rfl
  | cons t l ih => rw [List.map_cons, List.map_cons, List.flatMap_cons, List.flatMap_cons, ih, tr_text]
def oT (d : Dv) (i : Nat) : Bs := drT d ++ (List.range i).flatMap (fun i => stT (d.ss.getD i []) ++ trsT d.ss (ofS d i))
def iT (d : Dv) (i k : Nat) : Bs := (oT d i ++ stT (d.ss.getD i [])) ++ trsT d.ss ((ofS d i).take k)
def jT (d : Dv) (i k : Nat) : Bs := (oT d i ++ stT (d.ss.getD i [])) ++ trsT d.ss ((d.ts.take k).filter (fun t => decide (t.frm = (i : Int))))
theorem unl_app (a b : List Bs) : unl (a ++ b) = unl a ++ unl b := by simp [unl]
theorem unl_blk (d : Dv) (i : Nat) : unl ((blkL d i).map (ren [32])) = stT (d.ss.getD i []) ++ trsT d.ss (ofS d i) := by
  unfold blkL
  rw [List.map_cons]
  show unl ([_] ++ _) = _
  rw [unl_app, unl_trs, ← st_text]
  simp [unl]
theorem fmt_eq (d : Dv) : fmtM d = oT d d.ss.length := by
  unfold fmtM fmtLs oT
  rw [List.map_cons]
  show unl ([_] ++ _) = _
  rw [unl_app, ← dr_text]
  have e : unl (((List.range d.ss.length).flatMap (blkL d)).map (ren [32])) = (List.range d.ss.length).flatMap (fun i => stT (d.ss.getD i []) ++ trsT d.ss (ofS d i)) := by
    generalize List.range d.ss.length = R
    induction R with
    | nil => rfl
    | cons i R ih => rw [List.flatMap_cons, List.map_append, unl_app, unl_blk, ih, List.flatMap_cons]
  rw [e]
  simp [unl]
theorem oT_zero (d : Dv) : oT d 0 = drT d := by simp [oT]
theorem oT_succ (d : Dv) (i : Nat) : oT d (i + 1) = iT d i (ofS d i).length := by
  unfold oT iT
  rw [List.range_succ, List.flatMap_append, List.take_length]
  simp [oT]
theorem iT_zero (d : Dv) (i : Nat) : iT d i 0 = oT d i ++ stT (d.ss.getD i []) := by simp [iT, trsT]
theorem iT_succ {d : Dv} {i k : Nat} (h : k < (ofS d i).length) : iT d i (k + 1) = iT d i k ++ trT d.ss ((ofS d i).getD k tr0) := by
  unfold iT
  have e : (ofS d i).take (k + 1) = (ofS d i).take k ++ [(ofS d i).getD k tr0] := by
    rw [List.take_add_one, List.getD, List.getElem?_eq_getElem h]; rfl
  rw [e]
  simp [trsT]
theorem jT_zero (d : Dv) (i : Nat) : jT d i 0 = oT d i ++ stT (d.ss.getD i []) := by simp [jT, trsT]
theorem take_tr {ts : List Tr} {k : Nat} (h : k < ts.length) : ts.take (k + 1) = ts.take k ++ [ts.getD k tr0] := by
  rw [List.take_add_one, List.getD, List.getElem?_eq_getElem h]; rfl
theorem jT_yes {d : Dv} {i k : Nat} (h : k < d.ts.length) (hf : (d.ts.getD k tr0).frm = (i : Int)) : jT d i (k + 1) = jT d i k ++ trT d.ss (d.ts.getD k tr0) := by
  unfold jT
  rw [take_tr h, List.filter_append, List.filter_cons_of_pos (by exact decide_eq_true hf)]
  simp [trsT]
theorem jT_no {d : Dv} {i k : Nat} (h : k < d.ts.length) (hf : ¬ (d.ts.getD k tr0).frm = (i : Int)) : jT d i (k + 1) = jT d i k := by
  unfold jT
  rw [take_tr h, List.filter_append, List.filter_cons_of_neg (by simpa using hf)]
  simp [trsT]
theorem jT_end {d : Dv} {i k : Nat} (h : d.ts.length ≤ k) : jT d i k = oT d (i + 1) := by
  rw [oT_succ]
  unfold jT iT ofS
  rw [List.take_of_length_le h, List.take_length]
/-! ### Where the transitions of a state lie -/
theorem part {l : List Tr} (m : Int) (h : l.Pairwise (fun a b => a.frm ≤ b.frm)) : l = l.filter (fun t => decide (t.frm < m)) ++ l.filter (fun t => decide (m ≤ t.frm)) := by
  induction l with
  | nil => rfl
  | cons a l ih =>
    obtain ⟨h1, h2⟩ := List.pairwise_cons.1 h
    by_cases c : a.frm < m
    · rw [List.filter_cons_of_pos (by exact decide_eq_true c), List.filter_cons_of_neg (by simp; omega), List.cons_append, ← ih h2]
    · have hn : l.filter (fun t => decide (t.frm < m)) = [] := List.filter_eq_nil_iff.2 fun x hx => by have := h1 x hx; simp; omega
      have hf : l.filter (fun t => decide (m ≤ t.frm)) = l := List.filter_eq_self.2 fun x hx => by have := h1 x hx; simp; omega
      rw [List.filter_cons_of_neg (by simp; omega), List.filter_cons_of_pos (by exact decide_eq_true (by omega)), hn, hf]; rfl
theorem split3 {d : Dv} (h : OkD d) (i : Nat) : ∃ R, d.ts = (upTo d i ++ ofS d i) ++ R ∧ ∀ t ∈ R, (i : Int) + 1 ≤ t.frm := by
  refine ⟨d.ts.filter (fun t => decide (((i + 1 : Nat) : Int) ≤ t.frm)), ?_, fun t ht => ?_⟩
  · rw [← upTo_succ, upTo_filt h]
    exact part _ h.asc
  · have := of_decide_eq_true (List.mem_filter.1 ht).2
    omega
theorem nx_len {d : Dv} (h : OkD d) (i k : Nat) (hk : k ≤ (ofS d i).length) : (upTo d i).length + k ≤ d.ts.length := by
  obtain ⟨R, hR, _⟩ := split3 h i
  have := congrArg List.length hR
  simp only [List.length_append] at this
  omega
theorem nx_yes {d : Dv} (h : OkD d) {i k : Nat} (hk : k ≤ (ofS d i).length) (hn : (upTo d i).length + k < d.ts.length) (hf : (d.ts.getD ((upTo d i).length + k) tr0).frm = (i : Int)) :
    k < (ofS d i).length ∧ (ofS d i).getD k tr0 = d.ts.getD ((upTo d i).length + k) tr0 := by
  obtain ⟨R, hR, hR2⟩ := split3 h i
  have hlt : k < (ofS d i).length := by
    refine Decidable.byContradiction fun hc => ?_
    have hk2 : k = (ofS d i).length := by omega
    have hl := congrArg List.length hR
    simp only [List.length_append] at hl
    have hR0 : 0 < R.length := by omega
    have e : d.ts.getD ((upTo d i).length + k) tr0 = R.getD 0 tr0 := by
      rw [hR, List.getD, List.getElem?_append_right (by rw [List.length_append]; omega), List.length_append, hk2, Nat.sub_self]; rfl
    rw [e] at hf
    have := hR2 (R.getD 0 tr0) (by simp [List.getD, hR0])
    omega
  refine ⟨hlt, ?_⟩
  rw [hR, List.getD, List.getD, List.getElem?_append_left (by rw [List.length_append]; omega), List.getElem?_append_right (by omega), Nat.add_sub_cancel_left]
theorem nx_no {d : Dv} (h : OkD d) {i k : Nat} (hk : k ≤ (ofS d i).length) (hf : ¬ ((upTo d i).length + k < d.ts.length ∧ (d.ts.getD ((upTo d i).length + k) tr0).frm = (i : Int))) : k = (ofS d i).length := by
  refine Decidable.byContradiction fun hc => hf ?_
  have hlt : k < (ofS d i).length := by omega
  obtain ⟨R, hR, hR2⟩ := split3 h i
  have hl := congrArg List.length hR
  simp only [List.length_append] at hl
  refine ⟨by omega, ?_⟩
  have e : d.ts.getD ((upTo d i).length + k) tr0 = (ofS d i).getD k tr0 := by
    rw [hR, List.getD, List.getD, List.getElem?_append_left (by rw [List.length_append]; omega), List.getElem?_append_right (by omega), Nat.add_sub_cancel_left]
  rw [e]
  have hm : (ofS d i).getD k tr0 ∈ ofS d i := by simp [List.getD, hlt]
  exact of_decide_eq_true (List.mem_filter.1 hm).2
/-! ### Lengths -/
theorem dec_len {v : Int} (h : u64 v) : (dec v).length ≤ 20 := by
  unfold dec
  rw [Lib.decDigits_length]
  exact Lib.nDigits_le20 _ (by have := h.1; have := h.2; omega)
theorem gdT_len {g : Gd} (h : rgG g) : (gdT g).length ≤ 70 := by
  have h1 := dec_len h.1; have h2 := dec_len h.2.1; have h3 := dec_len h.2.2
  unfold gdT
  split
  · simp only [List.length_append, sIfS, sAmp, sEqS, List.length_cons, List.length_nil]; omega
  · simp
theorem roT_len {o : Ro} (h : rgO o) : (roT o).length ≤ 47 := by
  have h1 := dec_len h.1; have h2 := dec_len h.2
  unfold roT
  split <;> (simp only [List.length_append, sWrS, sRdS, List.length_cons, List.length_nil]; omega)
theorem moreT_len : ∀ {l : List Ro}, (∀ o ∈ l, rgO o) → (moreT l).length ≤ 49 * l.length
  | [], _ => by simp [moreT]
  | o :: l, h => by
    have ih := moreT_len (l := l) fun x hx => h x (List.mem_cons_of_mem _ hx)
    have h1 := roT_len (h o (List.mem_cons_self ..))
    unfold moreT at ih ⊢
    rw [List.flatMap_cons]
    simp only [List.length_append, List.length_cons, List.length_nil]; omega
theorem opsT_len {l : List Ro} (h : ∀ o ∈ l, rgO o) : (opsT l).length ≤ 49 * l.length := by
  cases l with
  | nil => simp [opsT]
  | cons o l =>
    have ih := moreT_len (l := l) fun x hx => h x (List.mem_cons_of_mem _ hx)
    have h1 := roT_len (h o (List.mem_cons_self ..))
    unfold opsT
    simp only [List.length_append, List.length_cons, List.length_nil]; omega
theorem nm_len {s : Bs} (h : isNm s = true) : s.length ≤ 32 := ((isNm_iff s).1 h).2.1
theorem trT_len {d : Dv} (h : OkD d) (hr : rgD d) {t : Tr} (ht : t ∈ d.ts) : (trT d.ss t).length ≤ 150 + 49 * t.ops.length := by
  have h1 := nm_len (tr_ok h ht).2.2.2.2.1
  have h2 := nm_len (tgt_nm h ht)
  have h3 := gdT_len (hr t ht).1
  have h4 := opsT_len (hr t ht).2
  unfold trT
  simp only [List.length_append, sOnS, sArr, List.length_cons, List.length_nil]; omega
theorem trsT_len {d : Dv} (h : OkD d) (hr : rgD d) {m : Nat} (hm : ∀ t ∈ d.ts, t.ops.length ≤ m) : ∀ {l : List Tr}, (∀ t ∈ l, t ∈ d.ts) → (trsT d.ss l).length ≤ (150 + 49 * m) * l.length
  | [], _ => by simp [trsT]
  | t :: l, hl => by
    have ih := trsT_len h hr hm (l := l) fun x hx => hl x (List.mem_cons_of_mem _ hx)
    have h1 := trT_len h hr (hl t (List.mem_cons_self ..))
    have h2 := hm t (hl t (List.mem_cons_self ..))
    have h3 : 49 * t.ops.length ≤ 49 * m := Nat.mul_le_mul_left _ h2
    unfold trsT at ih ⊢
    rw [List.flatMap_cons, List.length_append, List.length_cons, Nat.mul_succ]
    omega
theorem oT_len {d : Dv} (h : OkD d) (hr : rgD d) {m : Nat} (hm : ∀ t ∈ d.ts, t.ops.length ≤ m) : ∀ i, i ≤ d.ss.length → (oT d i).length ≤ 40 + 39 * i + (150 + 49 * m) * (upTo d i).length
  | 0, _ => by
    have := nm_len h.name
    rw [oT_zero]
    simp only [drT, List.length_append, sDrS, List.length_cons, List.length_nil, upTo, List.range_zero, List.flatMap_nil]; omega
  | i + 1, hi => by
    have ih := oT_len h hr hm i (by omega)
    have h1 := nm_len (h.nms i (by omega))
    have h2 := trsT_len h hr hm (l := ofS d i) fun t ht => (List.mem_filter.1 ht).1
    rw [oT_succ, upTo_succ]
    unfold iT
    rw [List.take_length]
    simp only [List.length_append, stT, sStS, List.length_cons, List.length_nil, Nat.mul_add]
    omega
theorem oT_len' {d : Dv} (h : OkD d) (hr : rgD d) {m : Nat} (hm : ∀ t ∈ d.ts, t.ops.length ≤ m) {i : Nat} (hi : i ≤ d.ss.length) : (oT d i).length ≤ 40 + 39 * d.ss.length + (150 + 49 * m) * d.ts.length := by
  have h1 := oT_len h hr hm i hi
  have h2 := nx_len h i 0 (Nat.zero_le _)
  have h3 : (150 + 49 * m) * (upTo d i).length ≤ (150 + 49 * m) * d.ts.length := Nat.mul_le_mul_left _ h2
  omega
theorem ops16 {d : Dv} (h : OkD d) : ∀ t ∈ d.ts, t.ops.length ≤ 16 := fun t ht => (tr_ok h ht).2.2.2.2.2.2.1
theorem oT_max {d : Dv} (h : OkD d) (hr : rgD d) {i : Nat} (hi : i ≤ d.ss.length) : (oT d i).length ≤ 130000 := by
  have h1 := oT_len' h hr (ops16 h) hi
  have h2 := h.few; have h3 := h.fewT
  have h4 : (150 + 49 * 16) * d.ts.length ≤ (150 + 49 * 16) * 128 := Nat.mul_le_mul_left _ h3
  omega
theorem iT_max {d : Dv} (h : OkD d) (hr : rgD d) {i k : Nat} (hi : i < d.ss.length) (hk : k ≤ (ofS d i).length) : (iT d i k).length ≤ 130000 := by
  have h0 := oT_max h hr (i := i + 1) hi
  rw [oT_succ] at h0
  refine Nat.le_trans ?_ h0
  unfold iT trsT
  rw [List.take_length]
  have e : (ofS d i).flatMap (trT d.ss) = ((ofS d i).take k).flatMap (trT d.ss) ++ ((ofS d i).drop k).flatMap (trT d.ss) := by
    rw [← List.flatMap_append, List.take_append_drop]
  rw [e]
  simp only [List.length_append]
  omega
theorem jT_max {d : Dv} (h : OkD d) (hr : rgD d) {i k : Nat} (hi : i < d.ss.length) : (jT d i k).length ≤ 130000 := by
  have h0 := oT_max h hr (i := i + 1) hi
  rw [oT_succ] at h0
  refine Nat.le_trans ?_ h0
  unfold iT trsT
  rw [List.take_length]
  unfold jT trsT
  have e : (ofS d i).flatMap (trT d.ss) = ((d.ts.take k).filter (fun t => decide (t.frm = (i : Int)))).flatMap (trT d.ss) ++ ((d.ts.drop k).filter (fun t => decide (t.frm = (i : Int)))).flatMap (trT d.ss) := by
    rw [← List.flatMap_append, ← List.filter_append, List.take_append_drop]; rfl
  rw [e]
  simp only [List.length_append]
  omega
theorem tr_max {d : Dv} (h : OkD d) (hr : rgD d) {t : Tr} (ht : t ∈ d.ts) : (trT d.ss t).length ≤ 1000 := by
  have h1 := trT_len h hr ht
  have h2 := ops16 h t ht
  omega
theorem some_ops (d : Dv) : ∀ t ∈ (someM d).ts, t.ops.length ≤ 4 := by
  have : ∀ (n : Nat) (l : List Tr) (f : Nat), ∀ t ∈ somF n f l, t.ops.length ≤ 4 := by
    intro n l
    induction l with
    | nil => intro f t ht; cases ht
    | cons a l ih =>
      intro f t ht
      rcases List.mem_cons.1 ht with rfl | ht
      · simp [someT]; omega
      · exact ih _ t ht
  exact this _ _ _
theorem some_len (d : Dv) (hr : rgD (someM d)) : (fmtM (someM d)).length ≤ 7300 := by
  have hk := ok_of (some_chk d)
  rw [fmt_eq]
  have h1 := oT_len' hk hr (some_ops d) (Nat.le_refl _)
  have h2 : (someM d).ss.length ≤ 6 := by
    show (nmL.take (somN d)).length ≤ 6
    rw [nm_take_len (somN_le d).2]; exact (somN_le d).2
  have h3 : (someM d).ts.length ≤ 20 := by
    show (somF (somN d) 0 (d.ts.take 20)).length ≤ 20
    rw [somF_len, List.length_take]; omega
  have h4 : (150 + 49 * 4) * (someM d).ts.length ≤ (150 + 49 * 4) * 20 := Nat.mul_le_mul_left _ h3
  omega
theorem some_rg {d : Dv} (hr : rgD d) : rgD (someM d) := by
  have hg : ∀ g, rgG g → rgG (gM g) := by
    intro g hg
    unfold gM
    split
    · have h1 := hg.2.1; have h2 := hg.2.2
      refine ⟨hg.1, ?_, ?_⟩
      · have e1 : g.mask.tmod 4 = g.mask % 4 := Int.tmod_eq_emod_of_nonneg h1.1
        show 0 ≤ g.mask.tmod 4 ∧ g.mask.tmod 4 < 18446744073709551616
        rw [e1]; omega
      · have e1 : g.val.tmod 4 = g.val % 4 := Int.tmod_eq_emod_of_nonneg h2.1
        show 0 ≤ g.val.tmod 4 ∧ g.val.tmod 4 < 18446744073709551616
        rw [e1]; omega
    · exact ⟨⟨by decide, by decide⟩, ⟨by decide, by decide⟩, ⟨by decide, by decide⟩⟩
  have ho : ∀ o, rgO o → rgO (oM o) := by
    intro o h
    unfold oM
    split
    · exact h
    · exact ⟨h.1, (by decide : (0 : Int) ≤ 0), (by decide : (0 : Int) < 18446744073709551616)⟩
  have : ∀ (n : Nat) (l : List Tr) (f : Nat), (∀ t ∈ l, rgT t) → ∀ t ∈ somF n f l, rgT t := by
    intro n l
    induction l with
    | nil => intro f _ t ht; cases ht
    | cons a l ih =>
      intro f hl t ht
      rcases List.mem_cons.1 ht with rfl | ht
      · have ha := hl a (List.mem_cons_self ..)
        refine ⟨hg _ ha.1, fun o hx => ?_⟩
        obtain ⟨o', ho', rfl⟩ := List.mem_map.1 hx
        exact ho _ (ha.2 _ (List.mem_of_mem_take ho'))
      · exact ih _ (fun x hx => hl x (List.mem_cons_of_mem _ hx)) t ht
  exact this _ _ _ fun t ht => hr t (List.mem_of_mem_take ht)
theorem pad_len {note sp : Bs} (hn : note.length ≤ 60) (hs : sp.length ≤ 2) : ∀ s : Bs, (s.flatMap (padC note sp)).length ≤ 70 * s.length
  | [] => by simp
  | c :: s => by
    have ih := pad_len hn hs s
    have h1 : (padC note sp c).length ≤ 70 := by
      unfold padC
      split
      · simp only [List.length_append, List.length_cons, List.length_nil]; omega
      · split
        · omega
        · simp
    rw [List.flatMap_cons, List.length_append, List.length_cons]; omega
end Go.Drv
