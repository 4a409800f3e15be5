/-
  Texts joined: Dm22, Dm23, Dm24, Dm25, Dm26.
-/
import Derived.Test.YtplmfekhdaefaaaGreatDoorDmA
import Derived.Laws.BytesArg
set_option linter.unusedSimpArgs false
set_option linter.unusedVariables false
namespace Go.Drv
open Go.Sv
theorem wU8 {x : Int} (h1 : 0 ≤ x) (h2 : x ≤ 255) : IntKind.u8.wrap x = x := by
  rw [IntKind.wrap_u8]; omega
def numR (s : Bs) : Nat × Bool := if numW s = true ∧ valD 0 s < 18446744073709551616 then (valD 0 s, true) else (0, false)
theorem numR_t {s : Bs} (h : (numR s).2 = true) : (numW s = true ∧ valD 0 s < 18446744073709551616) ∧ (numR s).1 = valD 0 s := by
  unfold numR at h ⊢
  split at h
  · rename_i hc; exact ⟨hc, by rw [if_pos hc]⟩
  · cases h
theorem numR_f {s : Bs} (h : (numR s).2 = false) : ¬ (numW s = true ∧ valD 0 s < 18446744073709551616) := by
  unfold numR at h
  split at h
  · cases h
  · rename_i hc; exact hc
theorem numR_no {s : Bs} (h : ¬ (numW s = true ∧ valD 0 s < 18446744073709551616)) : numR s = (0, false) := if_neg h
theorem numR_yes {s : Bs} (h : numW s = true) (h2 : valD 0 s < 18446744073709551616) : numR s = (valD 0 s, true) := if_pos ⟨h, h2⟩
theorem valD_app (n : Nat) (a b : Bs) : valD n (a ++ b) = valD (valD n a) b := by unfold valD; rw [List.foldl_append]
theorem takeB {s : Bs} {j : Nat} (h : j < s.length) : s.take (j + 1) = s.take j ++ [s.getD j 0] := by
  rw [List.take_add_one]
  simp [List.getD, List.getElem?_eq_getElem h]
theorem val_next {s : Bs} {j : Nat} (h : j < s.length) (hd : 48 ≤ (s.getD j 0).toNat) : ((valD 0 (s.take (j + 1)) : Nat) : Int) = 10 * ((valD 0 (s.take j) : Nat) : Int) + (((s.getD j 0).toNat : Int) - 48) := by
  rw [takeB h, valD_app]
  show ((10 * valD 0 (s.take j) + ((s.getD j 0).toNat - 48) : Nat) : Int) = _
  omega
theorem val_le (s : Bs) (j : Nat) : valD 0 (s.take j) ≤ valD 0 s := by
  have h : s = s.take j ++ s.drop j := (List.take_append_drop j s).symm
  have h2 : valD 0 s = valD (valD 0 (s.take j)) (s.drop j) := by
    rw [← valD_app, ← h]
  rw [h2]; exact valD_ge _ _
theorem valD_pow (l : Bs) : ∀ n : Nat, n * 10 ^ l.length ≤ valD n l := by
  induction l with
  | nil => intro n; simp [valD]
  | cons c r ih =>
    intro n
    have := ih (10 * n + (c.toNat - 48))
    rw [valD_cons, List.length_cons, Nat.pow_succ]
    refine Nat.le_trans ?_ this
    rw [Nat.mul_comm (10 ^ r.length) 10, ← Nat.mul_assoc]
    refine Nat.mul_le_mul_right _ ?_
    omega
theorem num_long {s : Bs} (h : 20 < s.length) : ¬ (numW s = true ∧ valD 0 s < 18446744073709551616) := by
  rintro ⟨h1, h2⟩
  obtain ⟨h3, h4, h5⟩ := (numW_iff s).1 h1
  cases s with
  | nil => exact h3 rfl
  | cons c r =>
    have hl : 20 ≤ r.length := by rw [List.length_cons] at h; omega
    have hc : digB c = true := h5 0 (by simp)
    have hc2 : 48 ≤ c.toNat ∧ c.toNat ≤ 57 := of_decide_eq_true hc
    have hne : c ≠ 48 := by
      rcases h4 with h4 | h4
      · rw [List.length_cons] at h4; omega
      · exact h4
    have hne2 : c.toNat ≠ 48 := fun e => hne (UInt8.toNat_inj.1 e)
    have hv := valD_pow r (10 * 0 + (c.toNat - 48))
    rw [← valD_cons] at hv
    have hp : 10 ^ 20 ≤ 10 ^ r.length := Nat.pow_le_pow_right (by decide) hl
    have h6 : 1 * 10 ^ r.length ≤ (10 * 0 + (c.toNat - 48)) * 10 ^ r.length := Nat.mul_le_mul_right _ (by omega)
    have h7 : (10 : Nat) ^ 20 = 100000000000000000000 := by decide
    omega
theorem num_zero {s : Bs} (h : 1 < s.length) (h0 : s.getD 0 0 = 48) : ¬ (numW s = true ∧ valD 0 s < 18446744073709551616) := by
  rintro ⟨h1, _⟩
  rcases ((numW_iff s).1 h1).2.1 with h2 | h2
  · omega
  · exact h2 h0
theorem num_dig {s : Bs} {j : Nat} (h : j < s.length) (hd : digB (s.getD j 0) = false) : ¬ (numW s = true ∧ valD 0 s < 18446744073709551616) := by
  rintro ⟨h1, _⟩
  have := ((numW_iff s).1 h1).2.2 j h
  rw [hd] at this; cases this
theorem num_nm {s : Bs} (h : numW s = true) : isNm s = false := by
  obtain ⟨h3, _, h5⟩ := (numW_iff s).1 h
  exact isNm_f3 (h5 0 (List.length_pos_iff.2 h3))
def rkind : MT → Int
  | .nm _ => 110
  | .num _ => 100
  | .sym n => n
def rtext : MT → Bs
  | .nm t => t
  | _ => []
def rtokC (t : MT) : List Value := [.int .u8 (rkind t), .string (bs (rtext t)), .int .u64 (tnum t)]
def rtokK : Enc MT where
  f := rtokC
  sz := 3
  d := .num 0
  len t := rfl
  pos := by decide
  one t v hv := by simp [rtokC] at hv; rcases hv with rfl | rfl | rfl <;> rfl
/-! ### Up to the comment -/
theorem cut_split (s : Bs) : ∃ r : Bs, s = cutH s ++ r ∧ (r = [] ∨ r.getD 0 0 = 35) := by
  refine ⟨s.dropWhile (fun c => decide (c ≠ 35)), (List.takeWhile_append_dropWhile).symm, ?_⟩
  induction s with
  | nil => exact .inl rfl
  | cons c r ih =>
    by_cases hc : c = 35
    · right; subst hc; rfl
    · rw [List.dropWhile_cons, if_pos (decide_eq_true hc)]; exact ih
theorem cut_ne (s : Bs) : ∀ x ∈ cutH s, x ≠ 35 := fun x hx => by
  unfold cutH at hx
  induction s with
  | nil => cases hx
  | cons c r ih =>
    rw [List.takeWhile_cons] at hx
    split at hx
    · rename_i hc
      rcases List.mem_cons.1 hx with rfl | h
      · exact of_decide_eq_true hc
      · exact ih h
    · cases hx
theorem cut_get {s : Bs} {i : Nat} (hi : i < (cutH s).length) : (cutH s).getD i 0 = s.getD i 0 := by
  obtain ⟨r, hs, _⟩ := cut_split s
  have h2 : s.getD i 0 = (cutH s ++ r).getD i 0 := by rw [← hs]
  rw [h2]
  simp [List.getD, List.getElem?_append_left hi]
theorem cut_le (s : Bs) : (cutH s).length ≤ s.length := (List.takeWhile_sublist _).length_le
theorem cut_at {s : Bs} (h : (cutH s).length < s.length) : s.getD (cutH s).length 0 = 35 := by
  obtain ⟨r, hs, hr⟩ := cut_split s
  have h2 : s.getD (cutH s).length 0 = (cutH s ++ r).getD (cutH s).length 0 := by rw [← hs]
  rcases hr with rfl | hr
  · rw [List.append_nil] at hs
    rw [← hs] at h; omega
  · rw [h2]
    simp only [List.getD, List.getElem?_append_right (Nat.le_refl _), Nat.sub_self]
    exact hr
theorem cut_lt {s : Bs} {i : Nat} (hi : i ≤ (cutH s).length) (h1 : i < s.length) (h2 : ¬ ((s.getD i 0).toNat : Int) = 35) : i < (cutH s).length := by
  rcases Nat.lt_or_ge i (cutH s).length with h | h
  · exact h
  · obtain rfl : i = (cutH s).length := by omega
    exfalso; apply h2; rw [cut_at h1]; rfl
theorem cut_end1 {s : Bs} {i : Nat} (hi : i ≤ (cutH s).length) (h : ¬ i < s.length) : i = (cutH s).length := by
  have := cut_le s; omega
theorem cut_end2 {s : Bs} {i : Nat} (hi : i ≤ (cutH s).length) (h : ((s.getD i 0).toNat : Int) = 35) : i = (cutH s).length := by
  rcases Nat.lt_or_ge i (cutH s).length with h2 | h2
  · exfalso
    have h3 : (cutH s).getD i 0 ∈ cutH s := by simp [List.getD, h2]
    refine cut_ne s _ h3 ?_
    rw [cut_get h2]
    exact UInt8.toNat_inj.1 (show (s.getD i 0).toNat = 35 by omega)
  · omega
theorem wrd_cases {c : UInt8} (h : wrdB c = true) : (97 ≤ c.toNat ∧ c.toNat ≤ 122) ∨ (65 ≤ c.toNat ∧ c.toNat ≤ 90) ∨ c.toNat = 95 ∨ (48 ≤ c.toNat ∧ c.toNat ≤ 57) := by
  unfold wrdB at h
  rw [Bool.or_eq_true] at h
  rcases h with h | h
  · have := of_decide_eq_true h; omega
  · have := of_decide_eq_true h; omega
theorem wrd_sp {c : UInt8} (h : wrdB c = true) : spB c = false := decide_eq_false fun k => by
  have := wrd_cases h
  rcases k with rfl | rfl <;> simp at this
theorem wrd_sym {c : UInt8} (h : wrdB c = true) : symB c = false := decide_eq_false fun k => by
  have := wrd_cases h
  rcases k with rfl | rfl | rfl | rfl <;> simp at this
theorem wrd_35 {c : UInt8} (h : wrdB c = true) : ¬ (c.toNat : Int) = 35 := by
  have := wrd_cases h; omega
theorem cut_stop {s : Bs} {e : Nat} (he : e ≤ (cutH s).length) (h : ¬ e < s.length ∨ wrdB (s.getD e 0) = false) : e = (cutH s).length ∨ wrdB ((cutH s).getD e 0) = false := by
  rcases Nat.lt_or_ge e (cutH s).length with h2 | h2
  · right
    rw [cut_get h2]
    rcases h with h | h
    · have := cut_le s; omega
    · exact h
  · left; omega
theorem cut_take {s : Bs} {e : Nat} (he : e ≤ (cutH s).length) : (cutH s).take e = s.take e := by
  obtain ⟨r, hs, _⟩ := cut_split s
  have h2 : s.take e = (cutH s ++ r).take e := by rw [← hs]
  rw [h2, List.take_append_of_le_length he]
theorem arr_t {s : Bs} {i : Nat} (hi : i < (cutH s).length) (h1 : ((s.getD i 0).toNat : Int) = 45) (h2 : i + 1 < s.length) (h3 : ((s.getD (i + 1) 0).toNat : Int) = 62) : 2 ≤ ((cutH s).drop i).length ∧ ((cutH s).drop i).take 2 = [45, 62] := by
  have h4 : i + 1 < (cutH s).length := cut_lt hi h2 (by omega)
  refine ⟨by rw [List.length_drop]; omega, ?_⟩
  rw [drop_cons hi, drop_cons h4, cut_get hi, cut_get h4, UInt8.toNat_inj.1 (show (s.getD i 0).toNat = (45 : UInt8).toNat by show _ = 45; omega), UInt8.toNat_inj.1 (show (s.getD (i + 1) 0).toNat = (62 : UInt8).toNat by show _ = 62; omega)]; rfl
theorem arr_f {s : Bs} {i : Nat} (hi : i < (cutH s).length) (h : ¬ ((s.getD i 0).toNat : Int) = 45 ∨ ¬ i + 1 < s.length ∨ ¬ ((s.getD (i + 1) 0).toNat : Int) = 62) : ¬ (2 ≤ ((cutH s).drop i).length ∧ ((cutH s).drop i).take 2 = [45, 62]) := by
  rintro ⟨h1, h2⟩
  rw [List.length_drop] at h1
  have h4 : i + 1 < (cutH s).length := by omega
  rw [drop_cons hi, drop_cons h4, cut_get hi, cut_get h4] at h2
  simp only [List.take_succ_cons, List.take_zero, List.cons.injEq] at h2
  have := cut_le s
  rcases h with h | h | h
  · rw [h2.1] at h; exact h rfl
  · omega
  · rw [h2.2.1] at h; exact h rfl
theorem tk_bad {s : Bs} {i : Nat} {ts : List MT} (h : Rd (cutH s) i ts) (hi : i < (cutH s).length) (h0 : spB (s.getD i 0) = false) (h1 : symB (s.getD i 0) = false) (h2 : ¬ (2 ≤ ((cutH s).drop i).length ∧ ((cutH s).drop i).take 2 = [45, 62])) (h3 : wrdB (s.getD i 0) = false) : tk (cutH s) = none := by
  rw [← cut_get hi] at h0 h1 h3
  refine (h.word hi h0 h1 h2 (Nat.le_refl _) (by omega) (fun k a b => by omega) (.inr h3)).1 ?_
  rw [List.drop_of_length_le (by rw [List.length_take]; omega)]; rfl
theorem tk_wrd {s : Bs} {i e : Nat} {ts : List MT} (h : Rd (cutH s) i ts) (hi : i < (cutH s).length) (hw : wrdB (s.getD i 0) = true) (g1 : i ≤ e) (g2 : e ≤ (cutH s).length) (g3 : ∀ k, i ≤ k → k < e → wrdB (s.getD k 0) = true) (g4 : ¬ e < s.length ∨ wrdB (s.getD e 0) = false) :
    (wordTok ((s.take e).drop i) = none → tk (cutH s) = none) ∧ ∀ t, wordTok ((s.take e).drop i) = some t → i < e ∧ Rd (cutH s) e (ts ++ [t]) := by
  have hw2 := hw
  rw [← cut_get hi] at hw2
  have := h.word hi (wrd_sp hw2) (wrd_sym hw2) (arr_f hi (.inl (by have := wrd_cases hw; omega))) g1 g2 (fun k a b => by rw [cut_get (by omega)]; exact g3 k a b) (cut_stop g2 g4)
  rw [cut_take g2] at this
  exact this
end Go.Drv
set_option linter.unusedSimpArgs false
set_option linter.unusedVariables false
namespace Go.Drv
open Go.Sv
section
variable {P : Program} {N : NN} {E : Env} {S : World → Prop} {d : Option Nat} {ty : TypeId} {pos : String} {af : Array Edge} {g : Option (Nat × Bool)} {x : Operand}
theorem Step.convBS {src dst e : TypeId} {A : Option Addr} {n c : Nat} {xs : List Int} (hs : P.underlying src = some (.slice e)) (he : P.underlying e = some (.int .u8)) (hd : P.underlying dst = some .string) (hx : ev E x = some (.slice A n c)) (hr : ∀ w, S w → RS w (intK .u8) A xs) (hn : n = xs.length) (h0 : 0 < xs.length) :
    Step P N E S ⟨d, .convert src dst x, ty, pos, af, g⟩ (.string (bs (xs.map fun n => UInt8.ofNat n.toNat))) := fun a w hf hw => by
  have h1 := hr w hw
  have hA := h1.form h0
  have h2 := run_convert_bytes_arg (P := P) w src e hs he (bk A) (of A) n c xs hn.symm (fun i hi => by
    have := h1.cell (m := i) (j := 0) (by omega) (v := .int .u8 (xs.getD i 0)) rfl
    have e : of A + i * (intK .u8).sz + 0 = of A + i := by show of A + i * 1 + 0 = _; omega
    rw [e] at this; exact this) dst hd
  rw [← hA] at h2
  simp only [execOp, hf.ev hx, Sem.run_bind, h2, Result.andThen_ok, Sem.run_pure]
  rfl
end
def kB (t : MT) : UInt8 := UInt8.ofNat (rkind t).toNat
theorem kB_sym {n : Nat} (h : okN n) : kB (.sym n) = UInt8.ofNat n := by
  unfold kB rkind; rfl
theorem kB_n {t : MT} (ht : tkOk t) (h : kB t = 110) : t = .nm (rtext t) := by
  cases t with
  | nm s => rfl
  | num v => exact absurd h (by show UInt8.ofNat 100 ≠ 110; decide)
  | sym n =>
    have hn : okN n := ht
    rw [kB_sym hn] at h
    rcases hn with rfl | rfl | rfl | rfl | rfl <;> exact absurd h (by decide)
theorem kB_d {t : MT} (ht : tkOk t) (h : kB t = 100) : t = .num (tnum t) := by
  cases t with
  | nm s => exact absurd h (by show UInt8.ofNat 110 ≠ 100; decide)
  | num v => rfl
  | sym n =>
    have hn : okN n := ht
    rw [kB_sym hn] at h
    rcases hn with rfl | rfl | rfl | rfl | rfl <;> exact absurd h (by decide)
theorem kB_s {t : MT} {c : Nat} (ht : tkOk t) (hc : okN c) (h : kB t = UInt8.ofNat c) : t = .sym c := by
  cases t with
  | nm s =>
    have h2 : UInt8.ofNat 110 = UInt8.ofNat c := h
    rcases hc with rfl | rfl | rfl | rfl | rfl <;> exact absurd h2 (by decide)
  | num v =>
    have h2 : UInt8.ofNat 100 = UInt8.ofNat c := h
    rcases hc with rfl | rfl | rfl | rfl | rfl <;> exact absurd h2 (by decide)
  | sym n =>
    have hn : okN n := ht
    rw [kB_sym hn] at h
    rcases hn with rfl | rfl | rfl | rfl | rfl <;> rcases hc with rfl | rfl | rfl | rfl | rfl <;> first | rfl | exact absurd h (by decide)
theorem rk_s {t : MT} {c : Nat} (ht : tkOk t) (hc : okN c) (h : rkind t = c) : t = .sym c := by
  cases t with
  | nm s => have h2 : (110 : Int) = c := h; rcases hc with rfl | rfl | rfl | rfl | rfl <;> omega
  | num v => have h2 : (100 : Int) = c := h; rcases hc with rfl | rfl | rfl | rfl | rfl <;> omega
  | sym n => have h2 : (n : Int) = c := h; rw [show n = c by omega]
abbrev tA (l : List MT) (i : Nat) : MT := l.getD i rtokK.d
theorem tA_cons {l : List MT} {i : Nat} (h : i < l.length) : l.drop i = tA l i :: l.drop (i + 1) := by
  rw [List.drop_eq_getElem_cons h]
  simp [tA, List.getD, List.getElem?_eq_getElem h]
theorem tA_ok {l : List MT} (ht : ∀ x ∈ l, tkOk x) {i : Nat} (h : i < l.length) : tkOk (tA l i) := ht _ (by simp [tA, List.getD, h])
def kds (l : List MT) (n : Nat) : Bs := (l.take n).map kB
theorem take_tA {l : List MT} {j : Nat} (h : j < l.length) : l.take (j + 1) = l.take j ++ [tA l j] := by
  rw [List.take_add_one]
  simp [tA, List.getD, List.getElem?_eq_getElem h]
theorem kds_s {l : List MT} {j : Nat} (h : j < l.length) : kds l (j + 1) = kds l j ++ [kB (tA l j)] := by
  unfold kds
  rw [take_tA h, List.map_append]; rfl
theorem kds_at {l : List MT} {n : Nat} {k : Bs} (h : kds l n = k) (hn : n ≤ l.length) : ∀ i, i < n → kB (tA l i) = k.getD i 0 := fun i hi => by
  rw [← h]
  unfold kds tA
  simp [List.getD, List.getElem?_map, List.getElem?_take, hi, List.getElem?_eq_getElem (show i < l.length by omega)]
/-! ### Operations -/
def tlM (c : Nat) : List MT → Option (List Ro)
  | [] => some []
  | .sym d :: r => if d = c then opsM (r.length + 1) r else none
  | _ => none
theorem tl_58 (l : List MT) : tlM 58 l = tailM l := by
  unfold tlM tailM
  split
  · rfl
  · rename_i d r
    split
    · rename_i h; subst h; rfl
    · rename_i h
      split
      · rename_i h2; cases h2
      · rename_i h2; cases h2; exact absurd rfl h
      · rfl
  · rename_i h1 h2
    split
    · exact absurd rfl h1
    · exact absurd rfl (h2 _ _)
    · rfl
theorem opM_len {l : List MT} {o : Ro} {r : List MT} (h : opM l = some (o, r)) : r.length + 2 ≤ l.length := by
  unfold opM at h
  split at h
  · rename_i k a r0
    split at h
    · split at h
      · cases h; simp only [List.length_cons]; omega
      · cases h
    · split at h
      · cases h; simp only [List.length_cons]; omega
      · cases h
  · cases h
theorem m59 {n f : Nat} (hn : n ≠ 59) (o : Ro) (r3 : List MT) : (match some (o, MT.sym n :: r3) with
    | none => none
    | some (o, []) => some [o]
    | some (o, .sym 59 :: r) => (opsM f r).map (fun x => o :: x)
    | some _ => none) = (none : Option (List Ro)) := by
  split
  · rename_i h; cases h
  · rename_i h; cases h
  · rename_i h; cases h; exact absurd rfl hn
  · rfl
theorem ops_fuel : ∀ (n m : Nat) (l : List MT), l.length < n → l.length < m → opsM n l = opsM m l := by
  intro n
  induction n with
  | zero => intro m l h; omega
  | succ n ih =>
    intro m l hn hm
    obtain ⟨k, rfl⟩ : ∃ k, m = k + 1 := ⟨m - 1, by omega⟩
    rw [opsM_succ, opsM_succ]
    cases ho : opM l with
    | none => rfl
    | some p =>
      obtain ⟨o, r⟩ := p
      have hl := opM_len ho
      cases r with
      | nil => rfl
      | cons t r3 =>
        cases t with
        | nm s => rfl
        | num v => rfl
        | sym q =>
          by_cases hq : q = 59
          · subst hq
            show (opsM n r3).map _ = (opsM k r3).map _
            simp only [List.length_cons] at hl
            rw [ih k r3 (by omega) (by omega)]
          · exact (m59 (f := n) hq o r3).trans (m59 (f := k) hq o r3).symm
theorem tl_op {c : Nat} {r : List MT} : tlM c (.sym c :: r) = match opM r with
    | none => none
    | some (o, r2) => (tlM 59 r2).map (fun x => o :: x) := by
  show (if c = c then opsM (r.length + 1) r else none) = _
  rw [if_pos rfl, opsM_succ]
  cases ho : opM r with
  | none => rfl
  | some p =>
    obtain ⟨o, r2⟩ := p
    have hl := opM_len ho
    cases r2 with
    | nil => rfl
    | cons t r3 =>
      cases t with
      | nm s => rfl
      | num v => rfl
      | sym n =>
        by_cases hn : n = 59
        · subst hn
          show (opsM r.length r3).map _ = (if 59 = 59 then opsM (r3.length + 1) r3 else none).map _
          rw [if_pos rfl]
          simp only [List.length_cons] at hl
          rw [ops_fuel r.length (r3.length + 1) r3 (by omega) (by omega)]
        · show _ = (if n = 59 then opsM (r3.length + 1) r3 else none).map _
          rw [if_neg hn]
          exact m59 (f := r.length) hn o r3
theorem tl_no {c : Nat} {l : List MT} (hl : 0 < l.length) (h : ¬ rkind (tA l 0) = c) : tlM c l = none := by
  cases l with
  | nil => simp at hl
  | cons t r =>
    cases t with
    | nm s => rfl
    | num v => rfl
    | sym n =>
      show (if n = c then _ else none) = none
      rw [if_neg]
      intro e; exact h (by show (n : Int) = c; omega)
theorem rt_nm {t : MT} (h : rtext t ≠ []) : t = .nm (rtext t) := by
  cases t with
  | nm s => rfl
  | num v => exact absurd rfl h
  | sym n => exact absurd rfl h
theorem drop0 (l : List MT) : l = l.drop 0 := rfl
theorem op_wr {R : List MT} (ht : ∀ x ∈ R, tkOk x) (h1 : 3 ≤ R.length) (h2 : kds R 3 = [110, 100, 100]) (h3 : rtext (tA R 0) = [119, 114, 105, 116, 101]) : opM R = some (⟨true, tnum (tA R 1), tnum (tA R 2)⟩, R.drop 3) := by
  have k := kds_at h2 h1
  have e0 := kB_n (tA_ok ht (show 0 < R.length by omega)) (k 0 (by decide))
  have e1 := kB_d (tA_ok ht (show 1 < R.length by omega)) (k 1 (by decide))
  have e2 := kB_d (tA_ok ht (show 2 < R.length by omega)) (k 2 (by decide))
  have e : R = tA R 0 :: tA R 1 :: tA R 2 :: R.drop 3 := by
    have a0 := tA_cons (show 0 < R.length by omega)
    rw [tA_cons (show 0 + 1 < R.length by omega), tA_cons (show 0 + 1 + 1 < R.length by omega)] at a0
    exact a0
  rw [e0, h3, e1, e2] at e
  generalize tnum (tA R 1) = a at e ⊢
  generalize tnum (tA R 2) = b at e ⊢
  generalize R.drop 3 = D at e ⊢
  rw [e]
  rfl
theorem op_rd {R : List MT} (ht : ∀ x ∈ R, tkOk x) (h1 : 2 ≤ R.length) (h2 : kds R 2 = [110, 100]) (h3 : rtext (tA R 0) = [114, 101, 97, 100]) : opM R = some (⟨false, tnum (tA R 1), 0⟩, R.drop 2) := by
  have k := kds_at h2 h1
  have e0 := kB_n (tA_ok ht (show 0 < R.length by omega)) (k 0 (by decide))
  have e1 := kB_d (tA_ok ht (show 1 < R.length by omega)) (k 1 (by decide))
  have e : R = tA R 0 :: tA R 1 :: R.drop 2 := by
    have a0 := tA_cons (show 0 < R.length by omega)
    rw [tA_cons (show 0 + 1 < R.length by omega)] at a0
    exact a0
  rw [e0, h3, e1] at e
  generalize tnum (tA R 1) = a at e ⊢
  generalize R.drop 2 = D at e ⊢
  rw [e]
  rfl
theorem op_bad {R : List MT} (h1 : ¬ (3 ≤ R.length ∧ kds R 3 = [110, 100, 100] ∧ rtext (tA R 0) = [119, 114, 105, 116, 101])) (h2 : ¬ (2 ≤ R.length ∧ kds R 2 = [110, 100] ∧ rtext (tA R 0) = [114, 101, 97, 100])) : opM R = none := by
  cases ho : opM R with
  | none => rfl
  | some p =>
    exfalso
    unfold opM at ho
    split at ho
    · rename_i k a r0
      split at ho
      · rename_i hk
        split at ho
        · refine h1 ⟨by simp, rfl, hk⟩
        · cases ho
      · split at ho
        · rename_i hk; exact h2 ⟨by simp, rfl, hk⟩
        · cases ho
    · cases ho
end Go.Drv
set_option linter.unusedSimpArgs false
set_option linter.unusedVariables false
namespace Go.Drv
open Go.Sv
structure LH where
  h : TH
  to : Bs
def lnK : Enc LH where
  f x := [.int .i64 x.h.t.frm, .string (bs x.h.t.ev), .bool x.h.t.gd.used, .int .u64 x.h.t.gd.reg, .int .u64 x.h.t.gd.mask, .int .u64 x.h.t.gd.val, .slice x.h.A x.h.t.ops.length x.h.c, .int .i64 x.h.t.to, .string (bs x.to)]
  sz := 9
  d := ⟨thD, []⟩
  len _ := rfl
  pos := by decide
  one r v hv := by simp at hv; rcases hv with rfl | rfl | rfl | rfl | rfl | rfl | rfl | rfl | rfl <;> rfl
theorem on_no {e : Bs} {R : List MT} (h : ¬ (6 < R.length ∧ kds R 6 = [110, 100, 38, 100, 61, 100] ∧ rtext (tA R 0) = [105, 102])) : onM (.nm e :: R) = onT e gd0 R := by
  rw [onM_eq]
  cases hG : gdM R with
  | none =>
    show none = _
    unfold gdM at hG
    split at hG
    · rfl
    · rfl
    · cases hG
  | some p =>
    obtain ⟨g, r⟩ := p
    show onT e g r = onT e gd0 R
    unfold gdM at hG
    split at hG
    · rename_i i a m v r0
      split at hG
      · rename_i hi
        cases hG
        cases r with
        | nil => rfl
        | cons x r =>
          exfalso
          exact h ⟨by simp only [List.length_cons]; omega, rfl, hi⟩
      · cases hG
    · cases hG
    · cases hG; rfl
theorem on_yes {e : Bs} {R : List MT} (ht : ∀ x ∈ R, tkOk x) (h1 : 6 < R.length) (h2 : kds R 6 = [110, 100, 38, 100, 61, 100]) (h3 : rtext (tA R 0) = [105, 102]) : onM (.nm e :: R) = onT e ⟨true, tnum (tA R 1), tnum (tA R 3), tnum (tA R 5)⟩ (R.drop 6) := by
  have k := kds_at h2 (by omega)
  have e0 := kB_n (tA_ok ht (show 0 < R.length by omega)) (k 0 (by decide))
  have e1 := kB_d (tA_ok ht (show 1 < R.length by omega)) (k 1 (by decide))
  have e2 := kB_s (c := 38) (tA_ok ht (show 2 < R.length by omega)) (.inr (.inr (.inl rfl))) (k 2 (by decide))
  have e3 := kB_d (tA_ok ht (show 3 < R.length by omega)) (k 3 (by decide))
  have e4 := kB_s (c := 61) (tA_ok ht (show 4 < R.length by omega)) (.inr (.inr (.inr (.inl rfl)))) (k 4 (by decide))
  have e5 := kB_d (tA_ok ht (show 5 < R.length by omega)) (k 5 (by decide))
  have ee : R = tA R 0 :: tA R 1 :: tA R 2 :: tA R 3 :: tA R 4 :: tA R 5 :: R.drop 6 := by
    have a0 := tA_cons (show 0 < R.length by omega)
    rw [tA_cons (show 0 + 1 < R.length by omega), tA_cons (show 0 + 1 + 1 < R.length by omega), tA_cons (show 0 + 1 + 1 + 1 < R.length by omega), tA_cons (show 0 + 1 + 1 + 1 + 1 < R.length by omega), tA_cons (show 0 + 1 + 1 + 1 + 1 + 1 < R.length by omega)] at a0
    exact a0
  rw [e0, h3, e1, e2, e3, e4, e5] at ee
  generalize tnum (tA R 1) = a at ee ⊢
  generalize tnum (tA R 3) = b at ee ⊢
  generalize tnum (tA R 5) = c at ee ⊢
  generalize R.drop 6 = D at ee ⊢
  rw [ee, onM_eq]
  rfl
theorem onT_bad {e : Bs} {g : Gd} {R : List MT} (h : ¬ (2 ≤ R.length ∧ kds R 2 = [62, 110])) : onT e g R = none := by
  cases ho : onT e g R with
  | none => rfl
  | some x =>
    exfalso
    unfold onT at ho
    split at ho
    · exact h ⟨by simp only [List.length_cons]; omega, rfl⟩
    · cases ho
theorem onT_ok {e : Bs} {g : Gd} {R : List MT} (ht : ∀ x ∈ R, tkOk x) (h1 : 2 ≤ R.length) (h2 : kds R 2 = [62, 110]) : onT e g R = (tailM (R.drop 2)).map (onR e g (rtext (tA R 1))) := by
  have k := kds_at h2 h1
  have e0 := kB_s (c := 62) (tA_ok ht (show 0 < R.length by omega)) (.inr (.inr (.inr (.inr rfl)))) (k 0 (by decide))
  have e1 := kB_n (tA_ok ht (show 1 < R.length by omega)) (k 1 (by decide))
  have ee : R = tA R 0 :: tA R 1 :: R.drop 2 := by
    have a0 := tA_cons (show 0 < R.length by omega)
    rw [tA_cons (show 0 + 1 < R.length by omega)] at a0
    exact a0
  rw [e0, e1] at ee
  generalize rtext (tA R 1) = t at ee ⊢
  generalize R.drop 2 = D at ee ⊢
  rw [ee]
  rfl
theorem on_short {R : List MT} (h : R.length < 3) : onM R = none := by
  cases ho : onM R with
  | none => rfl
  | some x =>
    exfalso
    cases R with
    | nil => cases ho
    | cons t r =>
      cases t with
      | nm e =>
        have h2 := on_no (e := e) (R := r) (fun k => by have := k.1; simp only [List.length_cons] at h; omega)
        rw [ho] at h2
        rw [onT_bad (fun k => by have := k.1; simp only [List.length_cons] at h; omega)] at h2
        cases h2
      | num v => cases ho
      | sym n => cases ho
theorem on_head {R : List MT} (h : ¬ ∃ e r, R = .nm e :: r) : onM R = none := by
  cases R with
  | nil => rfl
  | cons t r =>
    cases t with
    | nm e => exact absurd ⟨e, r, rfl⟩ h
    | num v => rfl
    | sym n => rfl
/-- Where the reference's transition stands. -/
structure OnG (w : World) (ts : List MT) (e : Bs) where
  g : Gd
  cur : List MT
  B : Option Addr
  m : Nat
  rs : RS w rtokK B cur
  cap : cur.length ≤ m
  ok : ∀ x ∈ cur, tkOk x
  len : cur.length ≤ ts.length
  res : onM (ts.drop 1) = onT e g cur
end Go.Drv
namespace Go.Drv
open Go.Sv
theorem nn_of {ts : List MT} (h0 : 0 < ts.length) (h1 : 1 < ts.length) (hnm : kB (tA ts 0) = 110) (k : ∃ e r, ts.drop 1 = .nm e :: r) : kds ts 2 = [110, 110] := by
  obtain ⟨e, r, he⟩ := k
  rw [kds_s (show 1 < ts.length by omega), kds_s (show 0 < ts.length by omega), hnm]
  rw [tA_cons (show 1 < ts.length by omega)] at he
  rw [(List.cons.inj he).1]
  rfl
end Go.Drv
set_option linter.unusedSimpArgs false
set_option linter.unusedVariables false
namespace Go.Drv
open Go.Sv
/-! ### Lines -/
structure LnG where
  f : Nat
  P : List Bs
  A : Option Addr
  c : Nat
def LnI (s : Bs) (i : Nat) (X : LnG) : Prop := X.P.length ≤ i ∧ ((i ≤ s.length ∧ X.f ≤ i ∧ splitNL s = X.P ++ splitNL (s.drop X.f) ∧ ∀ k, X.f ≤ k → k < i → s.getD k 0 ≠ 10) ∨ (i = s.length + 1 ∧ splitNL s = X.P))
theorem LnI.start (s : Bs) : LnI s 0 ⟨0, [], none, 0⟩ := ⟨Nat.le_refl _, .inl ⟨Nat.zero_le _, Nat.le_refl _, rfl, fun k h1 h2 => by omega⟩⟩
theorem LnI.le {s : Bs} {i : Nat} {X : LnG} (h : LnI s i X) (hi : i ≤ s.length) : X.f ≤ i := by
  rcases h.2 with h | h
  · exact h.2.1
  · omega
theorem seg_mem {s : Bs} {f i : Nat} (hi : i ≤ s.length) (h : ∀ k, f ≤ k → k < i → s.getD k 0 ≠ 10) : ∀ c ∈ (s.take i).drop f, c ≠ 10 := fun c hc => by
  obtain ⟨k, hk, rfl⟩ := List.getElem_of_mem hc
  rw [List.length_drop, List.length_take] at hk
  have := h (f + k) (by omega) (by omega)
  rw [List.getElem_drop, List.getElem_take]
  rwa [List.getD, List.getElem?_eq_getElem (show f + k < s.length by omega)] at this
theorem LnI.nl {s : Bs} {i : Nat} {X : LnG} (h : LnI s i X) (hi : i < s.length) (hc : ((s.getD i 0).toNat : Int) = 10) (A : Option Addr) (c : Nat) : LnI s (i + 1) ⟨i + 1, X.P ++ [(s.take i).drop X.f], A, c⟩ := by
  refine ⟨?_, ?_⟩
  · have := h.1; simp only [List.length_append, List.length_cons, List.length_nil]; omega
  rcases h.2 with ⟨h1, h2, h3, h4⟩ | h
  · refine .inl ⟨by omega, Nat.le_refl _, ?_, fun k a b => by have a2 : i + 1 ≤ k := a; omega⟩
    have e : s.drop X.f = (s.take i).drop X.f ++ 10 :: s.drop (i + 1) := by
      have e1 : s = s.take i ++ s.drop i := (List.take_append_drop i s).symm
      have e2 : s.drop X.f = (s.take i ++ s.drop i).drop X.f := by rw [← e1]
      rw [e2, List.drop_append_of_le_length (by rw [List.length_take]; omega), drop_cons hi, UInt8.toNat_inj.1 (show (s.getD i 0).toNat = (10 : UInt8).toNat by show _ = 10; omega)]
    rw [h3, e, splitNL_app _ _ (seg_mem h1 h4)]
    simp
  · omega
theorem LnI.no {s : Bs} {i : Nat} {X : LnG} (h : LnI s i X) (hi : i < s.length) (hc : ¬ ((s.getD i 0).toNat : Int) = 10) : LnI s (i + 1) X := by
  refine ⟨by have := h.1; omega, ?_⟩
  rcases h.2 with ⟨h1, h2, h3, h4⟩ | h
  · refine .inl ⟨by omega, by omega, h3, fun k a b => ?_⟩
    by_cases e : k = i
    · subst e; intro e2; apply hc; rw [e2]; rfl
    · exact h4 k a (by omega)
  · omega
theorem LnI.fin {s : Bs} {i : Nat} {X : LnG} (h : LnI s i X) (hi : i = s.length) (f : Nat) (A : Option Addr) (c : Nat) : LnI s (i + 1) ⟨f, X.P ++ [(s.take i).drop X.f], A, c⟩ := by
  refine ⟨?_, .inr ⟨by omega, ?_⟩⟩
  · have := h.1; simp only [List.length_append, List.length_cons, List.length_nil]; omega
  rcases h.2 with ⟨h1, h2, h3, h4⟩ | h
  · subst hi
    have e : s.drop X.f = (s.take s.length).drop X.f := by rw [List.take_length]
    rw [h3, e, splitNL_one _ (seg_mem (Nat.le_refl _) h4)]
  · omega
theorem LnI.last {s : Bs} {i : Nat} {X : LnG} (h : LnI s i X) (hi : ¬ i ≤ s.length) : splitNL s = X.P := by
  rcases h.2 with h | h
  · omega
  · exact h.2
theorem split_len : ∀ s : Bs, (splitNL s).length ≤ s.length + 1
  | [] => by simp [splitNL]
  | c :: r => by
    have ih := split_len r
    rw [splitNL]
    split
    · simp only [List.length_cons]; omega
    · cases h : splitNL r with
      | nil => simp only [List.length_cons, List.length_nil]; omega
      | cons a t =>
        rw [h] at ih
        simp only [List.length_cons] at ih ⊢
        omega
theorem split_mem : ∀ s : Bs, ∀ l ∈ splitNL s, l.length ≤ s.length
  | [], l, h => by simp [splitNL] at h; subst h; simp
  | c :: r, l, h => by
    have ih := split_mem r
    rw [splitNL] at h
    split at h
    · rcases List.mem_cons.1 h with rfl | h
      · simp
      · have := ih l h; simp only [List.length_cons]; omega
    · cases hs : splitNL r with
      | nil =>
        rw [hs] at h
        simp only [List.mem_singleton] at h
        subst h; simp
      | cons a t =>
        rw [hs] at h ih
        rcases List.mem_cons.1 h with rfl | h
        · have := ih a (List.mem_cons_self ..); simp only [List.length_cons]; omega
        · have := ih l (List.mem_cons_of_mem _ h); simp only [List.length_cons]; omega
/-! ### Reading -/
structure RH where
  named : Bool
  name : Bs
  sA : Option Addr
  sc : Nat
  ss : List Bs
  aA : Option Addr
  ac : Nat
  al : List LH
def RH.ps (X : RH) : PS := ⟨X.named, X.name, X.ss, X.al.map (·.h.t), X.al.map (·.to)⟩
def rh0 : RH := ⟨false, [], none, 0, [], none, 0, []⟩
def opL (x : LH) : Assn := opA x.h
theorem two_nn {ts : List MT} (ht : ∀ x ∈ ts, tkOk x) (h : ts.map kB = [110, 110]) : ts = [.nm (rtext (tA ts 0)), .nm (rtext (tA ts 1))] := by
  match ts, h, ht with
  | [], h, _ => simp at h
  | [a], h, _ => simp at h
  | a :: b :: c :: r, h, _ => simp at h
  | [a, b], h, ht =>
    simp only [List.map_cons, List.map_nil, List.cons.injEq, and_true] at h
    have e0 := kB_n (ht a (by simp)) h.1
    have e1 := kB_n (ht b (by simp)) h.2
    show [a, b] = [.nm (rtext a), .nm (rtext b)]
    rw [← e0, ← e1]
section
variable {p : PS} {ts : List MT}
theorem lmR_dok (ht : ∀ x ∈ ts, tkOk x) (hn : p.named = false) (h : ts.map kB = [110, 110]) (hk : rtext (tA ts 0) = [100, 114, 105, 118, 101, 114]) : lineM p ts = some { p with named := true, name := rtext (tA ts 1) } := by
  have e := two_nn ht h
  rw [hk] at e
  generalize rtext (tA ts 1) = n at e ⊢
  rw [e]
  show (if p.named = false then _ else _) = _
  rw [if_pos hn]; rfl
theorem lmR_dno (h0 : 0 < ts.length) (hn : p.named = false) (h : ¬ (ts.map kB = [110, 110] ∧ rtext (tA ts 0) = [100, 114, 105, 118, 101, 114])) : lineM p ts = none := by
  cases ts with
  | nil => simp at h0
  | cons t r =>
    cases t with
    | num v => rfl
    | sym n => rfl
    | nm k =>
      show (if p.named = false then _ else _) = _
      rw [if_pos hn]
      split
      · rename_i n
        rw [if_neg]
        intro hk
        exact h ⟨rfl, hk⟩
      · rfl
theorem lmR_sok (ht : ∀ x ∈ ts, tkOk x) (hn : p.named = true) (h : ts.map kB = [110, 110]) (hk : rtext (tA ts 0) = [115, 116, 97, 116, 101]) : lineM p ts = some { p with ss := p.ss ++ [rtext (tA ts 1)] } := by
  have e := two_nn ht h
  rw [hk] at e
  generalize rtext (tA ts 1) = n at e ⊢
  rw [e]
  show (if p.named = false then _ else _) = _
  rw [if_neg (by rw [hn]; decide)]; rfl
theorem lmR_sno (hn : p.named = true) (hk : rtext (tA ts 0) = [115, 116, 97, 116, 101]) (h : ¬ ts.map kB = [110, 110]) : lineM p ts = none := by
  cases ts with
  | nil => cases hk
  | cons t r =>
    cases t with
    | num v => rfl
    | sym n => rfl
    | nm k =>
      have hk2 : k = sState := hk
      show (if p.named = false then _ else _) = _
      rw [if_neg (by rw [hn]; decide), if_pos hk2]
      split
      · exact absurd rfl h
      · rfl
theorem lmR_on (hn : p.named = true) (hk : rtext (tA ts 0) = [111, 110]) (hs : p.ss ≠ []) : lineM p ts = (onM (ts.drop 1)).map (fun x => { p with ts := p.ts ++ [{ x.1 with frm := (p.ss.length : Int) - 1 }], tg := p.tg ++ [x.2] }) := by
  cases ts with
  | nil => cases hk
  | cons t r =>
    cases t with
    | num v => cases hk
    | sym n => cases hk
    | nm k =>
      have hk2 : k = sOn := hk
      show (if p.named = false then _ else _) = _
      rw [if_neg (by rw [hn]; decide), if_neg (by rw [hk2]; decide), if_pos ⟨hk2, hs⟩]; rfl
theorem lmR_no (h0 : 0 < ts.length) (hn : p.named = true) (h1 : ¬ rtext (tA ts 0) = [115, 116, 97, 116, 101]) (h2 : ¬ (rtext (tA ts 0) = [111, 110] ∧ p.ss ≠ [])) : lineM p ts = none := by
  cases ts with
  | nil => simp at h0
  | cons t r =>
    cases t with
    | num v => rfl
    | sym n => rfl
    | nm k =>
      show (if p.named = false then _ else _) = _
      rw [if_neg (by rw [hn]; decide), if_neg (show ¬ k = sState from h1), if_neg (show ¬ (k = sOn ∧ p.ss ≠ []) from h2)]
end
end Go.Drv
set_option linter.unusedSimpArgs false
set_option linter.unusedVariables false
namespace Go.Drv
open Go.Sv
def lst (ss : List Bs) (t : Bs) : Nat → Int
  | 0 => -1
  | k + 1 => if ss.getD k [] = t then (k : Int) else lst ss t k
theorem lst_t {ss : List Bs} {t : Bs} {k : Nat} (h : ss.getD k strK.d = t) : lst ss t (k + 1) = k := by rw [lst, if_pos (show ss.getD k [] = t from h)]
theorem lst_f {ss : List Bs} {t : Bs} {k : Nat} (h : ¬ ss.getD k strK.d = t) : lst ss t (k + 1) = lst ss t k := by rw [lst, if_neg (show ¬ ss.getD k [] = t from h)]
theorem lst_none {ss : List Bs} {t : Bs} : ∀ k, (∀ j, j < k → ss.getD j [] ≠ t) → lst ss t k = -1
  | 0, _ => rfl
  | k + 1, h => by rw [lst, if_neg (h k (by omega)), lst_none k fun j hj => h j (by omega)]
theorem lst_one {ss : List Bs} {t : Bs} {i : Nat} : ∀ k, i < k → ss.getD i [] = t → (∀ j, j < k → ss.getD j [] = t → j = i) → lst ss t k = i
  | 0, h, _, _ => by omega
  | k + 1, h, h1, h2 => by
    rw [lst]
    by_cases e : ss.getD k [] = t
    · rw [if_pos e, h2 k (by omega) e]
    · rw [if_neg e]
      refine lst_one k ?_ h1 fun j hj => h2 j (by omega)
      rcases Nat.lt_or_ge i k with h3 | h3
      · exact h3
      · obtain rfl : i = k := by omega
        exact absurd h1 e
theorem idx_none {ss : List Bs} {t : Bs} (h : idxOf ss t = none) : ∀ j, j < ss.length → ss.getD j [] ≠ t := fun j hj e => by
  unfold idxOf at h
  rw [List.find?_eq_none] at h
  exact h j (List.mem_range.2 hj) (decide_eq_true e)
theorem idx_some {ss : List Bs} {t : Bs} {i : Nat} (h : idxOf ss t = some i) : i < ss.length ∧ ss.getD i [] = t := by
  unfold idxOf at h
  have h2 : decide (ss.getD i [] = t) = true := by
    have := List.find?_some h
    exact this
  exact ⟨List.mem_range.1 (List.mem_of_find?_eq_some h), of_decide_eq_true h2⟩
theorem lst_neg {ss : List Bs} {t : Bs} (hn : ss.Nodup) (h : lst ss t ss.length < 0) : idxOf ss t = none := by
  cases hi : idxOf ss t with
  | none => rfl
  | some i =>
    obtain ⟨h1, h2⟩ := idx_some hi
    rw [lst_one _ h1 h2 fun j hj e => ?_] at h
    · omega
    · have hd := nodup_iff.1 hn
      rcases Nat.lt_trichotomy j i with h3 | h3 | h3
      · exact absurd (e.trans h2.symm) (hd j i h3 h1)
      · exact h3
      · exact absurd (h2.trans e.symm) (hd i j h3 hj)
theorem lst_pos {ss : List Bs} {t : Bs} (hn : ss.Nodup) (h : ¬ lst ss t ss.length < 0) : ∃ i : Nat, lst ss t ss.length = i ∧ idxOf ss t = some i := by
  cases hi : idxOf ss t with
  | none =>
    rw [lst_none _ (idx_none hi)] at h
    exact absurd (by decide) h
  | some i =>
    obtain ⟨h1, h2⟩ := idx_some hi
    refine ⟨i, lst_one _ h1 h2 fun j hj e => ?_, rfl⟩
    have hd := nodup_iff.1 hn
    rcases Nat.lt_trichotomy j i with h3 | h3 | h3
    · exact absurd (e.trans h2.symm) (hd j i h3 h1)
    · exact h3
    · exact absurd (h2.trans e.symm) (hd i j h3 hj)
def lnTo (y : LH) (i : Int) : LH := ⟨linkT y.h i, y.to⟩
structure KG where
  al : List LH
  H : List TH
  tA : Option Addr
  tc : Nat
structure LkR (X : RH) (K : KG) (j : Nat) : Prop where
  jl : j ≤ X.al.length
  len : K.al.length = X.al.length
  hl : K.H.length = j
  rest : K.al.drop j = X.al.drop j
  ho : K.H.map opA = (X.al.take j).map opL
  res : linkM X.ss (X.al.map (·.h.t)) (X.al.map (·.to)) = (linkM X.ss ((X.al.drop j).map (·.h.t)) ((X.al.drop j).map (·.to))).map (fun r => K.H.map (·.t) ++ r)
theorem LkR.start (X : RH) : LkR X ⟨X.al, [], none, 0⟩ 0 := ⟨Nat.zero_le _, rfl, rfl, rfl, rfl, by simp⟩
theorem dropLH {H : List LH} {j : Nat} (h : j < H.length) : H.drop j = H.getD j lnK.d :: H.drop (j + 1) := by
  rw [List.drop_eq_getElem_cons h]
  simp [List.getD, List.getElem?_eq_getElem h]
theorem LkR.at {X : RH} {K : KG} {j : Nat} (h : LkR X K j) (hj : j < X.al.length) : K.al.getD j lnK.d = X.al.getD j lnK.d := by
  have h1 := h.rest
  rw [dropLH (by rw [h.len]; exact hj), dropLH hj] at h1
  exact (List.cons.inj h1).1
theorem LkR.bad {X : RH} {K : KG} {j : Nat} (h : LkR X K j) (hj : j < X.al.length) (hi : idxOf X.ss (K.al.getD j lnK.d).to = none) : linkM X.ss (X.al.map (·.h.t)) (X.al.map (·.to)) = none := by
  rw [h.res, dropLH hj, List.map_cons, List.map_cons, linkM, ← h.at hj, hi]; rfl
theorem LkR.next {X : RH} {K : KG} {j : Nat} (h : LkR X K j) (hj : j < X.al.length) {i : Nat} (hi : idxOf X.ss (K.al.getD j lnK.d).to = some i) (A : Option Addr) (c : Nat) :
    LkR X ⟨K.al.set j (lnTo (K.al.getD j lnK.d) i), K.H ++ [linkT (K.al.getD j lnK.d).h i], A, c⟩ (j + 1) := by
  refine ⟨hj, by rw [List.length_set]; exact h.len, by rw [List.length_append, h.hl]; rfl, ?_, ?_, ?_⟩
  · show (K.al.set j _).drop (j + 1) = _
    rw [List.drop_set_of_lt (by omega)]
    have h1 := h.rest
    rw [dropLH (by rw [h.len]; exact hj), dropLH hj] at h1
    exact (List.cons.inj h1).2
  · show (K.H ++ [_]).map opA = _
    have e : X.al.take (j + 1) = X.al.take j ++ [X.al.getD j lnK.d] := by
      rw [List.take_add_one]
      simp [List.getD, List.getElem?_eq_getElem hj]
    rw [List.map_append, h.ho, e, List.map_append, h.at hj]; rfl
  · rw [h.res, dropLH hj, List.map_cons, List.map_cons, linkM, ← h.at hj, hi]
    show Option.map _ (Option.map _ _) = _
    rw [Option.map_map]
    congr 1
    funext r
    show K.H.map (fun x : TH => x.t) ++ (_ :: r) = (K.H ++ [_]).map (fun x : TH => x.t) ++ r
    rw [List.map_append, List.append_assoc]; rfl
theorem LkR.fin {X : RH} {K : KG} {j : Nat} (h : LkR X K j) (hj : ¬ j < X.al.length) : linkM X.ss (X.al.map (·.h.t)) (X.al.map (·.to)) = some (K.H.map (·.t)) := by
  rw [h.res, List.drop_of_length_le (by omega)]
  simp [linkM]
theorem LkR.own {X : RH} {K : KG} {j : Nat} (h : LkR X K j) (hj : ¬ j < X.al.length) : K.H.map opA = X.al.map opL := by
  rw [h.ho, List.take_of_length_le (by omega)]
theorem Big_congr2 {β γ : Type} {F : β → Assn} {G : γ → Assn} {hs : List β} {gs : List γ} (h : hs.map F = gs.map G) : Big F hs = Big G gs := by
  simp only [Big, h]
theorem DR.ofHpL {I : Ids} {w0 w : World} {L : List Assn} {k1 k2 k3 : Nat} {nm : Bs} {sA tA : Option Addr} {sc tc : Nat} {ss : List Bs} {H : List TH} {al : List LH} (h : Hp I w0 L w) (h1 : L[k1]? = some (OS 9 strK sA sc ss)) (h2 : L[k2]? = some (OS 48 thK tA tc H)) (h3 : L[k3]? = some (Big opL al)) (e : H.map opA = al.map opL) : DR w ⟨nm, sA, sc, ss, tA, tc, H⟩ := by
  rw [← Big_congr2 e] at h3
  exact ⟨h.os k1 h1, h.os k2 h2, fun i hi => h.bigOS thD h3 hi (G := fun b w => RS w roK b.A b.t.ops) fun i b k => OS.rs (show (OS 59 roK b.A b.c b.t.ops).sat w i from k)⟩
theorem takeL {l : List Bs} {j : Nat} (h : j < l.length) : l.take (j + 1) = l.take j ++ [l.getD j strK.d] := by
  rw [List.take_add_one]
  simp [List.getD, List.getElem?_eq_getElem h]
theorem runR_ok {LS : List Bs} {i : Nat} {p q : PS} (h : runM ps0 (LS.take i) = some p) (hi : i < LS.length) (hq : lnM p (LS.getD i strK.d) = some q) : runM ps0 (LS.take (i + 1)) = some q := by
  rw [takeL hi, runM_app, h]
  show (lnM p _).bind _ = _
  rw [hq]; rfl
theorem runR_bad {LS : List Bs} {i : Nat} {p : PS} (h : runM ps0 (LS.take i) = some p) (hi : i < LS.length) (hq : lnM p (LS.getD i strK.d) = none) : runM ps0 LS = none := by
  have e : LS = LS.take i ++ LS.drop i := (List.take_append_drop i LS).symm
  have e2 : runM ps0 LS = runM ps0 (LS.take i ++ LS.drop i) := by rw [← e]
  rw [e2, runM_app, h, dropBs hi]
  show (lnM p _).bind _ = _
  rw [hq]; rfl
end Go.Drv
