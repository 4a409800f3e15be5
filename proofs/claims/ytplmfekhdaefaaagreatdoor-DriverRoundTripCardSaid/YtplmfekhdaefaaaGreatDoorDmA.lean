/-
  Texts joined: Dm1, Dm2, Dm3, Dm4, Dm5, Dm6, Dm7, Dm8.
-/
import Derived.Test.YtplmfekhdaefaaaGreatDoorSvC
import Derived.Lib.ParseIntB
set_option linter.unusedSimpArgs false
set_option linter.unusedVariables false
namespace Go.Drv
open Go.Sv
def digB (c : UInt8) : Bool := decide (48 ≤ c.toNat ∧ c.toNat ≤ 57)
def ltrB (c : UInt8) : Bool := decide ((97 ≤ c.toNat ∧ c.toNat ≤ 122) ∨ (65 ≤ c.toNat ∧ c.toNat ≤ 90) ∨ c.toNat = 95)
def wrdB (c : UInt8) : Bool := ltrB c || digB c
def isNm (l : Bs) : Bool := !l.isEmpty && decide (l.length ≤ 32) && !digB (l.getD 0 0) && l.all wrdB
structure Gd where
  used : Bool
  reg : Int
  mask : Int
  val : Int
deriving DecidableEq
structure Ro where
  wr : Bool
  reg : Int
  val : Int
deriving DecidableEq
structure Tr where
  frm : Int
  ev : Bs
  gd : Gd
  ops : List Ro
  to : Int
deriving DecidableEq
structure Dv where
  name : Bs
  ss : List Bs
  ts : List Tr
deriving DecidableEq
def gd0 : Gd := ⟨false, 0, 0, 0⟩
def tr0 : Tr := ⟨0, [], gd0, [], 0⟩
def ro0 : Ro := ⟨false, 0, 0⟩
def dv0 : Dv := ⟨[], [], []⟩
def gdOk (g : Gd) : Bool := g.used || decide (g.reg = 0 ∧ g.mask = 0 ∧ g.val = 0)
def roOk (o : Ro) : Bool := o.wr || decide (o.val = 0)
def okT (n : Nat) (t : Tr) : Bool := decide ((0 ≤ t.frm ∧ t.frm < n) ∧ (0 ≤ t.to ∧ t.to < n)) && isNm t.ev && gdOk t.gd && decide (t.ops.length ≤ 16) && t.ops.all roOk
def ascAt (ts : List Tr) (i : Nat) : Prop := i = 0 ∨ (ts.getD (i - 1) tr0).frm ≤ (ts.getD i tr0).frm
instance (ts : List Tr) (i : Nat) : Decidable (ascAt ts i) := inferInstanceAs (Decidable (_ ∨ _))
def chkA (d : Dv) : Bool := isNm d.name && decide (0 < d.ss.length ∧ d.ss.length ≤ 32 ∧ d.ts.length ≤ 128) && d.ss.all isNm && d.ts.all (okT d.ss.length) && (List.range d.ts.length).all (fun i => decide (ascAt d.ts i))
def chkM (d : Dv) : Int := if chkA d = true then (if d.ss.Nodup then 0 else 7) else 1
theorem all_iff {α : Type} {p : α → Bool} {l : List α} (d : α) : l.all p = true ↔ ∀ k, k < l.length → p (l.getD k d) = true := by
  rw [List.all_eq_true]
  constructor
  · intro h k hk
    exact h _ (by simp [List.getD, hk])
  · intro h x hx
    obtain ⟨i, hi, rfl⟩ := List.getElem_of_mem hx
    have := h i hi
    simpa [List.getD, hi] using this
theorem isNm_iff (l : Bs) : isNm l = true ↔ 0 < l.length ∧ l.length ≤ 32 ∧ digB (l.getD 0 0) = false ∧ ∀ k, k < l.length → wrdB (l.getD k 0) = true := by
  unfold isNm
  simp only [Bool.and_eq_true, Bool.not_eq_true', decide_eq_true_eq, all_iff (0 : UInt8)]
  rw [List.isEmpty_eq_false_iff, ← List.length_pos_iff]
  constructor
  · rintro ⟨⟨⟨h1, h2⟩, h3⟩, h4⟩; exact ⟨h1, h2, h3, h4⟩
  · rintro ⟨h1, h2, h3, h4⟩; exact ⟨⟨⟨h1, h2⟩, h3⟩, h4⟩
theorem isNm_t {l : Bs} (h1 : 0 < l.length) (h2 : l.length ≤ 32) (h3 : digB (l.getD 0 0) = false) (h4 : ∀ k, k < l.length → wrdB (l.getD k 0) = true) : isNm l = true := (isNm_iff l).2 ⟨h1, h2, h3, h4⟩
theorem bool_f {b : Bool} (h : ¬ b = true) : b = false := by cases b <;> simp_all
theorem isNm_f1 {l : Bs} (h : ¬ 0 < l.length) : isNm l = false := bool_f fun k => h ((isNm_iff l).1 k).1
theorem isNm_f2 {l : Bs} (h : ¬ l.length ≤ 32) : isNm l = false := bool_f fun k => h ((isNm_iff l).1 k).2.1
theorem isNm_f3 {l : Bs} (h : digB (l.getD 0 0) = true) : isNm l = false := bool_f fun k => by have := ((isNm_iff l).1 k).2.2.1; rw [h] at this; cases this
theorem isNm_f4 {l : Bs} {k : Nat} (hk : k < l.length) (h : wrdB (l.getD k 0) = false) : isNm l = false := bool_f fun q => by have := ((isNm_iff l).1 q).2.2.2 k hk; rw [h] at this; cases this
theorem okT_iff (n : Nat) (t : Tr) : okT n t = true ↔ (0 ≤ t.frm ∧ t.frm < n) ∧ (0 ≤ t.to ∧ t.to < n) ∧ isNm t.ev = true ∧ gdOk t.gd = true ∧ t.ops.length ≤ 16 ∧ ∀ k, k < t.ops.length → roOk (t.ops.getD k ro0) = true := by
  unfold okT
  simp only [Bool.and_eq_true, decide_eq_true_eq, all_iff ro0]
  constructor
  · rintro ⟨⟨⟨⟨⟨h1, h2⟩, h3⟩, h4⟩, h5⟩, h6⟩; exact ⟨h1, h2, h3, h4, h5, h6⟩
  · rintro ⟨h1, h2, h3, h4, h5, h6⟩; exact ⟨⟨⟨⟨⟨h1, h2⟩, h3⟩, h4⟩, h5⟩, h6⟩
theorem chkA_iff (d : Dv) : chkA d = true ↔ isNm d.name = true ∧ (0 < d.ss.length ∧ d.ss.length ≤ 32 ∧ d.ts.length ≤ 128) ∧ (∀ k, k < d.ss.length → isNm (d.ss.getD k []) = true) ∧ (∀ k, k < d.ts.length → okT d.ss.length (d.ts.getD k tr0) = true) ∧ ∀ k, k < d.ts.length → ascAt d.ts k := by
  unfold chkA
  simp only [Bool.and_eq_true, decide_eq_true_eq, all_iff ([] : Bs), all_iff tr0]
  have e : (List.range d.ts.length).all (fun i => decide (ascAt d.ts i)) = true ↔ ∀ k, k < d.ts.length → ascAt d.ts k := by
    rw [List.all_eq_true]
    constructor
    · intro h k hk; exact of_decide_eq_true (h k (List.mem_range.2 hk))
    · intro h k hk; exact decide_eq_true (h k (List.mem_range.1 hk))
  rw [e]
  constructor
  · rintro ⟨⟨⟨⟨h1, h2⟩, h3⟩, h4⟩, h5⟩; exact ⟨h1, h2, h3, h4, h5⟩
  · rintro ⟨h1, h2, h3, h4, h5⟩; exact ⟨⟨⟨⟨h1, h2⟩, h3⟩, h4⟩, h5⟩
theorem chk_bad {d : Dv} (h : ¬ chkA d = true) : chkM d = 1 := if_neg h
theorem chk_ok {d : Dv} (h : chkA d = true) (h2 : d.ss.Nodup) : chkM d = 0 := by rw [chkM, if_pos h, if_pos h2]
theorem chk_dup {d : Dv} (h : chkA d = true) (h2 : ¬ d.ss.Nodup) : chkM d = 7 := by rw [chkM, if_pos h, if_neg h2]
theorem nodup_iff {l : List Bs} : l.Nodup ↔ ∀ i j, i < j → j < l.length → l.getD i [] ≠ l.getD j [] := by
  rw [List.nodup_iff_pairwise_ne, List.pairwise_iff_getElem]
  constructor
  · intro h i j hij hj
    have := h i j (by omega) hj hij
    simpa [List.getD, hj, show i < l.length by omega] using this
  · intro h i j hi hj hij
    have := h i j hij hj
    simpa [List.getD, hj, hi] using this
theorem ltr_dig {c : UInt8} (h : ltrB c = true) : digB c = false := by
  have := of_decide_eq_true h
  exact decide_eq_false (by omega)
end Go.Drv
set_option linter.unusedSimpArgs false
set_option linter.unusedVariables false
namespace Go.Drv
open Go.Sv
/-! ### Lines -/
def splitNL : Bs → List Bs
  | [] => [[]]
  | c :: r => if c = 10 then [] :: splitNL r else match splitNL r with
    | [] => [[c]]
    | h :: t => (c :: h) :: t
theorem splitNL_ne : ∀ l : Bs, splitNL l ≠ []
  | [] => by simp [splitNL]
  | c :: r => by
    rw [splitNL]
    split
    · simp
    · split <;> simp
/-- A first piece without the separator. -/
theorem splitNL_app : ∀ (p r : Bs), (∀ c ∈ p, c ≠ 10) → splitNL (p ++ 10 :: r) = p :: splitNL r
  | [], r, _ => by simp [splitNL]
  | c :: p, r, h => by
    have h1 : c ≠ 10 := h c (List.mem_cons_self ..)
    rw [List.cons_append, splitNL, if_neg h1, splitNL_app p r fun x hx => h x (List.mem_cons_of_mem _ hx)]
theorem splitNL_one : ∀ (p : Bs), (∀ c ∈ p, c ≠ 10) → splitNL p = [p]
  | [], _ => rfl
  | c :: p, h => by
    have h1 : c ≠ 10 := h c (List.mem_cons_self ..)
    rw [splitNL, if_neg h1, splitNL_one p fun x hx => h x (List.mem_cons_of_mem _ hx)]
/-! ### Tokens -/
inductive MT where
  | nm (t : Bs)
  | num (v : Int)
  | sym (c : Nat)
deriving DecidableEq
def valD (n : Nat) (l : Bs) : Nat := l.foldl (fun n c => 10 * n + (c.toNat - 48)) n
def numW (w : Bs) : Bool := !w.isEmpty && (decide (w.length = 1) || decide (w.getD 0 0 ≠ 48)) && w.all digB
def wordTok (w : Bs) : Option MT := if isNm w = true then some (.nm w) else if numW w = true ∧ valD 0 w < 18446744073709551616 then some (.num (valD 0 w)) else none
def symB (c : UInt8) : Bool := decide (c = 58 ∨ c = 59 ∨ c = 38 ∨ c = 61)
def spB (c : UInt8) : Bool := decide (c = 32 ∨ c = 9)
def cutH (l : Bs) : Bs := l.takeWhile (fun c => decide (c ≠ 35))
def toks : Nat → Bs → Option (List MT)
  | 0, _ => none
  | _ + 1, [] => some []
  | n + 1, c :: r =>
    if spB c = true then toks n r
    else if symB c = true then (toks n r).map (fun x => MT.sym c.toNat :: x)
    else if c = 45 ∧ r.getD 0 0 = 62 then (toks n (r.drop 1)).map (fun x => MT.sym 62 :: x)
    else match wordTok ((c :: r).takeWhile wrdB) with
      | none => none
      | some t => (toks n ((c :: r).dropWhile wrdB)).map (fun x => t :: x)
def tk (l : Bs) : Option (List MT) := toks (l.length + 1) l
theorem wordTok_nil : wordTok [] = none := rfl
theorem drop_len {w : Bs} {p : UInt8 → Bool} : (w.takeWhile p).length + (w.dropWhile p).length = w.length := by
  rw [← List.length_append, List.takeWhile_append_dropWhile]
theorem toks_fuel : ∀ (l : Bs) (n m : Nat), l.length < n → l.length < m → toks n l = toks m l := by
  intro l
  generalize hk : l.length = k
  induction k using Nat.strongRecOn generalizing l with
  | _ k ih =>
    intro n m hn hm
    match n, m, hn, hm with
    | n + 1, m + 1, hn, hm =>
      match l with
      | [] => rfl
      | c :: r =>
        have hr : r.length < k := by rw [← hk]; simp
        rw [toks, toks]
        split
        · exact ih r.length hr r rfl n m (by omega) (by omega)
        · split
          · rw [ih r.length hr r rfl n m (by omega) (by omega)]
          · split
            · rw [ih (r.drop 1).length (by rw [List.length_drop]; omega) (r.drop 1) rfl n m (by rw [List.length_drop]; omega) (by rw [List.length_drop]; omega)]
            · cases hw : wordTok ((c :: r).takeWhile wrdB) with
              | none => rfl
              | some t =>
                have h0 : 0 < ((c :: r).takeWhile wrdB).length := by
                  rcases Nat.eq_zero_or_pos ((c :: r).takeWhile wrdB).length with h | h
                  · rw [List.eq_nil_of_length_eq_zero h, wordTok_nil] at hw; cases hw
                  · exact h
                have h1 := drop_len (w := c :: r) (p := wrdB)
                simp only []
                rw [ih ((c :: r).dropWhile wrdB).length (by omega) _ rfl n m (by omega) (by omega)]
theorem tk_nil : tk [] = some [] := rfl
theorem tk_sp {c : UInt8} {r : Bs} (h : spB c = true) : tk (c :: r) = tk r := by
  rw [tk, List.length_cons, toks, if_pos h]; rfl
theorem tk_sym {c : UInt8} {r : Bs} (h0 : spB c = false) (h : symB c = true) : tk (c :: r) = (tk r).map (fun x => MT.sym c.toNat :: x) := by
  rw [tk, List.length_cons, toks, if_neg (by rw [h0]; decide), if_pos h]; rfl
theorem tk_arr {r : Bs} (h : r.getD 0 0 = 62) : tk (45 :: r) = (tk (r.drop 1)).map (fun x => MT.sym 62 :: x) := by
  rw [tk, List.length_cons, toks, if_neg (by decide), if_neg (by decide), if_pos ⟨rfl, h⟩]
  have hl : r.length ≠ 0 := by
    intro h0
    rw [List.eq_nil_of_length_eq_zero h0] at h
    exact absurd h (by decide)
  rw [toks_fuel (r.drop 1) (r.length + 1) ((r.drop 1).length + 1) (by rw [List.length_drop]; omega) (by omega)]; rfl
theorem tk_word {c : UInt8} {r : Bs} (h0 : spB c = false) (h1 : symB c = false) (h2 : ¬ (c = 45 ∧ r.getD 0 0 = 62)) : tk (c :: r) = match wordTok ((c :: r).takeWhile wrdB) with
    | none => none
    | some t => (tk ((c :: r).dropWhile wrdB)).map (fun x => t :: x) := by
  rw [tk, List.length_cons, toks, if_neg (by rw [h0]; decide), if_neg (by rw [h1]; decide), if_neg h2]
  cases hw : wordTok ((c :: r).takeWhile wrdB) with
  | none => rfl
  | some t =>
    have h0 : 0 < ((c :: r).takeWhile wrdB).length := by
      rcases Nat.eq_zero_or_pos ((c :: r).takeWhile wrdB).length with h | h
      · rw [List.eq_nil_of_length_eq_zero h, wordTok_nil] at hw; cases hw
      · exact h
    have h3 := drop_len (w := c :: r) (p := wrdB)
    simp only [List.length_cons] at h3
    simp only []
    rw [toks_fuel ((c :: r).dropWhile wrdB) (r.length + 1) (((c :: r).dropWhile wrdB).length + 1) (by omega) (by omega)]; rfl
/-! ### Lines of tokens -/
def sDriver : Bs := [100, 114, 105, 118, 101, 114]
def sState : Bs := [115, 116, 97, 116, 101]
def sOn : Bs := [111, 110]
def sIf : Bs := [105, 102]
def sWrite : Bs := [119, 114, 105, 116, 101]
def sRead : Bs := [114, 101, 97, 100]
def opM : List MT → Option (Ro × List MT)
  | .nm k :: .num a :: r => if k = sWrite then (match r with
      | .num v :: r2 => some (⟨true, a, v⟩, r2)
      | _ => none) else if k = sRead then some (⟨false, a, 0⟩, r) else none
  | _ => none
def opsM : Nat → List MT → Option (List Ro)
  | 0, _ => none
  | n + 1, l => match opM l with
    | none => none
    | some (o, []) => some [o]
    | some (o, .sym 59 :: r) => (opsM n r).map (fun x => o :: x)
    | some _ => none
def tailM : List MT → Option (List Ro)
  | [] => some []
  | .sym 58 :: r => opsM (r.length + 1) r
  | _ => none
def gdM : List MT → Option (Gd × List MT)
  | .nm i :: .num a :: .sym 38 :: .num m :: .sym 61 :: .num v :: r => if i = sIf then some (⟨true, a, m, v⟩, r) else none
  | .nm _ :: _ => none
  | r => some (gd0, r)
def onM : List MT → Option (Tr × Bs)
  | .nm e :: r => match gdM r with
    | some (g, .sym 62 :: .nm t :: r2) => (tailM r2).map (fun o => (⟨0, e, g, o, 0⟩, t))
    | _ => none
  | _ => none
structure PS where
  named : Bool
  name : Bs
  ss : List Bs
  ts : List Tr
  tg : List Bs
def ps0 : PS := ⟨false, [], [], [], []⟩
def lineM (p : PS) : List MT → Option PS
  | [] => some p
  | .nm k :: r =>
    if p.named = false then (match r with
      | [.nm n] => if k = sDriver then some { p with named := true, name := n } else none
      | _ => none)
    else if k = sState then (match r with
      | [.nm n] => some { p with ss := p.ss ++ [n] }
      | _ => none)
    else if k = sOn ∧ p.ss ≠ [] then (onM r).map (fun x => { p with ts := p.ts ++ [{ x.1 with frm := (p.ss.length : Int) - 1 }], tg := p.tg ++ [x.2] })
    else none
  | _ => none
def lnM (p : PS) (l : Bs) : Option PS := (tk (cutH l)).bind (lineM p)
def runM (p : PS) : List Bs → Option PS
  | [] => some p
  | l :: r => (lnM p l).bind fun q => runM q r
theorem runM_app (p : PS) : ∀ (a b : List Bs), runM p (a ++ b) = (runM p a).bind fun q => runM q b := by
  intro a
  induction a generalizing p with
  | nil => intro b; rfl
  | cons l r ih =>
    intro b
    rw [List.cons_append, runM, runM]
    cases lnM p l with
    | none => rfl
    | some q => exact ih q b
/-! ### Targets -/
def idxOf (ss : List Bs) (t : Bs) : Option Nat := (List.range ss.length).find? (fun i => decide (ss.getD i [] = t))
def linkM (ss : List Bs) : List Tr → List Bs → Option (List Tr)
  | [], _ => some []
  | t :: ts, g :: gs => match idxOf ss g with
    | none => none
    | some i => (linkM ss ts gs).map (fun x => { t with to := (i : Int) } :: x)
  | _ :: _, [] => some []
def finM (p : PS) : Int × Dv :=
  if p.named = false then (2, dv0)
  else if ¬ p.ss.Nodup then (7, dv0)
  else match linkM p.ss p.ts p.tg with
    | none => (6, dv0)
    | some ts => if chkM ⟨p.name, p.ss, ts⟩ = 0 then (0, ⟨p.name, p.ss, ts⟩) else (chkM ⟨p.name, p.ss, ts⟩, dv0)
def parseM (s : Bs) : Int × Dv := match runM ps0 (splitNL s) with
  | none => (2, dv0)
  | some p => finM p
end Go.Drv
set_option linter.unusedSimpArgs false
set_option linter.unusedVariables false
namespace Go.Drv
open Go.Sv
def roK : Enc Ro where
  f r := [.bool r.wr, .int .u64 r.reg, .int .u64 r.val]
  sz := 3
  d := ro0
  len _ := rfl
  pos := by decide
  one r v hv := by simp at hv; rcases hv with rfl | rfl | rfl <;> rfl
/-- A transition with the place of its operations. -/
structure TH where
  t : Tr
  A : Option Addr
  c : Nat
def thD : TH := ⟨tr0, none, 0⟩
def thK : Enc TH where
  f h := [.int .i64 h.t.frm, .string (bs h.t.ev), .bool h.t.gd.used, .int .u64 h.t.gd.reg, .int .u64 h.t.gd.mask, .int .u64 h.t.gd.val, .slice h.A h.t.ops.length h.c, .int .i64 h.t.to]
  sz := 8
  d := thD
  len _ := rfl
  pos := by decide
  one r v hv := by simp at hv; rcases hv with rfl | rfl | rfl | rfl | rfl | rfl | rfl | rfl <;> rfl
abbrev th (hs : List TH) (i : Nat) : TH := hs.getD i thD
/-- A driver with its places. -/
structure DH where
  name : Bs
  sA : Option Addr
  sc : Nat
  ss : List Bs
  tA : Option Addr
  tc : Nat
  hs : List TH
def DH.d (d : DH) : Dv := ⟨d.name, d.ss, d.hs.map (·.t)⟩
structure DR (w : World) (d : DH) : Prop where
  s : RS w strK d.sA d.ss
  t : RS w thK d.tA d.hs
  o : ∀ i, i < d.hs.length → RS w roK (th d.hs i).A (th d.hs i).t.ops
theorem DR.keep {I : Ids} {w0 w : World} {L : List Assn} {d : DH} (h : Hp I w0 L w) (k : DR w0 d) (hI : ∀ x, ¬ I x) : DR w d :=
  ⟨h.rs k.s fun _ => hI _, h.rs k.t fun _ => hI _, fun i hi => h.rs (k.o i hi) fun _ => hI _⟩
def intK (k : IntKind) : Enc Int where
  f n := [.int k n]
  sz := 1
  d := 0
  len _ := rfl
  pos := by decide
  one r v hv := by simp at hv; subst hv; rfl
def boolK : Enc Bool where
  f n := [.bool n]
  sz := 1
  d := false
  len _ := rfl
  pos := by decide
  one r v hv := by simp at hv; subst hv; rfl
theorem map_getD (hs : List TH) (i : Nat) : (hs.map (·.t)).getD i tr0 = (th hs i).t := by
  unfold th
  simp only [List.getD, List.getElem?_map]
  cases hs[i]? <;> rfl
theorem asc_th {hs : List TH} {i : Nat} : ascAt (hs.map (·.t)) i ↔ i = 0 ∨ (th hs (i - 1)).t.frm ≤ (th hs i).t.frm := by
  unfold ascAt; rw [map_getD, map_getD]
theorem chkD_iff (d : DH) : chkA d.d = true ↔ isNm d.name = true ∧ (0 < d.ss.length ∧ d.ss.length ≤ 32 ∧ d.hs.length ≤ 128) ∧ (∀ k, k < d.ss.length → isNm (d.ss.getD k []) = true) ∧ (∀ k, k < d.hs.length → okT d.ss.length (th d.hs k).t = true) ∧ ∀ k, k < d.hs.length → (k = 0 ∨ (th d.hs (k - 1)).t.frm ≤ (th d.hs k).t.frm) := by
  rw [chkA_iff]
  simp only [DH.d, List.length_map, map_getD, asc_th]
theorem ff {b : Bool} (h : b = true) (h2 : b = false) : False := by rw [h] at h2; cases h2
theorem neg_t {b : Bool} (h : (!b) = true) : b = false := by cases b <;> simp_all
theorem neg_f {b : Bool} (h : (!b) = false) : b = true := by cases b <;> simp_all
theorem cells_off {w : World} {p : Nat} {vs us : List Value} (k : Nat) (h : ∀ j v, vs[j]? = some v → w.cell? ⟨p, 0 + j, none⟩ = some v) (hu : (vs.drop k).take us.length = us) : ∀ j v, us[j]? = some v → w.cell? ⟨p, 0 + k + j, none⟩ = some v := fun j v hv => by
  rw [Nat.add_assoc]
  refine h _ _ ?_
  rw [← hu, List.getElem?_take] at hv
  split at hv
  · rw [List.getElem?_drop] at hv; exact hv
  · cases hv
def strV (l : Bs) : Value := .string (bs l)
theorem mget_true (q : Bs) : ∀ l : List Bs, mget (l.map fun x => (x, true)) q = if q ∈ l then some true else none
  | [] => by simp [mget]
  | a :: l => by
    rw [List.map_cons, mget, mget_true q l]
    by_cases h : q = a
    · simp [h]
    · simp [h]
theorem mget_dec (q : Bs) (l : List Bs) : (mget (l.map fun x => (x, true)) q).getD false = decide (q ∈ l) := by
  rw [mget_true]
  by_cases h : q ∈ l
  · simp [h]
  · simp [h]
theorem take_next {α : Type} {l : List α} {j : Nat} (d : α) (h : j < l.length) : l.take (j + 1) = l.take j ++ [l.getD j d] := by
  rw [List.take_add_one]; simp [List.getD, List.getElem?_eq_getElem h]
theorem mem_take {l : List Bs} {j : Nat} {q : Bs} : q ∈ l.take j ↔ ∃ i, i < j ∧ i < l.length ∧ l.getD i [] = q := by
  constructor
  · intro h
    obtain ⟨i, hi, e⟩ := List.getElem_of_mem h
    rw [List.length_take] at hi
    exact ⟨i, by omega, by omega, by rw [← e]; simp [List.getD, show i < l.length by omega]⟩
  · rintro ⟨i, h1, h2, rfl⟩
    rw [show l.getD i [] = (l.take j)[i]'(by rw [List.length_take]; omega) by simp [List.getD, h2]]
    exact List.getElem_mem _
end Go.Drv
set_option linter.unusedSimpArgs false
set_option linter.unusedVariables false
namespace Go.Drv
open Go.Sv
def symT (n : Nat) : Bs := if n = 62 then [45, 62] else [n.toUInt8]
def tkind : MT → Int
  | .nm _ => 1
  | .num _ => 2
  | .sym _ => 3
def ttext : MT → Bs
  | .nm t => t
  | .num _ => []
  | .sym n => symT n
def tnum : MT → Int
  | .num v => v
  | _ => 0
def tokC (t : MT) : List Value := [.int .i64 (tkind t), .string (bs (ttext t)), .int .u64 (tnum t)]
def tokK : Enc MT where
  f := tokC
  sz := 3
  d := .num 0
  len t := rfl
  pos := by decide
  one t v hv := by simp [tokC] at hv; rcases hv with rfl | rfl | rfl <;> rfl
theorem drop_cons {l : Bs} {i : Nat} (h : i < l.length) : l.drop i = l.getD i 0 :: l.drop (i + 1) := by
  rw [List.drop_eq_getElem_cons h]
  simp [List.getD, List.getElem?_eq_getElem h]
theorem get_drop (l : Bs) (i j : Nat) : (l.drop i).getD j 0 = l.getD (i + j) 0 := by simp [List.getD]
theorem one_at {l : Bs} {i : Nat} (h : i < l.length) : (l.take (i + 1)).drop i = [l.getD i 0] := by
  rw [List.drop_take, show i + 1 - i = 1 by omega, drop_cons h]; rfl
theorem tw_split {l : Bs} {p : UInt8 → Bool} {w r : Bs} (h : l = w ++ r) (h1 : ∀ x ∈ w, p x = true) (h2 : r = [] ∨ p (r.getD 0 0) = false) : l.takeWhile p = w ∧ l.dropWhile p = r := by
  subst h
  induction w with
  | nil =>
    rcases h2 with rfl | h2
    · exact ⟨rfl, rfl⟩
    · cases r with
      | nil => exact ⟨rfl, rfl⟩
      | cons a r =>
        have ha : p a = false := h2
        simp [ha]
  | cons a w ih =>
    have ha := h1 a (List.mem_cons_self ..)
    have := ih fun x hx => h1 x (List.mem_cons_of_mem _ hx)
    simp [ha, this.1, this.2]
theorem tw_at {l : Bs} {p : UInt8 → Bool} {i e : Nat} (h1 : i ≤ e) (h2 : e ≤ l.length) (h3 : ∀ k, i ≤ k → k < e → p (l.getD k 0) = true) (h4 : e = l.length ∨ p (l.getD e 0) = false) :
    (l.drop i).takeWhile p = (l.take e).drop i ∧ (l.drop i).dropWhile p = l.drop e := by
  refine tw_split ?_ (fun x hx => ?_) ?_
  · have : l.drop i = ((l.take e) ++ l.drop e).drop i := by rw [List.take_append_drop]
    rw [this, List.drop_append_of_le_length (by rw [List.length_take]; omega)]
  · obtain ⟨k, hk, rfl⟩ := List.getElem_of_mem hx
    rw [List.length_drop, List.length_take] at hk
    have := h3 (i + k) (by omega) (by omega)
    rw [List.getElem_drop, List.getElem_take]
    rwa [List.getD, List.getElem?_eq_getElem (show i + k < l.length by omega)] at this
  · rcases h4 with rfl | h4
    · exact .inl (List.drop_of_length_le (Nat.le_refl _))
    · right; rw [get_drop]; exact h4
/-- What is left to read. -/
def Rd (l : Bs) (i : Nat) (ts : List MT) : Prop := tk l = (tk (l.drop i)).map (fun x => ts ++ x)
theorem Rd.start (l : Bs) : Rd l 0 [] := by unfold Rd; simp
theorem Rd.sp {l : Bs} {i : Nat} {ts : List MT} (h : Rd l i ts) (hi : i < l.length) (hc : spB (l.getD i 0) = true) : Rd l (i + 1) ts := by
  unfold Rd at *; rw [h, drop_cons hi, tk_sp hc]
theorem Rd.map {l : Bs} {i j : Nat} {ts : List MT} {t : MT} (h : Rd l i ts) (e : tk (l.drop i) = (tk (l.drop j)).map (fun x => t :: x)) : Rd l j (ts ++ [t]) := by
  unfold Rd at *
  rw [h, e, Option.map_map]
  congr 1
  funext x
  simp
theorem Rd.sym {l : Bs} {i : Nat} {ts : List MT} (h : Rd l i ts) (hi : i < l.length) (h0 : spB (l.getD i 0) = false) (hc : symB (l.getD i 0) = true) : Rd l (i + 1) (ts ++ [.sym (l.getD i 0).toNat]) :=
  h.map (by rw [drop_cons hi, tk_sym h0 hc])
theorem Rd.arr {l : Bs} {i : Nat} {ts : List MT} (h : Rd l i ts) (hp : 2 ≤ (l.drop i).length ∧ (l.drop i).take 2 = [45, 62]) : Rd l (i + 2) (ts ++ [.sym 62]) := by
  obtain ⟨h1, h2⟩ := hp
  rw [List.length_drop] at h1
  rw [drop_cons (show i < l.length by omega), drop_cons (show i + 1 < l.length by omega)] at h2
  simp only [List.take_succ_cons, List.take_zero, List.cons.injEq] at h2
  refine h.map ?_
  rw [drop_cons (show i < l.length by omega), h2.1, tk_arr (by rw [get_drop]; exact h2.2.1), List.drop_drop]
theorem not_arr {l : Bs} {i : Nat} (hi : i < l.length) (hp : ¬ (2 ≤ (l.drop i).length ∧ (l.drop i).take 2 = [45, 62])) : ¬ (l.getD i 0 = 45 ∧ (l.drop (i + 1)).getD 0 0 = 62) := by
  rintro ⟨h1, h2⟩
  have hl : i + 1 < l.length := by
    rcases Nat.lt_or_ge (i + 1) l.length with h | h
    · exact h
    · rw [List.drop_of_length_le h] at h2; exact absurd h2 (by decide)
  rw [get_drop] at h2
  refine hp ⟨by rw [List.length_drop]; omega, ?_⟩
  rw [drop_cons hi, drop_cons hl, h1, show l.getD (i + 1) 0 = 62 from h2]; rfl
theorem Rd.word {l : Bs} {i e : Nat} {ts : List MT} (h : Rd l i ts) (hi : i < l.length) (h0 : spB (l.getD i 0) = false) (h1 : symB (l.getD i 0) = false) (h2 : ¬ (2 ≤ (l.drop i).length ∧ (l.drop i).take 2 = [45, 62]))
    (g1 : i ≤ e) (g2 : e ≤ l.length) (g3 : ∀ k, i ≤ k → k < e → wrdB (l.getD k 0) = true) (g4 : e = l.length ∨ wrdB (l.getD e 0) = false) :
    (wordTok ((l.take e).drop i) = none → tk l = none) ∧ ∀ t, wordTok ((l.take e).drop i) = some t → i < e ∧ Rd l e (ts ++ [t]) := by
  obtain ⟨a1, a2⟩ := tw_at g1 g2 g3 g4
  have e0 := tk_word (c := l.getD i 0) (r := l.drop (i + 1)) h0 h1 (not_arr hi h2)
  rw [← drop_cons hi, a1, a2] at e0
  constructor
  · intro hw
    rw [hw] at e0
    unfold Rd at h
    rw [h, e0]; rfl
  · intro t hw
    rw [hw] at e0
    refine ⟨?_, h.map e0⟩
    rcases Nat.lt_or_ge i e with hlt | hge
    · exact hlt
    · obtain rfl : i = e := by omega
      rw [List.drop_of_length_le (by rw [List.length_take]; omega), wordTok_nil] at hw
      cases hw
theorem Rd.fin {l : Bs} {ts : List MT} (h : Rd l l.length ts) : tk l = some ts := by
  unfold Rd at h
  rw [h, List.drop_of_length_le (Nat.le_refl _), tk_nil]; simp
/-! ### Numbers -/
theorem valD_nil (n : Nat) : valD n [] = n := rfl
theorem valD_cons (n : Nat) (c : UInt8) (r : Bs) : valD n (c :: r) = valD (10 * n + (c.toNat - 48)) r := by unfold valD; rw [List.foldl_cons]
theorem valD_ge (l : Bs) : ∀ n : Nat, n ≤ valD n l := by
  induction l with
  | nil => intro n; exact Nat.le_refl _
  | cons c r ih =>
    intro n
    have := ih (10 * n + (c.toNat - 48))
    rw [valD_cons]; omega
theorem parseM_dig (l : Bs) : ∀ n : Nat, (∀ x ∈ l, digB x = true) → n < 18446744073709551616 → Lib.parseUintM 18446744073709551615 n l = if valD n l < 18446744073709551616 then .ok (valD n l) else .range := by
  induction l with
  | nil => intro n _ hn; rw [valD_nil, if_pos hn]; rfl
  | cons c r ih =>
    intro n h hn
    have hc : 48 ≤ c.toNat ∧ c.toNat ≤ 57 := of_decide_eq_true (h c (List.mem_cons_self ..))
    have hr := valD_ge r (10 * n + (c.toNat - 48))
    rw [valD_cons, Lib.parseUintM, if_pos hc]
    by_cases h1 : 1844674407370955162 ≤ n
    · rw [if_pos h1, if_neg (by omega)]
    · rw [if_neg h1]
      by_cases h2 : 18446744073709551615 < n * 10 + (c.toNat - 48)
      · rw [if_pos h2, if_neg (by omega)]
      · rw [if_neg h2, show n * 10 + (c.toNat - 48) = 10 * n + (c.toNat - 48) by omega]
        exact ih (10 * n + (c.toNat - 48)) (fun x hx => h x (List.mem_cons_of_mem _ hx)) (by omega)
theorem parseB_dig {l : Bs} (h0 : l ≠ []) (h : ∀ x ∈ l, digB x = true) : Lib.parseUintB 64 l = if valD 0 l < 18446744073709551616 then .ok (valD 0 l) else .range := by
  have h64 : (2 : Nat) ^ 64 - 1 = 18446744073709551615 := by decide
  rw [Lib.parseUintB, if_neg h0, h64]
  exact parseM_dig l 0 h (by omega)
theorem numW_iff (w : Bs) : numW w = true ↔ w ≠ [] ∧ (w.length = 1 ∨ w.getD 0 0 ≠ 48) ∧ ∀ k, k < w.length → digB (w.getD k 0) = true := by
  unfold numW
  simp only [Bool.and_eq_true, Bool.not_eq_true', Bool.or_eq_true, decide_eq_true_eq, all_iff (0 : UInt8), List.isEmpty_eq_false_iff]
  constructor
  · rintro ⟨⟨h1, h2⟩, h3⟩; exact ⟨h1, h2, h3⟩
  · rintro ⟨h1, h2, h3⟩; exact ⟨⟨h1, h2⟩, h3⟩
theorem wt_name {w : Bs} (h : isNm w = true) : wordTok w = some (.nm w) := by rw [wordTok, if_pos h]
theorem wt_bad {w : Bs} (h : isNm w = false) (h2 : numW w = false) : wordTok w = none := by rw [wordTok, if_neg (by rw [h]; decide), if_neg (fun k => by rw [h2] at k; cases k.1)]
theorem wt_num {w : Bs} (h : isNm w = false) (h2 : numW w = true) (h3 : valD 0 w < 18446744073709551616) : wordTok w = some (.num (valD 0 w)) := by rw [wordTok, if_neg (by rw [h]; decide), if_pos ⟨h2, h3⟩]
theorem wt_big {w : Bs} (h : isNm w = false) (h3 : ¬ valD 0 w < 18446744073709551616) : wordTok w = none := by rw [wordTok, if_neg (by rw [h]; decide), if_neg (fun k => h3 k.2)]
theorem mem_getD {w : Bs} (h : ∀ k, k < w.length → digB (w.getD k 0) = true) : ∀ x ∈ w, digB x = true := fun x hx => by
  obtain ⟨k, hk, rfl⟩ := List.getElem_of_mem hx
  have := h k hk
  rwa [List.getD, List.getElem?_eq_getElem hk] at this
end Go.Drv
set_option linter.unusedSimpArgs false
set_option linter.unusedVariables false
namespace Go.Drv
open Go.Sv
def okN (n : Nat) : Prop := n = 58 ∨ n = 59 ∨ n = 38 ∨ n = 61 ∨ n = 62
/-- What a line's tokens are. -/
def tkOk : MT → Prop
  | .sym n => okN n
  | _ => True
/-- What is asked for. -/
def okS : MT → Prop
  | .nm _ => True
  | .num _ => False
  | .sym n => okN n
theorem symT_inj {a b : Nat} (ha : okN a) (hb : okN b) (h : symT a = symT b) : a = b := by
  rcases ha with rfl | rfl | rfl | rfl | rfl <;> rcases hb with rfl | rfl | rfl | rfl | rfl <;> first | rfl | exact absurd h (by decide)
theorem acc_eq {x m : MT} (hx : tkOk x) (hm : okS m) (h1 : tkind x = tkind m) (h2 : ttext x = ttext m) : x = m := by
  cases m with
  | num v => exact hm.elim
  | nm t =>
    cases x with
    | nm u => exact congrArg MT.nm h2
    | num v => exact absurd h1 (by simp [tkind])
    | sym n => exact absurd h1 (by simp [tkind])
  | sym n =>
    cases x with
    | nm u => exact absurd h1 (by simp [tkind])
    | num v => exact absurd h1 (by simp [tkind])
    | sym k => exact congrArg MT.sym (symT_inj hx hm h2)
abbrev td : MT := .num 0
theorem drop_tk {ts : List MT} {i : Nat} (h : i < ts.length) : ts.drop i = ts.getD i td :: ts.drop (i + 1) := by
  rw [List.drop_eq_getElem_cons h]
  simp [List.getD, List.getElem?_eq_getElem h]
theorem tk_mem {ts : List MT} {i : Nat} (h : i < ts.length) : ts.getD i td ∈ ts := by
  rw [List.getD, List.getElem?_eq_getElem h]; exact List.getElem_mem h
theorem end_nil {ts : List MT} {i : Nat} (h : i = ts.length) : ts.drop i = [] := List.drop_of_length_le (by omega)
theorem nm_end {ts : List MT} {i : Nat} (h : i = ts.length) : ∀ t r, ts.drop i ≠ .nm t :: r := fun t r e => by rw [end_nil h] at e; cases e
theorem nm_no {ts : List MT} {i : Nat} (h : i < ts.length) (hk : tkind (ts.getD i td) ≠ 1) : ∀ t r, ts.drop i ≠ .nm t :: r := fun t r e => by
  rw [drop_tk h] at e; injection e with e1 e2; rw [e1] at hk; exact hk rfl
theorem nm_yes {ts : List MT} {i : Nat} (h : i < ts.length) (hk : tkind (ts.getD i td) = 1) : ts.drop i = .nm (ttext (ts.getD i td)) :: ts.drop (i + 1) := by
  rw [drop_tk h]
  cases e : ts.getD i td with
  | nm t => rfl
  | num v => rw [e] at hk; exact absurd hk (by simp [tkind])
  | sym n => rw [e] at hk; exact absurd hk (by simp [tkind])
theorem num_end {ts : List MT} {i : Nat} (h : i = ts.length) : ∀ t r, ts.drop i ≠ .num t :: r := fun t r e => by rw [end_nil h] at e; cases e
theorem num_no {ts : List MT} {i : Nat} (h : i < ts.length) (hk : tkind (ts.getD i td) ≠ 2) : ∀ t r, ts.drop i ≠ .num t :: r := fun t r e => by
  rw [drop_tk h] at e; injection e with e1 e2; rw [e1] at hk; exact hk rfl
theorem num_yes {ts : List MT} {i : Nat} (h : i < ts.length) (hk : tkind (ts.getD i td) = 2) : ts.drop i = .num (tnum (ts.getD i td)) :: ts.drop (i + 1) := by
  rw [drop_tk h]
  cases e : ts.getD i td with
  | num v => rfl
  | nm t => rw [e] at hk; exact absurd hk (by simp [tkind])
  | sym n => rw [e] at hk; exact absurd hk (by simp [tkind])
theorem acc_end {ts : List MT} {i : Nat} {m : MT} (h : i = ts.length) : ∀ r, ts.drop i ≠ m :: r := fun r e => by rw [end_nil h] at e; cases e
theorem acc_no {ts : List MT} {i : Nat} {m : MT} (h : i < ts.length) (hk : ¬ (tkind (ts.getD i td) = tkind m ∧ ttext (ts.getD i td) = ttext m)) : ∀ r, ts.drop i ≠ m :: r := fun r e => by
  rw [drop_tk h] at e; injection e with e1 e2; rw [e1] at hk; exact hk ⟨rfl, rfl⟩
theorem acc_yes {ts : List MT} {i : Nat} {m : MT} (h : i < ts.length) (ht : ∀ x ∈ ts, tkOk x) (hm : okS m) (h1 : tkind (ts.getD i td) = tkind m) (h2 : ttext (ts.getD i td) = ttext m) : ts.drop i = m :: ts.drop (i + 1) := by
  rw [drop_tk h, acc_eq (ht _ (tk_mem h)) hm h1 h2]
theorem toks_ok : ∀ (n : Nat) (l : Bs) (ts : List MT), toks n l = some ts → ∀ x ∈ ts, tkOk x := by
  intro n
  induction n with
  | zero => intro l ts h; cases h
  | succ n ih =>
    intro l ts h
    cases l with
    | nil => rw [toks] at h; cases h; intro x hx; cases hx
    | cons c r =>
      rw [toks] at h
      split at h
      · exact ih _ _ h
      · split at h
        · rename_i h1 h2
          obtain ⟨a, ha, rfl⟩ := Option.map_eq_some_iff.1 h
          intro x hx
          rcases List.mem_cons.1 hx with rfl | hx
          · have h3 : c = 58 ∨ c = 59 ∨ c = 38 ∨ c = 61 := of_decide_eq_true h2
            rcases h3 with rfl | rfl | rfl | rfl
            · exact .inl rfl
            · exact .inr (.inl rfl)
            · exact .inr (.inr (.inl rfl))
            · exact .inr (.inr (.inr (.inl rfl)))
          · exact ih _ _ ha x hx
        · split at h
          · obtain ⟨a, ha, rfl⟩ := Option.map_eq_some_iff.1 h
            intro x hx
            rcases List.mem_cons.1 hx with rfl | hx
            · exact .inr (.inr (.inr (.inr rfl)))
            · exact ih _ _ ha x hx
          · split at h
            · cases h
            · rename_i t ht
              obtain ⟨a, ha, rfl⟩ := Option.map_eq_some_iff.1 h
              intro x hx
              rcases List.mem_cons.1 hx with rfl | hx
              · unfold wordTok at ht
                split at ht
                · cases ht; trivial
                · split at ht
                  · cases ht; trivial
                  · cases ht
              · exact ih _ _ ha x hx
theorem tk_ok {l : Bs} {ts : List MT} (h : tk l = some ts) : ∀ x ∈ ts, tkOk x := toks_ok _ _ _ h
end Go.Drv
set_option linter.unusedSimpArgs false
set_option linter.unusedVariables false
namespace Go.Drv
open Go.Sv
section
variable {ts : List MT} {i k n : Nat}
theorem op_w_yes {a b : Int} (h0 : ts.drop i = .nm sWrite :: ts.drop (i + 1)) (h1 : ts.drop (i + 1) = .num a :: ts.drop (i + 1 + 1)) (h2 : ts.drop (i + 1 + 1) = .num b :: ts.drop (i + 1 + 1 + 1)) : opM (ts.drop i) = some (⟨true, a, b⟩, ts.drop (i + 1 + 1 + 1)) := by
  rw [h0, h1, h2]; rfl
theorem op_w_no2 {a : Int} (h0 : ts.drop i = .nm sWrite :: ts.drop (i + 1)) (h1 : ts.drop (i + 1) = .num a :: ts.drop (i + 1 + 1)) (h2 : ∀ x r, ts.drop (i + 1 + 1) ≠ .num x :: r) : opM (ts.drop i) = none := by
  rw [h0, h1]
  generalize ts.drop (i + 1 + 1) = l at h2
  simp only [opM, if_true]
theorem op_no1 {k : Bs} (h0 : ts.drop i = .nm k :: ts.drop (i + 1)) (h1 : ∀ x r, ts.drop (i + 1) ≠ .num x :: r) : opM (ts.drop i) = none := by
  rw [h0]
  generalize ts.drop (i + 1) = l at h1
  unfold opM
  split
  · rename_i e
    injection e with e1 e2
    exact absurd e2 (h1 _ _)
  · rfl
theorem op_r_yes {a : Int} (h0 : ts.drop i = .nm sRead :: ts.drop (i + 1)) (h1 : ts.drop (i + 1) = .num a :: ts.drop (i + 1 + 1)) : opM (ts.drop i) = some (⟨false, a, 0⟩, ts.drop (i + 1 + 1)) := by
  rw [h0, h1]; simp only [opM]; rw [if_neg (by decide), if_pos trivial]
theorem op_no (h0 : ∀ r, ts.drop i ≠ .nm sWrite :: r) (h1 : ∀ r, ts.drop i ≠ .nm sRead :: r) : opM (ts.drop i) = none := by
  generalize ts.drop i = l at h0 h1
  unfold opM
  split
  · rw [if_neg (fun e => h0 _ (by rw [e])), if_neg (fun e => h1 _ (by rw [e]))]
  · rfl
/-! ### After "on" -/
def onR (e : Bs) (g : Gd) (t : Bs) (o : List Ro) : Tr × Bs := (⟨0, e, g, o, 0⟩, t)
def onT (e : Bs) (g : Gd) : List MT → Option (Tr × Bs)
  | .sym 62 :: .nm t :: r => (tailM r).map (onR e g t)
  | _ => none
theorem on_nm (h : ∀ t r, ts.drop i ≠ .nm t :: r) : onM (ts.drop i) = none := by
  generalize ts.drop i = l at h
  unfold onM
  split
  · exact absurd rfl (h _ _)
  · rfl
theorem onM_eq (e : Bs) (l : List MT) : onM (.nm e :: l) = match gdM l with
    | some (g, r) => onT e g r
    | none => none := by
  simp only [onM]
  cases gdM l with
  | none => rfl
  | some x =>
    obtain ⟨g, r⟩ := x
    simp only []
    rcases r with _ | ⟨x, r⟩
    · rfl
    · cases x with
      | nm _ => rfl
      | num _ => rfl
      | sym n =>
        by_cases hn : n = 62
        · subst hn
          rcases r with _ | ⟨y, r⟩
          · rfl
          · cases y <;> rfl
        · simp [onT, hn]
theorem on_g0 {e : Bs} (h0 : ts.drop i = .nm e :: ts.drop (i + 1)) (h1 : ∀ r, ts.drop (i + 1) ≠ .nm sIf :: r) : onM (ts.drop i) = onT e gd0 (ts.drop (i + 1)) := by
  rw [h0, onM_eq]
  generalize ts.drop (i + 1) = l at h1
  cases l with
  | nil => rfl
  | cons x r =>
    cases x with
    | num v => rfl
    | sym n => rfl
    | nm k =>
      have hk : k ≠ sIf := fun e => h1 r (by rw [e])
      have : gdM (.nm k :: r) = none := by
        unfold gdM
        split
        · rename_i e; injection e with e1 e2; injection e1 with e1; subst e1; rw [if_neg hk]
        · rfl
        · rename_i h; exact absurd rfl (h _ _)
      rw [this]; rfl
theorem on_g1 {e : Bs} {a m v : Int} {r : List MT} (h0 : ts.drop i = .nm e :: ts.drop (i + 1)) (h1 : ts.drop (i + 1) = .nm sIf :: .num a :: .sym 38 :: .num m :: .sym 61 :: .num v :: r) : onM (ts.drop i) = onT e ⟨true, a, m, v⟩ r := by
  rw [h0, onM_eq, h1]; simp only [gdM, if_true]
theorem on_gn {e : Bs} (h0 : ts.drop i = .nm e :: ts.drop (i + 1)) (h1 : ts.drop (i + 1) = .nm sIf :: ts.drop (i + 1 + 1)) (h : ∀ a m v r, ts.drop (i + 1 + 1) ≠ .num a :: .sym 38 :: .num m :: .sym 61 :: .num v :: r) : onM (ts.drop i) = none := by
  rw [h0, onM_eq, h1]
  generalize ts.drop (i + 1 + 1) = l at h
  have : gdM (.nm sIf :: l) = none := by
    unfold gdM
    split
    · rename_i e; injection e with e1 e2; exact absurd e2 (h _ _ _ _)
    · rfl
    · rename_i h; exact absurd rfl (h _ _)
  rw [this]
theorem onT_no1 {e : Bs} {g : Gd} (h : ∀ r, ts.drop i ≠ .sym 62 :: r) : onT e g (ts.drop i) = none := by
  generalize ts.drop i = l at h
  unfold onT
  split
  · exact absurd rfl (h _)
  · rfl
theorem onT_no2 {e : Bs} {g : Gd} (h0 : ts.drop i = .sym 62 :: ts.drop (i + 1)) (h : ∀ t r, ts.drop (i + 1) ≠ .nm t :: r) : onT e g (ts.drop i) = none := by
  rw [h0]
  generalize ts.drop (i + 1) = l at h
  unfold onT
  split
  · rename_i e; injection e with e1 e2; exact absurd e2 (h _ _)
  · rfl
theorem onT_yes {e t : Bs} {g : Gd} (h0 : ts.drop i = .sym 62 :: ts.drop (i + 1)) (h : ts.drop (i + 1) = .nm t :: ts.drop (i + 1 + 1)) : onT e g (ts.drop i) = (tailM (ts.drop (i + 1 + 1))).map (onR e g t) := by
  rw [h0, h]; rfl
theorem tail_no (hi : i ≤ ts.length) (h : ∀ r, ts.drop i ≠ .sym 58 :: r) : tailM (ts.drop i) = if i = ts.length then some [] else none := by
  by_cases he : i = ts.length
  · rw [end_nil he, if_pos he]; rfl
  · rw [if_neg he, drop_tk (by omega)]
    rw [drop_tk (by omega)] at h
    unfold tailM
    split
    · rename_i e; cases e
    · rename_i e; rw [e] at h; exact absurd rfl (h _)
    · rfl
/-- Between the operations. -/
def LIv (R : Option (Tr × Bs)) (e : Bs) (g : Gd) (t : Bs) (ts : List MT) (acc : List Ro) (n : Nat) (b : Bool) : Prop :=
  (b = true → ∃ f, (ts.drop n).length < f ∧ R = (opsM f (ts.drop n)).map (fun o => onR e g t (acc ++ o))) ∧ (b = false → R = if n = ts.length then some (onR e g t acc) else none)
variable {R : Option (Tr × Bs)} {e t : Bs} {g : Gd} {acc : List Ro} {o : Ro}
theorem LIv.start (h : R = (tailM (ts.drop i)).map (onR e g t)) (h0 : ts.drop i = .sym 58 :: ts.drop (i + 1)) : LIv R e g t ts [] (i + 1) true :=
  ⟨fun _ => ⟨_, Nat.lt_succ_self _, by rw [h, h0]; rfl⟩, fun h => by cases h⟩
theorem opsM_succ (f : Nat) (l : List MT) : opsM (f + 1) l = match opM l with
    | none => none
    | some (o, []) => some [o]
    | some (o, .sym 59 :: r) => (opsM f r).map (fun x => o :: x)
    | some _ => none := rfl
theorem LIv.bad (h : LIv R e g t ts acc n true) (h0 : opM (ts.drop n) = none) : R = none := by
  obtain ⟨f, hf, h⟩ := h.1 rfl
  obtain ⟨f, rfl⟩ : ∃ f', f = f' + 1 := ⟨f - 1, by omega⟩
  rw [h, opsM_succ, h0]; rfl
theorem LIv.more (h : LIv R e g t ts acc n true) (h0 : opM (ts.drop n) = some (o, ts.drop k)) (hk : n < k) (hl : k < ts.length) (h1 : ts.drop k = .sym 59 :: ts.drop (k + 1)) : LIv R e g t ts (acc ++ [o]) (k + 1) true := by
  obtain ⟨f, hf, h⟩ := h.1 rfl
  obtain ⟨f, rfl⟩ : ∃ f', f = f' + 1 := ⟨f - 1, by omega⟩
  refine ⟨fun _ => ⟨f, ?_, ?_⟩, fun h => by cases h⟩
  · rw [List.length_drop] at hf ⊢; omega
  · rw [h, opsM_succ, h0, h1]
    simp only [Option.map_map]
    congr 1
    funext x
    simp
theorem LIv.last (h : LIv R e g t ts acc n true) (h0 : opM (ts.drop n) = some (o, ts.drop k)) (hl : k ≤ ts.length) (h1 : ∀ r, ts.drop k ≠ .sym 59 :: r) : LIv R e g t ts (acc ++ [o]) k false := by
  obtain ⟨f, hf, h⟩ := h.1 rfl
  obtain ⟨f, rfl⟩ : ∃ f', f = f' + 1 := ⟨f - 1, by omega⟩
  refine ⟨fun h => (by cases h), fun _ => ?_⟩
  rw [h, opsM_succ, h0]
  by_cases he : k = ts.length
  · rw [end_nil he, if_pos he]; rfl
  · rw [if_neg he]
    rw [drop_tk (by omega)] at h1 ⊢
    split
    · rename_i e; cases e
    · rename_i e; injection e with e; injection e with e1 e2; cases e2
    · rename_i e; injection e with e; injection e with e1 e2; rw [e2] at h1; exact absurd rfl (h1 _)
    · rfl
end
structure OZ where
  ls : List Ro
  A : Option Addr
  c : Nat
  n : Nat
end Go.Drv
set_option linter.unusedSimpArgs false
set_option linter.unusedVariables false
namespace Go.Sv
theorem Hp.bigSnoc {I0 : Ids} {w0 w : World} {L : List Assn} {β : Type} {F : β → Assn} {hs : List β} {k : Nat} {h' : β} (h : Hp I0 w0 (L ++ [F h']) w) (hk : L[k]? = some (Big F hs)) : Hp I0 w0 (L.set k (Big F (hs ++ [h']))) w := by
  have hp1 : (L ++ [F h']).Perm ([F h', Big F hs] ++ L.eraseIdx k) :=
    (List.perm_append_singleton _ _).trans (List.Perm.cons _ (perm_erase hk))
  have h1 := (h.perm hp1).bundle (A := Big F (hs ++ [h'])) fun i hi => by
    obtain ⟨a, b, e1, e2, e3, c, d, e4, e5, e6, e7⟩ := hi
    have hp : (F h' :: hs.map F).Perm ((hs ++ [h']).map F) := by
      rw [List.map_append]; exact (List.perm_append_singleton _ _).symm
    refine Sep.perm hp ⟨a, b, e1, e2, e3, ?_⟩
    exact Sep.ext e6 fun x => by rw [e4 x]; exact ⟨.inl, fun h => h.elim id fun h => absurd h (e7 x)⟩
  exact h1.perm (perm_set _ hk)
end Go.Sv
namespace Go.Drv
open Go.Sv
def opA (h : TH) : Assn := OS 59 roK h.A h.c h.t.ops
structure PH where
  named : Bool
  name : Bs
  sA : Option Addr
  sc : Nat
  ss : List Bs
  tA : Option Addr
  tc : Nat
  hs : List TH
  gA : Option Addr
  gc : Nat
  tg : List Bs
def PH.ps (P : PH) : PS := ⟨P.named, P.name, P.ss, P.hs.map (·.t), P.tg⟩
def ph0 : PH := ⟨false, [], none, 0, [], none, 0, [], none, 0, []⟩
section
variable {ts : List MT} {p : PS} {kw n : Bs}
theorem lm_nil (h : ts.length = 0) : lineM p ts = some p := by
  rw [List.eq_nil_of_length_eq_zero h]; rfl
theorem lm_nonm (h0 : ts.length ≠ 0) (h : ∀ t r, ts.drop 0 ≠ .nm t :: r) : lineM p ts = none := by
  rw [List.drop_zero] at h
  unfold lineM
  split
  · exact absurd rfl h0
  · exact absurd rfl (h _ _)
  · rfl
theorem lm_eq (h : ts.drop 0 = .nm kw :: ts.drop (0 + 1)) : lineM p ts = if p.named = false then (match ts.drop (0 + 1) with
      | [.nm n] => if kw = sDriver then some { p with named := true, name := n } else none
      | _ => none)
    else if kw = sState then (match ts.drop (0 + 1) with
      | [.nm n] => some { p with ss := p.ss ++ [n] }
      | _ => none)
    else if kw = sOn ∧ p.ss ≠ [] then (onM (ts.drop (0 + 1))).map (fun x => { p with ts := p.ts ++ [{ x.1 with frm := (p.ss.length : Int) - 1 }], tg := p.tg ++ [x.2] })
    else none := by
  rw [List.drop_zero] at h
  generalize ts.drop (0 + 1) = l at h
  subst h; rfl
theorem one_nm {α : Type} {f : Bs → Option α} (h : ts.drop (0 + 1) = .nm n :: ts.drop (0 + 1 + 1)) (he : 0 + 1 + 1 = ts.length) : (match ts.drop (0 + 1) with
      | [.nm n] => f n
      | _ => none) = f n := by
  rw [h, end_nil he]
theorem one_more {α : Type} {f : Bs → Option α} (h : ts.drop (0 + 1) = .nm n :: ts.drop (0 + 1 + 1)) (hl : 0 + 1 < ts.length) (he : ¬ 0 + 1 + 1 = ts.length) : (match ts.drop (0 + 1) with
      | [.nm n] => f n
      | _ => none) = none := by
  rw [h, drop_tk (i := 0 + 1 + 1) (by omega)]
theorem one_no {α : Type} {f : Bs → Option α} (h : ∀ t r, ts.drop (0 + 1) ≠ .nm t :: r) : (match ts.drop (0 + 1) with
      | [.nm n] => f n
      | _ => none) = none := by
  generalize ts.drop (0 + 1) = l at h
  split
  · exact absurd rfl (h _ _)
  · rfl
theorem lm_dok (h : ts.drop 0 = .nm kw :: ts.drop (0 + 1)) (hn : p.named = false) (h1 : ts.drop (0 + 1) = .nm n :: ts.drop (0 + 1 + 1)) (hk : kw = sDriver) (he : 0 + 1 + 1 = ts.length) : lineM p ts = some { p with named := true, name := n } := by
  rw [lm_eq h, if_pos hn, one_nm h1 he, if_pos hk]
theorem lm_dk (h : ts.drop 0 = .nm kw :: ts.drop (0 + 1)) (hn : p.named = false) (hk : kw ≠ sDriver) : lineM p ts = none := by
  rw [lm_eq h, if_pos hn]
  split
  · rw [if_neg hk]
  · rfl
theorem lm_dn (h : ts.drop 0 = .nm kw :: ts.drop (0 + 1)) (hn : p.named = false) (h1 : ∀ t r, ts.drop (0 + 1) ≠ .nm t :: r) : lineM p ts = none := by
  rw [lm_eq h, if_pos hn, one_no h1]
theorem lm_de (h : ts.drop 0 = .nm kw :: ts.drop (0 + 1)) (hn : p.named = false) (h1 : ts.drop (0 + 1) = .nm n :: ts.drop (0 + 1 + 1)) (hl : 0 + 1 < ts.length) (he : ¬ 0 + 1 + 1 = ts.length) : lineM p ts = none := by
  rw [lm_eq h, if_pos hn, one_more h1 hl he]
theorem lm_sok (h : ts.drop 0 = .nm kw :: ts.drop (0 + 1)) (hn : p.named = true) (hk : kw = sState) (h1 : ts.drop (0 + 1) = .nm n :: ts.drop (0 + 1 + 1)) (he : 0 + 1 + 1 = ts.length) : lineM p ts = some { p with ss := p.ss ++ [n] } := by
  rw [lm_eq h, if_neg (by rw [hn]; decide), if_pos hk, one_nm h1 he]
theorem lm_sn (h : ts.drop 0 = .nm kw :: ts.drop (0 + 1)) (hn : p.named = true) (hk : kw = sState) (h1 : ∀ t r, ts.drop (0 + 1) ≠ .nm t :: r) : lineM p ts = none := by
  rw [lm_eq h, if_neg (by rw [hn]; decide), if_pos hk, one_no h1]
theorem lm_se (h : ts.drop 0 = .nm kw :: ts.drop (0 + 1)) (hn : p.named = true) (hk : kw = sState) (h1 : ts.drop (0 + 1) = .nm n :: ts.drop (0 + 1 + 1)) (hl : 0 + 1 < ts.length) (he : ¬ 0 + 1 + 1 = ts.length) : lineM p ts = none := by
  rw [lm_eq h, if_neg (by rw [hn]; decide), if_pos hk, one_more h1 hl he]
theorem lm_ook {x : Tr × Bs} (h : ts.drop 0 = .nm kw :: ts.drop (0 + 1)) (hn : p.named = true) (hs : kw ≠ sState) (hk : kw = sOn) (hp : p.ss ≠ []) (ho : onM (ts.drop (0 + 1)) = some x) : lineM p ts = some { p with ts := p.ts ++ [{ x.1 with frm := (p.ss.length : Int) - 1 }], tg := p.tg ++ [x.2] } := by
  rw [lm_eq h, if_neg (by rw [hn]; decide), if_neg hs, if_pos ⟨hk, hp⟩, ho]; rfl
theorem lm_on (h : ts.drop 0 = .nm kw :: ts.drop (0 + 1)) (hn : p.named = true) (hs : kw ≠ sState) (ho : onM (ts.drop (0 + 1)) = none) : lineM p ts = none := by
  rw [lm_eq h, if_neg (by rw [hn]; decide), if_neg hs]
  split
  · rw [ho]; rfl
  · rfl
theorem lm_no (h : ts.drop 0 = .nm kw :: ts.drop (0 + 1)) (hn : p.named = true) (hs : kw ≠ sState) (hk : ¬ (kw = sOn ∧ p.ss ≠ [])) : lineM p ts = none := by
  rw [lm_eq h, if_neg (by rw [hn]; decide), if_neg hs, if_neg hk]
end
end Go.Drv
set_option linter.unusedSimpArgs false
set_option linter.unusedVariables false
namespace Go.Drv
open Go.Sv
def ents (ss : List Bs) (j : Nat) : List (Bs × Int) := (List.range j).map fun i => (ss.getD i [], (i : Int))
theorem ents_succ (ss : List Bs) (j : Nat) : ents ss (j + 1) = ents ss j ++ [(ss.getD j [], (j : Int))] := by
  unfold ents; rw [List.range_succ, List.map_append]; rfl
theorem mget_find {ν : Type} (f : Nat → Bs) (g : Nat → ν) (q : Bs) : ∀ l : List Nat, mget (l.map fun i => (f i, g i)) q = (l.find? fun i => decide (f i = q)).map g
  | [] => rfl
  | a :: l => by
    rw [List.map_cons, mget, mget_find f g q l, List.find?_cons]
    by_cases h : f a = q
    · rw [if_pos h.symm, decide_eq_true h]; rfl
    · rw [if_neg (fun e => h e.symm), decide_eq_false h]
theorem mget_ents (ss : List Bs) (q : Bs) : mget (ents ss ss.length) q = (idxOf ss q).map (fun (i : Nat) => (i : Int)) := mget_find (fun i => ss.getD i []) (fun i => (i : Int)) q (List.range ss.length)
theorem mget_new {ss : List Bs} {j : Nat} (h : ∀ i, i < j → ss.getD i [] ≠ ss.getD j []) : mget (ents ss j) (ss.getD j []) = none := by
  unfold ents
  rw [mget_find]
  rw [Option.map_eq_none_iff, List.find?_eq_none]
  intro i hi
  simpa using h i (List.mem_range.1 hi)
theorem Big_congr {β : Type} {F : β → Assn} {hs hs' : List β} (h : hs.map F = hs'.map F) : Big F hs = Big F hs' := by
  simp only [Big, h]
/-- Between the targets. -/
structure LkI (P : PH) (H : List TH) (j : Nat) : Prop where
  len : H.length = P.hs.length
  own : H.map opA = P.hs.map opA
  eq : linkM P.ss (P.hs.map (·.t)) P.tg = (linkM P.ss ((H.drop j).map (·.t)) (P.tg.drop j)).map fun x => (H.take j).map (·.t) ++ x
theorem LkI.start (P : PH) : LkI P P.hs 0 := ⟨rfl, rfl, by simp⟩
def linkT (h : TH) (i : Int) : TH := { h with t := { h.t with to := i } }
theorem dropTH {H : List TH} {j : Nat} (h : j < H.length) : H.drop j = H.getD j thK.d :: H.drop (j + 1) := by
  rw [List.drop_eq_getElem_cons h]; simp [List.getD, List.getElem?_eq_getElem h]
theorem dropBs {l : List Bs} {j : Nat} (h : j < l.length) : l.drop j = l.getD j strK.d :: l.drop (j + 1) := by
  rw [List.drop_eq_getElem_cons h]; simp [List.getD, List.getElem?_eq_getElem h]
theorem LkI.bad {P : PH} {H : List TH} {j : Nat} (h : LkI P H j) (hj : j < P.tg.length) (hl : P.tg.length = P.hs.length) (hi : idxOf P.ss (P.tg.getD j strK.d) = none) : linkM P.ss (P.hs.map (·.t)) P.tg = none := by
  rw [h.eq, dropTH (by rw [h.len]; omega), dropBs hj, List.map_cons, linkM, hi]; rfl
theorem LkI.next {P : PH} {H : List TH} {j i : Nat} (h : LkI P H j) (hj : j < P.tg.length) (hl : P.tg.length = P.hs.length) (hi : idxOf P.ss (P.tg.getD j strK.d) = some i) : LkI P (H.set j (linkT (H.getD j thK.d) i)) (j + 1) := by
  have hjH : j < H.length := by rw [h.len]; omega
  refine ⟨by rw [List.length_set]; exact h.len, ?_, ?_⟩
  · rw [← h.own]
    apply List.ext_getElem?
    intro k
    rw [List.getElem?_map, List.getElem?_map, List.getElem?_set]
    split
    · rename_i e; subst e
      rw [List.getElem?_eq_getElem hjH]
      simp [List.getD, List.getElem?_eq_getElem hjH, linkT, opA]
    · rfl
  · rw [h.eq, dropTH hjH, dropBs hj, List.map_cons, linkM, hi]
    simp only [Option.map_map]
    rw [List.drop_set_of_lt (by omega)]
    congr 1
    funext x
    have h1 : (H.set j (linkT (H.getD j thK.d) i)).take (j + 1) = H.take j ++ [linkT (H.getD j thK.d) i] := by
      rw [List.take_add_one, List.take_set_of_le (Nat.le_refl _)]
      simp [List.getElem?_set, hjH]
    rw [h1]
    simp [linkT]
theorem LkI.fin {P : PH} {H : List TH} {j : Nat} (h : LkI P H j) (hj : P.tg.length ≤ j) (hl : P.tg.length = P.hs.length) : linkM P.ss (P.hs.map (·.t)) P.tg = some (H.map (·.t)) := by
  rw [h.eq, List.drop_of_length_le (by rw [h.len]; omega), List.take_of_length_le (by rw [h.len]; omega)]
  simp [linkM]
theorem line_tg {p q : PS} {ts : List MT} (h : lineM p ts = some q) (hp : p.ts.length = p.tg.length) : q.ts.length = q.tg.length := by
  unfold lineM at h
  split at h
  · cases h; exact hp
  · split at h
    · split at h
      · split at h
        · cases h; exact hp
        · cases h
      · cases h
    · split at h
      · split at h
        · cases h; exact hp
        · cases h
      · split at h
        · obtain ⟨x, _, rfl⟩ := Option.map_eq_some_iff.1 h
          simp [hp]
        · cases h
  · cases h
theorem run_tg : ∀ (ls : List Bs) {p q : PS}, runM p ls = some q → p.ts.length = p.tg.length → q.ts.length = q.tg.length
  | [], p, q, h, hp => by cases h; exact hp
  | l :: ls, p, q, h, hp => by
    rw [runM] at h
    obtain ⟨y, h1, h2⟩ := Option.bind_eq_some_iff.1 h
    unfold lnM at h1
    obtain ⟨ts, _, h3⟩ := Option.bind_eq_some_iff.1 h1
    exact run_tg ls h2 (line_tg h3 hp)
def dh0 : DH := ⟨[], none, 0, [], none, 0, []⟩
def dL (d : DH) : List Assn := [OS 9 strK d.sA d.sc d.ss, OS 48 thK d.tA d.tc d.hs, Big opA d.hs]
theorem Hp.dL0 {I : Ids} {w0 w : World} (h : Hp I w0 [] w) : Hp I w0 (dL dh0) w := by
  have h1 := (h.nilOS (e := 9) (K := strK)).nilOS (e := 48) (K := thK)
  exact h1.newBig (F := opA) 0 thD fun w => OS.emp w
theorem parse_none {s : Bs} (h : runM ps0 (splitNL s) = none) : parseM s = (2, dv0) := by unfold parseM; rw [h]
theorem parse_some {s : Bs} {p : PS} (h : runM ps0 (splitNL s) = some p) : parseM s = finM p := by unfold parseM; rw [h]
theorem fin_un {p : PS} (h : p.named = false) : finM p = (2, dv0) := by unfold finM; rw [if_pos h]
theorem fin_dup {p : PS} (h : p.named = true) (h2 : ¬ p.ss.Nodup) : finM p = (7, dv0) := by unfold finM; rw [if_neg (by rw [h]; decide), if_pos h2]
theorem fin_nf {p : PS} (h : p.named = true) (h2 : p.ss.Nodup) (h3 : linkM p.ss p.ts p.tg = none) : finM p = (6, dv0) := by unfold finM; rw [if_neg (by rw [h]; decide), if_neg (fun k => k h2), h3]
theorem fin_ck {p : PS} {ts : List Tr} (h : p.named = true) (h2 : p.ss.Nodup) (h3 : linkM p.ss p.ts p.tg = some ts) (h4 : chkM ⟨p.name, p.ss, ts⟩ ≠ 0) : finM p = (chkM ⟨p.name, p.ss, ts⟩, dv0) := by unfold finM; rw [if_neg (by rw [h]; decide), if_neg (fun k => k h2), h3]; exact if_neg h4
theorem fin_ok {p : PS} {ts : List Tr} (h : p.named = true) (h2 : p.ss.Nodup) (h3 : linkM p.ss p.ts p.tg = some ts) (h4 : chkM ⟨p.name, p.ss, ts⟩ = 0) : finM p = (0, ⟨p.name, p.ss, ts⟩) := by unfold finM; rw [if_neg (by rw [h]; decide), if_neg (fun k => k h2), h3]; exact if_pos h4
end Go.Drv
