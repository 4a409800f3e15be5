/-
  Opening and closing a space; insertion of a mapping.
-/
import Derived.Test.YthdpojggdodpfaaMdl2
set_option linter.unusedSimpArgs false
set_option linter.unusedVariables false
namespace Go.Ios
open Go.Sv
section
variable {I0 : Ids} {w0 w : World} {B0 : Assn} {R : List Assn} {sps : List Sp} {m : Nat}
theorem perm3 {α : Type} (a b x e : α) (R : List α) : (a :: b :: x :: (R ++ [e])).Perm (x :: a :: b :: e :: R) :=
  ((((List.perm_append_singleton e R).cons x).cons b).cons a).trans (((List.Perm.swap x b (e :: R)).cons a).trans (List.Perm.swap x a (b :: e :: R)))
theorem openSp (h : Hp I0 w0 (B0 :: Big spA sps :: R) w) (hm : m < sps.length) :
    Hp I0 w0 (B0 :: OS 78 ptrK (sps.getD m spD).A (sps.getD m spD).c ((sps.getD m spD).hs.map fun h => some h.p) :: Big mhA (sps.getD m spD).hs :: Big spA (sps.eraseIdx m) :: R) w := by
  have h1 := h.focus spD (k := 1) rfl hm
  have h2 := h1.splice (k := 1) (A := spA (sps.getD m spD)) (M := spL (sps.getD m spD)) rfl fun i hi => hi
  exact h2.perm (perm3 _ _ _ _ _)
theorem closeSp {q : Sp} (h : Hp I0 w0 (B0 :: OS 78 ptrK q.A q.c (q.hs.map fun h => some h.p) :: Big mhA q.hs :: Big spA (sps.eraseIdx m) :: R) w) (hm : m < sps.length) :
    Hp I0 w0 (B0 :: Big spA (sps.set m q) :: R) w := by
  have h1 := h.perm (perm3 _ _ _ _ _).symm
  have h2 : Hp I0 w0 (spA q :: (B0 :: (R ++ [Big spA (sps.eraseIdx m)]))) w := Hp.bundle (M := spL q) (R := B0 :: (R ++ [Big spA (sps.eraseIdx m)])) h1 fun i hi => hi
  have h3 : Hp I0 w0 ((B0 :: spA q :: R) ++ [Big spA (sps.eraseIdx m)]) w := h2.perm (List.Perm.swap _ _ _)
  exact h3.unfocus (k := 1) rfl hm
theorem big_add {h : MH} {hs hs' : List MH} (hp : (h :: hs).Perm hs') {i : Ids} (k : Sep (mhL h ++ [Big mhA hs]) i w) : (Big mhA hs').sat w i := by
  obtain ⟨i1, j1, hI, hd, h1, i2, j2, hJ, hd2, h2, h3⟩ := Sep.append.1 k
  have hs2 : Sep (mhA h :: hs.map mhA) i w := ⟨i1, j1, hI, hd, h1, h2.ext fun x => by rw [hJ x]; exact ⟨.inl, fun e => e.elim id fun e2 => absurd e2 (h3 x)⟩⟩
  exact Sep.perm (hp.map mhA) hs2
/-- A new mapping joins those of a space. -/
theorem addM {h : MH} {hs hs' : List MH} {B1 B2 : Assn} (k : Hp I0 w0 (B0 :: B1 :: Big mhA hs :: B2 :: (R ++ mhL h)) w) (hp : (h :: hs).Perm hs') : Hp I0 w0 (B0 :: B1 :: Big mhA hs' :: B2 :: R) w := by
  have e1 : (B0 :: B1 :: Big mhA hs :: B2 :: (R ++ mhL h)).Perm ((mhL h ++ [Big mhA hs]) ++ (B0 :: B1 :: B2 :: R)) := by
    have p1 : (B0 :: B1 :: Big mhA hs :: B2 :: (R ++ mhL h)).Perm (Big mhA hs :: (B0 :: B1 :: B2 :: R) ++ mhL h) :=
      (((List.Perm.swap (Big mhA hs) B1 _).cons B0).trans (List.Perm.swap (Big mhA hs) B0 _))
    have p2 : (Big mhA hs :: (B0 :: B1 :: B2 :: R) ++ mhL h).Perm (mhL h ++ (Big mhA hs :: (B0 :: B1 :: B2 :: R))) := List.perm_append_comm
    refine (p1.trans p2).trans ?_
    rw [List.append_assoc]; rfl
  have h2 := (k.perm e1).bundle (A := Big mhA hs') fun i hi => big_add hp hi
  exact h2.perm (((List.Perm.swap B0 (Big mhA hs') _).trans ((List.Perm.swap B1 (Big mhA hs') _).cons B0)))
end
set_option maxRecDepth 10000 in
theorem growBy_le (n : Nat) : ∀ (r c : Nat), Builtin.growBy n r c + 768 ≤ 2 ^ r * (c + 768)
  | 0, c => by simp [Builtin.growBy]
  | r + 1, c => by
    rw [Builtin.growBy]
    split
    · exact Nat.le_mul_of_pos_left (c + 768) (Nat.two_pow_pos (r + 1))
    · have h := growBy_le n r (c + (c + 768) / 4)
      have h2 : 2 ^ r * (c + (c + 768) / 4 + 768) ≤ 2 ^ r * (2 * (c + 768)) := Nat.mul_le_mul_left _ (by omega)
      have h3 : 2 ^ r * (2 * (c + 768)) = 2 ^ (r + 1) * (c + 768) := by rw [Nat.pow_succ, Nat.mul_assoc]
      omega
theorem nextcap_le {n c : Nat} (h : c < n) (hn : n ≤ 1000000) : Builtin.nextslicecap n c ≤ 20000000 := by
  unfold Builtin.nextslicecap
  split
  · omega
  · split
    · omega
    · have := growBy_le n 4 c
      have e : 2 ^ 4 = 16 := rfl
      rw [e] at this; omega
/-- An owned slice and another one lie apart. -/
theorem overlaps_false {P : Program} {I0 : Ids} {w0 w : World} {L : List Assn} {α : Type} {K : Enc α} {A B : Option Addr} {ys zs : List α} {e t tR : TypeId} {c c2 : Nat} {ze : Value} {by_ : Nat} {f : FuncId} {fn : Func} (h : Hp I0 w0 L w) (k1 k2 : Nat)
    (hk1 : L[k1]? = some (OS e K B c2 zs)) (hk2 : (L.eraseIdx k1)[k2]? = some (OS e K A c ys)) (hf : P.funcs[f]? = some fn) (hname : (fn.name == "runtime.NumGoroutine") = false) (hb : fn.body.isNone = true) (hn : Extern.findNext fn = none)
    (he : Extern.find fn = some (Extern.SlicesOverlaps.overlaps #[t, t] #[tR])) (hu : P.underlying t = some (.slice e)) (hi : TI P e ze K.sz by_) (hc : 0 < c) (hz : zs ≠ []) (l n1 n2 c3 : Nat) :
    (callFunc f #[.slice B n1 c2, .slice (shA A l K.sz c) n2 c3]).run P w = .ok (.value (.bool false)) w := by
  rw [run_callFunc_extern hf hname hb hn he]
  have key : (Extern.SlicesOverlaps.overlaps #[t, t] #[tR] #[.slice B n1 c2, .slice (shA A l K.sz c) n2 c3]).run P w = .ok (.bool false) w := by
    obtain ⟨i, j, hB, hL, hd, _⟩ := h.at hk1
    obtain ⟨i2, j2, hJ, _, hA, _⟩ := hL.perm (perm_erase hk2)
    rcases hB with ⟨_, h0, _⟩ | ⟨gb, cur, rfl, hI, hbb, _, _, hsz, _⟩
    · exact absurd h0 hz
    · rcases hA with ⟨rfl, _, rfl, _⟩ | ⟨ga, cur2, rfl, hI2, hba, _, _, hsz2, _⟩
      · omega
      · have hne : gb ≠ ga := fun e => hd gb ((hI gb).2 rfl) ((hJ gb).2 (.inl ((hI2 gb).2 e)))
        have hsh : ∃ off, shA (some ⟨ga, 0, none⟩) l K.sz c = some ⟨ga, off, none⟩ := by
          unfold shA
          split
          · exact ⟨0, rfl⟩
          · by_cases h0 : l * K.sz = 0
            · exact ⟨0, by simp [Addr.add, h0]⟩
            · exact ⟨l * K.sz, by simp [Addr.add, h0]⟩
        obtain ⟨off, hoff⟩ := hsh
        rw [hoff]
        exact Lib.run_overlaps_apart w t tR e hu K.sz (fun w => hi.sizeOf w) ⟨gb, 0, none⟩ ⟨ga, off, none⟩ n1 c2 n2 c3 hne e e cur.size cur2.size (by simp [World.shape?, hbb]) (by simp [World.shape?, hba])
          (by rw [hsz2]; have := Nat.mul_pos hc K.pos; omega) (by simp [World.frozen?, hbb]) (by simp [World.frozen?, hbb])
  rw [key]; rfl
def insL {β : Type} (l : List β) (i : Nat) (y : β) : List β := l.take i ++ [y] ++ l.drop i
theorem insL_length {β : Type} {l : List β} {i : Nat} (y : β) (h : i ≤ l.length) : (insL l i y).length = l.length + 1 := by
  simp only [insL, List.length_append, List.length_take, List.length_drop, List.length_singleton]; omega
theorem insL_perm {β : Type} (l : List β) (i : Nat) (y : β) : (y :: l).Perm (insL l i y) := by
  have h : (insL l i y).Perm (y :: (l.take i ++ l.drop i)) := by
    rw [insL, List.append_assoc]; exact List.perm_middle
  rw [List.take_append_drop] at h
  exact h.symm
theorem insL_map {β γ : Type} (f : β → γ) (l : List β) (i : Nat) (y : β) : (insL l i y).map f = insL (l.map f) i (f y) := by
  simp [insL, List.map_take, List.map_drop]
theorem insL_getD {β : Type} {l : List β} {i : Nat} (y d : β) (h : i ≤ l.length) (k : Nat) : (insL l i y).getD k d = if k < i then l.getD k d else if k = i then y else l.getD (k - 1) d := by
  have h1 : (l.take i).length = i := by rw [List.length_take]; omega
  rw [insL, List.append_assoc]
  simp only [List.getD, List.getElem?_append, h1]
  by_cases hk : k < i
  · simp [hk, List.getElem?_take]
  · simp only [hk, if_false]
    by_cases hk2 : k = i
    · subst hk2; simp
    · have e1 : ¬ k - i < 1 := by omega
      simp only [List.length_singleton, e1, if_false, hk2, List.getElem?_drop]
      congr 2; omega
theorem insA {β : Type} {l : List β} {i : Nat} (p z : β) (h : i < l.length) : (l.take i ++ List.replicate (l.length + 1 - i) z).take i ++ [p].take (min 1 (i + (l.length + 1 - i) - i)) ++ (l.take i ++ List.replicate (l.length + 1 - i) z).drop (i + min 1 (i + (l.length + 1 - i) - i)) = l.take i ++ [p] ++ List.replicate (l.length - i) z := by
  have h1 : (l.take i).length = i := by rw [List.length_take]; omega
  have e : min 1 (i + (l.length + 1 - i) - i) = 1 := by omega
  rw [e, List.take_append_of_le_length (by omega), List.take_of_length_le (l := l.take i) (by omega), List.drop_append, h1, List.drop_of_length_le (l := l.take i) (by omega), Nat.add_sub_cancel_left, List.drop_replicate]
  simp only [List.nil_append, List.take_succ_cons, List.take_zero]
  congr 2; omega
theorem insB {β : Type} {l : List β} {i : Nat} (p z : β) (h : i < l.length) : (l.take i ++ [p] ++ List.replicate (l.length - i) z).take (i + 1) ++ (l.drop i).take (min (l.length - i) (i + (l.length + 1 - i) - (i + 1))) ++ (l.take i ++ [p] ++ List.replicate (l.length - i) z).drop (i + 1 + min (l.length - i) (i + (l.length + 1 - i) - (i + 1))) = insL l i p := by
  have h1 : (l.take i ++ [p]).length = i + 1 := by rw [List.length_append, List.length_take]; simp; omega
  have e : min (l.length - i) (i + (l.length + 1 - i) - (i + 1)) = l.length - i := by omega
  have d : (l.take i ++ [p] ++ List.replicate (l.length - i) z).drop (i + 1 + (l.length - i)) = [] := List.drop_of_length_le (by rw [List.length_append, h1, List.length_replicate]; omega)
  rw [e, List.take_append_of_le_length (by omega), List.take_of_length_le (l := l.take i ++ [p]) (by omega), List.take_of_length_le (l := l.drop i) (by rw [List.length_drop]; omega), d, List.append_nil]
  rfl
theorem insC {β : Type} {l : List β} {i : Nat} (h : i < l.length) : l.take (i + 1) ++ (l.drop i).take (min (l.length + 1 - i) (l.length + 1 - (i + 1))) ++ l.drop (i + 1 + min (l.length + 1 - i) (l.length + 1 - (i + 1))) = l.take (i + 1) ++ l.drop i := by
  have e : min (l.length + 1 - i) (l.length + 1 - (i + 1)) = l.length - i := by omega
  have d : l.drop (i + 1 + (l.length - i)) = [] := List.drop_of_length_le (by omega)
  rw [e, List.take_of_length_le (l := l.drop i) (by rw [List.length_drop]; omega), d, List.append_nil]
theorem insD {β : Type} {l : List β} {i : Nat} (p : β) (h : i < l.length) : (l.take (i + 1) ++ l.drop i).take i ++ [p].take (min 1 (l.length + 1 - i)) ++ (l.take (i + 1) ++ l.drop i).drop (i + min 1 (l.length + 1 - i)) = insL l i p := by
  have h1 : (l.take (i + 1)).length = i + 1 := by rw [List.length_take]; omega
  have e : min 1 (l.length + 1 - i) = 1 := by omega
  rw [e, List.take_append_of_le_length (by omega), List.take_take, Nat.min_eq_left (by omega), List.drop_append, h1, List.drop_of_length_le (l := l.take (i + 1)) (by omega), Nat.sub_self]
  rfl
theorem insE {β : Type} {l : List β} {i : Nat} (p : β) (h : i = l.length) : l ++ [p] = insL l i p := by
  rw [insL, List.take_of_length_le (by omega), List.drop_of_length_le (by omega), List.append_nil]
def mapG (s : BS) (m : Nat) (h : MH) (A : Option Addr) (c : Nat) : BS :=
  { s with sps := s.sps.set m ⟨A, c, insL (s.sp m).hs (aftM (s.sp m).hs h.base) h⟩, total := s.total + 1 }
def busy (hs : List MH) (b l : Int) : Prop := aftM hs b < hs.length ∧ ovl (mh hs (aftM hs b)).base (mh hs (aftM hs b)).len b l
instance (hs : List MH) (b l : Int) : Decidable (busy hs b l) := inferInstanceAs (Decidable (_ ∧ _))
end Go.Ios
namespace Go.Ios
open Go.Sv
theorem mapClose {I0 : Ids} {w0 w : World} {s : BS} {m i : Nat} {A2 : Option Addr} {c2 bp : Nat} {p0 q0 o : Int} {B0 X1 X2 : Assn} (hw3 : s.sps.length = 3) (hm : m < 3)
    (h : Hp I0 w0 [B0, OS 78 ptrK A2 c2 (insL ((s.sp m).hs.map fun h => some h.p) i (some bp)), Big mhA (s.sp m).hs, Big spA (s.sps.eraseIdx m), X1, X2, Blk bp (.cells #[.int .u64 p0, .int .u64 q0, .int .i64 o, .slice none 0 0] 77 (0, 0))] w) :
    Hp I0 w0 [B0, Big spA (s.sps.set m ⟨A2, c2, insL (s.sp m).hs i ⟨bp, p0, q0, o, none, 0, []⟩⟩), X1, X2] w := by
  have h1 := addM (R := [X1, X2]) (h := ⟨bp, p0, q0, o, none, 0, []⟩) (h.nilOS (e := 5) (K := intK .u8)) (insL_perm (s.sp m).hs i ⟨bp, p0, q0, o, none, 0, []⟩)
  refine closeSp (q := ⟨A2, c2, insL (s.sp m).hs i ⟨bp, p0, q0, o, none, 0, []⟩⟩) ?_ (by omega)
  have e : insL ((s.sp m).hs.map fun h => some h.p) i (some bp) = (insL (s.sp m).hs i ⟨bp, p0, q0, o, none, 0, []⟩).map fun h => some h.p := (insL_map (fun h : MH => some h.p) (s.sp m).hs i ⟨bp, p0, q0, o, none, 0, []⟩).symm
  rw [e] at h1
  exact h1
end Go.Ios
