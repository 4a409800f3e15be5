/-
  The bus in memory: mappings, spaces, faults, trace; how its cells are read and written.
-/
import Derived.Test.YthdpojggdodpfaaSv13
import Derived.Test.YthdpojggdodpfaaSv10
set_option linter.unusedSimpArgs false
set_option linter.unusedVariables false
namespace Go.Ios
open Go.Sv
structure MH where
  p : Nat
  base : Int
  len : Int
  own : Int
  A : Option Addr
  c : Nat
  bs : List Int
structure Sp where
  A : Option Addr
  c : Nat
  hs : List MH
structure Flt where
  space : Int
  base : Int
  len : Int
  cnt : Int
structure Acs where
  space : Int
  addr : Int
  width : Int
  wr : Bool
  val : Int
structure Trc where
  a : Acs
  own : Int
  live : Bool
  failed : Bool
def ptrK : Enc (Option Nat) where
  f p := [.pointer (p.map fun b => ⟨b, 0, none⟩)]
  sz := 1
  d := none
  len _ := rfl
  pos := by decide
  one r v hv := by simp at hv; subst hv; rfl
def intK (k : IntKind) : Enc Int where
  f n := [.int k n]
  sz := 1
  d := 0
  len _ := rfl
  pos := by decide
  one r v hv := by simp at hv; subst hv; rfl
def boolK : Enc Bool where
  f n := [.bool n]
  sz := 1
  d := false
  len _ := rfl
  pos := by decide
  one r v hv := by simp at hv; subst hv; rfl
def fltK : Enc Flt where
  f r := [.int .i64 r.space, .int .u64 r.base, .int .u64 r.len, .int .i64 r.cnt]
  sz := 4
  d := ⟨0, 0, 0, 0⟩
  len _ := rfl
  pos := by decide
  one r v hv := by simp at hv; rcases hv with rfl | rfl | rfl | rfl <;> rfl
def acsC (a : Acs) : List Value := [.int .i64 a.space, .int .u64 a.addr, .int .i64 a.width, .bool a.wr, .int .u64 a.val]
def trcK : Enc Trc where
  f r := [.int .i64 r.a.space, .int .u64 r.a.addr, .int .i64 r.a.width, .bool r.a.wr, .int .u64 r.a.val, .int .i64 r.own, .bool r.live, .bool r.failed]
  sz := 8
  d := ⟨⟨0, 0, 0, false, 0⟩, 0, false, false⟩
  len _ := rfl
  pos := by decide
  one r v hv := by simp at hv; rcases hv with rfl | rfl | rfl | rfl | rfl | rfl | rfl | rfl <;> rfl
/-! ### Assertions of several parts -/
def All (M : List Assn) : Assn where
  sat w I := Sep M I w
  lt h x hx := h.lt x hx
  keep h hk := h.keep hk
def mC (h : MH) : List Value := [.int .u64 h.base, .int .u64 h.len, .int .i64 h.own, .slice h.A h.bs.length h.c]
def mhL (h : MH) : List Assn := [Blk h.p (.cells (mC h).toArray 77 (0, 0)), OS 5 (intK .u8) h.A h.c h.bs]
def mhA (h : MH) : Assn := All (mhL h)
def mhD : MH := ⟨0, 0, 0, 0, none, 0, []⟩
def spL (s : Sp) : List Assn := [OS 78 ptrK s.A s.c (s.hs.map fun h => some h.p), Big mhA s.hs]
def spA (s : Sp) : Assn := All (spL s)
def spD : Sp := ⟨none, 0, []⟩
structure BS where
  sps : List Sp
  total : Int
  en : List Bool
  fA : Option Addr
  fc : Nat
  fl : List Flt
  tA : Option Addr
  tc : Nat
  tr : List Trc
def busC (s : BS) : List Value := s.sps.map (fun p => Value.slice p.A p.hs.length p.c) ++ (Value.int .i64 s.total :: (s.en.map Value.bool ++ [Value.slice s.fA s.fl.length s.fc, Value.slice s.tA s.tr.length s.tc]))
def busL (b : Nat) (s : BS) : List Assn := [Blk b (.cells (busC s).toArray 71 (0, 0)), Big spA s.sps, OS 86 fltK s.fA s.fc s.fl, OS 63 trcK s.tA s.tc s.tr]
structure BS.wf (s : BS) : Prop where
  sp : s.sps.length = 3
  en : s.en.length = 256
abbrev BS.sp (s : BS) (m : Nat) : Sp := s.sps.getD m spD
section
variable {s : BS} (h : s.wf)
include h
theorem busC_len : (busC s).length = 262 := by simp [busC, h.sp, h.en]
theorem busC_sp {m : Nat} (hm : m < 3) : (busC s)[0 + m * 1]? = some (.slice (s.sp m).A (s.sp m).hs.length (s.sp m).c) := by
  have h1 : m < s.sps.length := by rw [h.sp]; exact hm
  simp [busC, h.sp, hm, List.getElem?_append, List.getD, h1]
theorem busC_tot : (busC s)[0 + 3]? = some (.int .i64 s.total) := by
  simp [busC, h.sp, List.getElem?_append]
theorem busC_en {m : Nat} (hm : m < 256) : (busC s)[0 + 4 + m * 1]? = some (.bool (s.en.getD m false)) := by
  have h1 : m < s.en.length := by rw [h.en]; exact hm
  have e1 : ¬ 0 + 4 + m * 1 < 3 := by omega
  have e2 : 0 + 4 + m * 1 - 3 = m + 1 := by omega
  rw [busC, List.getElem?_append, List.length_map, h.sp, if_neg e1, e2, List.getElem?_cons_succ, List.getElem?_append, List.length_map, if_pos h1]
  simp [List.getD, h1]
theorem busC_f : (busC s)[0 + 260]? = some (.slice s.fA s.fl.length s.fc) := by
  rw [busC, List.getElem?_append, List.length_map, h.sp, if_neg (by decide)]
  show (Value.int .i64 s.total :: (s.en.map Value.bool ++ _))[257]? = _
  rw [List.getElem?_cons_succ, List.getElem?_append, List.length_map, h.en, if_neg (by decide)]; rfl
theorem busC_t : (busC s)[0 + 261]? = some (.slice s.tA s.tr.length s.tc) := by
  rw [busC, List.getElem?_append, List.length_map, h.sp, if_neg (by decide)]
  show (Value.int .i64 s.total :: (s.en.map Value.bool ++ _))[258]? = _
  rw [List.getElem?_cons_succ, List.getElem?_append, List.length_map, h.en, if_neg (by decide)]; rfl
end
theorem take_set {β : Type} : ∀ (l : List β) (o : Nat) (v : β), o < l.length → l.take o ++ [v] ++ l.drop (o + [v].length) = l.set o v
  | [], _, _, h => by simp at h
  | a :: l, 0, v, _ => by simp
  | a :: l, o + 1, v, h => by
    have := take_set l o v (by simpa using h)
    simp only [List.take_succ_cons, List.cons_append, List.set_cons_succ, List.length_singleton, List.drop_succ_cons] at this ⊢
    rw [this]
section
variable {s : BS} (h : s.wf)
include h
theorem set_of {o : Nat} {v : Value} {s' : BS} (ho : o < 262) (e : (busC s).set o v = busC s') : ((busC s).toArray.toList.take o ++ [v] ++ (busC s).toArray.toList.drop (o + [v].length)).toArray = (busC s').toArray := by
  show ((busC s).take o ++ [v] ++ (busC s).drop (o + [v].length)).toArray = _
  rw [take_set _ _ _ (by rw [busC_len h]; exact ho), e]
theorem set_tot (v : Int) : (busC s).set (0 + 3) (.int .i64 v) = busC { s with total := v } := by
  simp [busC, List.set_append, h.sp]
theorem set_en {m : Nat} (hm : m < 256) (v : Bool) : (busC s).set (0 + 4 + m * 1) (.bool v) = busC { s with en := s.en.set m v } := by
  have h1 : m < s.en.length := by rw [h.en]; exact hm
  have e1 : ¬ 0 + 4 + m * 1 < 3 := by omega
  have e2 : 0 + 4 + m * 1 - 3 = m + 1 := by omega
  rw [busC, List.set_append, List.length_map, h.sp, if_neg e1, e2, List.set_cons_succ, List.set_append, List.length_map, if_pos h1]
  simp [busC, List.map_set]
theorem set_f (A : Option Addr) (c : Nat) (l : List Flt) : (busC s).set (0 + 260) (.slice A l.length c) = busC { s with fA := A, fc := c, fl := l } := by
  rw [busC, List.set_append, List.length_map, h.sp, if_neg (by decide)]
  show _ ++ (Value.int .i64 s.total :: (s.en.map Value.bool ++ _)).set 257 _ = _
  rw [List.set_cons_succ, List.set_append, List.length_map, h.en, if_neg (by decide)]; rfl
theorem set_t (A : Option Addr) (c : Nat) (l : List Trc) : (busC s).set (0 + 261) (.slice A l.length c) = busC { s with tA := A, tc := c, tr := l } := by
  rw [busC, List.set_append, List.length_map, h.sp, if_neg (by decide)]
  show _ ++ (Value.int .i64 s.total :: (s.en.map Value.bool ++ _)).set 258 _ = _
  rw [List.set_cons_succ, List.set_append, List.length_map, h.en, if_neg (by decide)]; rfl
theorem set_sp {m : Nat} (hm : m < 3) (q : Sp) : (busC s).set (0 + m * 1) (.slice q.A q.hs.length q.c) = busC { s with sps := s.sps.set m q } := by
  have e1 : 0 + m * 1 < 3 := by omega
  have e2 : 0 + m * 1 = m := by omega
  rw [busC, List.set_append, List.length_map, h.sp, if_pos e1, e2]
  simp [busC, List.map_set]
end
/-! ### What is read -/
def MR (w : World) (h : MH) : Prop := w.heap[h.p]? = some (.cells (mC h).toArray 77 (0, 0)) ∧ RS w (intK .u8) h.A h.bs
def SpR (w : World) (q : Sp) : Prop := RS w ptrK q.A (q.hs.map fun h => some h.p) ∧ ∀ i, i < q.hs.length → MR w (q.hs.getD i mhD)
def Same (w w' : World) : Prop := ∀ (x : Nat) (o : Obj), w.heap[x]? = some o → w'.heap[x]? = some o
theorem MR.keep {w w' : World} {h : MH} (k : MR w h) (hs : Same w w') : MR w' h := ⟨hs _ _ k.1, k.2.keep fun o ho => hs _ _ ho⟩
theorem SpR.keep {w w' : World} {q : Sp} (k : SpR w q) (hs : Same w w') : SpR w' q := ⟨k.1.keep fun o ho => hs _ _ ho, fun i hi => (k.2 i hi).keep hs⟩
theorem same_of {I : Ids} {w w' : World} {L : List Assn} (h : Hp I w L w') (hI : ∀ x, ¬ I x) : Same w w' := fun x o ho => h.ro ho (hI x)
theorem mr_of {w : World} {i : Ids} {h : MH} (k : (mhA h).sat w i) : MR w h := by
  obtain ⟨i1, j1, _, _, h1, i2, j2, _, _, h2, _⟩ := k
  exact ⟨h1.2, OS.rs h2⟩
theorem big_mem {β : Type} {F : β → Assn} {w : World} {G : β → Prop} (hG : ∀ i b, (F b).sat w i → G b) : ∀ (hs : List β) (i : Ids), Sep (hs.map F) i w → ∀ b ∈ hs, G b
  | [], _, _, b, hb => by cases hb
  | a :: hs, i, ⟨i1, j1, _, _, h1, h2⟩, b, hb => by
    rcases List.mem_cons.1 hb with rfl | hb
    · exact hG _ _ h1
    · exact big_mem hG hs j1 h2 b hb
theorem spr_of {w : World} {i : Ids} {q : Sp} (k : (spA q).sat w i) : SpR w q := by
  obtain ⟨i1, j1, _, _, h1, i2, j2, _, _, h2, _⟩ := k
  refine ⟨OS.rs h1, fun n hn => big_mem (G := MR w) (fun i b hb => mr_of hb) q.hs i2 h2 _ ?_⟩
  simp [List.getD, hn]
theorem Hp.spr {I0 : Ids} {w0 w : World} {L : List Assn} (h : Sv.Hp I0 w0 L w) {k : Nat} {sps : List Sp} (hk : L[k]? = some (Big spA sps)) {m : Nat} (hm : m < sps.length) : SpR w (sps.getD m spD) :=
  h.bigOS (G := fun q w => SpR w q) spD hk hm fun i b hb => spr_of hb
theorem SpR.ptr {w : World} {q : Sp} (k : SpR w q) {i : Nat} (hi : i < q.hs.length) : w.cell? ⟨bk q.A, of q.A + i * 1, none⟩ = some (.pointer (some ⟨(q.hs.getD i mhD).p, 0, none⟩)) := by
  have := k.1.cell0 (m := i) (v := .pointer (some ⟨(q.hs.getD i mhD).p, 0, none⟩)) (by simpa using hi) (by
    have : (q.hs.map fun h => some h.p).getD i ptrK.d = some (q.hs.getD i mhD).p := by simp [List.getD, hi]
    rw [this]; rfl)
  exact this
theorem MR.cell {w : World} {h : MH} (k : MR w h) {o : Nat} {v : Value} (hv : (mC h)[o]? = some v) : w.cell? ⟨h.p, o, none⟩ = some v := by
  rw [cell_of k.1]; simpa using hv
end Go.Ios
