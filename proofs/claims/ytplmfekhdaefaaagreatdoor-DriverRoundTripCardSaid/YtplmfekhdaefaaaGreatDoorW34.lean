/-
 Walks, part 34.
-/
import Derived.Test.YtplmfekhdaefaaaGreatDoorTabB
import Derived.Test.YtplmfekhdaefaaaGreatDoorW10
import Derived.Test.YtplmfekhdaefaaaGreatDoorSf
import Derived.Test.YtplmfekhdaefaaaGreatDoorDmD
import Derived.Test.YtplmfekhdaefaaaGreatDoorDm31
import Derived.Test.YtplmfekhdaefaaaGreatDoorDmC
import Derived.Test.YtplmfekhdaefaaaGreatDoorDm33
set_option linter.unusedSimpArgs false
set_option linter.unusedVariables false
namespace Go.Proofs.YtplmfekhdaefaaaGreatDoor
open Go.Sv Go.Drv
/-- The table of the powers of ten is as the program lays it. -/
def PowR (w : World) : Prop := Lib.TabIs Tryz.prog w "internal/strconv.uint64pow10" .u64 Lib.pow10Tab
theorem glob5 : Tryz.prog.globalNamed "internal/strconv.uint64pow10" = some 5 := by kernel_rfl
theorem PowR.keep {I : Ids} {w0 w : World} {L : List Assn} (h : Hp I w0 L w) (k : PowR w0) (hI : ¬ I 5) : PowR w := by
 unfold PowR Lib.TabIs World.var? at k ⊢
 rw [glob5] at k ⊢
 simp only [Option.bind_some] at k ⊢
 cases hb : w0.heap[5]? with
 | none => simp [hb] at k
 | some o => rw [h.ro hb hI]; rw [hb] at k; exact k
theorem PowR.lt {w : World} (k : PowR w) : 5 < w.heap.size := by
 unfold PowR Lib.TabIs World.var? at k
 rw [glob5] at k
 simp only [Option.bind_some] at k
 cases hb : w.heap[5]? with
 | none => simp [hb] at k
 | some o => exact lt_of_some hb
def at5 : Ids := fun b => b = 5
def at45 : Ids := fun b => b = 4 ∨ b = 5
theorem roAt5 {I : Ids} {w : World} {F : List Assn} (hP : PowR w) (hro : ∀ b, at5 b → ¬ I b) (b : Nat) (hb : at5 b) : RoOk I w F b := .inl ⟨hro b hb, by have : b = 5 := hb; rw [this]; exact hP.lt⟩
theorem small_fn (v : Int) (h0 : 0 ≤ v) (h1 : v < 100) : FxP Tryz.prog 102 [.int .i64 v] (.string (bs (dec v))) := by
 obtain ⟨i, rfl⟩ : ∃ i : Nat, v = i := ⟨v.toNat, by omega⟩
 intro w
 refine Calls.mono (Tryz.internal_strconv_small i (by omega) w) ?_
 rintro e w' ⟨rfl, rfl⟩
 exact ⟨rfl, rfl⟩

set_option maxRecDepth 100000 in
set_option maxHeartbeats 4000000 in
theorem fmtU_fn (v : Int) (hv : u64 v) {w : World} (hP : PowR w) : Fx Tryz.prog 90 [.int .u64 v, .int .i64 10] w [] at5 (fun x L => x = .string (bs (dec v)) ∧ L = []) := by
 refine Sv.Fx.body Tryz.func90 rfl T90 rfl ?_
 intro I hro hI
 refine KV.env [(0, _), (1, _)] ⟨rfl, rfl, trivial⟩ ?_
 have hnd : Lib.nDigits v.toNat ≤ 20 := Lib.nDigits_le20 _ (by have := hv.1; have := hv.2; omega)
 have hv0 := hv.1
 have hv1 := hv.2
 refine CV.seq (CV.region ?_)
 refine RV.s (Step.assign (v := .string (Sv.bs [])) rfl) rfl ?_
 refine RV.nil (KV.then_n (KV.env [(0, _), (1, _)] ⟨rfl, rfl, trivial⟩ (CV.seq (CV.seq (CV.region ?_)))))
 refine RV.m rfl rfl ?_
 refine RV.op (OV.split gno (Step.eql rfl rfl) rfl (fun h0 => ?_) (fun h0 => ?_))
 ·
  refine RV.nil (KV.then_n (KV.env [(0, _), (1, _), (10, _)] ⟨rfl, rfl, rfl, trivial⟩ (CV.cond_t rfl (CV.seq (CV.seq ?_)))))
  refine CV.region ?_
  refine RV.m rfl rfl ?_
  refine RV.op (OV.split gno (Step.lss rfl rfl) rfl (fun h1 => ?_) (fun h1 => ?_))
  ·
   refine RV.nil (KV.then_n (KV.env [(0, _), (12, _)] ⟨rfl, rfl, trivial⟩ (CV.cond_t rfl (CV.seq (CV.region ?_)))))
   refine RV.m rfl rfl ?_
   refine RV.s (Step.convI Tryz.underlying43 Tryz.underlying3 rfl (wI64 (by omega) (by omega))) rfl ?_
   refine RV.op (OV.callP Tryz.func102 B102 N102 rfl (small_fn v hv0 h1) gno rfl ?_)
   refine RV.a rfl rfl ?_
   refine RV.nil (KV.then_n (KV.env [(4, _)] ⟨rfl, trivial⟩ (CV.ret (KV.then_ret (KV.then_ret ?_)))))
   refine KV.sel [] [] rfl ?_
   exact KV.ret1 rfl rfl _ (fun _ h => h) ⟨rfl, rfl⟩
  ·
   refine RV.nil (KV.then_n (KV.env [(0, _), (12, _)] ⟨rfl, rfl, trivial⟩ (CV.cond_f rfl (CV.skip (KV.then_n ?_)))))
   refine KV.env [(0, _)] ⟨rfl, trivial⟩ (CV.seq (CV.region ?_))
   refine RV.op (OV.alloc #[.int .u8 0, .int .u8 0, .int .u8 0, .int .u8 0, .int .u8 0, .int .u8 0, .int .u8 0, .int .u8 0, .int .u8 0, .int .u8 0, .int .u8 0, .int .u8 0, .int .u8 0, .int .u8 0, .int .u8 0, .int .u8 0, .int .u8 0, .int .u8 0, .int .u8 0, .int .u8 0, .int .u8 0, .int .u8 0, .int .u8 0, .int .u8 0] I174 rfl gno rfl (fun a => ?_))
   refine RV.nil (KV.then_n (KV.env [(0, _), (5, _)] ⟨rfl, rfl, trivial⟩ (CV.seq ?_)))
   have hu1 : 1 ≤ v.toNat := by omega
   have hu2 : v.toNat < 18446744073709551616 := by omega
   have hvN : v = ((v.toNat : Nat) : Int) := by omega
   refine KV.heap (S' := Hp I w [Blk a (.cells Lib.zeros24 174 (0, 0))]) (fun w h => h) ?_
   refine CV.region ?_
   refine RV.m rfl rfl ?_
   refine RV.op (OV.callW (α := Unit) (fun _ => .int .i64 (Lib.nDigits v.toNat : Int)) (fun _ => Hp I w [Blk a (.cells Lib.zeros24 174 (0, 0))]) Tryz.func103 B103 N103 rfl (fun w2 h => Calls.mono (show Calls Tryz.prog 103 #[.int .u64 v] w2 _ from by rw [hvN]; exact Tryz.internal_strconv_numDigits _ hu1 hu2 w2 (PowR.keep h hP (hro 5 rfl))) (by rintro e w3 ⟨rfl, rfl⟩; exact ⟨(), rfl, h⟩)) gno rfl (fun _ => ?_))
   refine RV.a rfl rfl ?_
   refine RV.nil (KV.then_n (KV.env [(0, _), (5, _), (6, _)] ⟨rfl, rfl, rfl, trivial⟩ (CV.seq (CV.region ?_))))
   refine RV.m rfl rfl ?_
   refine RV.s (Step.sliceArrH Tryz.underlying174 I5 rfl rfl (Lib.nDigits v.toNat) rfl (by omega)) rfl ?_
   refine RV.m rfl rfl ?_
   refine RV.op (OV.callW (α := {dk : Array UInt8 // ∃ v', Lib.FmtInv (Lib.nDigits v.toNat) v.toNat 0 v' dk}) (fun _ => .tuple #[]) (fun z => Hp I w [Blk a (.cells (Sort.putCells u8E 0 z.1 Lib.zeros24) 174 (0, 0))]) Tryz.func104 B104 N104 rfl (fun w2 h => Calls.mono (show Calls Tryz.prog 104 #[.slice (some ⟨a, 0, none⟩) (Lib.nDigits v.toNat) 24, .int .u64 v] w2 _ from by have hq := Tryz.internal_strconv_formatBase10 a 0 24 v.toNat (Array.replicate (Lib.nDigits v.toNat) 0) w2 (zeros_holds (h.blk 0 rfl) (by omega)) (by rw [Array.size_replicate]; exact Lib.lt_pow_nDigits _) hu2 (by rw [Array.size_replicate]; omega); rw [Array.size_replicate, ← hvN] at hq; exact hq) (by rintro e w3 ⟨rfl, n, v2, dk, rfl, hF⟩; exact ⟨⟨dk, v2, hF⟩, rfl, fmt_hp h⟩)) gno rfl (fun z => ?_))
   refine RV.nil (KV.then_n (KV.env [(5, _), (6, _)] ⟨rfl, rfl, trivial⟩ (CV.seq (CV.region ?_))))
   refine RV.m rfl rfl ?_
   refine RV.s (Step.sliceArrH Tryz.underlying174 I5 rfl rfl (Lib.nDigits v.toNat) rfl (by omega)) rfl ?_
   refine RV.s (Step.convBS (xs := decI v.toNat) Tryz.underlying33 Tryz.underlying5 Tryz.underlying9 rfl (fun w h => fmt_rs (h.blk 0 rfl) z.2.choose_spec (by omega)) (decI_len _).symm (by rw [decI_len]; exact Lib.nDigits_pos _)) rfl ?_
   refine RV.a rfl rfl ?_
   refine RV.nil (KV.then_n (KV.env [(4, _)] ⟨rfl, trivial⟩ (CV.ret (KV.then_ret ?_))))
   refine KV.sel [] [] rfl ?_
   refine KV.sel [] [] rfl ?_
   exact KV.ret1 rfl rfl _ (fun _ h => h) ⟨by rw [decI_back]; rfl, rfl⟩
 ·
  exact absurd rfl h0

set_option maxRecDepth 100000 in
set_option maxHeartbeats 1000000 in
theorem fmtP_fn (v : Int) (hv : u64 v) {w : World} (hP : PowR w) : Fx Tryz.prog 83 [.int .u64 v, .int .i64 10] w [] at5 (fun x L => x = .string (bs (dec v)) ∧ L = []) := by
 refine Sv.Fx.body Tryz.func83 rfl T83 rfl ?_
 intro I hro hI
 refine KV.env [(0, _), (1, _)] ⟨rfl, rfl, trivial⟩ (CV.seq (CV.region ?_))
 refine RV.s (Step.assign (v := .string (Sv.bs [])) rfl) rfl ?_
 refine RV.nil (KV.then_n (KV.env [(0, _), (1, _)] ⟨rfl, rfl, trivial⟩ (CV.seq (CV.region ?_))))
 refine RV.m rfl rfl (RV.m rfl rfl ?_)
 refine RV.op (OV.call [] (F := []) Tryz.func90 B90 N90 rfl rfl (fun w h => fmtU_fn v hv (PowR.keep h hP (hro 5 rfl))) (fun b hb => roAt5 hP hro b hb) gno rfl (fun v L' hp => ?_))
 obtain ⟨rfl, rfl⟩ := hp
 simp only [List.append_nil]
 refine RV.a rfl rfl ?_
 refine RV.nil (KV.then_n (KV.env [(4, _)] ⟨rfl, trivial⟩ (CV.ret ?_)))
 refine KV.sel [] [] rfl ?_
 exact KV.ret1 rfl rfl _ (fun _ h => h) ⟨rfl, rfl⟩

set_option maxRecDepth 100000 in
set_option maxHeartbeats 1000000 in
theorem decimal_fn (v : Int) (hv : u64 v) {w : World} (hP : PowR w) : Fx Tryz.prog 63 [.int .u64 v] w [] at5 (fun x L => x = .string (bs (dec v)) ∧ L = []) := by
 refine Sv.Fx.body Tryz.func63 rfl T63 rfl ?_
 intro I hro hI
 refine KV.env [(0, _)] ⟨rfl, trivial⟩ (CV.seq (CV.region ?_))
 refine RV.s (Step.assign (v := .string (Sv.bs [])) rfl) rfl ?_
 refine RV.nil (KV.then_n (KV.env [(0, _)] ⟨rfl, trivial⟩ (CV.seq (CV.region ?_))))
 refine RV.m rfl rfl ?_
 refine RV.op (OV.call [] (F := []) Tryz.func83 B83 N83 rfl rfl (fun w h => fmtP_fn v hv (PowR.keep h hP (hro 5 rfl))) (fun b hb => roAt5 hP hro b hb) gno rfl (fun v L' hp => ?_))
 obtain ⟨rfl, rfl⟩ := hp
 simp only [List.append_nil]
 refine RV.a rfl rfl ?_
 refine RV.nil (KV.then_n (KV.env [(2, _)] ⟨rfl, trivial⟩ (CV.ret ?_)))
 refine KV.sel [] [] rfl ?_
 exact KV.ret1 rfl rfl _ (fun _ h => h) ⟨rfl, rfl⟩

/-- A builder that holds bytes. -/
def SBl (b : Nat) (p : Option Addr) (A : Option Addr) (c : Nat) (l : Bs) : List Assn := [Blk b (.cells #[.pointer p, .slice A l.length c] 95 (0, 0)), OS 5 byK A c l]
/-- Its own address is not there yet, or it is. -/
def selfP (b : Nat) (p : Option Addr) : Prop := p = none ∨ p = some ⟨b, 0, none⟩
theorem copyCheck_fn {b : Nat} {p : Option Addr} {v : Value} {w : World} (hp : selfP b p) : Fx Tryz.prog 62 [.pointer (some ⟨b, 0, none⟩)] w [Blk b (.cells #[.pointer p, v] 95 (0, 0))] no (fun x L => x = .tuple #[] ∧ L = [Blk b (.cells #[.pointer (some ⟨b, 0, none⟩), v] 95 (0, 0))]) := by
 intro I hI _
 have hs := Hp.start hI
 have hb := hs.blk 0 rfl
 rcases hp with rfl | rfl
 ·
  refine Calls.mono (copyCheck_fresh b w (by rw [cell_of hb]; rfl) (by simp [World.shape?, hb]) (by simp [World.frozen?, hb])) ?_
  rintro e w' ⟨rfl, rfl⟩
  refine ⟨_, _, rfl, ⟨rfl, rfl⟩, Hp.modify (k := 0) (o' := .cells #[.pointer (some ⟨b, 0, none⟩), v] 95 (0, 0)) hs rfl ?_ ?_ (fun x hx => ?_) ?_ ?_ ?_⟩
  all_goals first | rfl | skip
  ·
   simp [World.setCell, Array.getElem?_modify, hb]
  ·
   simp [World.setCell]
  ·
   simp [World.setCell, Array.getElem?_modify, Ne.symm hx]
 ·
  refine Calls.mono (copyCheck_used b w (by rw [cell_of hb]; rfl)) ?_
  rintro e w' ⟨rfl, rfl⟩
  exact ⟨_, _, rfl, ⟨rfl, rfl⟩, hs⟩

set_option maxRecDepth 100000 in
set_option maxHeartbeats 2000000 in
theorem writeS_fn {b : Nat} {p : Option Addr} {A : Option Addr} {c : Nat} {l : Bs} (s : Bs) {w : World} (hp : selfP b p) (hl : l.length + s.length ≤ 140737488355328) : Fx Tryz.prog 38 [.pointer (some ⟨b, 0, none⟩), .string (bs s)] w (SBl b p A c l) no (fun x L => ∃ A2 c2, x = .tuple #[.int .i64 s.length, .nilIface] ∧ L = SBl b (some ⟨b, 0, none⟩) A2 c2 (l ++ s)) := by
 refine Sv.Fx.body Tryz.func38 rfl T38 rfl ?_
 intro I hro hI
 refine KV.env [(0, _), (1, _)] ⟨rfl, rfl, trivial⟩ ?_
 unfold SBl
 refine CV.seq (CV.region ?_)
 refine RV.a rfl rfl (RV.a rfl rfl ?_)
 refine RV.nil (KV.then_n (KV.env [(0, _), (1, _)] ⟨rfl, rfl, trivial⟩ (CV.seq (CV.region ?_))))
 refine RV.m rfl rfl ?_
 refine RV.op (OV.call [0] (F := [_]) Tryz.func62 B62 N62 rfl rfl (fun w h => copyCheck_fn hp) (fun _ hb => hb.elim) gno rfl (fun v L' hp => ?_))
 obtain ⟨rfl, rfl⟩ := hp
 refine RV.nil (KV.then_n (KV.env [(0, _), (1, _)] ⟨rfl, rfl, trivial⟩ (CV.seq (CV.region ?_))))
 refine RV.m rfl rfl (RV.m rfl rfl (RV.s (Step.nilCheck rfl) rfl (RV.s (Step.fieldAddr rfl (F95_1 _ _)) rfl (RV.s (Step.load Tryz.underlying33 rfl rfl (fun w h => h.cell 1 rfl rfl)) rfl (RV.m rfl rfl ?_)))))
 refine RV.op (OV.appendStr 0 Tryz.underlying33 Tryz.underlying9 I5 rfl rfl rfl rfl hl gno rfl (fun A2 c2 => ?_))
 refine RV.s (Step.nilCheck rfl) rfl (RV.s (Step.fieldAddr rfl (F95_1 _ _)) rfl ?_)
 refine RV.op (OV.store 1 [_] #[_, _] I33 rfl rfl rfl rfl rfl (Nat.le_of_ble_eq_true rfl) (by simp [Value.oneCell']) rfl gno ?_)
 refine RV.nil (KV.then_n (KV.env [(1, _)] ⟨rfl, trivial⟩ (CV.seq (CV.region ?_))))
 refine RV.m rfl rfl (RV.s (Step.lenStr Tryz.underlying9 rfl) rfl (RV.a rfl rfl (RV.a rfl rfl ?_)))
 refine RV.nil (KV.then_n (KV.env [(4, _), (5, _)] ⟨rfl, rfl, trivial⟩ (CV.ret ?_)))
 refine KV.sel [1, 0] [_, _] rfl ?_
 exact KV.ret2 rfl rfl rfl _ (fun _ h => h) ⟨A2, c2, rfl, rfl⟩

theorem flat_byteCells (l : Bs) : flat byK l = Lib.byteCells l := by
 unfold flat Lib.byteCells
 induction l with
 | nil => rfl
 | cons a l ih => rw [List.flatMap_cons, List.map_cons, ih]; rfl
theorem string_fn {b : Nat} {p : Option Addr} {A : Option Addr} {c : Nat} {l : Bs} (hp : selfP b p) (h0 : l ≠ []) {w0 w : World} {I0 : Ids} {R : List Assn} (hI : ∀ x, ¬ I0 x) (h : Hp I0 w0 (SBl b p A c l ++ R) w) :
  Calls Tryz.prog 41 #[.pointer (some ⟨b, 0, none⟩)] w (fun e w' => ∃ _ : Unit, e = .returned (.string (bs l)) ∧ Hp I0 w0 [] w') := by
 obtain ⟨i, hsep, he, hi⟩ := h
 have hnew : ∀ x, i x → w0.heap.size ≤ x := fun x hx => (hi x hx).resolve_left (hI x)
 have hs2 : Hp i w (SBl b p A c l ++ R) w := Hp.start hsep
 have hb := hs2.blk 0 rfl
 obtain ⟨ib, j, hA, hL, hd, _, hib, _⟩ := hs2.at (k := 0) rfl
 obtain ⟨io, j2, hA2, _, _, _, hio, _⟩ := hs2.at (k := 1) rfl
 have hbn : w0.heap.size ≤ b := by
  rcases hib b ((hA.1 b).2 rfl) with h1 | h1
  ·
   exact hnew b h1
  ·
   exact absurd (lt_of_some hb) (by omega)
 have hown : w.ownsRow w0.heap.size 5 1 (.slice A l.length c) l.length (flat byK l) ∧ (Value.slice A l.length c).ownBlock ≠ some b := by
  rcases hA2 with ⟨rfl, rfl, rfl, _⟩ | ⟨gb, cur, rfl, hI2, hb2, hle, hc, hsz, ht⟩
  ·
   exact ⟨⟨rfl, .inl ⟨rfl, rfl⟩⟩, by simp [Value.ownBlock]⟩
  ·
   have hg : w0.heap.size ≤ gb := by
    rcases hio gb ((hI2 gb).2 rfl) with h1 | h1
    ·
     exact hnew gb h1
    ·
     exact absurd (lt_of_some hb2) (by omega)
   refine ⟨⟨flat_length byK l, .inr ⟨gb, c, cur, rfl, hg, hb2, hle, hc, hsz, ht⟩⟩, ?_⟩
   intro k
   have e1 : gb = b := by simpa [Value.ownBlock] using k
   subst e1
   rw [hb] at hb2
   injection hb2 with hb2
   injection hb2 with _ h5 _
   exact absurd h5 (by decide)
 have hfl : flat byK l = Lib.byteCells l := flat_byteCells l
 have hB : Lib.IsBuilder 95 5 w0.heap.size b (Lib.byteCells l) w := by
  have hlen : (Lib.byteCells l).length = l.length := by rw [← hfl]; simpa [byK] using flat_length byK l
  have hat : ∀ q, w.heap[b]? = some (.cells #[q, .slice A l.length c] 95 (0, 0)) → Lib.BuilderAt 95 5 w0.heap.size b q (Lib.byteCells l) w := fun q hq =>
   ⟨hbn, _, hq, by rw [hlen, ← hfl]; exact hown.1, hown.2⟩
  rcases hp with rfl | rfl
  ·
   exact .inl (hat _ hb)
  ·
   exact .inr (hat _ hb)
 refine Calls.mono (Tryz.Builder_String w0.heap.size b l w hB h0) ?_
 rintro e w' ⟨rfl, hw⟩
 refine ⟨(), rfl, fun _ => False, fun _ h => h, ⟨hw.os.trans he.os, hw.tape.trans he.tape, hw.output.trans he.output, Nat.le_trans he.size hw.size, fun x hx hn => ?_⟩, fun _ h => h.elim⟩
 rw [hw.block x (by exact hx), he.block x hx hn]
end Go.Proofs.YtplmfekhdaefaaaGreatDoor
