/-
 Walks, part 36.
-/
import Derived.Test.YtplmfekhdaefaaaGreatDoorTabB
import Derived.Test.YtplmfekhdaefaaaGreatDoorW35
set_option linter.unusedSimpArgs false
set_option linter.unusedVariables false
namespace Go.Proofs.YtplmfekhdaefaaaGreatDoor
open Go.Sv Go.Drv
set_option maxRecDepth 100000 in
set_option maxHeartbeats 16000000 in
theorem format_fn (d : DH) {w : World} (hd : DR w d) (hrg : rgD d.d) (hP : PowR w) : Fx Tryz.prog 16 [.agg #[.string (bs d.name), .slice d.sA d.ss.length d.sc, .slice d.tA d.hs.length d.tc]] w [] at5 (fun x L => x = .tuple #[.string (bs (fmtR d.d)), .int .i64 (chkM d.d)] ∧ L = []) := by
 refine Sv.Fx.body Tryz.func16 rfl T16 rfl ?_
 intro I hro hI
 refine KV.env [(0, _)] ⟨rfl, trivial⟩ ?_
 have hIe : ∀ x, ¬ I x := fun x => hI x
 refine CV.seq (CV.region ?_)
 refine RV.op (OV.box (t := 25) #[_, _, _] rfl rfl gno rfl (fun p => ?_))
 refine RV.s (Step.assign (v := .string (Sv.bs [])) rfl) rfl (RV.a rfl rfl ?_)
 refine RV.nil (KV.then_n (KV.env [(1, _)] ⟨rfl, trivial⟩ (CV.seq (CV.seq (CV.region ?_)))))
 refine RV.s (Step.loadN _ Tryz.underlying25 rfl I25 rfl rfl (fun w h => h.cells 0 rfl)) rfl ?_
 refine RV.op (OV.call [] (F := [_]) Tryz.func29 B29 N29 rfl rfl (fun w h => check_fn d (DR.keep h hd hI)) (fun _ hb => hb.elim) gno rfl (fun v L' hp => ?_))
 obtain ⟨rfl, rfl⟩ := hp
 simp only [List.append_nil]
 refine RV.a rfl rfl ?_
 refine RV.nil (KV.then_n (KV.env [(1, _), (4, _)] ⟨rfl, rfl, trivial⟩ (CV.seq (CV.region ?_))))
 refine RV.m rfl rfl ?_
 refine RV.op (OV.split gno (Step.neq rfl rfl) rfl (fun hck => ?_) (fun hck => ?_))
 ·
  refine RV.nil (KV.then_n (KV.env [(1, _), (4, _), (13, _)] ⟨rfl, rfl, rfl, trivial⟩ (CV.cond_t rfl (CV.seq (CV.region ?_)))))
  refine RV.m rfl rfl (RV.s (Step.assign (v := .string (Sv.bs [])) rfl) rfl (RV.a rfl rfl ?_))
  refine RV.nil (KV.then_n (KV.env [(2, _), (3, _)] ⟨rfl, rfl, trivial⟩ (CV.ret (KV.then_ret ?_))))
  refine KV.sel [] [] rfl ?_
  exact KV.ret2 rfl rfl rfl _ (fun _ h => h) ⟨by unfold fmtR; rw [if_neg hck], rfl⟩
 ·
  have hck0 := Decidable.not_not.1 hck
  have hok := ok_of hck0
  have hdl : d.d.ss.length = d.ss.length := rfl
  have hsl : d.ss.length ≤ 32 := hok.few
  have hnl : d.name.length ≤ 32 := nm_len hok.name
  refine RV.nil (KV.then_n (KV.env [(1, _), (4, _), (13, _)] ⟨rfl, rfl, rfl, trivial⟩ (CV.cond_f rfl (CV.skip (KV.then_n ?_)))))
  refine KV.env [(1, _)] ⟨rfl, trivial⟩ (CV.seq (CV.region ?_))
  refine RV.op (OV.alloc #[.pointer none, .slice none 0 0] I95 rfl gno rfl (fun b => ?_))
  refine RV.nil (KV.then_n (KV.env [(1, _), (5, _)] ⟨rfl, rfl, trivial⟩ (CV.seq ?_)))
  refine KV.heap (fun w h => h.nilOS (e := 5) (K := byK)) ?_
  refine CV.region ?_
  refine RV.s (Step.fieldAddr rfl (F25_0 _ _)) rfl (RV.s (Step.load Tryz.underlying9 rfl rfl (fun w h => h.cell 0 rfl rfl)) rfl ?_)
  refine RV.s (Step.addStr (l := [100, 114, 105, 118, 101, 114, 32]) rfl rfl (by (simp only [List.length_append, List.length_cons, List.length_nil]; omega))) rfl ?_
  refine RV.s (Step.addStr (l2 := [10]) rfl rfl (by (simp only [List.length_append, List.length_cons, List.length_nil]; omega))) rfl ?_
  refine RV.op (OV.call [1, 1] (F := [_]) Tryz.func38 B38 N38 rfl rfl (fun w h => writeS_fn (b := b) (p := none) (A := none) (c := 0) (l := []) ((sDrS ++ d.name) ++ [10]) (.inl rfl) (by simp only [List.length_append, List.length_cons, List.length_nil, sDrS]; omega)) (fun _ hb => hb.elim) gno rfl (fun v L' hp => ?_))
  obtain ⟨A0, c0, rfl, rfl⟩ := hp
  unfold SBl
  refine RV.nil (KV.then_n (KV.env [(1, _), (5, _)] ⟨rfl, rfl, trivial⟩ (CV.seq (CV.region ?_))))
  refine RV.a rfl rfl ?_
  refine RV.nil (KV.then_n (KV.env [(1, _), (5, _), (6, _)] ⟨rfl, rfl, rfl, trivial⟩ (CV.seq (CV.seq (CV.region ?_)))))
  refine RV.s (Step.fieldAddr rfl (F25_1 _ _)) rfl (RV.s (Step.load Tryz.underlying22 rfl rfl (fun w h => h.cell 0 rfl rfl)) rfl (RV.s (Step.lenSl Tryz.underlying22 rfl) rfl (RV.m rfl rfl ?_)))
  refine RV.nil (KV.then_n (KV.env [(1, _), (5, _), (6, _), (21, _), (22, _), (23, _)] ⟨rfl, rfl, rfl, rfl, rfl, rfl, trivial⟩ (CV.block ?_)))
  refine KV.sel [0, 0, 0] [_, _, _] rfl ?_
  refine CV.loop3 (fun (i : Nat) (A : Option Addr) (c : Nat) => i ≤ d.ss.length) (fun (i : Nat) (A : Option Addr) (c : Nat) => d.ss.length - i) (fun (i : Nat) (A : Option Addr) (c : Nat) => [(1, .pointer (some ⟨p, 0, none⟩)), (5, .pointer (some ⟨b, 0, none⟩)), (6, .int .i64 (upTo d.d i).length), (21, .slice d.sA d.ss.length d.sc), (22, .int .i64 d.ss.length), (23, .int .i64 i)]) (fun (i : Nat) (A : Option Addr) (c : Nat) => Hp I w [Blk p (.cells #[.string (bs d.name), .slice d.sA d.ss.length d.sc, .slice d.tA d.hs.length d.tc] 25 (0, 0)), Blk b (.cells #[.pointer (some ⟨b, 0, none⟩), .slice A (oT d.d i).length c] 95 (0, 0)), OS 5 byK A c (oT d.d i)]) (0) (A0) (c0) (Nat.zero_le _) ⟨rfl, rfl, rfl, rfl, rfl, rfl, trivial⟩ (fun _ h => by rw [oT_zero]; exact h) ?_
  intro i A c hil
  refine CV.seq (CV.region ?_)
  refine RV.op (OV.split gno (Step.lss rfl rfl) rfl (fun hi => ?_) (fun hi => ?_))
  ·
   refine RV.nil (KV.then_n (KV.env [(1, _), (5, _), (6, _), (21, _), (22, _), (23, _), (24, _)] ⟨rfl, rfl, rfl, rfl, rfl, rfl, rfl, trivial⟩ (CV.seq (CV.cond_t rfl (CV.skip ?_)))))
   refine KV.then_n (KV.env [(1, _), (5, _), (6, _), (21, _), (22, _), (23, _)] ⟨rfl, rfl, rfl, rfl, rfl, rfl, trivial⟩ (CV.seq (CV.block (CV.seq (CV.region ?_)))))
   refine RV.m rfl rfl ?_
   refine RV.op (OV.step gno (Step.idx Tryz.underlying22 I9 (fun w h => (DR.keep h hd hI).s) rfl rfl (by first | rfl | omega) _ rfl (by first | omega | (have q1 := htk.2.2.1; have q2 := htk.2.2.2.1; have q3 : d.d.ss.length = d.ss.length := rfl; omega))) rfl ?_)
   refine RV.s (Step.load Tryz.underlying9 rfl rfl (fun w h => (DR.keep h hd hI).s.cell0 (by omega) rfl)) rfl ?_
   refine RV.a rfl rfl (RV.a rfl rfl ?_)
   refine RV.nil (KV.then_n (KV.env [(1, _), (5, _), (6, _), (7, _), (8, _), (21, _), (22, _), (23, _)] ⟨rfl, rfl, rfl, rfl, rfl, rfl, rfl, rfl, trivial⟩ (CV.seq ?_)))
   have hoi := oT_max hok hrg (i := i) (by omega)
   have hsn := nm_len (hok.nms i (by omega))
   have hsn2 : (d.ss.getD i strK.d).length ≤ 32 := hsn
   refine CV.region ?_
   refine RV.m rfl rfl ?_
   refine RV.s (Step.addStr (l := [115, 116, 97, 116, 101, 32]) rfl rfl (by (simp only [List.length_append, List.length_cons, List.length_nil]; omega))) rfl ?_
   refine RV.s (Step.addStr (l2 := [10]) rfl rfl (by (simp only [List.length_append, List.length_cons, List.length_nil]; omega))) rfl ?_
   refine RV.op (OV.call [1, 1] (F := [_]) Tryz.func38 B38 N38 rfl rfl (fun w h => writeS_fn (b := b) (p := some ⟨b, 0, none⟩) (A := A) (c := c) (l := oT d.d i) ((sStS ++ d.ss.getD i strK.d) ++ [10]) (.inr rfl) (by simp only [List.length_append, List.length_cons, List.length_nil, sStS]; omega)) (fun _ hb => hb.elim) gno rfl (fun v L' hp => ?_))
   obtain ⟨A2, c2, rfl, rfl⟩ := hp
   unfold SBl
   refine RV.nil (KV.then_n (KV.env [(1, _), (5, _), (6, _), (7, _), (21, _), (22, _), (23, _)] ⟨rfl, rfl, rfl, rfl, rfl, rfl, rfl, trivial⟩ (CV.block ?_)))
   refine KV.sel [0, 0, 0] [_, _, _] rfl ?_
   refine CV.loop3 (fun (k : Nat) (A3 : Option Addr) (c3 : Nat) => k ≤ (ofS d.d i).length) (fun (k : Nat) (A3 : Option Addr) (c3 : Nat) => (ofS d.d i).length - k) (fun (k : Nat) (A3 : Option Addr) (c3 : Nat) => [(1, .pointer (some ⟨p, 0, none⟩)), (5, .pointer (some ⟨b, 0, none⟩)), (6, .int .i64 ((upTo d.d i).length + k : Nat)), (7, .int .i64 i), (21, .slice d.sA d.ss.length d.sc), (22, .int .i64 d.ss.length), (23, .int .i64 i)]) (fun (k : Nat) (A3 : Option Addr) (c3 : Nat) => Hp I w [Blk p (.cells #[.string (bs d.name), .slice d.sA d.ss.length d.sc, .slice d.tA d.hs.length d.tc] 25 (0, 0)), Blk b (.cells #[.pointer (some ⟨b, 0, none⟩), .slice A3 (iT d.d i k).length c3] 95 (0, 0)), OS 5 byK A3 c3 (iT d.d i k)]) (0) (A2) (c2) (Nat.zero_le _) ⟨rfl, rfl, rfl, rfl, rfl, rfl, rfl, trivial⟩ (fun _ h => by rw [iT_zero]; exact h) ?_
   intro k A3 c3 hkl
   refine CV.seq (CV.seq (CV.region ?_))
   refine RV.m rfl rfl (RV.s (Step.fieldAddr rfl (F25_2 _ _)) rfl (RV.s (Step.load Tryz.underlying23 rfl rfl (fun w h => h.cell 0 rfl rfl)) rfl (RV.s (Step.lenSl Tryz.underlying23 rfl) rfl ?_)))
   refine RV.op (OV.split gno (Step.lss rfl rfl) rfl (fun hn1 => ?_) (fun hn1 => ?_))
   ·
    have hn2 : ((upTo d.d i).length + k) < d.hs.length := by omega
    refine RV.m rfl rfl (RV.gw rfl (Step.fieldAddr rfl (F25_2 _ _)) rfl (RV.gw rfl (Step.load Tryz.underlying23 rfl rfl (fun w h => h.cell 0 rfl rfl)) rfl (RV.gw rfl (Step.move rfl) rfl ?_)))
    refine RV.op (OV.step (gyes rfl) (Step.idx Tryz.underlying23 I48 (fun w h => (DR.keep h hd hI).t) rfl rfl (by first | rfl | omega) _ rfl (by first | omega | (have q1 := htk.2.2.1; have q2 := htk.2.2.2.1; have q3 : d.d.ss.length = d.ss.length := rfl; omega))) rfl ?_)
    refine RV.gw rfl (Step.fieldAddr rfl (F48_0 _ _)) rfl ?_
    refine RV.gw rfl (Step.load Tryz.underlying3 rfl rfl (fun w h => (DR.keep h hd hI).t.cell0 (by omega) rfl)) rfl ?_
    refine RV.gw rfl (Step.move rfl) rfl ?_
    refine RV.op (OV.split (gyes rfl) (Step.eql rfl rfl) rfl (fun hn3 => ?_) (fun hn3 => ?_))
    ·
     refine RV.s (Step.pick_t rfl rfl) rfl ?_
     refine RV.nil (KV.then_n (KV.env [(1, _), (5, _), (6, _), (7, _), (21, _), (22, _), (23, _), (46, _)] ⟨rfl, rfl, rfl, rfl, rfl, rfl, rfl, rfl, trivial⟩ (CV.cond_t rfl (CV.skip (KV.then_n ?_)))))
     refine KV.env [(1, _), (5, _), (6, _), (7, _), (21, _), (22, _), (23, _)] ⟨rfl, rfl, rfl, rfl, rfl, rfl, rfl, trivial⟩ (CV.block (CV.seq (CV.region ?_)))
     refine RV.s (Step.fieldAddr rfl (F25_2 _ _)) rfl (RV.s (Step.load Tryz.underlying23 rfl rfl (fun w h => h.cell 0 rfl rfl)) rfl (RV.m rfl rfl ?_))
     refine RV.op (OV.step gno (Step.idx Tryz.underlying23 I48 (fun w h => (DR.keep h hd hI).t) rfl rfl (by first | rfl | omega) _ rfl (by first | omega | (have q1 := htk.2.2.1; have q2 := htk.2.2.2.1; have q3 : d.d.ss.length = d.ss.length := rfl; omega))) rfl ?_)
     refine RV.s (Step.loadN _ Tryz.underlying48 rfl I48 rfl rfl (fun w h => (DR.keep h hd hI).t.cells (by omega))) rfl ?_
     refine RV.op (OV.alloc #[.int .i64 0, .string (Sv.bs []), .bool false, .int .u64 0, .int .u64 0, .int .u64 0, .slice none 0 0, .int .i64 0] I48 rfl gno rfl (fun x => ?_))
     refine RV.op (OV.store 3 [_, _, _, _, _, _, _, _] #[_, _, _, _, _, _, _, _] I48 rfl rfl rfl rfl rfl (Nat.le_of_ble_eq_true rfl) (by simp [Value.oneCell']) rfl gno ?_)
     refine RV.nil (KV.then_n (KV.env [(1, _), (5, _), (6, _), (7, _), (9, _), (21, _), (22, _), (23, _)] ⟨rfl, rfl, rfl, rfl, rfl, rfl, rfl, rfl, trivial⟩ (CV.seq ?_)))
     have hmem := ts_mem d hn2
     have hrt := hrg _ hmem
     have htk := tr_ok hok hmem
     have hev := nm_len htk.2.2.2.2.1
     have htg0 := nm_len (tgt_nm hok hmem)
     have htg : (d.ss.getD (d.hs.getD ((upTo d.d i).length + k) thK.d).t.to.toNat strK.d).length ≤ 32 := htg0
     have hgl := gdT_len hrt.1
     have hol := opsT_len hrt.2
     have hom := ops16 hok _ hmem
     have htm := tr_max hok hrg hmem
     have htm2 : (trT d.ss (d.hs.getD ((upTo d.d i).length + k) thK.d).t).length ≤ 1000 := htm
     have him := iT_max hok hrg (i := i) (k := k) (by omega) hkl
     refine CV.any (Hp I w [Blk p (.cells #[.string (bs d.name), .slice d.sA d.ss.length d.sc, .slice d.tA d.hs.length d.tc] 25 (0, 0)), Blk x (.cells #[.int .i64 (d.hs.getD ((upTo d.d i).length + k) thK.d).t.frm, .string (bs (d.hs.getD ((upTo d.d i).length + k) thK.d).t.ev), .bool (d.hs.getD ((upTo d.d i).length + k) thK.d).t.gd.used, .int .u64 (d.hs.getD ((upTo d.d i).length + k) thK.d).t.gd.reg, .int .u64 (d.hs.getD ((upTo d.d i).length + k) thK.d).t.gd.mask, .int .u64 (d.hs.getD ((upTo d.d i).length + k) thK.d).t.gd.val, .slice (d.hs.getD ((upTo d.d i).length + k) thK.d).A (d.hs.getD ((upTo d.d i).length + k) thK.d).t.ops.length (d.hs.getD ((upTo d.d i).length + k) thK.d).c, .int .i64 (d.hs.getD ((upTo d.d i).length + k) thK.d).t.to] 48 (0, 0))]) (by kernel_rfl) (fun _ h => h.drew) 21 rfl ?_
     refine AV.u 0 (bl 21 1) rfl gno (Step.fieldAddr rfl (F48_1 _ _)) rfl (fun _ h => h.sel [0, 2] rfl) ?_
     refine AV.u 1 (bl 21 3) rfl gno (Step.load Tryz.underlying9 rfl rfl (fun w h => h.cell 1 rfl rfl)) rfl (fun _ h => h.sel [0, 2] rfl) ?_
     refine AV.u 2 (bl 21 7) rfl gno (Step.addStr (l := [32, 32, 111, 110, 32]) rfl rfl (by (simp only [List.length_append, List.length_cons, List.length_nil]; omega))) rfl (fun _ h => h.sel [0, 2] rfl) ?_
     refine AV.u 3 (bl 21 15) rfl gno (Step.fieldAddr rfl (F48_2 _ _)) rfl (fun _ h => h.sel [0, 2] rfl) ?_
     refine AV.u 4 (bl 21 31) rfl gno (Step.loadN _ Tryz.underlying45 rfl I45 rfl rfl (fun w h => cells_off 2 (us := [.bool (d.hs.getD ((upTo d.d i).length + k) thK.d).t.gd.used, .int .u64 (d.hs.getD ((upTo d.d i).length + k) thK.d).t.gd.reg, .int .u64 (d.hs.getD ((upTo d.d i).length + k) thK.d).t.gd.mask, .int .u64 (d.hs.getD ((upTo d.d i).length + k) thK.d).t.gd.val]) (h.cells 1 rfl) rfl)) rfl (fun _ h => h.sel [0, 2] rfl) ?_
     refine AV.u 8 (bl 21 287) rfl gno (Step.fieldAddr rfl (F25_1 _ _)) rfl (fun _ h => h.sel [0, 2] rfl) ?_
     refine AV.u 9 (bl 21 799) rfl gno (Step.load Tryz.underlying22 rfl rfl (fun w h => h.cell 0 rfl rfl)) rfl (fun _ h => h.sel [0, 2] rfl) ?_
     refine AV.u 10 (bl 21 1823) rfl gno (Step.fieldAddr rfl (F48_4 _ _)) rfl (fun _ h => h.sel [0, 2] rfl) ?_
     refine AV.u 11 (bl 21 3871) rfl gno (Step.load Tryz.underlying3 rfl rfl (fun w h => h.cell 1 rfl rfl)) rfl (fun _ h => h.sel [0, 2] rfl) ?_
     refine AV.u 12 (bl 21 7967) rfl gno (Step.idx Tryz.underlying22 I9 (fun w h => (DR.keep h hd hI).s) rfl rfl (by first | rfl | omega) _ (Int.toNat_of_nonneg htk.2.2.1).symm (by first | omega | (have q1 := htk.2.2.1; have q2 := htk.2.2.2.1; have q3 : d.d.ss.length = d.ss.length := rfl; omega))) rfl (fun _ h => h.sel [0, 2] rfl) ?_
     refine AV.u 13 (bl 21 16159) rfl gno (Step.load Tryz.underlying9 rfl rfl (fun w h => (DR.keep h hd hI).s.cell0 (by omega) rfl)) rfl (fun _ h => h.sel [0, 2] rfl) ?_
     refine AV.u 15 (bl 21 48927) rfl gno (Step.fieldAddr rfl (F48_3 _ _)) rfl (fun _ h => h.sel [0, 2] rfl) ?_
     refine AV.u 16 (bl 21 114463) rfl gno (Step.load Tryz.underlying46 rfl rfl (fun w h => h.cell 1 rfl rfl)) rfl (fun _ h => h.sel [0, 2] rfl) ?_
     refine AV.all [5] (by kernel_rfl) (by decide) ?_
     refine ⟨⟨_, rfl, ?_⟩, trivial⟩
     ·
      refine OV.call [] (F := [_, _, _, _]) Tryz.func39 B39 N39 rfl rfl (fun w h => formatGuard_fn (d.hs.getD ((upTo d.d i).length + k) thK.d).t.gd hrt.1 (PowR.keep h hP (hro 5 rfl))) (fun b hb => roAt5 hP hro b hb) gno rfl (fun v L' hp => ?_)
      obtain ⟨rfl, rfl⟩ := hp
      simp only [List.append_nil]
      refine AV.next (bl 21 114495) (by kernel_rfl) (fun _ h => h.sel [0, 2] rfl) ?_
      refine AV.u 6 (bl 21 114559) rfl gno (Step.addStr rfl rfl (by (simp only [List.length_append, List.length_cons, List.length_nil]; omega))) rfl (fun _ h => h.sel [0, 2] rfl) ?_
      refine AV.u 7 (bl 21 114687) rfl gno (Step.addStr (l2 := [32, 45, 62, 32]) rfl rfl (by (simp only [List.length_append, List.length_cons, List.length_nil]; omega))) rfl (fun _ h => h.sel [0, 2] rfl) ?_
      refine AV.u 14 (bl 21 131071) rfl gno (Step.addStr rfl rfl (by (simp only [List.length_append, List.length_cons, List.length_nil]; omega))) rfl (fun _ h => h.sel [0, 2] rfl) ?_
      refine AV.all [17] (by kernel_rfl) (by decide) ?_
      refine ⟨⟨_, rfl, ?_⟩, trivial⟩
      ·
       refine OV.call [] (F := [_, _, _, _]) Tryz.func40 B40 N40 rfl rfl (fun w h => formatOps_fn ((DR.keep h hd hI).o ((upTo d.d i).length + k) hn2) hrt.2 htk.2.2.2.2.2.2.1 (PowR.keep h hP (hro 5 rfl))) (fun b hb => roAt5 hP hro b hb) gno rfl (fun v L' hp => ?_)
       obtain ⟨rfl, rfl⟩ := hp
       simp only [List.append_nil]
       refine AV.next (bl 21 262143) (by kernel_rfl) (fun _ h => h.sel [0, 2] rfl) ?_
       refine AV.u 18 (bl 21 524287) rfl gno (Step.addStr rfl rfl (by (simp only [List.length_append, List.length_cons, List.length_nil]; omega))) rfl (fun _ h => h.sel [0, 2] rfl) ?_
       refine AV.u 19 (bl 21 1048575) rfl gno (Step.addStr (l2 := [10]) rfl rfl (by (simp only [List.length_append, List.length_cons, List.length_nil]; omega))) rfl (fun _ h => h.sel [0, 2] rfl) ?_
       refine AV.all [20] (by kernel_rfl) (by decide) ?_
       refine ⟨⟨_, rfl, ?_⟩, trivial⟩
       ·
        refine OV.call [1, 1] (F := [_, _]) Tryz.func38 B38 N38 rfl rfl (fun w h => writeS_fn (b := b) (p := some ⟨b, 0, none⟩) (A := A3) (c := c3) (l := iT d.d i k) (trT d.ss (d.hs.getD ((upTo d.d i).length + k) thK.d).t) (.inr rfl) (by omega)) (fun _ hb => hb.elim) gno rfl (fun v L' hp => ?_)
        obtain ⟨A4, c4, rfl, rfl⟩ := hp
        unfold SBl
        refine AV.next (bl 21 2097151) (by kernel_rfl) (fun _ h => h.sel [0, 0] rfl) ?_
        refine AV.done (by kernel_rfl) ?_
        refine KV.then_n (KV.env [(1, _), (5, _), (6, _), (7, _), (21, _), (22, _), (23, _)] ⟨rfl, rfl, rfl, rfl, rfl, rfl, rfl, trivial⟩ (CV.region ?_))
        refine RV.m rfl rfl ?_
        refine RV.s (Step.add rfl rfl (wI64 (by omega) (by have q := hok.fewT; rw [ts_len] at q; omega))) rfl ?_
        refine RV.a rfl rfl ?_
        refine RV.nil (KV.block_n (KV.then_n (KV.env [(1, _), (5, _), (6, _), (7, _), (21, _), (22, _), (23, _)] ⟨rfl, rfl, rfl, rfl, rfl, rfl, rfl, trivial⟩ ?_)))
        refine KV.sel [0, 1, 1] [_, _, _] rfl ?_
        exact KV.loop3 (x := k) (y := A3) (z := c3) (k + 1) (A4) (c4) (by have q := nx_yes hok hkl (by rw [ts_len]; exact hn2) (by rw [ts_at]; omega); omega) ((by have q := nx_yes hok hkl (by rw [ts_len]; exact hn2) (by rw [ts_at]; omega); omega)) ⟨rfl, rfl, rfl, rfl, rfl, rfl, rfl, trivial⟩ (fun _ h => by have q := nx_yes hok hkl (by rw [ts_len]; exact hn2) (by rw [ts_at]; omega); rw [iT_succ q.1, q.2, ts_at]; exact h)
    ·
     refine RV.s (Step.pick_t rfl rfl) rfl ?_
     refine RV.nil (KV.then_n (KV.env [(1, _), (5, _), (6, _), (7, _), (21, _), (22, _), (23, _), (46, _)] ⟨rfl, rfl, rfl, rfl, rfl, rfl, rfl, rfl, trivial⟩ (CV.cond_f rfl (CV.exit (KV.then_exit ?_)))))
     refine KV.then_exit (KV.block_hit (KV.block_n (KV.then_n (KV.env [(1, _), (5, _), (6, _), (21, _), (22, _), (23, _)] ⟨rfl, rfl, rfl, rfl, rfl, rfl, trivial⟩ (CV.region ?_)))))
     (first | refine RV.op (OV.step gno (Step.add rfl rfl (wI64 (by omega) (by omega))) rfl ?_) | refine RV.op (OV.step gno (Step.add rfl rfl rfl) rfl ?_))
     refine RV.m rfl rfl ?_
     refine RV.nil (KV.then_n (KV.env [(1, _), (5, _), (6, _), (21, _), (22, _), (23, _)] ⟨rfl, rfl, rfl, rfl, rfl, rfl, trivial⟩ ?_))
     refine KV.sel [0, 0, 0] [_, _, _] rfl ?_
     have hke := nx_no hok hkl (by rw [ts_len, ts_at]; first | exact fun q => hn1 (by omega) | exact fun q => hn3 (by omega))
     exact KV.loop3 (x := i) (y := A) (z := c) (i + 1) (A3) (c3) (by omega) (by omega) ⟨rfl, rfl, (by rw [upTo_succ, List.length_append, hke]; rfl), rfl, rfl, rfl, trivial⟩ (fun _ h => by rw [oT_succ, ← hke]; exact h)
   ·
    refine RV.m rfl rfl (RV.k rfl rfl (RV.k rfl rfl (RV.k rfl rfl (RV.k rfl rfl (RV.k rfl rfl (RV.k rfl rfl (RV.k rfl rfl ?_)))))))
    refine RV.k rfl rfl (RV.s (Step.pick_f rfl rfl) rfl ?_)
    refine RV.nil (KV.then_n (KV.env [(1, _), (5, _), (6, _), (7, _), (21, _), (22, _), (23, _), (46, _)] ⟨rfl, rfl, rfl, rfl, rfl, rfl, rfl, rfl, trivial⟩ (CV.cond_f rfl (CV.exit (KV.then_exit ?_)))))
    refine KV.then_exit (KV.block_hit (KV.block_n (KV.then_n (KV.env [(1, _), (5, _), (6, _), (21, _), (22, _), (23, _)] ⟨rfl, rfl, rfl, rfl, rfl, rfl, trivial⟩ (CV.region ?_)))))
    (first | refine RV.op (OV.step gno (Step.add rfl rfl (wI64 (by omega) (by omega))) rfl ?_) | refine RV.op (OV.step gno (Step.add rfl rfl rfl) rfl ?_))
    refine RV.m rfl rfl ?_
    refine RV.nil (KV.then_n (KV.env [(1, _), (5, _), (6, _), (21, _), (22, _), (23, _)] ⟨rfl, rfl, rfl, rfl, rfl, rfl, trivial⟩ ?_))
    refine KV.sel [0, 0, 0] [_, _, _] rfl ?_
    have hke := nx_no hok hkl (by rw [ts_len, ts_at]; first | exact fun q => hn1 (by omega) | exact fun q => hn3 (by omega))
    exact KV.loop3 (x := i) (y := A) (z := c) (i + 1) (A3) (c3) (by omega) (by omega) ⟨rfl, rfl, (by rw [upTo_succ, List.length_append, hke]; rfl), rfl, rfl, rfl, trivial⟩ (fun _ h => by rw [oT_succ, ← hke]; exact h)
  ·
   refine RV.nil (KV.then_n (KV.env [(1, _), (5, _), (6, _), (21, _), (22, _), (23, _), (24, _)] ⟨rfl, rfl, rfl, rfl, rfl, rfl, rfl, trivial⟩ (CV.seq (CV.cond_f rfl (CV.exit ?_)))))
   refine KV.then_exit (KV.then_exit (KV.block_hit (KV.then_n (KV.env [(5, _)] ⟨rfl, trivial⟩ (CV.seq ?_)))))
   obtain rfl : i = d.ss.length := by omega
   have hne : oT d.d d.ss.length ≠ [] := by unfold oT drT sDrS; simp
   refine KV.sel [1, 1, 0] [_, _, _] rfl ?_
   refine CV.region ?_
   refine RV.op (OV.callW (α := Unit) (fun _ => .string (bs (oT d.d d.ss.length))) (fun _ => Hp I w []) Tryz.func41 B41 N41 rfl (fun w2 h => string_fn (R := [_]) (.inr rfl) hne hIe h) gno rfl (fun _ => ?_))
   refine RV.a rfl rfl (RV.a rfl rfl ?_)
   refine RV.nil (KV.then_n (KV.env [(2, _), (3, _)] ⟨rfl, rfl, trivial⟩ (CV.ret ?_)))
   refine KV.sel [] [] rfl ?_
   exact KV.ret2 rfl rfl rfl _ (fun _ h => h) ⟨by unfold fmtR; rw [if_pos hck0, hck0, fmt_eq]; rfl, rfl⟩
end Go.Proofs.YtplmfekhdaefaaaGreatDoor
