/-
 Walks, part 42.
-/
import Derived.Test.YtplmfekhdaefaaaGreatDoorTabB
import Derived.Test.YtplmfekhdaefaaaGreatDoorW40
set_option linter.unusedSimpArgs false
set_option linter.unusedVariables false
namespace Go.Proofs.YtplmfekhdaefaaaGreatDoor
open Go.Sv Go.Drv
theorem arrSp : ∀ {p : Nat} (h : p < 3) (w : World), (Instr.index 41 (.agg #[.string (Sv.bs [32]), .string (Sv.bs [32, 32]), .string (Sv.bs [9])]) (.int .u8 (p : Int))).run Tryz.prog w = .ok (.string (bs (spL.getD p []))) w
 | 0, _, w => by kernel_rfl
 | 1, _, w => by kernel_rfl
 | 2, _, w => by kernel_rfl
 | n + 3, h, _ => by omega

set_option maxRecDepth 100000 in
set_option maxHeartbeats 16000000 in
theorem layout_fn (raw : DH) (note : Bs) (pad : Int) (h0p : 0 ≤ pad) {w : World} (hE : EvR w) (hP : PowR w) (hd : DR w raw) (hrg : rgD raw.d) : Fx Tryz.prog 6 [.agg #[.string (bs raw.name), .slice raw.sA raw.ss.length raw.sc, .slice raw.tA raw.hs.length raw.tc], .string (bs note), .int .u8 pad] w [] at45 (fun v L => v = .bool true ∧ L = []) := by
 refine Sv.Fx.body Tryz.func6 rfl T6 rfl ?_
 intro I hro hI
 refine KV.env [(0, _), (1, _), (2, _)] ⟨rfl, rfl, rfl, trivial⟩ ?_
 obtain ⟨p, hp3, hp⟩ : ∃ p : Nat, pad.tmod 3 = p ∧ p < 3 := ⟨(pad.tmod 3).toNat, by have e := Int.tmod_eq_emod_of_nonneg (b := 3) h0p; omega, by have e := Int.tmod_eq_emod_of_nonneg (b := 3) h0p; omega⟩
 have hsp := spL_ok hp
 refine CV.seq (CV.region ?_)
 refine RV.op (OV.box (t := 25) #[_, _, _] rfl rfl gno rfl (fun b0 => ?_))
 refine RV.a rfl rfl ?_
 refine RV.nil (KV.then_n (KV.env [(1, _), (2, _), (3, _)] ⟨rfl, rfl, rfl, trivial⟩ (CV.seq (CV.seq (CV.region ?_)))))
 refine RV.s (Step.loadN _ Tryz.underlying25 rfl I25 rfl rfl (fun w h => h.cells 0 rfl)) rfl ?_
 refine RV.op (OV.call [] (F := [_]) Tryz.func7 B7 N7 rfl rfl (fun w h => large_fn raw (DR.keep h hd hI)) (fun _ hb => hb.elim) gno rfl (fun v L' hp => ?_))
 obtain ⟨rfl, rfl⟩ := hp
 simp only [List.append_nil]
 refine RV.m rfl rfl ?_
 refine KV.cases 17 rfl (fun cc1 => ?_) (fun cc1 => ?_)
 ·
  refine RV.k rfl rfl (RV.k rfl rfl (RV.k rfl rfl (RV.s (Step.pick_t rfl rfl) rfl ?_)))
  refine RV.nil (KV.then_n (KV.env [(1, _), (2, _), (3, _), (21, _)] ⟨rfl, rfl, rfl, rfl, trivial⟩ (CV.cond_t rfl (CV.seq (CV.region ?_)))))
  refine RV.op (OV.call [] (F := [_]) Tryz.func8 B8 N8 rfl rfl (fun w h => awake_fn (EvR.keep h hE (hro 4 (.inl rfl)))) (fun b hb => roAt4 hE (fun b hb => hro b (.inl hb)) b hb) gno rfl (fun v L' hp => ?_))
  obtain ⟨rfl, rfl⟩ := hp
  simp only [List.append_nil]
  refine RV.a rfl rfl ?_
  refine RV.nil (KV.then_n (KV.env [(6, _)] ⟨rfl, trivial⟩ (CV.ret (KV.then_ret ?_))))
  refine KV.sel [] [] rfl ?_
  exact KV.ret1 rfl rfl _ (fun _ h => h) ⟨rfl, rfl⟩
 ·
  have hsm := lrg_sml cc1
  have hsm1 : raw.ss.length ≤ 40 := hsm.1
  refine RV.gw rfl (Step.move rfl) rfl (RV.gw rfl (Step.lenStr Tryz.underlying9 rfl) rfl ?_)
  refine RV.op (OV.split (gyes rfl) (Step.gtr rfl rfl) rfl (fun h60 => ?_) (fun h60 => ?_))
  ·
   refine RV.s (Step.pick_f rfl rfl) rfl ?_
   refine RV.nil (KV.then_n (KV.env [(1, _), (2, _), (3, _), (21, _)] ⟨rfl, rfl, rfl, rfl, trivial⟩ (CV.cond_t rfl (CV.seq (CV.region ?_)))))
   refine RV.op (OV.call [] (F := [_]) Tryz.func8 B8 N8 rfl rfl (fun w h => awake_fn (EvR.keep h hE (hro 4 (.inl rfl)))) (fun b hb => roAt4 hE (fun b hb => hro b (.inl hb)) b hb) gno rfl (fun v L' hp => ?_))
   obtain ⟨rfl, rfl⟩ := hp
   simp only [List.append_nil]
   refine RV.a rfl rfl ?_
   refine RV.nil (KV.then_n (KV.env [(6, _)] ⟨rfl, trivial⟩ (CV.ret (KV.then_ret ?_))))
   refine KV.sel [] [] rfl ?_
   exact KV.ret1 rfl rfl _ (fun _ h => h) ⟨rfl, rfl⟩
  ·
   refine RV.s (Step.pick_f rfl rfl) rfl ?_
   refine RV.nil (KV.then_n (KV.env [(1, _), (2, _), (3, _), (21, _)] ⟨rfl, rfl, rfl, rfl, trivial⟩ (CV.cond_f rfl (CV.skip (KV.then_n ?_)))))
   refine KV.env [(1, _), (2, _), (3, _)] ⟨rfl, rfl, rfl, trivial⟩ (CV.seq (CV.seq (CV.region ?_)))
   refine RV.a rfl rfl ?_
   refine RV.nil (KV.then_n (KV.env [(1, _), (2, _), (3, _), (7, _)] ⟨rfl, rfl, rfl, rfl, trivial⟩ (CV.block ?_)))
   refine KV.sel [0] [_] rfl ?_
   refine CV.loopI (fun (i : Nat) => i ≤ note.length ∧ ∀ k, k < i → ¬ ((note.getD k 0).toNat : Int) = 10) (fun (i : Nat) => note.length - i) (fun (i : Nat) => [(1, .string (bs note)), (2, .int .u8 pad), (3, .pointer (some ⟨b0, 0, none⟩)), (7, .int .i64 i)]) (fun (i : Nat) => Hp I w [Blk b0 (.cells #[.string (bs raw.name), .slice raw.sA raw.ss.length raw.sc, .slice raw.tA raw.hs.length raw.tc] 25 (0, 0))]) (0) ⟨Nat.zero_le _, fun k hk => by omega⟩ ⟨rfl, rfl, rfl, rfl, trivial⟩ (fun _ h => h) ?_
   intro i hinv
   refine CV.seq (CV.seq (CV.region ?_))
   refine RV.m rfl rfl (RV.m rfl rfl (RV.s (Step.lenStr Tryz.underlying9 rfl) rfl ?_))
   refine RV.op (OV.split gno (Step.lss rfl rfl) rfl (fun hi => ?_) (fun hi => ?_))
   ·
    refine RV.nil (KV.then_n (KV.env [(1, _), (2, _), (3, _), (7, _), (26, _)] ⟨rfl, rfl, rfl, rfl, rfl, trivial⟩ (CV.cond_t rfl (CV.skip (KV.then_n ?_)))))
    refine KV.env [(1, _), (2, _), (3, _), (7, _)] ⟨rfl, rfl, rfl, rfl, trivial⟩ (CV.seq (CV.block (CV.seq (CV.region ?_))))
    refine RV.m rfl rfl (RV.m rfl rfl ?_)
    refine RV.s (Step.idxStr Tryz.underlying9 rfl rfl _ rfl (by omega)) rfl ?_
    refine RV.op (OV.split gno (Step.eql rfl rfl) rfl (fun hc => ?_) (fun hc => ?_))
    ·
     refine RV.nil (KV.then_n (KV.env [(1, _), (2, _), (3, _), (7, _), (32, _)] ⟨rfl, rfl, rfl, rfl, rfl, trivial⟩ (CV.cond_t rfl (CV.seq (CV.region ?_)))))
     refine RV.op (OV.call [] (F := [_]) Tryz.func8 B8 N8 rfl rfl (fun w h => awake_fn (EvR.keep h hE (hro 4 (.inl rfl)))) (fun b hb => roAt4 hE (fun b hb => hro b (.inl hb)) b hb) gno rfl (fun v L' hp => ?_))
     obtain ⟨rfl, rfl⟩ := hp
     simp only [List.append_nil]
     refine RV.a rfl rfl ?_
     refine RV.nil (KV.then_n (KV.env [(6, _)] ⟨rfl, trivial⟩ (CV.ret (KV.block_ret (KV.then_ret ?_)))))
     refine KV.then_ret (KV.block_ret (KV.then_ret ?_))
     refine KV.sel [] [] rfl ?_
     exact KV.ret1 rfl rfl _ (fun _ h => h) ⟨rfl, rfl⟩
    ·
     refine RV.nil (KV.then_n (KV.env [(1, _), (2, _), (3, _), (7, _), (32, _)] ⟨rfl, rfl, rfl, rfl, rfl, trivial⟩ (CV.cond_f rfl (CV.skip (KV.block_n ?_)))))
     refine KV.then_n (KV.env [(1, _), (2, _), (3, _), (7, _)] ⟨rfl, rfl, rfl, rfl, trivial⟩ (CV.region ?_))
     refine RV.m rfl rfl ?_
     (first | refine RV.op (OV.step gno (Step.add rfl rfl (wI64 (by omega) (by omega))) rfl ?_) | refine RV.op (OV.step gno (Step.add rfl rfl rfl) rfl ?_))
     refine RV.a rfl rfl ?_
     refine RV.nil (KV.then_n (KV.env [(1, _), (2, _), (3, _), (7, _)] ⟨rfl, rfl, rfl, rfl, trivial⟩ ?_))
     refine KV.sel [0] [_] rfl ?_
     exact KV.loopI (z := i) (i + 1) ⟨by omega, fun k hk => by by_cases e : k = i; (subst e; exact hc); exact hinv.2 k (by omega)⟩ (by omega) ⟨rfl, rfl, rfl, rfl, trivial⟩ (fun _ h => h)
   ·
    refine RV.nil (KV.then_n (KV.env [(1, _), (2, _), (3, _), (7, _), (26, _)] ⟨rfl, rfl, rfl, rfl, rfl, trivial⟩ (CV.cond_f rfl (CV.exit (KV.then_exit ?_)))))
    refine KV.then_exit (KV.block_hit (KV.then_n (KV.env [(1, _), (2, _), (3, _)] ⟨rfl, rfl, rfl, trivial⟩ (CV.seq ?_))))
    have hno : ∀ k, k < note.length → ¬ ((note.getD k 0).toNat : Int) = 10 := fun k hk => hinv.2 k (by omega)
    refine CV.region ?_
    refine RV.s (Step.loadN _ Tryz.underlying25 rfl I25 rfl rfl (fun w h => h.cells 0 rfl)) rfl ?_
    refine RV.op (OV.call [] (F := [_]) Tryz.func10 B10 N10 rfl rfl (fun w h => some_fn raw (DR.keep h hd hI) (by omega)) (fun _ hb => hb.elim) gno rfl (fun v L' hp => ?_))
    obtain ⟨dd, rfl, hdd, rfl⟩ := hp
    have hck := some_chk raw.d
    rw [← hdd] at hck
    have hrdd : rgD dd.d := by rw [hdd]; exact some_rg hrg
    have hfm : fmtR dd.d = fmtM dd.d := if_pos hck
    have hfl : (fmtM dd.d).length ≤ 7300 := by rw [hdd]; exact some_len _ (some_rg hrg)
    unfold dL
    refine RV.op (OV.alloc #[.string (Sv.bs []), .slice none 0 0, .slice none 0 0] I25 rfl gno rfl (fun y => ?_))
    refine RV.op (OV.store 4 [_, _, _] #[_, _, _] I25 rfl rfl rfl rfl rfl (Nat.le_of_ble_eq_true rfl) (by simp [Value.oneCell']) rfl gno ?_)
    refine RV.nil (KV.then_n (KV.env [(1, _), (2, _), (8, _)] ⟨rfl, rfl, rfl, trivial⟩ (CV.seq (CV.region ?_))))
    refine RV.s (Step.loadN _ Tryz.underlying25 rfl I25 rfl rfl (fun w h => h.cells 4 rfl)) rfl ?_
    refine RV.op (OV.call [] (F := [_, _, _, _, _]) Tryz.func16 B16 N16 rfl rfl (fun w h => format_fn dd (DR.ofHp (k1 := 1) (k2 := 2) (k3 := 3) h rfl rfl rfl rfl) hrdd (PowR.keep h hP (hro 5 (.inr rfl)))) (fun b hb => roAt5 hP (fun b hb => hro b (.inr hb)) b hb) gno rfl (fun v L' hp => ?_))
    obtain ⟨rfl, rfl⟩ := hp
    simp only [List.append_nil]
    rw [hfm, hck]
    refine RV.m rfl rfl (RV.s (Step.extract0 rfl rfl) rfl (RV.s (Step.extract0 rfl rfl) rfl (RV.a rfl rfl (RV.a rfl rfl ?_))))
    refine RV.nil (KV.then_n (KV.env [(1, _), (2, _), (8, _), (9, _), (10, _)] ⟨rfl, rfl, rfl, rfl, rfl, trivial⟩ (CV.seq (CV.seq (CV.region ?_)))))
    refine RV.m rfl rfl ?_
    refine RV.op (OV.split gno (Step.neq rfl rfl) rfl (fun n1 => ?_) (fun n1 => ?_))
    ·
     exact absurd rfl n1
    ·
     refine RV.nil (KV.then_n (KV.env [(1, _), (2, _), (8, _), (9, _), (42, _)] ⟨rfl, rfl, rfl, rfl, rfl, trivial⟩ (CV.cond_f rfl (CV.skip (KV.then_n ?_)))))
     refine KV.env [(1, _), (2, _), (8, _), (9, _)] ⟨rfl, rfl, rfl, rfl, trivial⟩ (CV.seq (CV.region ?_))
     refine RV.m rfl rfl ?_
     refine RV.op (OV.step gno (Step.addStr (l := [35]) rfl rfl (by (first | omega | (simp only [List.length_append, List.length_take, List.length_drop, List.length_cons, List.length_nil]; omega)))) rfl ?_)
     refine RV.op (OV.step gno (Step.addStr (l2 := [10, 10]) rfl rfl (by (first | omega | (simp only [List.length_append, List.length_take, List.length_drop, List.length_cons, List.length_nil]; omega)))) rfl ?_)
     refine RV.a rfl rfl ?_
     refine RV.nil (KV.then_n (KV.env [(1, _), (2, _), (8, _), (9, _), (11, _)] ⟨rfl, rfl, rfl, rfl, rfl, trivial⟩ (CV.seq (CV.seq (CV.region ?_)))))
     refine RV.a rfl rfl ?_
     refine RV.nil (KV.then_n (KV.env [(1, _), (2, _), (8, _), (9, _), (11, _), (12, _)] ⟨rfl, rfl, rfl, rfl, rfl, rfl, trivial⟩ (CV.block ?_)))
     refine KV.sel [4, 1, 1, 1] [_, _, _, _] rfl ?_
     refine CV.loopI (fun (i : Nat) => i ≤ (fmtM dd.d).length) (fun (i : Nat) => (fmtM dd.d).length - i) (fun (i : Nat) => [(1, .string (bs note)), (2, .int .u8 pad), (8, .pointer (some ⟨y, 0, none⟩)), (9, .string (bs (fmtM dd.d))), (11, .string (bs (padP note (spL.getD p []) (fmtM dd.d) i))), (12, .int .i64 i)]) (fun (i : Nat) => Hp I w [Blk y (.cells #[.string (bs dd.name), .slice dd.sA dd.ss.length dd.sc, .slice dd.tA dd.hs.length dd.tc] 25 (0, 0)), OS 9 strK dd.sA dd.sc dd.ss, OS 48 thK dd.tA dd.tc dd.hs, Big opA dd.hs]) (0) (Nat.zero_le _) ⟨rfl, rfl, rfl, rfl, (by rw [padP_zero]; rfl), rfl, trivial⟩ (fun _ h => h) ?_
     intro i hjl
     refine CV.seq (CV.seq (CV.region ?_))
     refine RV.m rfl rfl (RV.m rfl rfl (RV.s (Step.lenStr Tryz.underlying9 rfl) rfl ?_))
     refine RV.op (OV.split gno (Step.lss rfl rfl) rfl (fun hj => ?_) (fun hj => ?_))
     ·
      refine RV.nil (KV.then_n (KV.env [(1, _), (2, _), (8, _), (9, _), (11, _), (12, _), (49, _)] ⟨rfl, rfl, rfl, rfl, rfl, rfl, rfl, trivial⟩ (CV.cond_t rfl (CV.skip (KV.then_n ?_)))))
      refine KV.env [(1, _), (2, _), (8, _), (9, _), (11, _), (12, _)] ⟨rfl, rfl, rfl, rfl, rfl, rfl, trivial⟩ (CV.seq (CV.block (CV.seq ?_)))
      have hpl := padP_len (i := i) (note := note) (sp := (spL.getD p [])) (s := (fmtM dd.d)) (by omega) hsp.2.2 hfl
      refine CV.region ?_
      refine RV.m rfl rfl (RV.m rfl rfl ?_)
      refine RV.s (Step.idxStr Tryz.underlying9 rfl rfl _ rfl (by omega)) rfl ?_
      refine RV.nil (KV.then_n (KV.env [(1, _), (2, _), (8, _), (9, _), (11, _), (12, _), (54, _)] ⟨rfl, rfl, rfl, rfl, rfl, rfl, rfl, trivial⟩ (CV.block (CV.seq (CV.region ?_)))))
      refine RV.op (OV.split gno (Step.eql rfl rfl) rfl (fun h10 => ?_) (fun h10 => ?_))
      ·
       refine RV.a rfl rfl ?_
       refine RV.nil (KV.then_n (KV.env [(1, _), (2, _), (8, _), (9, _), (11, _), (12, _), (54, _), (62, _)] ⟨rfl, rfl, rfl, rfl, rfl, rfl, rfl, rfl, trivial⟩ (CV.cond_t rfl (CV.region ?_))))
       refine RV.m rfl rfl ?_
       refine RV.op (OV.step gno (Step.addStr (l2 := [32, 35]) rfl rfl (by (first | omega | (simp only [List.length_append, List.length_take, List.length_drop, List.length_cons, List.length_nil]; omega)))) rfl ?_)
       refine RV.m rfl rfl ?_
       refine RV.op (OV.step gno (Step.addStr rfl rfl (by (first | omega | (simp only [List.length_append, List.length_take, List.length_drop, List.length_cons, List.length_nil]; omega)))) rfl ?_)
       refine RV.op (OV.step gno (Step.addStr (l2 := [10, 32, 9, 10]) rfl rfl (by (first | omega | (simp only [List.length_append, List.length_take, List.length_drop, List.length_cons, List.length_nil]; omega)))) rfl ?_)
       refine RV.a rfl rfl ?_
       refine RV.nil (KV.block_n (KV.block_n (KV.then_n (KV.env [(1, _), (2, _), (8, _), (9, _), (11, _), (12, _)] ⟨rfl, rfl, rfl, rfl, rfl, rfl, trivial⟩ (CV.region ?_)))))
       refine RV.m rfl rfl ?_
       (first | refine RV.op (OV.step gno (Step.add rfl rfl (wI64 (by omega) (by omega))) rfl ?_) | refine RV.op (OV.step gno (Step.add rfl rfl rfl) rfl ?_))
       refine RV.a rfl rfl ?_
       refine RV.nil (KV.then_n (KV.env [(1, _), (2, _), (8, _), (9, _), (11, _), (12, _)] ⟨rfl, rfl, rfl, rfl, rfl, rfl, trivial⟩ ?_))
       refine KV.sel [0, 0, 0, 0] [_, _, _, _] rfl ?_
       exact KV.loopI (z := i) (i + 1) (by omega) (by omega) ⟨rfl, rfl, rfl, rfl, (by first | (rw [padP_nl (by omega) h10]; rfl) | (rw [padP_sp (by omega) h32]; rfl) | (rw [padP_other (by omega) h10 h32]; rfl)), rfl, trivial⟩ (fun _ h => h)
      ·
       refine RV.a rfl rfl ?_
       refine RV.nil (KV.then_n (KV.env [(1, _), (2, _), (8, _), (9, _), (11, _), (12, _), (54, _), (62, _)] ⟨rfl, rfl, rfl, rfl, rfl, rfl, rfl, rfl, trivial⟩ (CV.cond_f rfl (CV.seq (CV.region ?_)))))
       refine RV.op (OV.split gno (Step.eql rfl rfl) rfl (fun h32 => ?_) (fun h32 => ?_))
       ·
        refine RV.a rfl rfl ?_
        refine RV.nil (KV.then_n (KV.env [(1, _), (2, _), (8, _), (9, _), (11, _), (12, _), (69, _)] ⟨rfl, rfl, rfl, rfl, rfl, rfl, rfl, trivial⟩ (CV.cond_t rfl (CV.region ?_))))
        refine RV.m rfl rfl (RV.s (Step.build (vs := [(0, .string (Sv.bs [32])), (1, .string (Sv.bs [32, 32])), (2, .string (Sv.bs [9]))]) rfl (Ba41_3 _ _ _)) rfl (RV.m rfl rfl ?_))
        refine RV.s (Step.rem rfl rfl (by omega) (rfl)) rfl ?_
        rw [hp3]
        refine RV.s (Step.index rfl rfl (arrSp hp)) rfl ?_
        refine RV.op (OV.step gno (Step.addStr rfl rfl (by (first | omega | (simp only [List.length_append, List.length_take, List.length_drop, List.length_cons, List.length_nil]; omega)))) rfl ?_)
        refine RV.a rfl rfl ?_
        refine RV.nil (KV.block_n (KV.block_n (KV.then_n (KV.env [(1, _), (2, _), (8, _), (9, _), (11, _), (12, _)] ⟨rfl, rfl, rfl, rfl, rfl, rfl, trivial⟩ (CV.region ?_)))))
        refine RV.m rfl rfl ?_
        (first | refine RV.op (OV.step gno (Step.add rfl rfl (wI64 (by omega) (by omega))) rfl ?_) | refine RV.op (OV.step gno (Step.add rfl rfl rfl) rfl ?_))
        refine RV.a rfl rfl ?_
        refine RV.nil (KV.then_n (KV.env [(1, _), (2, _), (8, _), (9, _), (11, _), (12, _)] ⟨rfl, rfl, rfl, rfl, rfl, rfl, trivial⟩ ?_))
        refine KV.sel [0, 0, 0, 0] [_, _, _, _] rfl ?_
        exact KV.loopI (z := i) (i + 1) (by omega) (by omega) ⟨rfl, rfl, rfl, rfl, (by first | (rw [padP_nl (by omega) h10]; rfl) | (rw [padP_sp (by omega) h32]; rfl) | (rw [padP_other (by omega) h10 h32]; rfl)), rfl, trivial⟩ (fun _ h => h)
       ·
        refine RV.a rfl rfl ?_
        refine RV.nil (KV.then_n (KV.env [(1, _), (2, _), (8, _), (9, _), (11, _), (12, _), (69, _)] ⟨rfl, rfl, rfl, rfl, rfl, rfl, rfl, trivial⟩ (CV.cond_f rfl (CV.region ?_))))
        refine RV.m rfl rfl (RV.m rfl rfl (RV.m rfl rfl (RV.m rfl rfl ?_)))
        (first | refine RV.op (OV.step gno (Step.add rfl rfl (wI64 (by omega) (by omega))) rfl ?_) | refine RV.op (OV.step gno (Step.add rfl rfl rfl) rfl ?_))
        refine RV.s (Step.slStrLH Tryz.underlying9 rfl rfl rfl (i) (i + 1) (rfl) (rfl) (by omega) (by omega)) rfl ?_
        refine RV.op (OV.step gno (Step.addStr rfl rfl (by (first | omega | (simp only [List.length_append, List.length_take, List.length_drop, List.length_cons, List.length_nil]; omega)))) rfl ?_)
        refine RV.a rfl rfl ?_
        refine RV.nil (KV.block_n (KV.block_n (KV.then_n (KV.env [(1, _), (2, _), (8, _), (9, _), (11, _), (12, _)] ⟨rfl, rfl, rfl, rfl, rfl, rfl, trivial⟩ (CV.region ?_)))))
        refine RV.m rfl rfl ?_
        (first | refine RV.op (OV.step gno (Step.add rfl rfl (wI64 (by omega) (by omega))) rfl ?_) | refine RV.op (OV.step gno (Step.add rfl rfl rfl) rfl ?_))
        refine RV.a rfl rfl ?_
        refine RV.nil (KV.then_n (KV.env [(1, _), (2, _), (8, _), (9, _), (11, _), (12, _)] ⟨rfl, rfl, rfl, rfl, rfl, rfl, trivial⟩ ?_))
        refine KV.sel [0, 0, 0, 0] [_, _, _, _] rfl ?_
        exact KV.loopI (z := i) (i + 1) (by omega) (by omega) ⟨rfl, rfl, rfl, rfl, (by first | (rw [padP_nl (by omega) h10]; rfl) | (rw [padP_sp (by omega) h32]; rfl) | (rw [padP_other (by omega) h10 h32]; rfl)), rfl, trivial⟩ (fun _ h => h)
     ·
      refine RV.nil (KV.then_n (KV.env [(1, _), (2, _), (8, _), (9, _), (11, _), (12, _), (49, _)] ⟨rfl, rfl, rfl, rfl, rfl, rfl, rfl, trivial⟩ (CV.cond_f rfl (CV.exit (KV.then_exit ?_)))))
      refine KV.then_exit (KV.block_hit (KV.then_n (KV.env [(8, _), (11, _)] ⟨rfl, rfl, trivial⟩ (CV.seq ?_))))
      obtain rfl : i = (fmtM dd.d).length := by omega
      have hpl := padP_len (i := (fmtM dd.d).length) (note := note) (sp := (spL.getD p [])) (s := (fmtM dd.d)) (by omega) hsp.2.2 hfl
      refine CV.region ?_
      refine RV.m rfl rfl ?_
      refine RV.op (OV.call [] (F := [_, _, _, _]) Tryz.func12 B12 N12 rfl rfl (fun w h => parse_fn (padP note (spL.getD p []) (fmtM dd.d) (fmtM dd.d).length) (by omega) (EvR.keep h hE (hro 4 (.inl rfl)))) (fun b hb => roAt4 hE (fun b hb => hro b (.inl hb)) b hb) gno rfl (fun v L' hp => ?_))
      obtain ⟨d1, rfl, hd1, rfl⟩ := hp
      have hly := layout hck hrdd (note_no hno) hsp.1 hsp.2.1
      rw [padP_all] at hd1 ⊢
      rw [hly] at hd1 ⊢
      have hde : d1.d = dd.d := hd1
      have hsm : SmH d1 := smH (by rw [hd1, ← (show (parseM (padM note (spL.getD p []) (fmtM dd.d))).2 = dd.d by rw [hly])]; exact parse_small _)
      unfold dL
      refine RV.m rfl rfl (RV.s (Step.extract0 rfl rfl) rfl (RV.s (Step.extract0 rfl rfl) rfl ?_))
      refine RV.op (OV.alloc #[.string (Sv.bs []), .slice none 0 0, .slice none 0 0] I25 rfl gno rfl (fun x => ?_))
      refine RV.op (OV.store 7 [_, _, _] #[_, _, _] I25 rfl rfl rfl rfl rfl (Nat.le_of_ble_eq_true rfl) (by simp [Value.oneCell']) rfl gno ?_)
      refine RV.a rfl rfl ?_
      refine RV.nil (KV.then_n (KV.env [(8, _), (13, _), (14, _)] ⟨rfl, rfl, rfl, trivial⟩ (CV.seq (CV.region ?_))))
      refine RV.m rfl rfl ?_
      refine RV.op (OV.split gno (Step.eql rfl rfl) rfl (fun n2 => ?_) (fun n2 => ?_))
      ·
       refine RV.m rfl rfl (RV.gw rfl (Step.loadN _ Tryz.underlying25 rfl I25 rfl rfl (fun w h => h.cells 7 rfl)) rfl (RV.gw rfl (Step.loadN _ Tryz.underlying25 rfl I25 rfl rfl (fun w h => h.cells 0 rfl)) rfl ?_))
       refine RV.op (OV.call [] (F := [_, _, _, _, _, _, _, _]) Tryz.func14 B14 N14 rfl rfl (fun w h => eqD_fn d1 dd (DR.ofHp (k1 := 4) (k2 := 5) (k3 := 6) h rfl rfl rfl rfl) (DR.ofHp (k1 := 1) (k2 := 2) (k3 := 3) h rfl rfl rfl rfl) hde hsm) (fun _ hb => hb.elim) (gyes rfl) rfl (fun v L' hp => ?_))
       obtain ⟨rfl, rfl⟩ := hp
       simp only [List.append_nil]
       refine RV.s (Step.pick_t rfl rfl) rfl (RV.m rfl rfl ?_)
       refine RV.op (OV.call [] (F := [_, _, _, _, _, _, _, _]) Tryz.func8 B8 N8 rfl rfl (fun w h => awake_fn (EvR.keep h hE (hro 4 (.inl rfl)))) (fun b hb => roAt4 hE (fun b hb => hro b (.inl hb)) b hb) (gyes rfl) rfl (fun v L' hp => ?_))
       obtain ⟨rfl, rfl⟩ := hp
       simp only [List.append_nil]
       refine RV.s (Step.pick_t rfl rfl) rfl (RV.a rfl rfl ?_)
       refine RV.nil (KV.then_n (KV.env [(6, _)] ⟨rfl, trivial⟩ (CV.ret ?_)))
       refine KV.sel [] [] rfl ?_
       exact KV.ret1 rfl rfl _ (fun _ h => h) ⟨rfl, rfl⟩
      ·
       exact absurd rfl n2
end Go.Proofs.YtplmfekhdaefaaaGreatDoor
