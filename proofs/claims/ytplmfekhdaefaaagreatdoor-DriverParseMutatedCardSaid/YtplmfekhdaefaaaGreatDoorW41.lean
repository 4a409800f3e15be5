/-
 Walks, part 41.
-/
import Derived.Test.YtplmfekhdaefaaaGreatDoorTabB
import Derived.Test.YtplmfekhdaefaaaGreatDoorW37
import Derived.Test.YtplmfekhdaefaaaGreatDoorW32
import Derived.Test.YtplmfekhdaefaaaGreatDoorW31
import Derived.Test.YtplmfekhdaefaaaGreatDoorW18
import Derived.Test.YtplmfekhdaefaaaGreatDoorDm32
import Derived.Test.YtplmfekhdaefaaaGreatDoorDm33
import Derived.Test.YtplmfekhdaefaaaGreatDoorDmC
set_option linter.unusedSimpArgs false
set_option linter.unusedVariables false
namespace Go.Proofs.YtplmfekhdaefaaaGreatDoor
open Go.Sv Go.Drv
set_option maxRecDepth 100000 in
set_option maxHeartbeats 16000000 in
theorem parseMutated_fn (raw : DH) (at_ c how : Int) {w : World} (hE : EvR w) (hd : DR w raw) (hrg : rgD raw.d) : Fx Tryz.prog 3 [.agg #[.string (bs raw.name), .slice raw.sA raw.ss.length raw.sc, .slice raw.tA raw.hs.length raw.tc], .int .i64 at_, .int .u8 c, .int .u8 how] w [] at4 (fun v L => v = .bool true ∧ L = []) := by
 refine Sv.Fx.body Tryz.func3 rfl T3 rfl ?_
 intro I hro hI
 refine KV.env [(0, _), (1, _), (2, _), (3, _)] ⟨rfl, rfl, rfl, rfl, trivial⟩ (CV.seq (CV.region ?_))
 refine RV.op (OV.box (t := 25) #[_, _, _] rfl rfl gno rfl (fun b0 => ?_))
 refine RV.a rfl rfl ?_
 refine RV.nil (KV.then_n (KV.env [(1, _), (2, _), (3, _), (4, _)] ⟨rfl, rfl, rfl, rfl, trivial⟩ (CV.seq (CV.seq (CV.region ?_)))))
 refine RV.s (Step.loadN _ Tryz.underlying25 rfl I25 rfl rfl (fun w h => h.cells 0 rfl)) rfl ?_
 refine RV.op (OV.call [] (F := [_]) Tryz.func7 B7 N7 rfl rfl (fun w h => large_fn raw (DR.keep h hd hI)) (fun _ hb => hb.elim) gno rfl (fun v L' hp => ?_))
 obtain ⟨rfl, rfl⟩ := hp
 simp only [List.append_nil]
 refine RV.nil (KV.then_n (KV.env [(1, _), (2, _), (3, _), (4, _), (18, _)] ⟨rfl, rfl, rfl, rfl, rfl, trivial⟩ ?_))
 refine KV.cases 18 rfl (fun cc1 => ?_) (fun cc1 => ?_)
 ·
  refine CV.cond_t rfl (CV.seq (CV.region ?_))
  refine RV.op (OV.call [] (F := [_]) Tryz.func8 B8 N8 rfl rfl (fun w h => awake_fn (EvR.keep h hE (hro 4 rfl))) (fun b hb => roAt4 hE hro b hb) gno rfl (fun v L' hp => ?_))
  obtain ⟨rfl, rfl⟩ := hp
  simp only [List.append_nil]
  refine RV.a rfl rfl ?_
  refine RV.nil (KV.then_n (KV.env [(8, _)] ⟨rfl, trivial⟩ (CV.ret (KV.then_ret ?_))))
  refine KV.sel [] [] rfl ?_
  exact KV.ret1 rfl rfl _ (fun _ h => h) ⟨rfl, rfl⟩
 ·
  have hsm := lrg_sml cc1
  have hsm1 : raw.ss.length ≤ 40 := hsm.1
  refine CV.cond_f rfl (CV.skip (KV.then_n (KV.env [(1, _), (2, _), (3, _), (4, _)] ⟨rfl, rfl, rfl, rfl, trivial⟩ (CV.seq (CV.region ?_)))))
  refine RV.s (Step.loadN _ Tryz.underlying25 rfl I25 rfl rfl (fun w h => h.cells 0 rfl)) rfl ?_
  refine RV.op (OV.call [] (F := [_]) Tryz.func10 B10 N10 rfl rfl (fun w h => some_fn raw (DR.keep h hd hI) (by omega)) (fun _ hb => hb.elim) gno rfl (fun v L' hp => ?_))
  obtain ⟨dd, rfl, hdd, rfl⟩ := hp
  have hck := some_chk raw.d
  rw [← hdd] at hck
  have hrdd : rgD dd.d := by rw [hdd]; exact some_rg hrg
  have hfm : fmtR dd.d = fmtM dd.d := if_pos hck
  have hfl : (fmtM dd.d).length ≤ 7300 := by rw [hdd]; exact some_len _ (some_rg hrg)
  unfold dL
  refine RV.op (OV.call [] (F := [_, _, _, _]) Tryz.func9 B9 N9 rfl rfl (fun w h => rformat_fn dd (DR.ofHp (k1 := 1) (k2 := 2) (k3 := 3) h rfl rfl rfl rfl) hrdd) (fun _ hb => hb.elim) gno rfl (fun v L' hp => ?_))
  obtain ⟨rfl, rfl⟩ := hp
  simp only [List.append_nil]
  rw [hfm, hck]
  refine RV.m rfl rfl (RV.s (Step.extract0 rfl rfl) rfl (RV.s (Step.extract0 rfl rfl) rfl (RV.a rfl rfl (RV.a rfl rfl ?_))))
  refine RV.nil (KV.then_n (KV.env [(1, _), (2, _), (3, _), (9, _), (10, _)] ⟨rfl, rfl, rfl, rfl, rfl, trivial⟩ (CV.seq (CV.seq (CV.region ?_)))))
  refine RV.m rfl rfl ?_
  refine RV.op (OV.split gno (Step.neq rfl rfl) rfl (fun n1 => ?_) (fun n1 => ?_))
  ·
   exact absurd rfl n1
  ·
   refine RV.m rfl rfl (RV.gw rfl (Step.move rfl) rfl (RV.gw rfl (Step.lenStr Tryz.underlying9 rfl) rfl ?_))
   refine RV.op (OV.split (gyes rfl) (Step.eql rfl rfl) rfl (fun h0 => ?_) (fun h0 => ?_))
   ·
    refine RV.s (Step.pick_f rfl rfl) rfl ?_
    refine RV.nil (KV.then_n (KV.env [(1, _), (2, _), (3, _), (9, _), (32, _)] ⟨rfl, rfl, rfl, rfl, rfl, trivial⟩ (CV.cond_t rfl (CV.seq (CV.region ?_)))))
    refine RV.op (OV.call [] (F := [_, _, _, _]) Tryz.func8 B8 N8 rfl rfl (fun w h => awake_fn (EvR.keep h hE (hro 4 rfl))) (fun b hb => roAt4 hE hro b hb) gno rfl (fun v L' hp => ?_))
    obtain ⟨rfl, rfl⟩ := hp
    simp only [List.append_nil]
    refine RV.a rfl rfl ?_
    refine RV.nil (KV.then_n (KV.env [(8, _)] ⟨rfl, trivial⟩ (CV.ret (KV.then_ret ?_))))
    refine KV.sel [] [] rfl ?_
    exact KV.ret1 rfl rfl _ (fun _ h => h) ⟨rfl, rfl⟩
   ·
    refine RV.s (Step.pick_f rfl rfl) rfl ?_
    refine RV.nil (KV.then_n (KV.env [(1, _), (2, _), (3, _), (9, _), (32, _)] ⟨rfl, rfl, rfl, rfl, rfl, trivial⟩ (CV.cond_f rfl (CV.skip (KV.then_n ?_)))))
    refine KV.env [(1, _), (2, _), (3, _), (9, _)] ⟨rfl, rfl, rfl, rfl, trivial⟩ (CV.seq ?_)
    have hpos : 0 < (fmtM dd.d).length := by omega
    obtain ⟨q, hq, hql⟩ := modN at_ hpos
    refine CV.region ?_
    refine RV.m rfl rfl (RV.m rfl rfl (RV.s (Step.lenStr Tryz.underlying9 rfl) rfl ?_))
    refine RV.op (OV.callP Tryz.func11 B11 N11 rfl (mod_fn at_ (fmtM dd.d).length hpos (by omega)) gno rfl ?_)
    rw [hq]
    refine RV.a rfl rfl ?_
    refine RV.nil (KV.then_n (KV.env [(2, _), (3, _), (9, _), (11, _)] ⟨rfl, rfl, rfl, rfl, trivial⟩ (CV.seq ?_)))
    refine CV.any (Hp I w []) (by kernel_rfl) (fun _ h => h.drew) 12 rfl ?_
    refine AV.u 0 (bl 12 1) rfl gno (Step.move rfl) rfl (fun _ h => h.sel [] rfl) ?_
    refine AV.u 1 (bl 12 3) rfl gno (Step.move rfl) rfl (fun _ h => h.sel [] rfl) ?_
    refine AV.u 2 (bl 12 7) rfl gno (Step.slStrHi Tryz.underlying9 rfl rfl (q) (rfl) (by omega)) rfl (fun _ h => h.sel [] rfl) ?_
    refine AV.u 3 (bl 12 15) rfl gno (Step.move rfl) rfl (fun _ h => h.sel [] rfl) ?_
    refine AV.u 7 (bl 12 143) rfl gno (Step.move rfl) rfl (fun _ h => h.sel [] rfl) ?_
    refine AV.u 8 (bl 12 399) rfl gno (Step.move rfl) rfl (fun _ h => h.sel [] rfl) ?_
    refine AV.u 9 (bl 12 911) rfl gno (Step.slStrLo Tryz.underlying9 rfl rfl (q) (rfl) (by omega)) rfl (fun _ h => h.sel [] rfl) ?_
    refine AV.all [4] (by kernel_rfl) (by decide) ?_
    refine ⟨⟨_, rfl, ?_⟩, trivial⟩
    ·
     refine OV.buildSlice (K := (intK .u8)) ([c]) rfl (Bs33_1_0 _) rfl rfl (by omega) gno rfl (fun z => ?_)
     refine AV.next (bl 12 927) (by kernel_rfl) (fun _ h => h.sel [] rfl) ?_
     refine AV.all [5] (by kernel_rfl) (by decide) ?_
     refine ⟨⟨_, rfl, ?_⟩, trivial⟩
     ·
      refine OV.step gno (Step.convBS (xs := [c]) Tryz.underlying33 Tryz.underlying5 Tryz.underlying9 rfl (fun w h => h.os 4 rfl) rfl (Nat.zero_lt_succ _)) rfl ?_
      refine AV.next (bl 12 959) (by kernel_rfl) (fun _ h => h.sel [] rfl) ?_
      refine AV.u 6 (bl 12 1023) rfl gno (Step.addStr rfl rfl (by (simp only [List.length_append, List.length_take, List.length_drop, List.length_map, List.length_cons, List.length_nil]; omega))) rfl (fun _ h => h.sel [] rfl) ?_
      refine AV.u 10 (bl 12 2047) rfl gno (Step.addStr rfl rfl (by (simp only [List.length_append, List.length_take, List.length_drop, List.length_map, List.length_cons, List.length_nil]; omega))) rfl (fun _ h => h.sel [] rfl) ?_
      refine AV.u 11 (bl 12 4095) rfl gno (Step.assign rfl) rfl (fun _ h => h.sel [] rfl) ?_
      refine AV.done (by kernel_rfl) ?_
      refine KV.then_n (KV.env [(2, _), (3, _), (9, _), (11, _), (12, _)] ⟨rfl, rfl, rfl, rfl, rfl, trivial⟩ ?_)
      refine CV.join (fun (t : {t : Bs // t.length ≤ 800000}) => [(12, .string (bs t.1))]) (fun (t : {t : Bs // t.length ≤ 800000}) => Hp I w []) ?_ ?_
      ·
       skip
       refine CV.seq (CV.region ?_)
       refine RV.m rfl rfl ?_
       refine RV.s (Step.rem rfl rfl (by omega) (rfl)) rfl ?_
       refine RV.nil (KV.then_n (KV.env [(2, _), (9, _), (11, _), (12, _), (50, _)] ⟨rfl, rfl, rfl, rfl, rfl, trivial⟩ (CV.block (CV.seq (CV.region ?_)))))
       refine RV.op (OV.split gno (Step.eql rfl rfl) rfl (fun k0 => ?_) (fun k0 => ?_))
       ·
        refine RV.a rfl rfl ?_
        refine RV.nil (KV.then_n (KV.env [(2, _), (9, _), (11, _), (12, _), (50, _), (51, _)] ⟨rfl, rfl, rfl, rfl, rfl, rfl, trivial⟩ (CV.cond_t rfl ?_)))
        refine CV.any (Hp I w []) (by kernel_rfl) (fun _ h => h.drew) 13 rfl ?_
        refine AV.u 0 (bl 13 1) rfl gno (Step.move rfl) rfl (fun _ h => h.sel [] rfl) ?_
        refine AV.u 1 (bl 13 3) rfl gno (Step.move rfl) rfl (fun _ h => h.sel [] rfl) ?_
        refine AV.u 2 (bl 13 7) rfl gno (Step.slStrHi Tryz.underlying9 rfl rfl (q) (rfl) (by omega)) rfl (fun _ h => h.sel [] rfl) ?_
        refine AV.u 3 (bl 13 15) rfl gno (Step.move rfl) rfl (fun _ h => h.sel [] rfl) ?_
        refine AV.u 7 (bl 13 143) rfl gno (Step.move rfl) rfl (fun _ h => h.sel [] rfl) ?_
        refine AV.u 8 (bl 13 399) rfl gno (Step.move rfl) rfl (fun _ h => h.sel [] rfl) ?_
        (first | refine AV.take 9 (bl 13 911) rfl (by kernel_rfl) (by kernel_rfl) (by kernel_rfl) (fun _ _ _ h => h) gno (Step.add rfl rfl (wI64 (by omega) (by omega))) rfl (fun _ h => h.sel [] rfl) (by kernel_rfl) ?_ | refine AV.take 9 (bl 13 911) rfl (by kernel_rfl) (by kernel_rfl) (by kernel_rfl) (fun _ _ _ h => h) gno (Step.add rfl rfl rfl) rfl (fun _ h => h.sel [] rfl) (by kernel_rfl) ?_)
        refine AV.u 10 (bl 13 1935) rfl gno (Step.slStrLo Tryz.underlying9 rfl rfl (q + 1) ((by omega)) (by omega)) rfl (fun _ h => h.sel [] rfl) ?_
        refine AV.all [4] (by kernel_rfl) (by decide) ?_
        refine ⟨⟨_, rfl, ?_⟩, trivial⟩
        ·
         refine OV.buildSlice (K := (intK .u8)) ([c]) rfl (Bs33_1_0 _) rfl rfl (by omega) gno rfl (fun z => ?_)
         refine AV.next (bl 13 1951) (by kernel_rfl) (fun _ h => h.sel [] rfl) ?_
         refine AV.all [5] (by kernel_rfl) (by decide) ?_
         refine ⟨⟨_, rfl, ?_⟩, trivial⟩
         ·
          refine OV.step gno (Step.convBS (xs := [c]) Tryz.underlying33 Tryz.underlying5 Tryz.underlying9 rfl (fun w h => h.os 5 rfl) rfl (Nat.zero_lt_succ _)) rfl ?_
          refine AV.next (bl 13 1983) (by kernel_rfl) (fun _ h => h.sel [] rfl) ?_
          refine AV.u 6 (bl 13 2047) rfl gno (Step.addStr rfl rfl (by (simp only [List.length_append, List.length_take, List.length_drop, List.length_map, List.length_cons, List.length_nil]; omega))) rfl (fun _ h => h.sel [] rfl) ?_
          refine AV.u 11 (bl 13 4095) rfl gno (Step.addStr rfl rfl (by (simp only [List.length_append, List.length_take, List.length_drop, List.length_map, List.length_cons, List.length_nil]; omega))) rfl (fun _ h => h.sel [] rfl) ?_
          refine AV.u 12 (bl 13 8191) rfl gno (Step.assign rfl) rfl (fun _ h => h.sel [] rfl) ?_
          refine AV.done (by kernel_rfl) ?_
          refine KV.block_n (KV.then_n (KV.env [(12, _)] ⟨rfl, trivial⟩ ?_))
          refine KV.sel [] [] rfl ?_
          exact KV.join (⟨_, (by simp only [List.length_append, List.length_take, List.length_drop, List.length_map, List.length_cons, List.length_nil]; omega)⟩) ⟨rfl, trivial⟩ (fun _ h => h.sel [] rfl)
       ·
        refine RV.a rfl rfl ?_
        refine RV.nil (KV.then_n (KV.env [(2, _), (9, _), (11, _), (12, _), (50, _), (51, _)] ⟨rfl, rfl, rfl, rfl, rfl, rfl, trivial⟩ (CV.cond_f rfl (CV.seq (CV.region ?_)))))
        refine RV.op (OV.split gno (Step.eql rfl rfl) rfl (fun k1 => ?_) (fun k1 => ?_))
        ·
         refine RV.a rfl rfl ?_
         refine RV.nil (KV.then_n (KV.env [(9, _), (11, _), (12, _), (65, _)] ⟨rfl, rfl, rfl, rfl, trivial⟩ (CV.cond_t rfl ?_)))
         refine CV.any (Hp I w []) (by kernel_rfl) (fun _ h => h.drew) 9 rfl ?_
         refine AV.u 0 (bl 9 1) rfl gno (Step.move rfl) rfl (fun _ h => h.sel [] rfl) ?_
         refine AV.u 1 (bl 9 3) rfl gno (Step.move rfl) rfl (fun _ h => h.sel [] rfl) ?_
         refine AV.u 2 (bl 9 7) rfl gno (Step.slStrHi Tryz.underlying9 rfl rfl (q) (rfl) (by omega)) rfl (fun _ h => h.sel [] rfl) ?_
         refine AV.u 3 (bl 9 15) rfl gno (Step.move rfl) rfl (fun _ h => h.sel [] rfl) ?_
         refine AV.u 4 (bl 9 31) rfl gno (Step.move rfl) rfl (fun _ h => h.sel [] rfl) ?_
         (first | refine AV.take 5 (bl 9 63) rfl (by kernel_rfl) (by kernel_rfl) (by kernel_rfl) (fun _ _ _ h => h) gno (Step.add rfl rfl (wI64 (by omega) (by omega))) rfl (fun _ h => h.sel [] rfl) (by kernel_rfl) ?_ | refine AV.take 5 (bl 9 63) rfl (by kernel_rfl) (by kernel_rfl) (by kernel_rfl) (fun _ _ _ h => h) gno (Step.add rfl rfl rfl) rfl (fun _ h => h.sel [] rfl) (by kernel_rfl) ?_)
         refine AV.u 6 (bl 9 127) rfl gno (Step.slStrLo Tryz.underlying9 rfl rfl (q + 1) ((by omega)) (by omega)) rfl (fun _ h => h.sel [] rfl) ?_
         refine AV.u 7 (bl 9 255) rfl gno (Step.addStr rfl rfl (by (simp only [List.length_append, List.length_take, List.length_drop, List.length_map, List.length_cons, List.length_nil]; omega))) rfl (fun _ h => h.sel [] rfl) ?_
         refine AV.u 8 (bl 9 511) rfl gno (Step.assign rfl) rfl (fun _ h => h.sel [] rfl) ?_
         refine AV.done (by kernel_rfl) ?_
         refine KV.block_n (KV.then_n (KV.env [(12, _)] ⟨rfl, trivial⟩ ?_))
         refine KV.sel [] [] rfl ?_
         exact KV.join (⟨_, (by simp only [List.length_append, List.length_take, List.length_drop, List.length_map, List.length_cons, List.length_nil]; omega)⟩) ⟨rfl, trivial⟩ (fun _ h => h.sel [] rfl)
        ·
         refine RV.a rfl rfl ?_
         refine RV.nil (KV.then_n (KV.env [(9, _), (11, _), (12, _), (65, _)] ⟨rfl, rfl, rfl, rfl, trivial⟩ (CV.cond_f rfl (CV.skip (KV.block_n ?_)))))
         refine KV.then_n (KV.env [(12, _)] ⟨rfl, trivial⟩ ?_)
         refine KV.sel [] [] rfl ?_
         exact KV.join (⟨_, (by simp only [List.length_append, List.length_take, List.length_drop, List.length_map, List.length_cons, List.length_nil]; omega)⟩) ⟨rfl, trivial⟩ (fun _ h => h.sel [] rfl)
      ·
       intro t
       refine CV.seq (CV.region ?_)
       refine RV.m rfl rfl ?_
       refine RV.op (OV.call [] (F := []) Tryz.func12 B12 N12 rfl rfl (fun w h => parse_fn t.1 (by have := t.2; omega) (EvR.keep h hE (hro 4 rfl))) (fun b hb => roAt4 hE hro b hb) gno rfl (fun v L' hp => ?_))
       obtain ⟨d1, rfl, hd1, rfl⟩ := hp
       unfold dL
       refine RV.m rfl rfl (RV.s (Step.extract0 rfl rfl) rfl (RV.s (Step.extract0 rfl rfl) rfl ?_))
       refine RV.op (OV.alloc #[.string (Sv.bs []), .slice none 0 0, .slice none 0 0] I25 rfl gno rfl (fun x => ?_))
       refine RV.op (OV.store 3 [_, _, _] #[_, _, _] I25 rfl rfl rfl rfl rfl (Nat.le_of_ble_eq_true rfl) (by simp [Value.oneCell']) rfl gno ?_)
       refine RV.a rfl rfl ?_
       refine RV.nil (KV.then_n (KV.env [(12, _), (13, _), (14, _)] ⟨rfl, rfl, rfl, trivial⟩ (CV.seq (CV.region ?_))))
       refine RV.m rfl rfl ?_
       refine RV.op (OV.call [] (F := [_, _, _, _]) Tryz.func13 B13 N13 rfl rfl (fun w h => rparse_fn t.1 (by have := t.2; omega)) (fun _ hb => hb.elim) gno rfl (fun v L' hp => ?_))
       obtain ⟨d2, rfl, hd2, rfl⟩ := hp
       have hde : d1.d = d2.d := hd1.trans hd2.symm
       have hsm : SmH d1 := smH (by rw [hd1]; exact parse_small _)
       unfold dL
       refine RV.m rfl rfl (RV.s (Step.extract0 rfl rfl) rfl (RV.s (Step.extract0 rfl rfl) rfl ?_))
       refine RV.op (OV.alloc #[.string (Sv.bs []), .slice none 0 0, .slice none 0 0] I25 rfl gno rfl (fun y => ?_))
       refine RV.op (OV.store 7 [_, _, _] #[_, _, _] I25 rfl rfl rfl rfl rfl (Nat.le_of_ble_eq_true rfl) (by simp [Value.oneCell']) rfl gno ?_)
       refine RV.a rfl rfl ?_
       refine RV.nil (KV.then_n (KV.env [(13, _), (14, _), (15, _), (16, _)] ⟨rfl, rfl, rfl, rfl, trivial⟩ (CV.seq (CV.region ?_))))
       refine RV.m rfl rfl (RV.m rfl rfl ?_)
       refine RV.op (OV.split gno (Step.eql rfl rfl) rfl (fun n2 => ?_) (fun n2 => ?_))
       ·
        refine RV.m rfl rfl (RV.gw rfl (Step.loadN _ Tryz.underlying25 rfl I25 rfl rfl (fun w h => h.cells 3 rfl)) rfl (RV.gw rfl (Step.loadN _ Tryz.underlying25 rfl I25 rfl rfl (fun w h => h.cells 7 rfl)) rfl ?_))
        refine RV.op (OV.call [] (F := [_, _, _, _, _, _, _, _]) Tryz.func14 B14 N14 rfl rfl (fun w h => eqD_fn d1 d2 (DR.ofHp (k1 := 0) (k2 := 1) (k3 := 2) h rfl rfl rfl rfl) (DR.ofHp (k1 := 4) (k2 := 5) (k3 := 6) h rfl rfl rfl rfl) hde hsm) (fun _ hb => hb.elim) (gyes rfl) rfl (fun v L' hp => ?_))
        obtain ⟨rfl, rfl⟩ := hp
        simp only [List.append_nil]
        refine RV.s (Step.pick_t rfl rfl) rfl (RV.m rfl rfl ?_)
        refine RV.op (OV.call [] (F := [_, _, _, _, _, _, _, _]) Tryz.func8 B8 N8 rfl rfl (fun w h => awake_fn (EvR.keep h hE (hro 4 rfl))) (fun b hb => roAt4 hE hro b hb) (gyes rfl) rfl (fun v L' hp => ?_))
        obtain ⟨rfl, rfl⟩ := hp
        simp only [List.append_nil]
        refine RV.s (Step.pick_t rfl rfl) rfl (RV.a rfl rfl ?_)
        refine RV.nil (KV.then_n (KV.env [(8, _)] ⟨rfl, trivial⟩ (CV.ret ?_)))
        refine KV.sel [] [] rfl ?_
        exact KV.ret1 rfl rfl _ (fun _ h => h) ⟨rfl, rfl⟩
       ·
        exact absurd rfl n2
end Go.Proofs.YtplmfekhdaefaaaGreatDoor
