/-
 Walks, part 40.
-/
import Derived.Test.YtplmfekhdaefaaaGreatDoorTabB
import Derived.Test.YtplmfekhdaefaaaGreatDoorW36
import Derived.Test.YtplmfekhdaefaaaGreatDoorW32
import Derived.Test.YtplmfekhdaefaaaGreatDoorW18
import Derived.Test.YtplmfekhdaefaaaGreatDoorDm32
import Derived.Test.YtplmfekhdaefaaaGreatDoorDm33
set_option linter.unusedSimpArgs false
set_option linter.unusedVariables false
namespace Go.Proofs.YtplmfekhdaefaaaGreatDoor
open Go.Sv Go.Drv
set_option maxRecDepth 100000 in
set_option maxHeartbeats 16000000 in
theorem roundTrip_fn (raw : DH) {w : World} (hE : EvR w) (hP : PowR w) (hd : DR w raw) (hrg : rgD raw.d) : Fx Tryz.prog 5 [.agg #[.string (bs raw.name), .slice raw.sA raw.ss.length raw.sc, .slice raw.tA raw.hs.length raw.tc]] w [] at45 (fun v L => v = .bool true ∧ L = []) := by
 refine Sv.Fx.body Tryz.func5 rfl T5 rfl ?_
 intro I hro hI
 refine KV.env [(0, _)] ⟨rfl, trivial⟩ (CV.seq (CV.region ?_))
 refine RV.op (OV.box (t := 25) #[_, _, _] rfl rfl gno rfl (fun b0 => ?_))
 refine RV.a rfl rfl ?_
 refine RV.nil (KV.then_n (KV.env [(1, _)] ⟨rfl, trivial⟩ (CV.seq (CV.seq (CV.region ?_)))))
 refine RV.s (Step.loadN _ Tryz.underlying25 rfl I25 rfl rfl (fun w h => h.cells 0 rfl)) rfl ?_
 refine RV.op (OV.call [] (F := [_]) Tryz.func7 B7 N7 rfl rfl (fun w h => large_fn raw (DR.keep h hd hI)) (fun _ hb => hb.elim) gno rfl (fun v L' hp => ?_))
 obtain ⟨rfl, rfl⟩ := hp
 simp only [List.append_nil]
 refine RV.nil (KV.then_n (KV.env [(1, _), (11, _)] ⟨rfl, rfl, trivial⟩ ?_))
 refine KV.cases 11 rfl (fun cc1 => ?_) (fun cc1 => ?_)
 ·
  refine CV.cond_t rfl (CV.seq (CV.region ?_))
  refine RV.op (OV.call [] (F := [_]) Tryz.func8 B8 N8 rfl rfl (fun w h => awake_fn (EvR.keep h hE (hro 4 (.inl rfl)))) (fun b hb => roAt4 hE (fun b hb => hro b (.inl hb)) b hb) gno rfl (fun v L' hp => ?_))
  obtain ⟨rfl, rfl⟩ := hp
  simp only [List.append_nil]
  refine RV.a rfl rfl ?_
  refine RV.nil (KV.then_n (KV.env [(2, _)] ⟨rfl, trivial⟩ (CV.ret (KV.then_ret ?_))))
  refine KV.sel [] [] rfl ?_
  exact KV.ret1 rfl rfl _ (fun _ h => h) ⟨rfl, rfl⟩
 ·
  have hsm := lrg_sml cc1
  have hsm1 : raw.ss.length ≤ 40 := hsm.1
  refine CV.cond_f rfl (CV.skip (KV.then_n (KV.env [(1, _)] ⟨rfl, trivial⟩ (CV.seq (CV.region ?_)))))
  refine RV.s (Step.loadN _ Tryz.underlying25 rfl I25 rfl rfl (fun w h => h.cells 0 rfl)) rfl ?_
  refine RV.op (OV.call [] (F := [_]) Tryz.func10 B10 N10 rfl rfl (fun w h => some_fn raw (DR.keep h hd hI) (by omega)) (fun _ hb => hb.elim) gno rfl (fun v L' hp => ?_))
  obtain ⟨dd, rfl, hdd, rfl⟩ := hp
  have hck := some_chk raw.d
  rw [← hdd] at hck
  have hrdd : rgD dd.d := by rw [hdd]; exact some_rg hrg
  have hfm : fmtR dd.d = fmtM dd.d := if_pos hck
  have hfl : (fmtM dd.d).length ≤ 7300 := by rw [hdd]; exact some_len _ (some_rg hrg)
  unfold dL
  refine RV.op (OV.alloc #[.string (Sv.bs []), .slice none 0 0, .slice none 0 0] I25 rfl gno rfl (fun y => ?_))
  refine RV.op (OV.store 4 [_, _, _] #[_, _, _] I25 rfl rfl rfl rfl rfl (Nat.le_of_ble_eq_true rfl) (by simp [Value.oneCell']) rfl gno ?_)
  refine RV.nil (KV.then_n (KV.env [(3, _)] ⟨rfl, trivial⟩ (CV.seq (CV.region ?_))))
  refine RV.s (Step.loadN _ Tryz.underlying25 rfl I25 rfl rfl (fun w h => h.cells 4 rfl)) rfl ?_
  refine RV.op (OV.call [] (F := [_, _, _, _, _]) Tryz.func16 B16 N16 rfl rfl (fun w h => format_fn dd (DR.ofHp (k1 := 1) (k2 := 2) (k3 := 3) h rfl rfl rfl rfl) hrdd (PowR.keep h hP (hro 5 (.inr rfl)))) (fun b hb => roAt5 hP (fun b hb => hro b (.inr hb)) b hb) gno rfl (fun v L' hp => ?_))
  obtain ⟨rfl, rfl⟩ := hp
  simp only [List.append_nil]
  rw [hfm, hck]
  refine RV.m rfl rfl (RV.s (Step.extract0 rfl rfl) rfl (RV.s (Step.extract0 rfl rfl) rfl (RV.a rfl rfl (RV.a rfl rfl ?_))))
  refine RV.nil (KV.then_n (KV.env [(3, _), (4, _), (5, _)] ⟨rfl, rfl, rfl, trivial⟩ (CV.seq (CV.region ?_))))
  refine RV.m rfl rfl ?_
  refine RV.op (OV.call [] (F := [_, _, _, _, _]) Tryz.func12 B12 N12 rfl rfl (fun w h => parse_fn (fmtM dd.d) (by omega) (EvR.keep h hE (hro 4 (.inl rfl)))) (fun b hb => roAt4 hE (fun b hb => hro b (.inl hb)) b hb) gno rfl (fun v L' hp => ?_))
  obtain ⟨d1, rfl, hd1, rfl⟩ := hp
  have hrt := round_trip hck hrdd
  rw [hrt] at hd1 ⊢
  have hde : d1.d = dd.d := hd1
  have hsm : SmH d1 := smH (by rw [hd1, ← (show (parseM (fmtM dd.d)).2 = dd.d by rw [hrt])]; exact parse_small _)
  unfold dL
  refine RV.m rfl rfl (RV.s (Step.extract0 rfl rfl) rfl (RV.s (Step.extract0 rfl rfl) rfl ?_))
  refine RV.op (OV.alloc #[.string (Sv.bs []), .slice none 0 0, .slice none 0 0] I25 rfl gno rfl (fun x => ?_))
  refine RV.op (OV.store 8 [_, _, _] #[_, _, _] I25 rfl rfl rfl rfl rfl (Nat.le_of_ble_eq_true rfl) (by simp [Value.oneCell']) rfl gno ?_)
  refine RV.a rfl rfl ?_
  refine RV.nil (KV.then_n (KV.env [(3, _), (4, _), (5, _), (6, _), (7, _)] ⟨rfl, rfl, rfl, rfl, rfl, trivial⟩ (CV.seq (CV.region ?_))))
  refine RV.s (Step.loadN _ Tryz.underlying25 rfl I25 rfl rfl (fun w h => h.cells 8 rfl)) rfl ?_
  refine RV.op (OV.call [] (F := [_, _, _, _, _, _, _, _, _]) Tryz.func16 B16 N16 rfl rfl (fun w h => format_fn d1 (DR.ofHp (k1 := 5) (k2 := 6) (k3 := 7) h rfl rfl rfl rfl) (by rw [hde]; exact hrdd) (PowR.keep h hP (hro 5 (.inr rfl)))) (fun b hb => roAt5 hP (fun b hb => hro b (.inr hb)) b hb) gno rfl (fun v L' hp => ?_))
  obtain ⟨rfl, rfl⟩ := hp
  simp only [List.append_nil]
  rw [hde, hfm, hck]
  refine RV.m rfl rfl (RV.s (Step.extract0 rfl rfl) rfl (RV.s (Step.extract0 rfl rfl) rfl (RV.a rfl rfl (RV.a rfl rfl ?_))))
  refine RV.nil (KV.then_n (KV.env [(3, _), (4, _), (5, _), (6, _), (7, _), (8, _), (9, _)] ⟨rfl, rfl, rfl, rfl, rfl, rfl, rfl, trivial⟩ (CV.seq (CV.region ?_))))
  refine RV.m rfl rfl ?_
  refine RV.op (OV.split gno (Step.eql rfl rfl) rfl (fun n1 => ?_) (fun n1 => ?_))
  ·
   refine RV.m rfl rfl (RV.gw rfl (Step.move rfl) rfl ?_)
   refine RV.op (OV.split (gyes rfl) (Step.eql rfl rfl) rfl (fun n2 => ?_) (fun n2 => ?_))
   ·
    refine RV.s (Step.pick_t rfl rfl) rfl (RV.m rfl rfl (RV.gw rfl (Step.move rfl) rfl ?_))
    refine RV.op (OV.split (gyes rfl) (Step.eql rfl rfl) rfl (fun n3 => ?_) (fun n3 => ?_))
    ·
     refine RV.s (Step.pick_t rfl rfl) rfl (RV.m rfl rfl (RV.gw rfl (Step.loadN _ Tryz.underlying25 rfl I25 rfl rfl (fun w h => h.cells 8 rfl)) rfl (RV.gw rfl (Step.loadN _ Tryz.underlying25 rfl I25 rfl rfl (fun w h => h.cells 4 rfl)) rfl ?_)))
     refine RV.op (OV.call [] (F := [_, _, _, _, _, _, _, _, _]) Tryz.func14 B14 N14 rfl rfl (fun w h => eqD_fn d1 dd (DR.ofHp (k1 := 5) (k2 := 6) (k3 := 7) h rfl rfl rfl rfl) (DR.ofHp (k1 := 1) (k2 := 2) (k3 := 3) h rfl rfl rfl rfl) hde hsm) (fun _ hb => hb.elim) (gyes rfl) rfl (fun v L' hp => ?_))
     obtain ⟨rfl, rfl⟩ := hp
     simp only [List.append_nil]
     refine RV.s (Step.pick_t rfl rfl) rfl (RV.m rfl rfl (RV.gw rfl (Step.move rfl) rfl (RV.gw rfl (Step.move rfl) rfl ?_)))
     refine RV.op (OV.split (gyes rfl) (Step.eqlStr rfl rfl) rfl (fun n4 => ?_) (fun n4 => ?_))
     ·
      refine RV.s (Step.pick_t rfl rfl) rfl (RV.m rfl rfl ?_)
      refine RV.op (OV.call [] (F := [_, _, _, _, _, _, _, _, _]) Tryz.func8 B8 N8 rfl rfl (fun w h => awake_fn (EvR.keep h hE (hro 4 (.inl rfl)))) (fun b hb => roAt4 hE (fun b hb => hro b (.inl hb)) b hb) (gyes rfl) rfl (fun v L' hp => ?_))
      obtain ⟨rfl, rfl⟩ := hp
      simp only [List.append_nil]
      refine RV.s (Step.pick_t rfl rfl) rfl (RV.a rfl rfl ?_)
      refine RV.nil (KV.then_n (KV.env [(2, _)] ⟨rfl, trivial⟩ (CV.ret ?_)))
      refine KV.sel [] [] rfl ?_
      exact KV.ret1 rfl rfl _ (fun _ h => h) ⟨rfl, rfl⟩
     ·
      exact absurd rfl n4
    ·
     exact absurd rfl n3
   ·
    exact absurd rfl n2
  ·
   exact absurd rfl n1
end Go.Proofs.YtplmfekhdaefaaaGreatDoor
