/-
 Walks, part 39.
-/
import Derived.Test.YtplmfekhdaefaaaGreatDoorTabB
import Derived.Test.YtplmfekhdaefaaaGreatDoorW38
import Derived.Test.YtplmfekhdaefaaaGreatDoorW36
import Derived.Test.YtplmfekhdaefaaaGreatDoorW37
import Derived.Test.YtplmfekhdaefaaaGreatDoorW18
set_option linter.unusedSimpArgs false
set_option linter.unusedVariables false
namespace Go.Proofs.YtplmfekhdaefaaaGreatDoor
open Go.Sv Go.Drv
theorem arr3b {raw dd d3 : DH} : ∀ {i : Nat} (h : i < 3) (w : World), (Instr.index 39 (.agg ([.string (bs raw.name), .slice raw.sA raw.ss.length raw.sc, .slice raw.tA raw.hs.length raw.tc, .string (bs dd.name), .slice dd.sA dd.ss.length dd.sc, .slice dd.tA dd.hs.length dd.tc, .string (bs d3.name), .slice d3.sA d3.ss.length d3.sc, .slice d3.tA d3.hs.length d3.tc] : List Value).toArray) (.int .i64 (i : Int))).run Tryz.prog w = .ok (.agg #[.string (bs ([raw, dd, d3].getD i dh0).name), .slice ([raw, dd, d3].getD i dh0).sA ([raw, dd, d3].getD i dh0).ss.length ([raw, dd, d3].getD i dh0).sc, .slice ([raw, dd, d3].getD i dh0).tA ([raw, dd, d3].getD i dh0).hs.length ([raw, dd, d3].getD i dh0).tc]) w
 | 0, _, w => by kernel_rfl
 | 1, _, w => by kernel_rfl
 | 2, _, w => by kernel_rfl
 | n + 3, h, _ => by omega
theorem rg3 {a b c : DH} (h1 : rgD a.d) (h2 : rgD b.d) (h3 : rgD c.d) : ∀ {i : Nat}, i < 3 → rgD ([a, b, c].getD i dh0).d
 | 0, _ => h1
 | 1, _ => h2
 | 2, _ => h3
 | n + 3, h => by omega

set_option maxRecDepth 100000 in
set_option maxHeartbeats 16000000 in
theorem formatAgrees_fn (raw : DH) (how n : Int) (text : Bs) {w : World} (hE : EvR w) (hP : PowR w) (hd : DR w raw) (hrg : rgD raw.d) : Fx Tryz.prog 4 [.agg #[.string (bs raw.name), .slice raw.sA raw.ss.length raw.sc, .slice raw.tA raw.hs.length raw.tc], .int .i64 how, .int .i64 n, .string (bs text)] w [] at45 (fun v L => v = .bool true ∧ L = []) := by
 refine Sv.Fx.body Tryz.func4 rfl T4 rfl ?_
 intro I hro hI
 refine KV.env [(0, _), (1, _), (2, _), (3, _)] ⟨rfl, rfl, rfl, rfl, trivial⟩ (CV.seq (CV.region ?_))
 refine RV.op (OV.box (t := 25) #[_, _, _] rfl rfl gno rfl (fun b0 => ?_))
 refine RV.a rfl rfl ?_
 refine RV.nil (KV.then_n (KV.env [(1, _), (2, _), (3, _), (4, _)] ⟨rfl, rfl, rfl, rfl, trivial⟩ (CV.seq (CV.seq (CV.region ?_)))))
 refine RV.s (Step.loadN _ Tryz.underlying25 rfl I25 rfl rfl (fun w h => h.cells 0 rfl)) rfl ?_
 refine RV.op (OV.call [] (F := [_]) Tryz.func7 B7 N7 rfl rfl (fun w h => large_fn raw (DR.keep h hd hI)) (fun _ hb => hb.elim) gno rfl (fun v L' hp => ?_))
 obtain ⟨rfl, rfl⟩ := hp
 simp only [List.append_nil]
 refine RV.m rfl rfl ?_
 refine KV.cases 17 rfl (fun cc1 => ?_) (fun cc1 => ?_)
 ·
  refine RV.k rfl rfl (RV.k rfl rfl (RV.k rfl rfl (RV.s (Step.pick_t rfl rfl) rfl ?_)))
  refine RV.nil (KV.then_n (KV.env [(1, _), (2, _), (3, _), (4, _), (21, _)] ⟨rfl, rfl, rfl, rfl, rfl, trivial⟩ (CV.cond_t rfl (CV.seq (CV.region ?_)))))
  refine RV.op (OV.call [] (F := [_]) Tryz.func8 B8 N8 rfl rfl (fun w h => awake_fn (EvR.keep h hE (hro 4 (.inl rfl)))) (fun b hb => roAt4 hE (fun b hb => hro b (.inl hb)) b hb) gno rfl (fun v L' hp => ?_))
  obtain ⟨rfl, rfl⟩ := hp
  simp only [List.append_nil]
  refine RV.a rfl rfl ?_
  refine RV.nil (KV.then_n (KV.env [(8, _)] ⟨rfl, trivial⟩ (CV.ret (KV.then_ret ?_))))
  refine KV.sel [] [] rfl ?_
  exact KV.ret1 rfl rfl _ (fun _ h => h) ⟨rfl, rfl⟩
 ·
  have hsm := lrg_sml cc1
  have hsm1 : raw.ss.length ≤ 40 := hsm.1
  refine RV.gw rfl (Step.move rfl) rfl (RV.gw rfl (Step.lenStr Tryz.underlying9 rfl) rfl ?_)
  refine RV.op (OV.split (gyes rfl) (Step.gtr rfl rfl) rfl (fun h30 => ?_) (fun h30 => ?_))
  ·
   refine RV.s (Step.pick_f rfl rfl) rfl ?_
   refine RV.nil (KV.then_n (KV.env [(1, _), (2, _), (3, _), (4, _), (21, _)] ⟨rfl, rfl, rfl, rfl, rfl, trivial⟩ (CV.cond_t rfl (CV.seq (CV.region ?_)))))
   refine RV.op (OV.call [] (F := [_]) Tryz.func8 B8 N8 rfl rfl (fun w h => awake_fn (EvR.keep h hE (hro 4 (.inl rfl)))) (fun b hb => roAt4 hE (fun b hb => hro b (.inl hb)) b hb) gno rfl (fun v L' hp => ?_))
   obtain ⟨rfl, rfl⟩ := hp
   simp only [List.append_nil]
   refine RV.a rfl rfl ?_
   refine RV.nil (KV.then_n (KV.env [(8, _)] ⟨rfl, trivial⟩ (CV.ret (KV.then_ret ?_))))
   refine KV.sel [] [] rfl ?_
   exact KV.ret1 rfl rfl _ (fun _ h => h) ⟨rfl, rfl⟩
  ·
   refine RV.s (Step.pick_f rfl rfl) rfl ?_
   refine RV.nil (KV.then_n (KV.env [(1, _), (2, _), (3, _), (4, _), (21, _)] ⟨rfl, rfl, rfl, rfl, rfl, trivial⟩ (CV.cond_f rfl (CV.skip (KV.then_n ?_)))))
   refine KV.env [(1, _), (2, _), (3, _), (4, _)] ⟨rfl, rfl, rfl, rfl, trivial⟩ (CV.seq (CV.seq ?_))
   refine CV.any (Hp I w [Blk b0 (.cells #[.string (bs raw.name), .slice raw.sA raw.ss.length raw.sc, .slice raw.tA raw.hs.length raw.tc] 25 (0, 0))]) (by kernel_rfl) (fun _ h => h.drew) 11 rfl ?_
   refine AV.u 0 (bl 11 1) rfl gno (Step.loadN _ Tryz.underlying25 rfl I25 rfl rfl (fun w h => h.cells 0 rfl)) rfl (fun _ h => h.sel [0] rfl) ?_
   refine AV.u 1 (bl 11 3) rfl gno (Step.loadN _ Tryz.underlying25 rfl I25 rfl rfl (fun w h => h.cells 0 rfl)) rfl (fun _ h => h.sel [0] rfl) ?_
   refine AV.u 3 (bl 11 11) rfl gno (Step.loadN _ Tryz.underlying25 rfl I25 rfl rfl (fun w h => h.cells 0 rfl)) rfl (fun _ h => h.sel [0] rfl) ?_
   refine AV.u 5 (bl 11 43) rfl gno (Step.move rfl) rfl (fun _ h => h.sel [0] rfl) ?_
   refine AV.u 6 (bl 11 107) rfl gno (Step.move rfl) rfl (fun _ h => h.sel [0] rfl) ?_
   refine AV.u 7 (bl 11 235) rfl gno (Step.move rfl) rfl (fun _ h => h.sel [0] rfl) ?_
   refine AV.u 10 (bl 11 1259) rfl gno (Step.move rfl) rfl (fun _ h => h.sel [0] rfl) ?_
   refine AV.all [2] (by kernel_rfl) (by decide) ?_
   refine ⟨⟨_, rfl, ?_⟩, trivial⟩
   ·
    refine OV.call [] (F := [_]) Tryz.func10 B10 N10 rfl rfl (fun w h => some_fn raw (DR.keep h hd hI) (by omega)) (fun _ hb => hb.elim) gno rfl (fun v L' hp => ?_)
    obtain ⟨dd, rfl, hdd, rfl⟩ := hp
    have hck := some_chk raw.d
    rw [← hdd] at hck
    have hrdd : rgD dd.d := by rw [hdd]; exact some_rg hrg
    unfold dL
    refine AV.next (bl 11 1263) (by kernel_rfl) (fun _ h => h.sel [0] rfl) ?_
    refine AV.all [4] (by kernel_rfl) (by decide) ?_
    refine ⟨⟨_, rfl, ?_⟩, trivial⟩
    ·
     refine OV.call [] (F := [_, _, _, _]) Tryz.func10 B10 N10 rfl rfl (fun w h => some_fn raw (DR.keep h hd hI) (by omega)) (fun _ hb => hb.elim) gno rfl (fun v L' hp => ?_)
     obtain ⟨d2, rfl, hd2, rfl⟩ := hp
     have hck2 := some_chk raw.d
     rw [← hd2] at hck2
     have hrd2 : rgD d2.d := by rw [hd2]; exact some_rg hrg
     have hb2 := chk_bnd hck2
     have hb2s : 0 < d2.ss.length := (chk_s hck2).1
     have hb2a := hb2.s
     have hb2b := hb2.t
     unfold dL
     refine AV.next (bl 11 1279) (by kernel_rfl) (fun _ h => h.sel [0] rfl) ?_
     refine AV.all [8] (by kernel_rfl) (by decide) ?_
     refine ⟨⟨_, rfl, ?_⟩, trivial⟩
     ·
      refine OV.call [4, 4, 4] (F := [_, _, _, _]) Tryz.func15 B15 N15 rfl rfl (fun w h => spoil2_fn d2 how n text (rgH_of hrd2) hb2s (by omega) (by omega) (fun i hi => Nat.le_trans (hb2.o i hi) (by decide))) (fun _ hb => hb.elim) gno rfl (fun v L' hp => ?_)
      obtain ⟨d3, rfl, hr3, rfl⟩ := hp
      unfold dL
      refine AV.next (bl 11 1535) (by kernel_rfl) (fun _ h => h.sel [0] rfl) ?_
      refine AV.all [9] (by kernel_rfl) (by decide) ?_
      refine ⟨⟨_, rfl, ?_⟩, trivial⟩
      ·
       refine OV.step gno (Step.build (vs := [(0, .agg #[.string (bs raw.name), .slice raw.sA raw.ss.length raw.sc, .slice raw.tA raw.hs.length raw.tc]), (1, .agg #[.string (bs dd.name), .slice dd.sA dd.ss.length dd.sc, .slice dd.tA dd.hs.length dd.tc]), (2, .agg #[.string (bs d3.name), .slice d3.sA d3.ss.length d3.sc, .slice d3.tA d3.hs.length d3.tc])]) rfl (Ba39_3 _ _ _ _ _ _ _ _ _)) rfl ?_
       refine AV.next (bl 11 2047) (by kernel_rfl) (fun _ h => h.sel [0] rfl) ?_
       refine AV.done (by kernel_rfl) ?_
       refine KV.then_n (KV.env [(32, _), (33, _)] ⟨rfl, rfl, trivial⟩ (CV.block ?_))
       refine KV.sel [1, 1, 1, 1, 1, 1] [_, _, _, _, _, _] rfl ?_
       refine CV.loopI (fun (i : Nat) => i ≤ 3) (fun (i : Nat) => 3 - i) (fun (i : Nat) => [(32, .agg #[.string (bs raw.name), .slice raw.sA raw.ss.length raw.sc, .slice raw.tA raw.hs.length raw.tc, .string (bs dd.name), .slice dd.sA dd.ss.length dd.sc, .slice dd.tA dd.hs.length dd.tc, .string (bs d3.name), .slice d3.sA d3.ss.length d3.sc, .slice d3.tA d3.hs.length d3.tc]), (33, .int .i64 i)]) (fun (i : Nat) => Hp I w [OS 9 strK dd.sA dd.sc dd.ss, OS 48 thK dd.tA dd.tc dd.hs, Big opA dd.hs, OS 9 strK d3.sA d3.sc d3.ss, OS 48 thK d3.tA d3.tc d3.hs, Big opA d3.hs]) (0) (Nat.zero_le _) ⟨rfl, rfl, trivial⟩ (fun _ h => h) ?_
       intro i hil
       refine CV.seq (CV.region ?_)
       refine RV.op (OV.split gno (Step.lss rfl rfl) rfl (fun hi => ?_) (fun hi => ?_))
       ·
        refine RV.nil (KV.then_n (KV.env [(32, _), (33, _), (34, _)] ⟨rfl, rfl, rfl, trivial⟩ (CV.seq (CV.cond_t rfl (CV.skip ?_)))))
        refine KV.then_n (KV.env [(32, _), (33, _)] ⟨rfl, rfl, trivial⟩ (CV.seq (CV.block (CV.seq ?_))))
        have hi3 : i < 3 := by omega
        refine CV.region ?_
        refine RV.s (Step.index rfl rfl (arr3b hi3)) rfl ?_
        refine RV.op (OV.alloc #[.string (Sv.bs []), .slice none 0 0, .slice none 0 0] I25 rfl gno rfl (fun x => ?_))
        refine RV.op (OV.store 6 [_, _, _] #[_, _, _] I25 rfl rfl rfl rfl rfl (Nat.le_of_ble_eq_true rfl) (by simp [Value.oneCell']) rfl gno ?_)
        refine RV.nil (KV.then_n (KV.env [(10, _), (32, _), (33, _)] ⟨rfl, rfl, rfl, trivial⟩ (CV.seq (CV.region ?_))))
        refine RV.s (Step.loadN _ Tryz.underlying25 rfl I25 rfl rfl (fun w h => h.cells 6 rfl)) rfl ?_
        refine RV.op (OV.call [] (F := [_, _, _, _, _, _, _]) Tryz.func16 B16 N16 rfl rfl (fun w h => format_fn ([raw, dd, d3].getD i dh0) (dr3 (DR.keep h hd hI) (DR.ofHp (k1 := 0) (k2 := 1) (k3 := 2) h rfl rfl rfl rfl) (DR.ofHp (k1 := 3) (k2 := 4) (k3 := 5) h rfl rfl rfl rfl) hi3) (rg3 hrg hrdd (rgD_of hr3) hi3) (PowR.keep h hP (hro 5 (.inr rfl)))) (fun b hb => roAt5 hP (fun b hb => hro b (.inr hb)) b hb) gno rfl (fun v L' hp => ?_))
        obtain ⟨rfl, rfl⟩ := hp
        simp only [List.append_nil]
        refine RV.m rfl rfl (RV.s (Step.extract0 rfl rfl) rfl (RV.s (Step.extract0 rfl rfl) rfl (RV.a rfl rfl (RV.a rfl rfl ?_))))
        refine RV.nil (KV.then_n (KV.env [(10, _), (11, _), (12, _), (32, _), (33, _)] ⟨rfl, rfl, rfl, rfl, rfl, trivial⟩ (CV.seq (CV.region ?_))))
        refine RV.s (Step.loadN _ Tryz.underlying25 rfl I25 rfl rfl (fun w h => h.cells 6 rfl)) rfl ?_
        refine RV.op (OV.call [] (F := [_, _, _, _, _, _, _]) Tryz.func9 B9 N9 rfl rfl (fun w h => rformat_fn ([raw, dd, d3].getD i dh0) (dr3 (DR.keep h hd hI) (DR.ofHp (k1 := 0) (k2 := 1) (k3 := 2) h rfl rfl rfl rfl) (DR.ofHp (k1 := 3) (k2 := 4) (k3 := 5) h rfl rfl rfl rfl) hi3) (rg3 hrg hrdd (rgD_of hr3) hi3)) (fun _ hb => hb.elim) gno rfl (fun v L' hp => ?_))
        obtain ⟨rfl, rfl⟩ := hp
        simp only [List.append_nil]
        refine RV.m rfl rfl (RV.s (Step.extract0 rfl rfl) rfl (RV.s (Step.extract0 rfl rfl) rfl (RV.a rfl rfl (RV.a rfl rfl ?_))))
        refine RV.nil (KV.then_n (KV.env [(11, _), (12, _), (13, _), (14, _), (32, _), (33, _)] ⟨rfl, rfl, rfl, rfl, rfl, rfl, trivial⟩ (CV.seq (CV.region ?_))))
        refine RV.m rfl rfl (RV.m rfl rfl ?_)
        refine RV.op (OV.split gno (Step.neqStr rfl rfl) rfl (fun n1 => ?_) (fun n1 => ?_))
        ·
         exact absurd rfl n1
        ·
         refine RV.m rfl rfl (RV.gw rfl (Step.move rfl) rfl (RV.gw rfl (Step.move rfl) rfl ?_))
         refine RV.op (OV.split (gyes rfl) (Step.neq rfl rfl) rfl (fun n2 => ?_) (fun n2 => ?_))
         ·
          exact absurd rfl n2
         ·
          refine RV.s (Step.pick_f rfl rfl) rfl ?_
          refine RV.nil (KV.then_n (KV.env [(32, _), (33, _), (53, _)] ⟨rfl, rfl, rfl, trivial⟩ (CV.cond_f rfl (CV.skip (KV.block_n ?_)))))
          refine KV.then_n (KV.env [(32, _), (33, _)] ⟨rfl, rfl, trivial⟩ (CV.region ?_))
          (first | refine RV.op (OV.step gno (Step.add rfl rfl (wI64 (by omega) (by omega))) rfl ?_) | refine RV.op (OV.step gno (Step.add rfl rfl rfl) rfl ?_))
          refine RV.m rfl rfl ?_
          refine RV.nil (KV.then_n (KV.env [(32, _), (33, _)] ⟨rfl, rfl, trivial⟩ ?_))
          refine KV.sel [0, 0, 0, 0, 0, 0] [_, _, _, _, _, _] rfl ?_
          exact KV.loopI (z := i) (i + 1) (by omega) (by omega) ⟨rfl, rfl, trivial⟩ (fun _ h => h)
       ·
        refine RV.nil (KV.then_n (KV.env [(32, _), (33, _), (34, _)] ⟨rfl, rfl, rfl, trivial⟩ (CV.seq (CV.cond_f rfl (CV.exit ?_)))))
        refine KV.then_exit (KV.then_exit (KV.block_hit (KV.then_n (KV.env [] trivial (CV.seq ?_)))))
        refine CV.region ?_
        refine RV.op (OV.call [] (F := [_, _, _, _, _, _]) Tryz.func8 B8 N8 rfl rfl (fun w h => awake_fn (EvR.keep h hE (hro 4 (.inl rfl)))) (fun b hb => roAt4 hE (fun b hb => hro b (.inl hb)) b hb) gno rfl (fun v L' hp => ?_))
        obtain ⟨rfl, rfl⟩ := hp
        simp only [List.append_nil]
        refine RV.a rfl rfl ?_
        refine RV.nil (KV.then_n (KV.env [(8, _)] ⟨rfl, trivial⟩ (CV.ret ?_)))
        refine KV.sel [] [] rfl ?_
        exact KV.ret1 rfl rfl _ (fun _ h => h) ⟨rfl, rfl⟩
end Go.Proofs.YtplmfekhdaefaaaGreatDoor
