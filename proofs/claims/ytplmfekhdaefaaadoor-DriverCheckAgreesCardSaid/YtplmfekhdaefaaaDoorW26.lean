/-
  Walks, part 26.
-/
import Derived.Test.YtplmfekhdaefaaaDoorTab26
import Derived.Test.YtplmfekhdaefaaaDoorW25
set_option linter.unusedSimpArgs false
set_option linter.unusedVariables false
namespace Go.Proofs.YtplmfekhdaefaaaDoor
open Go.Sv Go.Drv
theorem arr3 {raw dd d3 : DH} : ∀ {i : Nat} (h : i < 3) (w : World), (Instr.index 64 (.agg ([.string (bs raw.name), .slice raw.sA raw.ss.length raw.sc, .slice raw.tA raw.hs.length raw.tc, .string (bs dd.name), .slice dd.sA dd.ss.length dd.sc, .slice dd.tA dd.hs.length dd.tc, .string (bs d3.name), .slice d3.sA d3.ss.length d3.sc, .slice d3.tA d3.hs.length d3.tc] : List Value).toArray) (.int .i64 (i : Int))).run Tryd.prog w = .ok (.agg #[.string (bs ([raw, dd, d3].getD i dh0).name), .slice ([raw, dd, d3].getD i dh0).sA ([raw, dd, d3].getD i dh0).ss.length ([raw, dd, d3].getD i dh0).sc, .slice ([raw, dd, d3].getD i dh0).tA ([raw, dd, d3].getD i dh0).hs.length ([raw, dd, d3].getD i dh0).tc]) w
  | 0, _, w => by kernel_rfl
  | 1, _, w => by kernel_rfl
  | 2, _, w => by kernel_rfl
  | n + 3, h, _ => by omega

set_option maxRecDepth 100000 in
set_option maxHeartbeats 16000000 in
theorem checkAgrees_fn (raw : DH) (how n : Int) (text : Bs) {w : World} (hE : EvR w) (hd : DR w raw) : Fx Tryd.prog 7 [.agg #[.string (bs raw.name), .slice raw.sA raw.ss.length raw.sc, .slice raw.tA raw.hs.length raw.tc], .int .i64 how, .int .i64 n, .string (bs text)] w [] at4 (fun v L => v = .bool true ∧ L = []) := by
  refine Sv.Fx.body Tryd.func7 rfl T7 rfl ?_
  intro I hro hI
  refine KV.env [(0, _), (1, _), (2, _), (3, _)] ⟨rfl, rfl, rfl, rfl, trivial⟩ ?_
  refine CV.seq ?_
  -- region 0 law.go:118
  refine CV.region ?_
  refine RV.op (OV.box (t := 26) #[_, _, _] rfl rfl gno rfl (fun b0 => ?_))
  refine RV.op (OV.step gno (Step.assign rfl) rfl ?_)
  refine RV.nil ?_
  refine KV.then_n ?_
  refine KV.env [(1, _), (2, _), (3, _), (4, _)] ⟨rfl, rfl, rfl, rfl, trivial⟩ ?_
  refine CV.seq ?_
  refine CV.seq ?_
  -- region 1 law.go:119
  refine CV.region ?_
  refine RV.op (OV.step gno (Step.loadN _ Tryd.underlying26 rfl I26 rfl rfl (fun w h => h.cells 0 rfl)) rfl ?_)
  refine RV.op (OV.call [] (F := [_]) Tryd.func16 B16 N16 rfl rfl (fun w h => large_fn raw (DR.keep h hd hI)) (fun _ hb => hb.elim) gno rfl (fun v L' hp => ?_))
  obtain ⟨rfl, rfl⟩ := hp
  simp only [List.append_nil]
  refine RV.op (OV.step gno (Step.move rfl) rfl ?_)
  refine KV.cases 20 rfl (fun cc1 => ?_) (fun cc1 => ?_)
  · -- True
    refine RV.op (OV.skip rfl rfl ?_)
    refine RV.op (OV.skip rfl rfl ?_)
    refine RV.op (OV.skip rfl rfl ?_)
    refine RV.op (OV.step gno (Step.pick_t rfl rfl) rfl ?_)
    refine RV.nil ?_
    refine KV.then_n ?_
    refine KV.env [(1, _), (2, _), (3, _), (4, _), (24, _)] ⟨rfl, rfl, rfl, rfl, rfl, trivial⟩ ?_
    refine CV.cond_t rfl ?_
    refine CV.seq ?_
    -- region 2 law.go:120
    refine CV.region ?_
    refine RV.op (OV.call [] (F := [_]) Tryd.func10 B10 N10 rfl rfl (fun w h => awake_fn (EvR.keep h hE (hro 4 rfl))) (fun b hb => roAt4 hE hro b hb) gno rfl (fun v L' hp => ?_))
    obtain ⟨rfl, rfl⟩ := hp
    simp only [List.append_nil]
    refine RV.op (OV.step gno (Step.assign rfl) rfl ?_)
    refine RV.nil ?_
    refine KV.then_n ?_
    refine KV.env [(8, _)] ⟨rfl, trivial⟩ ?_
    refine CV.ret ?_
    refine KV.then_ret ?_
    -- return at r2
    refine KV.sel [] [] rfl ?_
    exact KV.ret1 rfl rfl _ (fun _ h => h) ⟨rfl, rfl⟩
  · -- False
    have hsm := lrg_sml cc1
    have hsm1 : raw.ss.length ≤ 40 := hsm.1
    refine RV.op (OV.step (gyes rfl) (Step.move rfl) rfl ?_)
    refine RV.op (OV.step (gyes rfl) (Step.lenStr Tryd.underlying9 rfl) rfl ?_)
    refine RV.op (OV.split (gyes rfl) (Step.gtr rfl rfl) rfl (fun h30 => ?_) (fun h30 => ?_))
    · -- True
      refine RV.op (OV.step gno (Step.pick_f rfl rfl) rfl ?_)
      refine RV.nil ?_
      refine KV.then_n ?_
      refine KV.env [(1, _), (2, _), (3, _), (4, _), (24, _)] ⟨rfl, rfl, rfl, rfl, rfl, trivial⟩ ?_
      refine CV.cond_t rfl ?_
      refine CV.seq ?_
      -- region 2 law.go:120
      refine CV.region ?_
      refine RV.op (OV.call [] (F := [_]) Tryd.func10 B10 N10 rfl rfl (fun w h => awake_fn (EvR.keep h hE (hro 4 rfl))) (fun b hb => roAt4 hE hro b hb) gno rfl (fun v L' hp => ?_))
      obtain ⟨rfl, rfl⟩ := hp
      simp only [List.append_nil]
      refine RV.op (OV.step gno (Step.assign rfl) rfl ?_)
      refine RV.nil ?_
      refine KV.then_n ?_
      refine KV.env [(8, _)] ⟨rfl, trivial⟩ ?_
      refine CV.ret ?_
      refine KV.then_ret ?_
      -- return at r2
      refine KV.sel [] [] rfl ?_
      exact KV.ret1 rfl rfl _ (fun _ h => h) ⟨rfl, rfl⟩
    · -- False
      refine RV.op (OV.step gno (Step.pick_f rfl rfl) rfl ?_)
      refine RV.nil ?_
      refine KV.then_n ?_
      refine KV.env [(1, _), (2, _), (3, _), (4, _), (24, _)] ⟨rfl, rfl, rfl, rfl, rfl, trivial⟩ ?_
      refine CV.cond_f rfl ?_
      refine CV.skip ?_
      refine KV.then_n ?_
      refine KV.env [(1, _), (2, _), (3, _), (4, _)] ⟨rfl, rfl, rfl, rfl, trivial⟩ ?_
      refine CV.seq ?_
      refine CV.seq ?_
      -- region 3 law.go:122
      refine CV.any (Hp I w [Blk b0 (.cells #[.string (bs raw.name), .slice raw.sA raw.ss.length raw.sc, .slice raw.tA raw.hs.length raw.tc] 26 (0, 0))]) (by kernel_rfl) (fun _ h => h.drew) 11 rfl ?_
      refine AV.take 0 #[true, false, false, false, false, false, false, false, false, false, false] rfl (by kernel_rfl) (by kernel_rfl) (by kernel_rfl) (fun _ _ _ h => h) gno (Step.loadN _ Tryd.underlying26 rfl I26 rfl rfl (fun w h => h.cells 0 rfl)) rfl (fun _ h => h.sel [0] rfl) (by kernel_rfl) ?_
      refine AV.take 1 #[true, true, false, false, false, false, false, false, false, false, false] rfl (by kernel_rfl) (by kernel_rfl) (by kernel_rfl) (fun _ _ _ h => h) gno (Step.loadN _ Tryd.underlying26 rfl I26 rfl rfl (fun w h => h.cells 0 rfl)) rfl (fun _ h => h.sel [0] rfl) (by kernel_rfl) ?_
      refine AV.take 3 #[true, true, false, true, false, false, false, false, false, false, false] rfl (by kernel_rfl) (by kernel_rfl) (by kernel_rfl) (fun _ _ _ h => h) gno (Step.loadN _ Tryd.underlying26 rfl I26 rfl rfl (fun w h => h.cells 0 rfl)) rfl (fun _ h => h.sel [0] rfl) (by kernel_rfl) ?_
      refine AV.take 5 #[true, true, false, true, false, true, false, false, false, false, false] rfl (by kernel_rfl) (by kernel_rfl) (by kernel_rfl) (fun _ _ _ h => h) gno (Step.move rfl) rfl (fun _ h => h.sel [0] rfl) (by kernel_rfl) ?_
      refine AV.take 6 #[true, true, false, true, false, true, true, false, false, false, false] rfl (by kernel_rfl) (by kernel_rfl) (by kernel_rfl) (fun _ _ _ h => h) gno (Step.move rfl) rfl (fun _ h => h.sel [0] rfl) (by kernel_rfl) ?_
      refine AV.take 7 #[true, true, false, true, false, true, true, true, false, false, false] rfl (by kernel_rfl) (by kernel_rfl) (by kernel_rfl) (fun _ _ _ h => h) gno (Step.move rfl) rfl (fun _ h => h.sel [0] rfl) (by kernel_rfl) ?_
      refine AV.take 10 #[true, true, false, true, false, true, true, true, false, false, true] rfl (by kernel_rfl) (by kernel_rfl) (by kernel_rfl) (fun _ _ _ h => h) gno (Step.move rfl) rfl (fun _ h => h.sel [0] rfl) (by kernel_rfl) ?_
      refine AV.all [2] (by kernel_rfl) (by decide) ?_
      refine ⟨⟨_, rfl, ?_⟩, trivial⟩
      · -- 2 comes up
        refine OV.call [] (F := [_]) Tryd.func17 B17 N17 rfl rfl (fun w h => some_fn raw (DR.keep h hd hI) (by omega)) (fun _ hb => hb.elim) gno rfl (fun v L' hp => ?_)
        obtain ⟨dd, rfl, hdd, rfl⟩ := hp
        have hck := some_chk raw.d
        rw [← hdd] at hck
        have hdT : dd.hs.map (·.t) = dd.d.ts := rfl
        have hole := opsLe_of hck
        have hbdd := chk_bnd hck
        have hdl : dd.hs.length ≤ 128 := hbdd.t
        unfold dL
        refine AV.next #[true, true, true, true, false, true, true, true, false, false, true] (by kernel_rfl) (fun _ h => h.sel [0] rfl) ?_
        refine AV.all [4] (by kernel_rfl) (by decide) ?_
        refine ⟨⟨_, rfl, ?_⟩, trivial⟩
        · -- 4 comes up
          refine OV.call [] (F := [_, _, _, _]) Tryd.func17 B17 N17 rfl rfl (fun w h => some_fn raw (DR.keep h hd hI) (by omega)) (fun _ hb => hb.elim) gno rfl (fun v L' hp => ?_)
          obtain ⟨d2, rfl, hd2, rfl⟩ := hp
          have hck2 := some_chk raw.d
          rw [← hd2] at hck2
          have hb2 := chk_bnd hck2
          have hb2s : 0 < d2.ss.length := (chk_s hck2).1
          have hb2a := hb2.s
          have hb2b := hb2.t
          unfold dL
          refine AV.next #[true, true, true, true, true, true, true, true, false, false, true] (by kernel_rfl) (fun _ h => h.sel [0] rfl) ?_
          refine AV.all [8] (by kernel_rfl) (by decide) ?_
          refine ⟨⟨_, rfl, ?_⟩, trivial⟩
          · -- 8 comes up
            refine OV.call [4, 4, 4] (F := [_, _, _, _]) Tryd.func28 B28 N28 rfl rfl (fun w h => spoil_fn d2 how n text hb2s (by omega) (by omega) (fun i hi => Nat.le_trans (hb2.o i hi) (by decide))) (fun _ hb => hb.elim) gno rfl (fun v L' hp => ?_)
            obtain ⟨d3, rfl, rfl⟩ := hp
            unfold dL
            refine AV.next #[true, true, true, true, true, true, true, true, true, false, true] (by kernel_rfl) (fun _ h => h.sel [0] rfl) ?_
            refine AV.all [9] (by kernel_rfl) (by decide) ?_
            refine ⟨⟨_, rfl, ?_⟩, trivial⟩
            · -- 9 comes up
              refine OV.step gno (Step.build (vs := [(0, .agg #[.string (bs raw.name), .slice raw.sA raw.ss.length raw.sc, .slice raw.tA raw.hs.length raw.tc]), (1, .agg #[.string (bs dd.name), .slice dd.sA dd.ss.length dd.sc, .slice dd.tA dd.hs.length dd.tc]), (2, .agg #[.string (bs d3.name), .slice d3.sA d3.ss.length d3.sc, .slice d3.tA d3.hs.length d3.tc])]) rfl (Ba64_3 _ _ _ _ _ _ _ _ _)) rfl ?_
              refine AV.next #[true, true, true, true, true, true, true, true, true, true, true] (by kernel_rfl) (fun _ h => h.sel [0] rfl) ?_
              refine AV.done (by kernel_rfl) ?_
              refine KV.then_n ?_
              refine KV.env [(35, _), (36, _)] ⟨rfl, rfl, trivial⟩ ?_
              refine CV.block ?_
              -- loop L4; live [35, 36]
              refine KV.sel [1, 1, 1, 1, 1, 1] [_, _, _, _, _, _] rfl ?_
              refine CV.loopI (fun (i : Nat) => i ≤ 3) (fun (i : Nat) => 3 - i) (fun (i : Nat) => [(35, .agg #[.string (bs raw.name), .slice raw.sA raw.ss.length raw.sc, .slice raw.tA raw.hs.length raw.tc, .string (bs dd.name), .slice dd.sA dd.ss.length dd.sc, .slice dd.tA dd.hs.length dd.tc, .string (bs d3.name), .slice d3.sA d3.ss.length d3.sc, .slice d3.tA d3.hs.length d3.tc]), (36, .int .i64 i)]) (fun (i : Nat) => Hp I w [OS 9 strK dd.sA dd.sc dd.ss, OS 61 thK dd.tA dd.tc dd.hs, Big opA dd.hs, OS 9 strK d3.sA d3.sc d3.ss, OS 61 thK d3.tA d3.tc d3.hs, Big opA d3.hs]) (0) (Nat.zero_le _) ⟨rfl, rfl, trivial⟩ (fun _ h => h) ?_
              intro i hil
              refine CV.seq ?_
              -- region 4 law.go:122
              refine CV.region ?_
              refine RV.op (OV.split gno (Step.lss rfl rfl) rfl (fun hi => ?_) (fun hi => ?_))
              · -- True
                refine RV.nil ?_
                refine KV.then_n ?_
                refine KV.env [(35, _), (36, _), (37, _)] ⟨rfl, rfl, rfl, trivial⟩ ?_
                refine CV.seq ?_
                refine CV.cond_t rfl ?_
                refine CV.skip ?_
                refine KV.then_n ?_
                refine KV.env [(35, _), (36, _)] ⟨rfl, rfl, trivial⟩ ?_
                refine CV.seq ?_
                refine CV.block ?_
                refine CV.seq ?_
                -- region 5 law.go:122
                have hi3 : i < 3 := by omega
                refine CV.region ?_
                refine RV.op (OV.step gno (Step.index rfl rfl (arr3 hi3)) rfl ?_)
                refine RV.op (OV.alloc #[.string (Sv.bs []), .slice none 0 0, .slice none 0 0] I26 rfl gno rfl (fun x => ?_))
                refine RV.op (OV.store 6 [_, _, _] #[_, _, _] I26 rfl rfl rfl rfl rfl (Nat.le_of_ble_eq_true rfl) (by simp [Value.oneCell']) rfl gno ?_)
                refine RV.nil ?_
                refine KV.then_n ?_
                refine KV.env [(10, _), (35, _), (36, _)] ⟨rfl, rfl, rfl, trivial⟩ ?_
                refine CV.seq ?_
                -- region 6 law.go:123
                refine CV.region ?_
                refine RV.op (OV.step gno (Step.loadN _ Tryd.underlying26 rfl I26 rfl rfl (fun w h => h.cells 6 rfl)) rfl ?_)
                refine RV.op (OV.call [] (F := [_, _, _, _, _, _, _]) Tryd.func29 B29 N29 rfl rfl (fun w h => reach2_fn ([raw, dd, d3].getD i dh0) (dr3 (DR.keep h hd hI) (DR.ofHp (k1 := 0) (k2 := 1) (k3 := 2) h rfl rfl rfl rfl) (DR.ofHp (k1 := 3) (k2 := 4) (k3 := 5) h rfl rfl rfl rfl) hi3)) (fun _ hb => hb.elim) gno rfl (fun v L' hp => ?_))
                obtain ⟨A1, c1, rfl, rfl⟩ := hp
                refine RV.op (OV.step gno (Step.move rfl) rfl ?_)
                refine RV.op (OV.step gno (Step.extract0 rfl rfl) rfl ?_)
                refine RV.op (OV.step gno (Step.extract0 rfl rfl) rfl ?_)
                refine RV.op (OV.step gno (Step.assign rfl) rfl ?_)
                refine RV.op (OV.step gno (Step.assign rfl) rfl ?_)
                refine RV.nil ?_
                refine KV.then_n ?_
                refine KV.env [(10, _), (11, _), (12, _), (35, _), (36, _)] ⟨rfl, rfl, rfl, rfl, rfl, trivial⟩ ?_
                refine CV.seq ?_
                -- region 7 law.go:124
                refine CV.region ?_
                refine RV.op (OV.step gno (Step.loadN _ Tryd.underlying26 rfl I26 rfl rfl (fun w h => h.cells 6 rfl)) rfl ?_)
                refine RV.op (OV.call [] (F := [_, _, _, _, _, _, _, _]) Tryd.func30 B30 N30 rfl rfl (fun w h => rreach2_fn ([raw, dd, d3].getD i dh0) (dr3 (DR.keep h hd hI) (DR.ofHp (k1 := 0) (k2 := 1) (k3 := 2) h rfl rfl rfl rfl) (DR.ofHp (k1 := 3) (k2 := 4) (k3 := 5) h rfl rfl rfl rfl) hi3)) (fun _ hb => hb.elim) gno rfl (fun v L' hp => ?_))
                obtain ⟨A2, c2, rfl, rfl⟩ := hp
                refine RV.op (OV.step gno (Step.move rfl) rfl ?_)
                refine RV.op (OV.step gno (Step.extract0 rfl rfl) rfl ?_)
                refine RV.op (OV.step gno (Step.extract0 rfl rfl) rfl ?_)
                refine RV.op (OV.step gno (Step.assign rfl) rfl ?_)
                refine RV.op (OV.step gno (Step.assign rfl) rfl ?_)
                refine RV.nil ?_
                refine KV.then_n ?_
                refine KV.env [(10, _), (11, _), (12, _), (13, _), (14, _), (35, _), (36, _)] ⟨rfl, rfl, rfl, rfl, rfl, rfl, rfl, trivial⟩ ?_
                refine CV.seq ?_
                -- region 8 law.go:125
                refine CV.region ?_
                refine RV.op (OV.step gno (Step.loadN _ Tryd.underlying26 rfl I26 rfl rfl (fun w h => h.cells 6 rfl)) rfl ?_)
                refine RV.op (OV.call [] (F := [_, _, _, _, _, _, _, _, _]) Tryd.func18 B18 N18 rfl rfl (fun w h => new2_fn ([raw, dd, d3].getD i dh0) (dr3 (DR.keep h hd hI) (DR.ofHp (k1 := 0) (k2 := 1) (k3 := 2) h rfl rfl rfl rfl) (DR.ofHp (k1 := 3) (k2 := 4) (k3 := 5) h rfl rfl rfl rfl) hi3)) (fun _ hb => hb.elim) gno rfl (fun v L' hp => ?_))
                obtain ⟨pp, rfl, hpp, rfl⟩ := hp
                simp only [List.append_nil]
                refine RV.op (OV.step gno (Step.move rfl) rfl ?_)
                refine RV.op (OV.step gno (Step.extract0 rfl rfl) rfl ?_)
                refine RV.op (OV.step gno (Step.extract0 rfl rfl) rfl ?_)
                refine RV.op (OV.step gno (Step.assign rfl) rfl ?_)
                refine RV.op (OV.step gno (Step.assign rfl) rfl ?_)
                refine RV.nil ?_
                refine KV.then_n ?_
                refine KV.env [(10, _), (11, _), (12, _), (13, _), (14, _), (15, _), (16, _), (35, _), (36, _)] ⟨rfl, rfl, rfl, rfl, rfl, rfl, rfl, rfl, rfl, trivial⟩ ?_
                refine CV.seq ?_
                -- region 9 law.go:126
                refine CV.region ?_
                refine RV.op (OV.step gno (Step.loadN _ Tryd.underlying26 rfl I26 rfl rfl (fun w h => h.cells 6 rfl)) rfl ?_)
                refine RV.op (OV.call [] (F := [_, _, _, _, _, _, _, _, _]) Tryd.func31 B31 N31 rfl rfl (fun w h => rcheck_fn ([raw, dd, d3].getD i dh0) (dr3 (DR.keep h hd hI) (DR.ofHp (k1 := 0) (k2 := 1) (k3 := 2) h rfl rfl rfl rfl) (DR.ofHp (k1 := 3) (k2 := 4) (k3 := 5) h rfl rfl rfl rfl) hi3)) (fun _ hb => hb.elim) gno rfl (fun v L' hp => ?_))
                obtain ⟨rfl, rfl⟩ := hp
                simp only [List.append_nil]
                refine RV.op (OV.step gno (Step.assign rfl) rfl ?_)
                refine RV.nil ?_
                refine KV.then_n ?_
                refine KV.env [(10, _), (11, _), (12, _), (13, _), (14, _), (15, _), (16, _), (17, _), (35, _), (36, _)] ⟨rfl, rfl, rfl, rfl, rfl, rfl, rfl, rfl, rfl, rfl, trivial⟩ ?_
                refine CV.seq ?_
                -- region 10 law.go:127
                refine CV.region ?_
                refine RV.op (OV.step gno (Step.loadN _ Tryd.underlying26 rfl I26 rfl rfl (fun w h => h.cells 6 rfl)) rfl ?_)
                refine RV.op (OV.call [] (F := [_, _, _, _, _, _, _, _, _]) Tryd.func32 B32 N32 rfl rfl (fun w h => check_fn ([raw, dd, d3].getD i dh0) (dr3 (DR.keep h hd hI) (DR.ofHp (k1 := 0) (k2 := 1) (k3 := 2) h rfl rfl rfl rfl) (DR.ofHp (k1 := 3) (k2 := 4) (k3 := 5) h rfl rfl rfl rfl) hi3)) (fun _ hb => hb.elim) gno rfl (fun v L' hp => ?_))
                obtain ⟨rfl, rfl⟩ := hp
                simp only [List.append_nil]
                refine RV.op (OV.step gno (Step.move rfl) rfl ?_)
                refine RV.op (OV.split gno (Step.neq rfl rfl) rfl (fun n1 => ?_) (fun n1 => ?_))
                · -- True
                  exact absurd rfl n1
                · -- False
                  refine RV.op (OV.step gno (Step.move rfl) rfl ?_)
                  refine RV.op (OV.step (gyes rfl) (Step.move rfl) rfl ?_)
                  refine RV.op (OV.step (gyes rfl) (Step.move rfl) rfl ?_)
                  refine RV.op (OV.split (gyes rfl) (Step.neq rfl rfl) rfl (fun n2 => ?_) (fun n2 => ?_))
                  · -- True
                    exact absurd rfl n2
                  · -- False
                    refine RV.op (OV.step gno (Step.pick_f rfl rfl) rfl ?_)
                    refine RV.op (OV.step gno (Step.move rfl) rfl ?_)
                    refine RV.op (OV.step (gyes rfl) (Step.move rfl) rfl ?_)
                    refine RV.op (OV.step (gyes rfl) (Step.move rfl) rfl ?_)
                    refine RV.op (OV.split (gyes rfl) (Step.neq rfl rfl) rfl (fun n3 => ?_) (fun n3 => ?_))
                    · -- True
                      exact absurd rfl n3
                    · -- False
                      refine RV.op (OV.step gno (Step.pick_f rfl rfl) rfl ?_)
                      refine RV.op (OV.step gno (Step.move rfl) rfl ?_)
                      refine RV.op (OV.step (gyes rfl) (Step.move rfl) rfl ?_)
                      refine RV.op (OV.step (gyes rfl) (Step.move rfl) rfl ?_)
                      refine RV.op (OV.call [] (F := [_, _, _, _, _, _, _, _, _]) Tryd.func33 B33 N33 rfl rfl (fun w h => eqInt_fn (h.os 7 rfl) (h.os 8 rfl) (rcl_le _) (rcl_le _)) (fun _ hb => hb.elim) (gyes rfl) rfl (fun v L' hp => ?_))
                      obtain ⟨rfl, rfl⟩ := hp
                      rw [decide_eq_true (rfl : rcl ([raw, dd, d3].getD i dh0).d = rcl ([raw, dd, d3].getD i dh0).d)]
                      simp only [List.append_nil]
                      refine RV.op (OV.step (gyes rfl) (Step.not rfl) rfl ?_)
                      refine RV.op (OV.step gno (Step.pick_f rfl rfl) rfl ?_)
                      refine RV.op (OV.step gno (Step.move rfl) rfl ?_)
                      refine RV.op (OV.step (gyes rfl) (Step.move rfl) rfl ?_)
                      refine RV.op (OV.step (gyes rfl) (Step.eqlP Tryd.underlying40 rfl rfl) rfl ?_)
                      refine RV.op (OV.step (gyes rfl) (Step.move rfl) rfl ?_)
                      refine RV.op (OV.step (gyes rfl) (Step.neq rfl rfl) rfl ?_)
                      refine RV.op (OV.split (gyes rfl) (Step.neqBool Tryd.underlying4 rfl rfl) rfl (fun n4 => ?_) (fun n4 => ?_))
                      · -- True
                        exact absurd (decide_eq_decide.2 hpp) n4
                      · -- False
                        refine RV.op (OV.step gno (Step.pick_f rfl rfl) rfl ?_)
                        refine RV.nil ?_
                        refine KV.then_n ?_
                        refine KV.env [(35, _), (36, _), (82, _)] ⟨rfl, rfl, rfl, trivial⟩ ?_
                        refine CV.cond_f rfl ?_
                        refine CV.skip ?_
                        refine KV.block_n ?_
                        refine KV.then_n ?_
                        refine KV.env [(35, _), (36, _)] ⟨rfl, rfl, trivial⟩ ?_
                        -- region 12 law.go:122
                        refine CV.region ?_
                        (first | refine RV.op (OV.step gno (Step.add rfl rfl (wI64 (by omega) (by omega))) rfl ?_) | refine RV.op (OV.step gno (Step.add rfl rfl rfl) rfl ?_))
                        refine RV.op (OV.step gno (Step.move rfl) rfl ?_)
                        refine RV.nil ?_
                        refine KV.then_n ?_
                        refine KV.env [(35, _), (36, _)] ⟨rfl, rfl, trivial⟩ ?_
                        refine KV.sel [0, 0, 0, 0, 0, 0] [_, _, _, _, _, _] rfl ?_
                        exact KV.loopI (z := i) (i + 1) (by omega) (by omega) ⟨rfl, rfl, trivial⟩ (fun _ h => h)
              · -- False
                refine RV.nil ?_
                refine KV.then_n ?_
                refine KV.env [(35, _), (36, _), (37, _)] ⟨rfl, rfl, rfl, trivial⟩ ?_
                refine CV.seq ?_
                refine CV.cond_f rfl ?_
                refine CV.exit ?_
                refine KV.then_exit ?_
                refine KV.then_exit ?_
                refine KV.block_hit ?_
                refine KV.then_n ?_
                refine KV.env [] trivial ?_
                refine CV.seq ?_
                -- region 13 law.go:131
                refine CV.region ?_
                refine RV.op (OV.call [] (F := [_, _, _, _, _, _]) Tryd.func10 B10 N10 rfl rfl (fun w h => awake_fn (EvR.keep h hE (hro 4 rfl))) (fun b hb => roAt4 hE hro b hb) gno rfl (fun v L' hp => ?_))
                obtain ⟨rfl, rfl⟩ := hp
                simp only [List.append_nil]
                refine RV.op (OV.step gno (Step.assign rfl) rfl ?_)
                refine RV.nil ?_
                refine KV.then_n ?_
                refine KV.env [(8, _)] ⟨rfl, trivial⟩ ?_
                refine CV.ret ?_
                -- return at r13
                refine KV.sel [] [] rfl ?_
                exact KV.ret1 rfl rfl _ (fun _ h => h) ⟨rfl, rfl⟩
end Go.Proofs.YtplmfekhdaefaaaDoor
