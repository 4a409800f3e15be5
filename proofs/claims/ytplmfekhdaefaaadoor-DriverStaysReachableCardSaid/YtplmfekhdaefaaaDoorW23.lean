/-
  Walks, part 23.
-/
import Derived.Test.YtplmfekhdaefaaaDoorTab23
import Derived.Test.YtplmfekhdaefaaaDoorW22
import Derived.Test.YtplmfekhdaefaaaDoorDm19
set_option linter.unusedSimpArgs false
set_option linter.unusedVariables false
namespace Go.Proofs.YtplmfekhdaefaaaDoor
open Go.Sv Go.Drv
set_option maxRecDepth 100000 in
set_option maxHeartbeats 16000000 in
theorem stays_fn (raw : DH) {A : Option Addr} {c : Nat} (l : List Int) (v0 : Int) {w : World} (hE : EvR w) (hd : DR w raw) (hl : RS w (intK .i64) A l) : Fx Tryd.prog 8 [.agg #[.string (bs raw.name), .slice raw.sA raw.ss.length raw.sc, .slice raw.tA raw.hs.length raw.tc], .slice A l.length c, .int .u64 v0] w [] at4 (fun v L => v = .bool true ∧ L = []) := by
  refine Sv.Fx.body Tryd.func8 rfl T8 rfl ?_
  intro I hro hI
  refine KV.env [(0, _), (1, _), (2, _)] ⟨rfl, rfl, rfl, trivial⟩ ?_
  refine CV.seq ?_
  -- region 0 law.go:285
  refine CV.region ?_
  refine RV.op (OV.box (t := 26) #[_, _, _] rfl rfl gno rfl (fun b0 => ?_))
  refine RV.op (OV.step gno (Step.assign rfl) rfl ?_)
  refine RV.nil ?_
  refine KV.then_n ?_
  refine KV.env [(1, _), (2, _), (3, _)] ⟨rfl, rfl, rfl, trivial⟩ ?_
  refine CV.seq ?_
  refine CV.seq ?_
  -- region 1 law.go:286
  refine CV.region ?_
  refine RV.op (OV.step gno (Step.loadN _ Tryd.underlying26 rfl I26 rfl rfl (fun w h => h.cells 0 rfl)) rfl ?_)
  refine RV.op (OV.call [] (F := [_]) Tryd.func16 B16 N16 rfl rfl (fun w h => large_fn raw (DR.keep h hd hI)) (fun _ hb => hb.elim) gno rfl (fun v L' hp => ?_))
  obtain ⟨rfl, rfl⟩ := hp
  simp only [List.append_nil]
  refine RV.op (OV.step gno (Step.move rfl) rfl ?_)
  refine KV.cases 20 rfl (fun cc1 => ?_) (fun cc1 => ?_)
  · -- True
    refine RV.op (OV.skip rfl rfl ?_)
    refine RV.op (OV.skip rfl rfl ?_)
    refine RV.op (OV.skip rfl rfl ?_)
    refine RV.op (OV.step gno (Step.pick_t rfl rfl) rfl ?_)
    refine RV.nil ?_
    refine KV.then_n ?_
    refine KV.env [(1, _), (2, _), (3, _), (24, _)] ⟨rfl, rfl, rfl, rfl, trivial⟩ ?_
    refine CV.cond_t rfl ?_
    refine CV.seq ?_
    -- region 2 law.go:287
    refine CV.region ?_
    refine RV.op (OV.call [] (F := [_]) Tryd.func10 B10 N10 rfl rfl (fun w h => awake_fn (EvR.keep h hE (hro 4 rfl))) (fun b hb => roAt4 hE hro b hb) gno rfl (fun v L' hp => ?_))
    obtain ⟨rfl, rfl⟩ := hp
    simp only [List.append_nil]
    refine RV.op (OV.step gno (Step.assign rfl) rfl ?_)
    refine RV.nil ?_
    refine KV.then_n ?_
    refine KV.env [(6, _)] ⟨rfl, trivial⟩ ?_
    refine CV.ret ?_
    refine KV.then_ret ?_
    -- return at r2
    refine KV.sel [] [] rfl ?_
    exact KV.ret1 rfl rfl _ (fun _ h => h) ⟨rfl, rfl⟩
  · -- False
    have hsm := lrg_sml cc1
    have hsm1 : raw.ss.length ≤ 40 := hsm.1
    refine RV.op (OV.step (gyes rfl) (Step.move rfl) rfl ?_)
    refine RV.op (OV.step (gyes rfl) (Step.lenSl Tryd.underlying32 rfl) rfl ?_)
    refine RV.op (OV.split (gyes rfl) (Step.gtr rfl rfl) rfl (fun h30 => ?_) (fun h30 => ?_))
    · -- True
      refine RV.op (OV.step gno (Step.pick_f rfl rfl) rfl ?_)
      refine RV.nil ?_
      refine KV.then_n ?_
      refine KV.env [(1, _), (2, _), (3, _), (24, _)] ⟨rfl, rfl, rfl, rfl, trivial⟩ ?_
      refine CV.cond_t rfl ?_
      refine CV.seq ?_
      -- region 2 law.go:287
      refine CV.region ?_
      refine RV.op (OV.call [] (F := [_]) Tryd.func10 B10 N10 rfl rfl (fun w h => awake_fn (EvR.keep h hE (hro 4 rfl))) (fun b hb => roAt4 hE hro b hb) gno rfl (fun v L' hp => ?_))
      obtain ⟨rfl, rfl⟩ := hp
      simp only [List.append_nil]
      refine RV.op (OV.step gno (Step.assign rfl) rfl ?_)
      refine RV.nil ?_
      refine KV.then_n ?_
      refine KV.env [(6, _)] ⟨rfl, trivial⟩ ?_
      refine CV.ret ?_
      refine KV.then_ret ?_
      -- return at r2
      refine KV.sel [] [] rfl ?_
      exact KV.ret1 rfl rfl _ (fun _ h => h) ⟨rfl, rfl⟩
    · -- False
      refine RV.op (OV.step gno (Step.pick_f rfl rfl) rfl ?_)
      refine RV.nil ?_
      refine KV.then_n ?_
      refine KV.env [(1, _), (2, _), (3, _), (24, _)] ⟨rfl, rfl, rfl, rfl, trivial⟩ ?_
      refine CV.cond_f rfl ?_
      refine CV.skip ?_
      refine KV.then_n ?_
      refine KV.env [(1, _), (2, _), (3, _)] ⟨rfl, rfl, rfl, trivial⟩ ?_
      refine CV.seq ?_
      -- region 3 law.go:289
      refine CV.region ?_
      refine RV.op (OV.step gno (Step.loadN _ Tryd.underlying26 rfl I26 rfl rfl (fun w h => h.cells 0 rfl)) rfl ?_)
      refine RV.op (OV.call [] (F := [_]) Tryd.func17 B17 N17 rfl rfl (fun w h => some_fn raw (DR.keep h hd hI) (by omega)) (fun _ hb => hb.elim) gno rfl (fun v L' hp => ?_))
      obtain ⟨dd, rfl, hdd, rfl⟩ := hp
      have hck := some_chk raw.d
      rw [← hdd] at hck
      have hdT : dd.hs.map (·.t) = dd.d.ts := rfl
      have hole := opsLe_of hck
      have hbdd := chk_bnd hck
      have hdl : dd.hs.length ≤ 128 := hbdd.t
      have hdtl : dd.d.ts.length = dd.hs.length := List.length_map _
      unfold dL
      refine RV.op (OV.alloc #[.string (Sv.bs []), .slice none 0 0, .slice none 0 0] I26 rfl gno rfl (fun p => ?_))
      refine RV.op (OV.store 4 [_, _, _] #[_, _, _] I26 rfl rfl rfl rfl rfl (Nat.le_of_ble_eq_true rfl) (by simp [Value.oneCell']) rfl gno ?_)
      refine RV.nil ?_
      refine KV.then_n ?_
      refine KV.env [(1, _), (2, _), (7, _)] ⟨rfl, rfl, rfl, trivial⟩ ?_
      refine CV.seq ?_
      -- region 4 law.go:290
      refine CV.region ?_
      refine RV.op (OV.step gno (Step.loadN _ Tryd.underlying26 rfl I26 rfl rfl (fun w h => h.cells 4 rfl)) rfl ?_)
      refine RV.op (OV.call [] (F := [_, _, _, _, _]) Tryd.func29 B29 N29 rfl rfl (fun w h => reachable_fn dd (DR.ofHp (k1 := 1) (k2 := 2) (k3 := 3) h rfl rfl rfl rfl)) (fun _ hb => hb.elim) gno rfl (fun v L' hp => ?_))
      rcases hp with ⟨_, Ai, ci, rfl, rfl⟩ | ⟨hno, _, _⟩
      rotate_left
      · exact absurd hck hno
      have hol := outR_len (rchM dd.d) dd.ss.length
      have hsl := hbdd.s
      refine RV.op (OV.step gno (Step.move rfl) rfl ?_)
      refine RV.op (OV.step gno (Step.extract0 rfl rfl) rfl ?_)
      refine RV.op (OV.step gno (Step.extract0 rfl rfl) rfl ?_)
      refine RV.op (OV.step gno (Step.assign rfl) rfl ?_)
      refine RV.op (OV.step gno (Step.assign rfl) rfl ?_)
      refine RV.nil ?_
      refine KV.then_n ?_
      refine KV.env [(1, _), (2, _), (7, _), (8, _), (9, _)] ⟨rfl, rfl, rfl, rfl, rfl, trivial⟩ ?_
      refine CV.seq ?_
      -- region 5 law.go:291
      refine CV.region ?_
      refine RV.op (OV.step gno (Step.loadN _ Tryd.underlying26 rfl I26 rfl rfl (fun w h => h.cells 4 rfl)) rfl ?_)
      refine RV.op (OV.call [] (F := [_, _, _, _, _, _]) Tryd.func18 B18 N18 rfl rfl (fun w h => new_fn dd (DR.ofHp (k1 := 1) (k2 := 2) (k3 := 3) h rfl rfl rfl rfl)) (fun _ hb => hb.elim) gno rfl (fun v L' hp => ?_))
      rcases hp with ⟨_, qa, da, hea, rfl, rfl⟩ | ⟨hno, _, _⟩
      rotate_left
      · exact absurd hck hno
      have hta : da.hs.map (·.t) = dd.d.ts := congrArg Dv.ts hea
      have hla : da.hs.length = dd.d.ts.length := by rw [← hta, List.length_map]
      have hba : Bnd da := hbdd.eq hea
      unfold instL
      refine RV.op (OV.step gno (Step.move rfl) rfl ?_)
      refine RV.op (OV.step gno (Step.extract0 rfl rfl) rfl ?_)
      refine RV.op (OV.step gno (Step.extract0 rfl rfl) rfl ?_)
      refine RV.op (OV.step gno (Step.assign rfl) rfl ?_)
      refine RV.op (OV.step gno (Step.assign rfl) rfl ?_)
      refine RV.nil ?_
      refine KV.then_n ?_
      refine KV.env [(1, _), (2, _), (7, _), (8, _), (9, _), (10, _), (11, _)] ⟨rfl, rfl, rfl, rfl, rfl, rfl, rfl, trivial⟩ ?_
      refine CV.seq ?_
      refine CV.seq ?_
      -- region 6 law.go:292
      refine CV.region ?_
      refine RV.op (OV.step gno (Step.move rfl) rfl ?_)
      refine RV.op (OV.split gno (Step.neq rfl rfl) rfl (fun n1 => ?_) (fun n1 => ?_))
      · -- True
        exact absurd rfl n1
      · -- False
        refine RV.op (OV.step gno (Step.move rfl) rfl ?_)
        refine RV.op (OV.step (gyes rfl) (Step.move rfl) rfl ?_)
        refine RV.op (OV.split (gyes rfl) (Step.neq rfl rfl) rfl (fun n2 => ?_) (fun n2 => ?_))
        · -- True
          exact absurd rfl n2
        · -- False
          refine RV.op (OV.step gno (Step.pick_f rfl rfl) rfl ?_)
          refine RV.op (OV.step gno (Step.move rfl) rfl ?_)
          refine RV.op (OV.step (gyes rfl) (Step.move rfl) rfl ?_)
          refine RV.op (OV.split (gyes rfl) (Step.eqlP Tryd.underlying40 rfl rfl) rfl (fun n3 => ?_) (fun n3 => ?_))
          · -- True
            cases n3
          · -- False
            refine RV.op (OV.step gno (Step.pick_f rfl rfl) rfl ?_)
            refine RV.nil ?_
            refine KV.then_n ?_
            refine KV.env [(1, _), (2, _), (7, _), (8, _), (10, _), (47, _)] ⟨rfl, rfl, rfl, rfl, rfl, rfl, trivial⟩ ?_
            refine CV.cond_f rfl ?_
            refine CV.skip ?_
            refine KV.then_n ?_
            refine KV.env [(1, _), (2, _), (7, _), (8, _), (10, _)] ⟨rfl, rfl, rfl, rfl, rfl, trivial⟩ ?_
            refine CV.seq ?_
            refine CV.seq ?_
            -- region 8 law.go:295
            refine CV.region ?_
            refine RV.op (OV.step gno (Step.assign rfl) rfl ?_)
            refine RV.nil ?_
            refine KV.then_n ?_
            refine KV.env [(1, _), (2, _), (7, _), (8, _), (10, _), (12, _)] ⟨rfl, rfl, rfl, rfl, rfl, rfl, trivial⟩ ?_
            refine CV.block ?_
            -- loop L9; live [1, 2, 7, 8, 10, 12]
            refine KV.sel [4, 1, 1, 1, 1, 1, 1, 1, 1] [_, _, _, _, _, _, _, _, _] rfl ?_
            refine CV.loop2 (fun (j : Nat) (s : IS) => j ≤ l.length ∧ RI dd.d s ∧ s.wt = false) (fun (j : Nat) (s : IS) => l.length - j) (fun (j : Nat) (s : IS) => [(1, .slice A l.length c), (2, .int .u64 v0), (7, .pointer (some ⟨p, 0, none⟩)), (8, .slice Ai (outR (rchM dd.d) dd.ss.length).length ci), (10, .pointer (some ⟨qa, 0, none⟩)), (12, .int .i64 j)]) (fun (j : Nat) (s : IS) => Hp I w [Blk p (.cells #[.string (bs dd.name), .slice dd.sA dd.ss.length dd.sc, .slice dd.tA dd.hs.length dd.tc] 26 (0, 0)), OS 9 strK dd.sA dd.sc dd.ss, OS 61 thK dd.tA dd.tc dd.hs, Big opA dd.hs, OS 3 (intK .i64) Ai ci (outR (rchM dd.d) dd.ss.length), Blk qa (.cells #[.string (bs da.name), .slice da.sA da.ss.length da.sc, .slice da.tA da.hs.length da.tc, .int .i64 (s.st), .bool s.wt, .int .i64 (s.cd)] 105 (0, 0)), OS 9 strK da.sA da.sc da.ss, OS 61 thK da.tA da.tc da.hs, Big opA da.hs]) (0) (⟨0, false, 0⟩) ⟨Nat.zero_le _, ri_start hck, rfl⟩ ⟨rfl, rfl, rfl, rfl, rfl, rfl, trivial⟩ (fun _ h => h) ?_
            intro j s hinv
            refine CV.seq ?_
            refine CV.seq ?_
            -- region 9 law.go:295
            refine CV.region ?_
            refine RV.op (OV.step gno (Step.move rfl) rfl ?_)
            refine RV.op (OV.step gno (Step.move rfl) rfl ?_)
            refine RV.op (OV.step gno (Step.lenSl Tryd.underlying32 rfl) rfl ?_)
            refine RV.op (OV.split gno (Step.lss rfl rfl) rfl (fun hj => ?_) (fun hj => ?_))
            · -- True
              refine RV.nil ?_
              refine KV.then_n ?_
              refine KV.env [(1, _), (2, _), (7, _), (8, _), (10, _), (12, _), (51, _)] ⟨rfl, rfl, rfl, rfl, rfl, rfl, rfl, trivial⟩ ?_
              refine CV.cond_t rfl ?_
              refine CV.skip ?_
              refine KV.then_n ?_
              refine KV.env [(1, _), (2, _), (7, _), (8, _), (10, _), (12, _)] ⟨rfl, rfl, rfl, rfl, rfl, rfl, trivial⟩ ?_
              refine CV.seq ?_
              refine CV.block ?_
              refine CV.seq ?_
              -- region 11 law.go:296
              refine CV.region ?_
              refine RV.op (OV.step gno (Step.move rfl) rfl ?_)
              refine RV.op (OV.step gno (Step.move rfl) rfl ?_)
              refine RV.op (OV.step gno (Step.move rfl) rfl ?_)
              refine RV.op (OV.step gno (Step.idx Tryd.underlying32 I3 (fun w h => (h.rs hl fun _ => hI _)) rfl rfl (rfl) _ rfl (by omega)) rfl ?_)
              refine RV.op (OV.step gno (Step.load Tryd.underlying3 rfl rfl (fun w h => (h.rs hl fun _ => hI _).cell0 (by omega) rfl)) rfl ?_)
              refine RV.op (OV.callP Tryd.func23 B23 N23 rfl (event_fn (l.getD j (intK .i64).d)) gno rfl ?_)
              refine RV.op (OV.call [5, 5, 5, 5] (F := [_, _, _, _, _]) Tryd.func22 B22 N22 rfl rfl (fun w h => handle_fn da s (evM (l.getD j (intK .i64).d)) hba) (fun _ hb => hb.elim) gno rfl (fun v L' hp => ?_))
              obtain ⟨A3, c3, rfl, rfl⟩ := hp
              rw [hta]
              have hAI := ai_hdl hck hinv.2.1 hinv.2.2 (evM (l.getD j (intK .i64).d))
              unfold instL
              refine RV.op (OV.step gno (Step.move rfl) rfl ?_)
              refine RV.op (OV.step gno (Step.extract0 rfl rfl) rfl ?_)
              refine RV.op (OV.step gno (Step.extract0 rfl rfl) rfl ?_)
              refine RV.op (OV.alloc #[.slice none 0 0, .bool false] I48 rfl gno rfl (fun x => ?_))
              refine RV.op (OV.store 10 [_, _] #[_, _] I48 rfl rfl rfl rfl rfl (Nat.le_of_ble_eq_true rfl) (by simp [Value.oneCell']) rfl gno ?_)
              refine RV.op (OV.step gno (Step.assign rfl) rfl ?_)
              refine RV.nil ?_
              refine KV.then_n ?_
              refine KV.env [(1, _), (2, _), (7, _), (8, _), (10, _), (12, _), (13, _), (14, _)] ⟨rfl, rfl, rfl, rfl, rfl, rfl, rfl, rfl, trivial⟩ ?_
              refine CV.seq ?_
              refine CV.seq ?_
              -- region 12 law.go:297
              refine CV.region ?_
              refine RV.op (OV.step gno (Step.assign rfl) rfl ?_)
              refine RV.nil ?_
              refine KV.then_n ?_
              refine KV.env [(1, _), (2, _), (7, _), (8, _), (10, _), (12, _), (13, _), (14, _), (15, _)] ⟨rfl, rfl, rfl, rfl, rfl, rfl, rfl, rfl, rfl, trivial⟩ ?_
              refine CV.block ?_
              -- loop L13; live [1, 2, 7, 8, 10, 12, 13, 14, 15]
              refine KV.sel [0, 0, 0, 0, 0, 0, 0, 0, 0, 1, 0] [_, _, _, _, _, _, _, _, _, _, _] rfl ?_
              refine CV.loop3 (fun (k : Nat) (M : IS × List Ro × Bool) (O : Option Addr × Nat) => AI dd.d k M.1 M.2.1 M.2.2) (fun (k : Nat) (M : IS × List Ro × Bool) (O : Option Addr × Nat) => dd.hs.length + 1 - k) (fun (k : Nat) (M : IS × List Ro × Bool) (O : Option Addr × Nat) => [(1, .slice A l.length c), (2, .int .u64 v0), (7, .pointer (some ⟨p, 0, none⟩)), (8, .slice Ai (outR (rchM dd.d) dd.ss.length).length ci), (10, .pointer (some ⟨qa, 0, none⟩)), (12, .int .i64 j), (13, .pointer (some ⟨x, 0, none⟩)), (14, .int .i64 0), (15, .int .i64 k)]) (fun (k : Nat) (M : IS × List Ro × Bool) (O : Option Addr × Nat) => Hp I w [Blk p (.cells #[.string (bs dd.name), .slice dd.sA dd.ss.length dd.sc, .slice dd.tA dd.hs.length dd.tc] 26 (0, 0)), OS 9 strK dd.sA dd.sc dd.ss, OS 61 thK dd.tA dd.tc dd.hs, Big opA dd.hs, OS 3 (intK .i64) Ai ci (outR (rchM dd.d) dd.ss.length), Blk qa (.cells #[.string (bs da.name), .slice da.sA da.ss.length da.sc, .slice da.tA da.hs.length da.tc, .int .i64 (M.1.st), .bool M.1.wt, .int .i64 (M.1.cd)] 105 (0, 0)), OS 9 strK da.sA da.sc da.ss, OS 61 thK da.tA da.tc da.hs, Big opA da.hs, Blk x (.cells #[.slice O.1 M.2.1.length O.2, .bool M.2.2] 48 (0, 0)), OS 71 roK O.1 O.2 M.2.1]) (0) ((hdlM dd.d.ts s (evM (l.getD j (intK .i64).d))).1) ((A3, c3)) hAI.1 ⟨rfl, rfl, rfl, rfl, rfl, rfl, rfl, (by rw [hAI.2]; rfl), rfl, trivial⟩ (fun _ h => h) ?_
              intro k M O hA
              refine CV.seq ?_
              refine CV.seq ?_
              -- region 13 law.go:297
              refine CV.region ?_
              refine RV.op (OV.step gno (Step.move rfl) rfl ?_)
              refine RV.op (OV.step gno (Step.fieldAddr rfl (F26_2 _ _)) rfl ?_)
              refine RV.op (OV.step gno (Step.load Tryd.underlying24 rfl rfl (fun w h => h.cell 0 rfl rfl)) rfl ?_)
              refine RV.op (OV.step gno (Step.lenSl Tryd.underlying24 rfl) rfl ?_)
              refine RV.op (OV.split gno (Step.leq rfl rfl) rfl (fun hk => ?_) (fun hk => ?_))
              · -- True
                refine RV.op (OV.step gno (Step.move rfl) rfl ?_)
                refine RV.op (OV.step (gyes rfl) (Step.move rfl) rfl ?_)
                refine RV.op (OV.split (gyes rfl) (Step.eql rfl rfl) rfl (fun n4 => ?_) (fun n4 => ?_))
                · -- True
                  refine RV.op (OV.step gno (Step.pick_t rfl rfl) rfl ?_)
                  refine RV.op (OV.step gno (Step.move rfl) rfl ?_)
                  refine RV.op (OV.step (gyes rfl) (Step.fieldAddr rfl (F48_1 _ _)) rfl ?_)
                  refine RV.op (OV.step (gyes rfl) (Step.load Tryd.underlying4 rfl rfl (fun w h => h.cell 9 rfl rfl)) rfl ?_)
                  refine RV.op (OV.step gno (Step.pick_t rfl rfl) rfl ?_)
                  refine RV.nil ?_
                  refine KV.then_n ?_
                  refine KV.env [(1, _), (2, _), (7, _), (8, _), (10, _), (12, _), (13, _), (14, _), (15, _), (76, _)] ⟨rfl, rfl, rfl, rfl, rfl, rfl, rfl, rfl, rfl, rfl, trivial⟩ ?_
                  refine KV.cases 76 rfl (fun cc2 => ?_) (fun cc2 => ?_)
                  · -- True
                    have hwt : M.2.2 = true := cc2
                    refine CV.cond_t rfl ?_
                    refine CV.skip ?_
                    refine KV.then_n ?_
                    refine KV.env [(1, _), (2, _), (7, _), (8, _), (10, _), (12, _), (13, _), (15, _)] ⟨rfl, rfl, rfl, rfl, rfl, rfl, rfl, rfl, trivial⟩ ?_
                    refine CV.seq ?_
                    refine CV.block ?_
                    refine CV.seq ?_
                    refine CV.seq ?_
                    -- region 15 law.go:298
                    obtain ⟨hkc, g, hg⟩ := hA.o hwt
                    have hA1 : AI dd.d k M.1 M.2.1 true := by have := hA; rw [hwt] at this; exact this
                    have hlen1 : M.2.1.length = 1 := by rw [hg]; rfl
                    have hwr : (M.2.1.getD 0 roK.d).wr = false := by rw [hg]; rfl
                    refine CV.region ?_
                    refine RV.op (OV.step gno (Step.move rfl) rfl ?_)
                    refine RV.op (OV.call [] (F := [_, _, _, _, _, _, _, _, _, _, _]) Tryd.func27 B27 N27 rfl rfl (fun w h => waiting_fn (d := da) (s := M.1) (h.blk 5 rfl)) (fun _ hb => hb.elim) gno rfl (fun v L' hp => ?_))
                    rw [hA.w, hwt] at hp
                    obtain ⟨rfl, rfl⟩ := hp
                    simp only [List.append_nil]
                    refine RV.op (OV.step gno (Step.not rfl) rfl ?_)
                    refine RV.op (OV.step gno (Step.move rfl) rfl ?_)
                    refine RV.op (OV.step (gyes rfl) (Step.fieldAddr rfl (F48_0 _ _)) rfl ?_)
                    refine RV.op (OV.step (gyes rfl) (Step.load Tryd.underlying46 rfl rfl (fun w h => h.cell 9 rfl rfl)) rfl ?_)
                    refine RV.op (OV.step (gyes rfl) (Step.lenSl Tryd.underlying46 rfl) rfl ?_)
                    refine RV.op (OV.split (gyes rfl) (Step.neq rfl rfl) rfl (fun nl => ?_) (fun nl => ?_))
                    · -- True
                      omega
                    · -- False
                      refine RV.op (OV.step gno (Step.pick_f rfl rfl) rfl ?_)
                      refine RV.op (OV.step gno (Step.move rfl) rfl ?_)
                      refine RV.op (OV.step (gyes rfl) (Step.fieldAddr rfl (F48_0 _ _)) rfl ?_)
                      refine RV.op (OV.step (gyes rfl) (Step.load Tryd.underlying46 rfl rfl (fun w h => h.cell 9 rfl rfl)) rfl ?_)
                      refine RV.op (OV.step (gyes rfl) (Step.idx Tryd.underlying46 I71 (fun w h => h.os 10 rfl) rfl rfl (rfl) _ (show (0 : Int) = ((0 : Nat) : Int) from rfl) (by omega)) rfl ?_)
                      refine RV.op (OV.step (gyes rfl) (Step.fieldAddr rfl (F71_0 _ _)) rfl ?_)
                      refine RV.op (OV.step (gyes rfl) (Step.load Tryd.underlying4 rfl rfl (fun w h => (h.os 10 rfl).cell0 (by omega) rfl)) rfl ?_)
                      rw [hwr]
                      refine RV.op (OV.step gno (Step.pick_f rfl rfl) rfl ?_)
                      refine RV.nil ?_
                      refine KV.then_n ?_
                      refine KV.env [(1, _), (2, _), (7, _), (8, _), (10, _), (12, _), (13, _), (15, _), (94, _)] ⟨rfl, rfl, rfl, rfl, rfl, rfl, rfl, rfl, rfl, trivial⟩ ?_
                      refine CV.cond_f rfl ?_
                      refine CV.skip ?_
                      refine KV.then_n ?_
                      refine KV.env [(1, _), (2, _), (7, _), (8, _), (10, _), (12, _), (13, _), (15, _)] ⟨rfl, rfl, rfl, rfl, rfl, rfl, rfl, rfl, trivial⟩ ?_
                      -- region 17 law.go:301
                      refine CV.region ?_
                      refine RV.op (OV.step gno (Step.move rfl) rfl ?_)
                      refine RV.op (OV.step gno (Step.move rfl) rfl ?_)
                      refine RV.op (OV.step gno (Step.move rfl) rfl ?_)
                      (first | refine RV.op (OV.step gno (Step.convI Tryd.underlying3 Tryd.underlying51 rfl (wU64 (by omega) (by omega))) rfl ?_) | refine RV.op (OV.step gno (Step.convI Tryd.underlying3 Tryd.underlying51 rfl rfl) rfl ?_))
                      refine RV.op (OV.step gno (Step.add rfl rfl (rfl)) rfl ?_)
                      refine RV.op (OV.call [5, 5, 5, 5] (F := [_, _, _, _, _, _, _]) Tryd.func20 B20 N20 rfl rfl (fun w h => reply_fn da M.1 (IntKind.u64.wrap (v0 + (j : Int))) hba (fun hw => by rw [hla]; exact (hA.ri.c hw).1)) (fun _ hb => hb.elim) gno rfl (fun v L' hp => ?_))
                      obtain ⟨A4, c4, rfl, rfl⟩ := hp
                      rw [hta]
                      have hA2 := ai_rpl hck hA1 (IntKind.u64.wrap (v0 + (j : Int)))
                      unfold instL
                      refine KV.sel [0, 0, 0, 0, 0, 2, 2, 2, 2, 0, 1] [_, _, _, _, _, _, _, _, _, _, _] rfl ?_
                      refine RV.op (OV.step gno (Step.move rfl) rfl ?_)
                      refine RV.op (OV.step gno (Step.extract0 rfl rfl) rfl ?_)
                      refine RV.op (OV.step gno (Step.extract0 rfl rfl) rfl ?_)
                      refine RV.op (OV.store 9 [_, _] #[_, _] I48 rfl rfl rfl rfl rfl (Nat.le_of_ble_eq_true rfl) (by simp [Value.oneCell']) rfl gno ?_)
                      refine RV.op (OV.step gno (Step.assign rfl) rfl ?_)
                      refine RV.nil ?_
                      refine KV.block_n ?_
                      refine KV.then_n ?_
                      refine KV.env [(1, _), (2, _), (7, _), (8, _), (10, _), (12, _), (13, _), (14, _), (15, _)] ⟨rfl, rfl, rfl, rfl, rfl, rfl, rfl, rfl, rfl, trivial⟩ ?_
                      -- region 14 law.go:297
                      refine CV.region ?_
                      refine RV.op (OV.step gno (Step.move rfl) rfl ?_)
                      (first | refine RV.op (OV.step gno (Step.add rfl rfl (wI64 (by omega) (by omega))) rfl ?_) | refine RV.op (OV.step gno (Step.add rfl rfl rfl) rfl ?_))
                      refine RV.op (OV.step gno (Step.assign rfl) rfl ?_)
                      refine RV.nil ?_
                      refine KV.then_n ?_
                      refine KV.env [(1, _), (2, _), (7, _), (8, _), (10, _), (12, _), (13, _), (14, _), (15, _)] ⟨rfl, rfl, rfl, rfl, rfl, rfl, rfl, rfl, rfl, trivial⟩ ?_
                      refine KV.sel [0, 0, 0, 0, 0, 0, 0, 0, 0, 0, 0] [_, _, _, _, _, _, _, _, _, _, _] rfl ?_
                      exact KV.loop3 (x := k) (y := M) (z := O) (k + 1) ((rplM dd.d.ts M.1 (IntKind.u64.wrap (v0 + (j : Int)))).1) ((A4, c4)) hA2.1 (by omega) ⟨rfl, rfl, rfl, rfl, rfl, rfl, rfl, (by rw [hA2.2]; rfl), rfl, trivial⟩ (fun _ h => h)
                  · -- False
                    have hwt : M.2.2 = false := cc2
                    refine CV.cond_f rfl ?_
                    refine CV.exit ?_
                    refine KV.then_exit ?_
                    refine KV.then_exit ?_
                    refine KV.block_hit ?_
                    refine KV.then_n ?_
                    refine KV.env [(1, _), (2, _), (7, _), (8, _), (10, _), (12, _), (13, _), (14, _)] ⟨rfl, rfl, rfl, rfl, rfl, rfl, rfl, rfl, trivial⟩ ?_
                    refine CV.seq ?_
                    refine CV.seq ?_
                    -- region 18 law.go:303
                    have hwf : M.2.2 = false := by first | exact hwt | exact hA.stop (by omega)
                    refine CV.region ?_
                    refine RV.op (OV.step gno (Step.move rfl) rfl ?_)
                    refine RV.op (OV.split gno (Step.neq rfl rfl) rfl (fun n5 => ?_) (fun n5 => ?_))
                    · -- True
                      exact absurd rfl n5
                    · -- False
                      refine RV.op (OV.step gno (Step.move rfl) rfl ?_)
                      refine RV.op (OV.step (gyes rfl) (Step.fieldAddr rfl (F48_1 _ _)) rfl ?_)
                      refine RV.op (OV.step (gyes rfl) (Step.load Tryd.underlying4 rfl rfl (fun w h => h.cell 9 rfl rfl)) rfl ?_)
                      rw [hwf]
                      refine RV.op (OV.step gno (Step.pick_f rfl rfl) rfl ?_)
                      refine RV.op (OV.step gno (Step.move rfl) rfl ?_)
                      refine RV.op (OV.step (gyes rfl) (Step.move rfl) rfl ?_)
                      refine RV.op (OV.call [] (F := [_, _, _, _, _, _, _, _, _, _, _]) Tryd.func27 B27 N27 rfl rfl (fun w h => waiting_fn (d := da) (s := M.1) (h.blk 5 rfl)) (fun _ hb => hb.elim) (gyes rfl) rfl (fun v L' hp => ?_))
                      rw [hA.w, hwf] at hp
                      obtain ⟨rfl, rfl⟩ := hp
                      simp only [List.append_nil]
                      refine RV.op (OV.step gno (Step.pick_f rfl rfl) rfl ?_)
                      refine RV.nil ?_
                      refine KV.then_n ?_
                      refine KV.env [(1, _), (2, _), (7, _), (8, _), (10, _), (12, _), (113, _)] ⟨rfl, rfl, rfl, rfl, rfl, rfl, rfl, trivial⟩ ?_
                      refine CV.cond_f rfl ?_
                      refine CV.skip ?_
                      refine KV.then_n ?_
                      refine KV.env [(1, _), (2, _), (7, _), (8, _), (10, _), (12, _)] ⟨rfl, rfl, rfl, rfl, rfl, rfl, trivial⟩ ?_
                      refine CV.seq ?_
                      -- region 20 law.go:306
                      refine CV.region ?_
                      refine RV.op (OV.step gno (Step.assign rfl) rfl ?_)
                      refine RV.nil ?_
                      refine KV.then_n ?_
                      refine KV.env [(1, _), (2, _), (7, _), (8, _), (10, _), (12, _), (16, _)] ⟨rfl, rfl, rfl, rfl, rfl, rfl, rfl, trivial⟩ ?_
                      refine CV.seq ?_
                      refine CV.seq ?_
                      -- region 21 law.go:307
                      refine CV.region ?_
                      refine RV.op (OV.step gno (Step.assign rfl) rfl ?_)
                      refine RV.nil ?_
                      refine KV.then_n ?_
                      refine KV.env [(1, _), (2, _), (7, _), (8, _), (10, _), (12, _), (16, _), (17, _)] ⟨rfl, rfl, rfl, rfl, rfl, rfl, rfl, rfl, trivial⟩ ?_
                      refine CV.block ?_
                      -- loop L22; live [1, 2, 7, 8, 10, 12, 16, 17]
                      refine KV.sel [0, 0, 0, 0, 0, 0, 0, 0, 0] [_, _, _, _, _, _, _, _, _] rfl ?_
                      refine CV.loopI (fun (i : Nat) => i ≤ (outR (rchM dd.d) dd.ss.length).length) (fun (i : Nat) => (outR (rchM dd.d) dd.ss.length).length - i) (fun (i : Nat) => [(1, .slice A l.length c), (2, .int .u64 v0), (7, .pointer (some ⟨p, 0, none⟩)), (8, .slice Ai (outR (rchM dd.d) dd.ss.length).length ci), (10, .pointer (some ⟨qa, 0, none⟩)), (12, .int .i64 j), (16, .bool (fndI (outR (rchM dd.d) dd.ss.length) M.1.st i)), (17, .int .i64 i)]) (fun (i : Nat) => Hp I w [Blk p (.cells #[.string (bs dd.name), .slice dd.sA dd.ss.length dd.sc, .slice dd.tA dd.hs.length dd.tc] 26 (0, 0)), OS 9 strK dd.sA dd.sc dd.ss, OS 61 thK dd.tA dd.tc dd.hs, Big opA dd.hs, OS 3 (intK .i64) Ai ci (outR (rchM dd.d) dd.ss.length), Blk qa (.cells #[.string (bs da.name), .slice da.sA da.ss.length da.sc, .slice da.tA da.hs.length da.tc, .int .i64 (M.1.st), .bool M.1.wt, .int .i64 (M.1.cd)] 105 (0, 0)), OS 9 strK da.sA da.sc da.ss, OS 61 thK da.tA da.tc da.hs, Big opA da.hs]) (0) (Nat.zero_le _) ⟨rfl, rfl, rfl, rfl, rfl, rfl, rfl, rfl, trivial⟩ (fun _ h => h) ?_
                      intro i hil
                      refine CV.seq ?_
                      refine CV.seq ?_
                      -- region 22 law.go:307
                      refine CV.region ?_
                      refine RV.op (OV.step gno (Step.move rfl) rfl ?_)
                      refine RV.op (OV.step gno (Step.move rfl) rfl ?_)
                      refine RV.op (OV.step gno (Step.lenSl Tryd.underlying32 rfl) rfl ?_)
                      refine RV.op (OV.split gno (Step.lss rfl rfl) rfl (fun hi => ?_) (fun hi => ?_))
                      · -- True
                        refine RV.nil ?_
                        refine KV.then_n ?_
                        refine KV.env [(1, _), (2, _), (7, _), (8, _), (10, _), (12, _), (16, _), (17, _), (117, _)] ⟨rfl, rfl, rfl, rfl, rfl, rfl, rfl, rfl, rfl, trivial⟩ ?_
                        refine CV.cond_t rfl ?_
                        refine CV.skip ?_
                        refine KV.then_n ?_
                        refine KV.env [(1, _), (2, _), (7, _), (8, _), (10, _), (12, _), (16, _), (17, _)] ⟨rfl, rfl, rfl, rfl, rfl, rfl, rfl, rfl, trivial⟩ ?_
                        refine CV.seq ?_
                        refine CV.block ?_
                        -- region 24 law.go:308
                        refine CV.any (Hp I w [OS 3 (intK .i64) Ai ci (outR (rchM dd.d) dd.ss.length)]) (by kernel_rfl) (fun _ h => h.drew) 11 rfl ?_
                        refine AV.take 0 #[true, false, false, false, false, false, false, false, false, false, false] rfl (by kernel_rfl) (by kernel_rfl) (by kernel_rfl) (fun _ _ _ h => h) gno (Step.move rfl) rfl (fun _ h => h.sel [4] rfl) (by kernel_rfl) ?_
                        refine AV.take 1 #[true, true, false, false, false, false, false, false, false, false, false] rfl (by kernel_rfl) (by kernel_rfl) (by kernel_rfl) (fun _ _ _ h => h) gno (Step.move rfl) rfl (fun _ h => h.sel [4] rfl) (by kernel_rfl) ?_
                        refine KV.cases 121 rfl (fun cc3 => ?_) (fun cc3 => ?_)
                        · -- True
                          have hk1 := cc3
                          refine AV.takeSkip 2 #[true, true, true, false, false, false, false, false, false, false, false] rfl (by kernel_rfl) (by kernel_rfl) (by kernel_rfl) (fun _ _ _ h => h) rfl rfl (fun _ h => h.sel [4] rfl) (by kernel_rfl) ?_
                          refine AV.takeSkip 3 #[true, true, true, true, false, false, false, false, false, false, false] rfl (by kernel_rfl) (by kernel_rfl) (by kernel_rfl) (fun _ _ _ h => h) rfl rfl (fun _ h => h.sel [4] rfl) (by kernel_rfl) ?_
                          refine AV.takeSkip 4 #[true, true, true, true, true, false, false, false, false, false, false] rfl (by kernel_rfl) (by kernel_rfl) (by kernel_rfl) (fun _ _ _ h => h) rfl rfl (fun _ h => h.sel [4] rfl) (by kernel_rfl) ?_
                          refine AV.takeSkip 5 #[true, true, true, true, true, true, false, false, false, false, false] rfl (by kernel_rfl) (by kernel_rfl) (by kernel_rfl) (fun _ _ _ h => h) rfl rfl (fun _ h => h.sel [4] rfl) (by kernel_rfl) ?_
                          refine AV.takeSkip 6 #[true, true, true, true, true, true, true, false, false, false, false] rfl (by kernel_rfl) (by kernel_rfl) (by kernel_rfl) (fun _ _ _ h => h) rfl rfl (fun _ h => h.sel [4] rfl) (by kernel_rfl) ?_
                          refine AV.takeSkip 7 #[true, true, true, true, true, true, true, true, false, false, false] rfl (by kernel_rfl) (by kernel_rfl) (by kernel_rfl) (fun _ _ _ h => h) rfl rfl (fun _ h => h.sel [4] rfl) (by kernel_rfl) ?_
                          refine AV.takeSkip 8 #[true, true, true, true, true, true, true, true, true, false, false] rfl (by kernel_rfl) (by kernel_rfl) (by kernel_rfl) (fun _ _ _ h => h) rfl rfl (fun _ h => h.sel [4] rfl) (by kernel_rfl) ?_
                          refine AV.take 9 #[true, true, true, true, true, true, true, true, true, true, false] rfl (by kernel_rfl) (by kernel_rfl) (by kernel_rfl) (fun _ _ _ h => h) gno (Step.pick_t rfl rfl) rfl (fun _ h => h.sel [4] rfl) (by kernel_rfl) ?_
                          refine AV.take 10 #[true, true, true, true, true, true, true, true, true, true, true] rfl (by kernel_rfl) (by kernel_rfl) (by kernel_rfl) (fun _ _ _ h => h) gno (Step.assign rfl) rfl (fun _ h => h.sel [4] rfl) (by kernel_rfl) ?_
                          refine AV.done (by kernel_rfl) ?_
                          refine KV.block_n ?_
                          refine KV.then_n ?_
                          refine KV.env [(1, _), (2, _), (7, _), (8, _), (10, _), (12, _), (16, _), (17, _)] ⟨rfl, rfl, rfl, rfl, rfl, rfl, rfl, rfl, trivial⟩ ?_
                          -- region 23 law.go:307
                          refine CV.region ?_
                          refine RV.op (OV.step gno (Step.move rfl) rfl ?_)
                          (first | refine RV.op (OV.step gno (Step.add rfl rfl (wI64 (by omega) (by omega))) rfl ?_) | refine RV.op (OV.step gno (Step.add rfl rfl rfl) rfl ?_))
                          refine RV.op (OV.step gno (Step.assign rfl) rfl ?_)
                          refine RV.nil ?_
                          refine KV.then_n ?_
                          refine KV.env [(1, _), (2, _), (7, _), (8, _), (10, _), (12, _), (16, _), (17, _)] ⟨rfl, rfl, rfl, rfl, rfl, rfl, rfl, rfl, trivial⟩ ?_
                          refine KV.sel [0, 0, 0, 0, 0, 0, 0, 0, 0] [_, _, _, _, _, _, _, _, _] rfl ?_
                          exact KV.loopI (z := i) (i + 1) (by omega) (by omega) ⟨rfl, rfl, rfl, rfl, rfl, rfl, (by first | (rw [fndI_1 hk1]; rfl) | (rw [fndI_2 hk0]; rfl)), rfl, trivial⟩ (fun _ h => h)
                        · -- False
                          have hk0 := cc3
                          refine AV.take 2 #[true, true, true, false, false, false, false, false, false, false, false] rfl (by kernel_rfl) (by kernel_rfl) (by kernel_rfl) (fun _ _ _ h => h) (gyes rfl) (Step.move rfl) rfl (fun _ h => h.sel [4] rfl) (by kernel_rfl) ?_
                          refine AV.take 3 #[true, true, true, true, false, false, false, false, false, false, false] rfl (by kernel_rfl) (by kernel_rfl) (by kernel_rfl) (fun _ _ _ h => h) (gyes rfl) (Step.move rfl) rfl (fun _ h => h.sel [4] rfl) (by kernel_rfl) ?_
                          refine AV.take 4 #[true, true, true, true, true, false, false, false, false, false, false] rfl (by kernel_rfl) (by kernel_rfl) (by kernel_rfl) (fun _ _ _ h => h) (gyes rfl) (Step.idx Tryd.underlying32 I3 (fun w h => h.os 0 rfl) rfl rfl (rfl) _ rfl (by omega)) rfl (fun _ h => h.sel [4] rfl) (by kernel_rfl) ?_
                          refine AV.take 5 #[true, true, true, true, true, true, false, false, false, false, false] rfl (by kernel_rfl) (by kernel_rfl) (by kernel_rfl) (fun _ _ _ h => h) (gyes rfl) (Step.load Tryd.underlying3 rfl rfl (fun w h => (h.os 0 rfl).cell0 (by omega) rfl)) rfl (fun _ h => h.sel [4] rfl) (by kernel_rfl) ?_
                          refine AV.take 6 #[true, true, true, true, true, true, true, false, false, false, false] rfl (by kernel_rfl) (by kernel_rfl) (by kernel_rfl) (fun _ _ _ h => h) (gyes rfl) (Step.move rfl) rfl (fun _ h => h.sel [4] rfl) (by kernel_rfl) ?_
                          refine AV.all [7] (by kernel_rfl) (by decide) ?_
                          refine ⟨⟨_, rfl, ?_⟩, trivial⟩
                          · -- 7 comes up
                            refine OV.call [] (F := [_, _, _, _, _, _, _, _, _]) Tryd.func26 B26 N26 rfl rfl (fun w h => state_fn (d := da) (s := M.1) (h.blk 5 rfl)) (fun _ hb => hb.elim) (gyes rfl) rfl (fun v L' hp => ?_)
                            obtain ⟨rfl, rfl⟩ := hp
                            simp only [List.append_nil]
                            refine AV.next #[true, true, true, true, true, true, true, true, false, false, false] (by kernel_rfl) (fun _ h => h.sel [4] rfl) ?_
                            refine AV.take 8 #[true, true, true, true, true, true, true, true, true, false, false] rfl (by kernel_rfl) (by kernel_rfl) (by kernel_rfl) (fun _ _ _ h => h) (gyes rfl) (Step.eql rfl rfl) rfl (fun _ h => h.sel [4] rfl) (by kernel_rfl) ?_
                            refine AV.take 9 #[true, true, true, true, true, true, true, true, true, true, false] rfl (by kernel_rfl) (by kernel_rfl) (by kernel_rfl) (fun _ _ _ h => h) gno (Step.pick_f rfl rfl) rfl (fun _ h => h.sel [4] rfl) (by kernel_rfl) ?_
                            refine AV.take 10 #[true, true, true, true, true, true, true, true, true, true, true] rfl (by kernel_rfl) (by kernel_rfl) (by kernel_rfl) (fun _ _ _ h => h) gno (Step.assign rfl) rfl (fun _ h => h.sel [4] rfl) (by kernel_rfl) ?_
                            refine AV.done (by kernel_rfl) ?_
                            refine KV.block_n ?_
                            refine KV.then_n ?_
                            refine KV.env [(1, _), (2, _), (7, _), (8, _), (10, _), (12, _), (16, _), (17, _)] ⟨rfl, rfl, rfl, rfl, rfl, rfl, rfl, rfl, trivial⟩ ?_
                            -- region 23 law.go:307
                            refine CV.region ?_
                            refine RV.op (OV.step gno (Step.move rfl) rfl ?_)
                            (first | refine RV.op (OV.step gno (Step.add rfl rfl (wI64 (by omega) (by omega))) rfl ?_) | refine RV.op (OV.step gno (Step.add rfl rfl rfl) rfl ?_))
                            refine RV.op (OV.step gno (Step.assign rfl) rfl ?_)
                            refine RV.nil ?_
                            refine KV.then_n ?_
                            refine KV.env [(1, _), (2, _), (7, _), (8, _), (10, _), (12, _), (16, _), (17, _)] ⟨rfl, rfl, rfl, rfl, rfl, rfl, rfl, rfl, trivial⟩ ?_
                            refine KV.sel [0, 0, 0, 0, 0, 0, 0, 0, 0] [_, _, _, _, _, _, _, _, _] rfl ?_
                            exact KV.loopI (z := i) (i + 1) (by omega) (by omega) ⟨rfl, rfl, rfl, rfl, rfl, rfl, (by first | (rw [fndI_1 hk1]; rfl) | (rw [fndI_2 hk0]; rfl)), rfl, trivial⟩ (fun _ h => h)
                      · -- False
                        refine RV.nil ?_
                        refine KV.then_n ?_
                        refine KV.env [(1, _), (2, _), (7, _), (8, _), (10, _), (12, _), (16, _), (17, _), (117, _)] ⟨rfl, rfl, rfl, rfl, rfl, rfl, rfl, rfl, rfl, trivial⟩ ?_
                        refine CV.cond_f rfl ?_
                        refine CV.exit ?_
                        refine KV.then_exit ?_
                        refine KV.then_exit ?_
                        refine KV.block_hit ?_
                        refine KV.then_n ?_
                        refine KV.env [(1, _), (2, _), (7, _), (8, _), (10, _), (12, _), (16, _)] ⟨rfl, rfl, rfl, rfl, rfl, rfl, rfl, trivial⟩ ?_
                        refine CV.seq ?_
                        -- region 25 law.go:310
                        obtain rfl : i = (outR (rchM dd.d) dd.ss.length).length := by omega
                        refine CV.region ?_
                        refine RV.op (OV.step gno (Step.move rfl) rfl ?_)
                        rw [fndI_iff.2 (show M.1.st ∈ (outR (rchM dd.d) dd.ss.length) from hA.mem)]
                        refine RV.op (OV.step gno (Step.not rfl) rfl ?_)
                        refine RV.nil ?_
                        refine KV.then_n ?_
                        refine KV.env [(1, _), (2, _), (7, _), (8, _), (10, _), (12, _), (131, _)] ⟨rfl, rfl, rfl, rfl, rfl, rfl, rfl, trivial⟩ ?_
                        refine CV.cond_f rfl ?_
                        refine CV.skip ?_
                        refine KV.block_n ?_
                        refine KV.then_n ?_
                        refine KV.env [(1, _), (2, _), (7, _), (8, _), (10, _), (12, _)] ⟨rfl, rfl, rfl, rfl, rfl, rfl, trivial⟩ ?_
                        -- region 10 law.go:295
                        refine CV.region ?_
                        refine RV.op (OV.step gno (Step.move rfl) rfl ?_)
                        (first | refine RV.op (OV.step gno (Step.add rfl rfl (wI64 (by omega) (by omega))) rfl ?_) | refine RV.op (OV.step gno (Step.add rfl rfl rfl) rfl ?_))
                        refine RV.op (OV.step gno (Step.assign rfl) rfl ?_)
                        refine RV.nil ?_
                        refine KV.then_n ?_
                        refine KV.env [(1, _), (2, _), (7, _), (8, _), (10, _), (12, _)] ⟨rfl, rfl, rfl, rfl, rfl, rfl, trivial⟩ ?_
                        refine KV.sel [0, 0, 0, 0, 0, 0, 0, 0, 0] [_, _, _, _, _, _, _, _, _] rfl ?_
                        exact KV.loop2 (x := j) (y := s) (j + 1) (M.1) ⟨by omega, hA.ri, hA.w.trans hwf⟩ (by omega) ⟨rfl, rfl, rfl, rfl, rfl, rfl, trivial⟩ (fun _ h => h)
                · -- False
                  exact absurd rfl n4
              · -- False
                refine RV.op (OV.step gno (Step.move rfl) rfl ?_)
                refine RV.op (OV.skip rfl rfl ?_)
                refine RV.op (OV.skip rfl rfl ?_)
                refine RV.op (OV.step gno (Step.pick_f rfl rfl) rfl ?_)
                refine RV.op (OV.step gno (Step.move rfl) rfl ?_)
                refine RV.op (OV.skip rfl rfl ?_)
                refine RV.op (OV.skip rfl rfl ?_)
                refine RV.op (OV.step gno (Step.pick_f rfl rfl) rfl ?_)
                refine RV.nil ?_
                refine KV.then_n ?_
                refine KV.env [(1, _), (2, _), (7, _), (8, _), (10, _), (12, _), (13, _), (14, _), (15, _), (76, _)] ⟨rfl, rfl, rfl, rfl, rfl, rfl, rfl, rfl, rfl, rfl, trivial⟩ ?_
                refine CV.cond_f rfl ?_
                refine CV.exit ?_
                refine KV.then_exit ?_
                refine KV.then_exit ?_
                refine KV.block_hit ?_
                refine KV.then_n ?_
                refine KV.env [(1, _), (2, _), (7, _), (8, _), (10, _), (12, _), (13, _), (14, _)] ⟨rfl, rfl, rfl, rfl, rfl, rfl, rfl, rfl, trivial⟩ ?_
                refine CV.seq ?_
                refine CV.seq ?_
                -- region 18 law.go:303
                have hwf : M.2.2 = false := by first | exact hwt | exact hA.stop (by omega)
                refine CV.region ?_
                refine RV.op (OV.step gno (Step.move rfl) rfl ?_)
                refine RV.op (OV.split gno (Step.neq rfl rfl) rfl (fun n5 => ?_) (fun n5 => ?_))
                · -- True
                  exact absurd rfl n5
                · -- False
                  refine RV.op (OV.step gno (Step.move rfl) rfl ?_)
                  refine RV.op (OV.step (gyes rfl) (Step.fieldAddr rfl (F48_1 _ _)) rfl ?_)
                  refine RV.op (OV.step (gyes rfl) (Step.load Tryd.underlying4 rfl rfl (fun w h => h.cell 9 rfl rfl)) rfl ?_)
                  rw [hwf]
                  refine RV.op (OV.step gno (Step.pick_f rfl rfl) rfl ?_)
                  refine RV.op (OV.step gno (Step.move rfl) rfl ?_)
                  refine RV.op (OV.step (gyes rfl) (Step.move rfl) rfl ?_)
                  refine RV.op (OV.call [] (F := [_, _, _, _, _, _, _, _, _, _, _]) Tryd.func27 B27 N27 rfl rfl (fun w h => waiting_fn (d := da) (s := M.1) (h.blk 5 rfl)) (fun _ hb => hb.elim) (gyes rfl) rfl (fun v L' hp => ?_))
                  rw [hA.w, hwf] at hp
                  obtain ⟨rfl, rfl⟩ := hp
                  simp only [List.append_nil]
                  refine RV.op (OV.step gno (Step.pick_f rfl rfl) rfl ?_)
                  refine RV.nil ?_
                  refine KV.then_n ?_
                  refine KV.env [(1, _), (2, _), (7, _), (8, _), (10, _), (12, _), (113, _)] ⟨rfl, rfl, rfl, rfl, rfl, rfl, rfl, trivial⟩ ?_
                  refine CV.cond_f rfl ?_
                  refine CV.skip ?_
                  refine KV.then_n ?_
                  refine KV.env [(1, _), (2, _), (7, _), (8, _), (10, _), (12, _)] ⟨rfl, rfl, rfl, rfl, rfl, rfl, trivial⟩ ?_
                  refine CV.seq ?_
                  -- region 20 law.go:306
                  refine CV.region ?_
                  refine RV.op (OV.step gno (Step.assign rfl) rfl ?_)
                  refine RV.nil ?_
                  refine KV.then_n ?_
                  refine KV.env [(1, _), (2, _), (7, _), (8, _), (10, _), (12, _), (16, _)] ⟨rfl, rfl, rfl, rfl, rfl, rfl, rfl, trivial⟩ ?_
                  refine CV.seq ?_
                  refine CV.seq ?_
                  -- region 21 law.go:307
                  refine CV.region ?_
                  refine RV.op (OV.step gno (Step.assign rfl) rfl ?_)
                  refine RV.nil ?_
                  refine KV.then_n ?_
                  refine KV.env [(1, _), (2, _), (7, _), (8, _), (10, _), (12, _), (16, _), (17, _)] ⟨rfl, rfl, rfl, rfl, rfl, rfl, rfl, rfl, trivial⟩ ?_
                  refine CV.block ?_
                  -- loop L22; live [1, 2, 7, 8, 10, 12, 16, 17]
                  refine KV.sel [0, 0, 0, 0, 0, 0, 0, 0, 0] [_, _, _, _, _, _, _, _, _] rfl ?_
                  refine CV.loopI (fun (i : Nat) => i ≤ (outR (rchM dd.d) dd.ss.length).length) (fun (i : Nat) => (outR (rchM dd.d) dd.ss.length).length - i) (fun (i : Nat) => [(1, .slice A l.length c), (2, .int .u64 v0), (7, .pointer (some ⟨p, 0, none⟩)), (8, .slice Ai (outR (rchM dd.d) dd.ss.length).length ci), (10, .pointer (some ⟨qa, 0, none⟩)), (12, .int .i64 j), (16, .bool (fndI (outR (rchM dd.d) dd.ss.length) M.1.st i)), (17, .int .i64 i)]) (fun (i : Nat) => Hp I w [Blk p (.cells #[.string (bs dd.name), .slice dd.sA dd.ss.length dd.sc, .slice dd.tA dd.hs.length dd.tc] 26 (0, 0)), OS 9 strK dd.sA dd.sc dd.ss, OS 61 thK dd.tA dd.tc dd.hs, Big opA dd.hs, OS 3 (intK .i64) Ai ci (outR (rchM dd.d) dd.ss.length), Blk qa (.cells #[.string (bs da.name), .slice da.sA da.ss.length da.sc, .slice da.tA da.hs.length da.tc, .int .i64 (M.1.st), .bool M.1.wt, .int .i64 (M.1.cd)] 105 (0, 0)), OS 9 strK da.sA da.sc da.ss, OS 61 thK da.tA da.tc da.hs, Big opA da.hs]) (0) (Nat.zero_le _) ⟨rfl, rfl, rfl, rfl, rfl, rfl, rfl, rfl, trivial⟩ (fun _ h => h) ?_
                  intro i hil
                  refine CV.seq ?_
                  refine CV.seq ?_
                  -- region 22 law.go:307
                  refine CV.region ?_
                  refine RV.op (OV.step gno (Step.move rfl) rfl ?_)
                  refine RV.op (OV.step gno (Step.move rfl) rfl ?_)
                  refine RV.op (OV.step gno (Step.lenSl Tryd.underlying32 rfl) rfl ?_)
                  refine RV.op (OV.split gno (Step.lss rfl rfl) rfl (fun hi => ?_) (fun hi => ?_))
                  · -- True
                    refine RV.nil ?_
                    refine KV.then_n ?_
                    refine KV.env [(1, _), (2, _), (7, _), (8, _), (10, _), (12, _), (16, _), (17, _), (117, _)] ⟨rfl, rfl, rfl, rfl, rfl, rfl, rfl, rfl, rfl, trivial⟩ ?_
                    refine CV.cond_t rfl ?_
                    refine CV.skip ?_
                    refine KV.then_n ?_
                    refine KV.env [(1, _), (2, _), (7, _), (8, _), (10, _), (12, _), (16, _), (17, _)] ⟨rfl, rfl, rfl, rfl, rfl, rfl, rfl, rfl, trivial⟩ ?_
                    refine CV.seq ?_
                    refine CV.block ?_
                    -- region 24 law.go:308
                    refine CV.any (Hp I w [OS 3 (intK .i64) Ai ci (outR (rchM dd.d) dd.ss.length)]) (by kernel_rfl) (fun _ h => h.drew) 11 rfl ?_
                    refine AV.take 0 #[true, false, false, false, false, false, false, false, false, false, false] rfl (by kernel_rfl) (by kernel_rfl) (by kernel_rfl) (fun _ _ _ h => h) gno (Step.move rfl) rfl (fun _ h => h.sel [4] rfl) (by kernel_rfl) ?_
                    refine AV.take 1 #[true, true, false, false, false, false, false, false, false, false, false] rfl (by kernel_rfl) (by kernel_rfl) (by kernel_rfl) (fun _ _ _ h => h) gno (Step.move rfl) rfl (fun _ h => h.sel [4] rfl) (by kernel_rfl) ?_
                    refine KV.cases 121 rfl (fun cc4 => ?_) (fun cc4 => ?_)
                    · -- True
                      have hk1 := cc4
                      refine AV.takeSkip 2 #[true, true, true, false, false, false, false, false, false, false, false] rfl (by kernel_rfl) (by kernel_rfl) (by kernel_rfl) (fun _ _ _ h => h) rfl rfl (fun _ h => h.sel [4] rfl) (by kernel_rfl) ?_
                      refine AV.takeSkip 3 #[true, true, true, true, false, false, false, false, false, false, false] rfl (by kernel_rfl) (by kernel_rfl) (by kernel_rfl) (fun _ _ _ h => h) rfl rfl (fun _ h => h.sel [4] rfl) (by kernel_rfl) ?_
                      refine AV.takeSkip 4 #[true, true, true, true, true, false, false, false, false, false, false] rfl (by kernel_rfl) (by kernel_rfl) (by kernel_rfl) (fun _ _ _ h => h) rfl rfl (fun _ h => h.sel [4] rfl) (by kernel_rfl) ?_
                      refine AV.takeSkip 5 #[true, true, true, true, true, true, false, false, false, false, false] rfl (by kernel_rfl) (by kernel_rfl) (by kernel_rfl) (fun _ _ _ h => h) rfl rfl (fun _ h => h.sel [4] rfl) (by kernel_rfl) ?_
                      refine AV.takeSkip 6 #[true, true, true, true, true, true, true, false, false, false, false] rfl (by kernel_rfl) (by kernel_rfl) (by kernel_rfl) (fun _ _ _ h => h) rfl rfl (fun _ h => h.sel [4] rfl) (by kernel_rfl) ?_
                      refine AV.takeSkip 7 #[true, true, true, true, true, true, true, true, false, false, false] rfl (by kernel_rfl) (by kernel_rfl) (by kernel_rfl) (fun _ _ _ h => h) rfl rfl (fun _ h => h.sel [4] rfl) (by kernel_rfl) ?_
                      refine AV.takeSkip 8 #[true, true, true, true, true, true, true, true, true, false, false] rfl (by kernel_rfl) (by kernel_rfl) (by kernel_rfl) (fun _ _ _ h => h) rfl rfl (fun _ h => h.sel [4] rfl) (by kernel_rfl) ?_
                      refine AV.take 9 #[true, true, true, true, true, true, true, true, true, true, false] rfl (by kernel_rfl) (by kernel_rfl) (by kernel_rfl) (fun _ _ _ h => h) gno (Step.pick_t rfl rfl) rfl (fun _ h => h.sel [4] rfl) (by kernel_rfl) ?_
                      refine AV.take 10 #[true, true, true, true, true, true, true, true, true, true, true] rfl (by kernel_rfl) (by kernel_rfl) (by kernel_rfl) (fun _ _ _ h => h) gno (Step.assign rfl) rfl (fun _ h => h.sel [4] rfl) (by kernel_rfl) ?_
                      refine AV.done (by kernel_rfl) ?_
                      refine KV.block_n ?_
                      refine KV.then_n ?_
                      refine KV.env [(1, _), (2, _), (7, _), (8, _), (10, _), (12, _), (16, _), (17, _)] ⟨rfl, rfl, rfl, rfl, rfl, rfl, rfl, rfl, trivial⟩ ?_
                      -- region 23 law.go:307
                      refine CV.region ?_
                      refine RV.op (OV.step gno (Step.move rfl) rfl ?_)
                      (first | refine RV.op (OV.step gno (Step.add rfl rfl (wI64 (by omega) (by omega))) rfl ?_) | refine RV.op (OV.step gno (Step.add rfl rfl rfl) rfl ?_))
                      refine RV.op (OV.step gno (Step.assign rfl) rfl ?_)
                      refine RV.nil ?_
                      refine KV.then_n ?_
                      refine KV.env [(1, _), (2, _), (7, _), (8, _), (10, _), (12, _), (16, _), (17, _)] ⟨rfl, rfl, rfl, rfl, rfl, rfl, rfl, rfl, trivial⟩ ?_
                      refine KV.sel [0, 0, 0, 0, 0, 0, 0, 0, 0] [_, _, _, _, _, _, _, _, _] rfl ?_
                      exact KV.loopI (z := i) (i + 1) (by omega) (by omega) ⟨rfl, rfl, rfl, rfl, rfl, rfl, (by first | (rw [fndI_1 hk1]; rfl) | (rw [fndI_2 hk0]; rfl)), rfl, trivial⟩ (fun _ h => h)
                    · -- False
                      have hk0 := cc4
                      refine AV.take 2 #[true, true, true, false, false, false, false, false, false, false, false] rfl (by kernel_rfl) (by kernel_rfl) (by kernel_rfl) (fun _ _ _ h => h) (gyes rfl) (Step.move rfl) rfl (fun _ h => h.sel [4] rfl) (by kernel_rfl) ?_
                      refine AV.take 3 #[true, true, true, true, false, false, false, false, false, false, false] rfl (by kernel_rfl) (by kernel_rfl) (by kernel_rfl) (fun _ _ _ h => h) (gyes rfl) (Step.move rfl) rfl (fun _ h => h.sel [4] rfl) (by kernel_rfl) ?_
                      refine AV.take 4 #[true, true, true, true, true, false, false, false, false, false, false] rfl (by kernel_rfl) (by kernel_rfl) (by kernel_rfl) (fun _ _ _ h => h) (gyes rfl) (Step.idx Tryd.underlying32 I3 (fun w h => h.os 0 rfl) rfl rfl (rfl) _ rfl (by omega)) rfl (fun _ h => h.sel [4] rfl) (by kernel_rfl) ?_
                      refine AV.take 5 #[true, true, true, true, true, true, false, false, false, false, false] rfl (by kernel_rfl) (by kernel_rfl) (by kernel_rfl) (fun _ _ _ h => h) (gyes rfl) (Step.load Tryd.underlying3 rfl rfl (fun w h => (h.os 0 rfl).cell0 (by omega) rfl)) rfl (fun _ h => h.sel [4] rfl) (by kernel_rfl) ?_
                      refine AV.take 6 #[true, true, true, true, true, true, true, false, false, false, false] rfl (by kernel_rfl) (by kernel_rfl) (by kernel_rfl) (fun _ _ _ h => h) (gyes rfl) (Step.move rfl) rfl (fun _ h => h.sel [4] rfl) (by kernel_rfl) ?_
                      refine AV.all [7] (by kernel_rfl) (by decide) ?_
                      refine ⟨⟨_, rfl, ?_⟩, trivial⟩
                      · -- 7 comes up
                        refine OV.call [] (F := [_, _, _, _, _, _, _, _, _]) Tryd.func26 B26 N26 rfl rfl (fun w h => state_fn (d := da) (s := M.1) (h.blk 5 rfl)) (fun _ hb => hb.elim) (gyes rfl) rfl (fun v L' hp => ?_)
                        obtain ⟨rfl, rfl⟩ := hp
                        simp only [List.append_nil]
                        refine AV.next #[true, true, true, true, true, true, true, true, false, false, false] (by kernel_rfl) (fun _ h => h.sel [4] rfl) ?_
                        refine AV.take 8 #[true, true, true, true, true, true, true, true, true, false, false] rfl (by kernel_rfl) (by kernel_rfl) (by kernel_rfl) (fun _ _ _ h => h) (gyes rfl) (Step.eql rfl rfl) rfl (fun _ h => h.sel [4] rfl) (by kernel_rfl) ?_
                        refine AV.take 9 #[true, true, true, true, true, true, true, true, true, true, false] rfl (by kernel_rfl) (by kernel_rfl) (by kernel_rfl) (fun _ _ _ h => h) gno (Step.pick_f rfl rfl) rfl (fun _ h => h.sel [4] rfl) (by kernel_rfl) ?_
                        refine AV.take 10 #[true, true, true, true, true, true, true, true, true, true, true] rfl (by kernel_rfl) (by kernel_rfl) (by kernel_rfl) (fun _ _ _ h => h) gno (Step.assign rfl) rfl (fun _ h => h.sel [4] rfl) (by kernel_rfl) ?_
                        refine AV.done (by kernel_rfl) ?_
                        refine KV.block_n ?_
                        refine KV.then_n ?_
                        refine KV.env [(1, _), (2, _), (7, _), (8, _), (10, _), (12, _), (16, _), (17, _)] ⟨rfl, rfl, rfl, rfl, rfl, rfl, rfl, rfl, trivial⟩ ?_
                        -- region 23 law.go:307
                        refine CV.region ?_
                        refine RV.op (OV.step gno (Step.move rfl) rfl ?_)
                        (first | refine RV.op (OV.step gno (Step.add rfl rfl (wI64 (by omega) (by omega))) rfl ?_) | refine RV.op (OV.step gno (Step.add rfl rfl rfl) rfl ?_))
                        refine RV.op (OV.step gno (Step.assign rfl) rfl ?_)
                        refine RV.nil ?_
                        refine KV.then_n ?_
                        refine KV.env [(1, _), (2, _), (7, _), (8, _), (10, _), (12, _), (16, _), (17, _)] ⟨rfl, rfl, rfl, rfl, rfl, rfl, rfl, rfl, trivial⟩ ?_
                        refine KV.sel [0, 0, 0, 0, 0, 0, 0, 0, 0] [_, _, _, _, _, _, _, _, _] rfl ?_
                        exact KV.loopI (z := i) (i + 1) (by omega) (by omega) ⟨rfl, rfl, rfl, rfl, rfl, rfl, (by first | (rw [fndI_1 hk1]; rfl) | (rw [fndI_2 hk0]; rfl)), rfl, trivial⟩ (fun _ h => h)
                  · -- False
                    refine RV.nil ?_
                    refine KV.then_n ?_
                    refine KV.env [(1, _), (2, _), (7, _), (8, _), (10, _), (12, _), (16, _), (17, _), (117, _)] ⟨rfl, rfl, rfl, rfl, rfl, rfl, rfl, rfl, rfl, trivial⟩ ?_
                    refine CV.cond_f rfl ?_
                    refine CV.exit ?_
                    refine KV.then_exit ?_
                    refine KV.then_exit ?_
                    refine KV.block_hit ?_
                    refine KV.then_n ?_
                    refine KV.env [(1, _), (2, _), (7, _), (8, _), (10, _), (12, _), (16, _)] ⟨rfl, rfl, rfl, rfl, rfl, rfl, rfl, trivial⟩ ?_
                    refine CV.seq ?_
                    -- region 25 law.go:310
                    obtain rfl : i = (outR (rchM dd.d) dd.ss.length).length := by omega
                    refine CV.region ?_
                    refine RV.op (OV.step gno (Step.move rfl) rfl ?_)
                    rw [fndI_iff.2 (show M.1.st ∈ (outR (rchM dd.d) dd.ss.length) from hA.mem)]
                    refine RV.op (OV.step gno (Step.not rfl) rfl ?_)
                    refine RV.nil ?_
                    refine KV.then_n ?_
                    refine KV.env [(1, _), (2, _), (7, _), (8, _), (10, _), (12, _), (131, _)] ⟨rfl, rfl, rfl, rfl, rfl, rfl, rfl, trivial⟩ ?_
                    refine CV.cond_f rfl ?_
                    refine CV.skip ?_
                    refine KV.block_n ?_
                    refine KV.then_n ?_
                    refine KV.env [(1, _), (2, _), (7, _), (8, _), (10, _), (12, _)] ⟨rfl, rfl, rfl, rfl, rfl, rfl, trivial⟩ ?_
                    -- region 10 law.go:295
                    refine CV.region ?_
                    refine RV.op (OV.step gno (Step.move rfl) rfl ?_)
                    (first | refine RV.op (OV.step gno (Step.add rfl rfl (wI64 (by omega) (by omega))) rfl ?_) | refine RV.op (OV.step gno (Step.add rfl rfl rfl) rfl ?_))
                    refine RV.op (OV.step gno (Step.assign rfl) rfl ?_)
                    refine RV.nil ?_
                    refine KV.then_n ?_
                    refine KV.env [(1, _), (2, _), (7, _), (8, _), (10, _), (12, _)] ⟨rfl, rfl, rfl, rfl, rfl, rfl, trivial⟩ ?_
                    refine KV.sel [0, 0, 0, 0, 0, 0, 0, 0, 0] [_, _, _, _, _, _, _, _, _] rfl ?_
                    exact KV.loop2 (x := j) (y := s) (j + 1) (M.1) ⟨by omega, hA.ri, hA.w.trans hwf⟩ (by omega) ⟨rfl, rfl, rfl, rfl, rfl, rfl, trivial⟩ (fun _ h => h)
            · -- False
              refine RV.nil ?_
              refine KV.then_n ?_
              refine KV.env [(1, _), (2, _), (7, _), (8, _), (10, _), (12, _), (51, _)] ⟨rfl, rfl, rfl, rfl, rfl, rfl, rfl, trivial⟩ ?_
              refine CV.cond_f rfl ?_
              refine CV.exit ?_
              refine KV.then_exit ?_
              refine KV.then_exit ?_
              refine KV.block_hit ?_
              refine KV.then_n ?_
              refine KV.env [] trivial ?_
              refine CV.seq ?_
              -- region 27 law.go:314
              refine CV.region ?_
              refine RV.op (OV.call [] (F := [_, _, _, _, _, _, _, _, _]) Tryd.func10 B10 N10 rfl rfl (fun w h => awake_fn (EvR.keep h hE (hro 4 rfl))) (fun b hb => roAt4 hE hro b hb) gno rfl (fun v L' hp => ?_))
              obtain ⟨rfl, rfl⟩ := hp
              simp only [List.append_nil]
              refine RV.op (OV.step gno (Step.assign rfl) rfl ?_)
              refine RV.nil ?_
              refine KV.then_n ?_
              refine KV.env [(6, _)] ⟨rfl, trivial⟩ ?_
              refine CV.ret ?_
              -- return at r27
              refine KV.sel [] [] rfl ?_
              exact KV.ret1 rfl rfl _ (fun _ h => h) ⟨rfl, rfl⟩
end Go.Proofs.YtplmfekhdaefaaaDoor
