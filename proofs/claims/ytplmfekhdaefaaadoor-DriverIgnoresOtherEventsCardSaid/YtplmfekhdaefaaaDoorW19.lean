/-
  Walks, part 19.
-/
import Derived.Test.YtplmfekhdaefaaaDoorTab19
import Derived.Test.YtplmfekhdaefaaaDoorW18
import Derived.Test.YtplmfekhdaefaaaDoorDmB
set_option linter.unusedSimpArgs false
set_option linter.unusedVariables false
namespace Go.Proofs.YtplmfekhdaefaaaDoor
open Go.Sv Go.Drv
set_option maxRecDepth 100000 in
set_option maxHeartbeats 16000000 in
theorem ignores_fn (raw : DH) {A : Option Addr} {c : Nat} (l : List Int) (other : Bs) {w : World} (hE : EvR w) (hd : DR w raw) (hl : RS w (intK .i64) A l) : Fx Tryd.prog 6 [.agg #[.string (bs raw.name), .slice raw.sA raw.ss.length raw.sc, .slice raw.tA raw.hs.length raw.tc], .slice A l.length c, .string (bs other)] w [] at4 (fun v L => v = .bool true ∧ L = []) := by
  refine Sv.Fx.body Tryd.func6 rfl T6 rfl ?_
  intro I hro hI
  refine KV.env [(0, _), (1, _), (2, _)] ⟨rfl, rfl, rfl, trivial⟩ ?_
  refine CV.seq ?_
  -- region 0 law.go:318
  refine CV.region ?_
  refine RV.op (OV.box (t := 26) #[_, _, _] rfl rfl gno rfl (fun b0 => ?_))
  refine RV.op (OV.step gno (Step.assign rfl) rfl ?_)
  refine RV.nil ?_
  refine KV.then_n ?_
  refine KV.env [(1, _), (2, _), (3, _)] ⟨rfl, rfl, rfl, trivial⟩ ?_
  refine CV.seq ?_
  refine CV.seq ?_
  -- region 1 law.go:319
  refine CV.region ?_
  refine RV.op (OV.step gno (Step.loadN _ Tryd.underlying26 rfl I26 rfl rfl (fun w h => h.cells 0 rfl)) rfl ?_)
  refine RV.op (OV.call [] (F := [_]) Tryd.func16 B16 N16 rfl rfl (fun w h => large_fn raw (DR.keep h hd hI)) (fun _ hb => hb.elim) gno rfl (fun v L' hp => ?_))
  obtain ⟨rfl, rfl⟩ := hp
  simp only [List.append_nil]
  refine RV.op (OV.step gno (Step.move rfl) rfl ?_)
  refine KV.cases 23 rfl (fun cc1 => ?_) (fun cc1 => ?_)
  · -- True
    refine RV.op (OV.skip rfl rfl ?_)
    refine RV.op (OV.skip rfl rfl ?_)
    refine RV.op (OV.skip rfl rfl ?_)
    refine RV.op (OV.step gno (Step.pick_t rfl rfl) rfl ?_)
    refine RV.nil ?_
    refine KV.then_n ?_
    refine KV.env [(1, _), (2, _), (3, _), (27, _)] ⟨rfl, rfl, rfl, rfl, trivial⟩ ?_
    refine CV.cond_t rfl ?_
    refine CV.seq ?_
    -- region 2 law.go:320
    refine CV.region ?_
    refine RV.op (OV.call [] (F := [_]) Tryd.func10 B10 N10 rfl rfl (fun w h => awake_fn (EvR.keep h hE (hro 4 rfl))) (fun b hb => roAt4 hE hro b hb) gno rfl (fun v L' hp => ?_))
    obtain ⟨rfl, rfl⟩ := hp
    simp only [List.append_nil]
    refine RV.op (OV.step gno (Step.assign rfl) rfl ?_)
    refine RV.nil ?_
    refine KV.then_n ?_
    refine KV.env [(6, _)] ⟨rfl, trivial⟩ ?_
    refine CV.ret ?_
    refine KV.then_ret ?_
    -- return at r2
    refine KV.sel [] [] rfl ?_
    exact KV.ret1 rfl rfl _ (fun _ h => h) ⟨rfl, rfl⟩
  · -- False
    have hsm := lrg_sml cc1
    have hsm1 : raw.ss.length ≤ 40 := hsm.1
    refine RV.op (OV.step (gyes rfl) (Step.move rfl) rfl ?_)
    refine RV.op (OV.step (gyes rfl) (Step.lenSl Tryd.underlying32 rfl) rfl ?_)
    refine RV.op (OV.split (gyes rfl) (Step.gtr rfl rfl) rfl (fun h30 => ?_) (fun h30 => ?_))
    · -- True
      refine RV.op (OV.step gno (Step.pick_f rfl rfl) rfl ?_)
      refine RV.nil ?_
      refine KV.then_n ?_
      refine KV.env [(1, _), (2, _), (3, _), (27, _)] ⟨rfl, rfl, rfl, rfl, trivial⟩ ?_
      refine CV.cond_t rfl ?_
      refine CV.seq ?_
      -- region 2 law.go:320
      refine CV.region ?_
      refine RV.op (OV.call [] (F := [_]) Tryd.func10 B10 N10 rfl rfl (fun w h => awake_fn (EvR.keep h hE (hro 4 rfl))) (fun b hb => roAt4 hE hro b hb) gno rfl (fun v L' hp => ?_))
      obtain ⟨rfl, rfl⟩ := hp
      simp only [List.append_nil]
      refine RV.op (OV.step gno (Step.assign rfl) rfl ?_)
      refine RV.nil ?_
      refine KV.then_n ?_
      refine KV.env [(6, _)] ⟨rfl, trivial⟩ ?_
      refine CV.ret ?_
      refine KV.then_ret ?_
      -- return at r2
      refine KV.sel [] [] rfl ?_
      exact KV.ret1 rfl rfl _ (fun _ h => h) ⟨rfl, rfl⟩
    · -- False
      refine RV.op (OV.step gno (Step.pick_f rfl rfl) rfl ?_)
      refine RV.nil ?_
      refine KV.then_n ?_
      refine KV.env [(1, _), (2, _), (3, _), (27, _)] ⟨rfl, rfl, rfl, rfl, trivial⟩ ?_
      refine CV.cond_f rfl ?_
      refine CV.skip ?_
      refine KV.then_n ?_
      refine KV.env [(1, _), (2, _), (3, _)] ⟨rfl, rfl, rfl, trivial⟩ ?_
      refine CV.seq ?_
      -- region 3 law.go:322
      refine CV.region ?_
      refine RV.op (OV.step gno (Step.loadN _ Tryd.underlying26 rfl I26 rfl rfl (fun w h => h.cells 0 rfl)) rfl ?_)
      refine RV.op (OV.call [] (F := [_]) Tryd.func17 B17 N17 rfl rfl (fun w h => some_fn raw (DR.keep h hd hI) (by omega)) (fun _ hb => hb.elim) gno rfl (fun v L' hp => ?_))
      obtain ⟨dd, rfl, hdd, rfl⟩ := hp
      have hck := some_chk raw.d
      rw [← hdd] at hck
      have hdT : dd.hs.map (·.t) = dd.d.ts := rfl
      have hole := opsLe_of hck
      have hbdd := chk_bnd hck
      have hdl : dd.hs.length ≤ 128 := hbdd.t
      unfold dL
      refine RV.op (OV.alloc #[.string (Sv.bs []), .slice none 0 0, .slice none 0 0] I26 rfl gno rfl (fun p => ?_))
      refine RV.op (OV.store 4 [_, _, _] #[_, _, _] I26 rfl rfl rfl rfl rfl (Nat.le_of_ble_eq_true rfl) (by simp [Value.oneCell']) rfl gno ?_)
      refine RV.nil ?_
      refine KV.then_n ?_
      refine KV.env [(1, _), (2, _), (7, _)] ⟨rfl, rfl, rfl, trivial⟩ ?_
      refine CV.seq ?_
      -- region 4 law.go:323
      refine CV.region ?_
      refine RV.op (OV.step gno (Step.loadN _ Tryd.underlying26 rfl I26 rfl rfl (fun w h => h.cells 4 rfl)) rfl ?_)
      refine RV.op (OV.call [] (F := [_, _, _, _, _]) Tryd.func18 B18 N18 rfl rfl (fun w h => new_fn dd (DR.ofHp (k1 := 1) (k2 := 2) (k3 := 3) h rfl rfl rfl rfl)) (fun _ hb => hb.elim) gno rfl (fun v L' hp => ?_))
      rcases hp with ⟨_, qa, da, hea, rfl, rfl⟩ | ⟨hno, _, _⟩
      rotate_left
      · exact absurd hck hno
      have hta : da.hs.map (·.t) = dd.d.ts := congrArg Dv.ts hea
      have hla : da.hs.length = dd.d.ts.length := by rw [← hta, List.length_map]
      have hba : Bnd da := hbdd.eq hea
      unfold instL
      refine RV.op (OV.step gno (Step.move rfl) rfl ?_)
      refine RV.op (OV.step gno (Step.extract0 rfl rfl) rfl ?_)
      refine RV.op (OV.step gno (Step.extract0 rfl rfl) rfl ?_)
      refine RV.op (OV.step gno (Step.assign rfl) rfl ?_)
      refine RV.op (OV.step gno (Step.assign rfl) rfl ?_)
      refine RV.nil ?_
      refine KV.then_n ?_
      refine KV.env [(1, _), (2, _), (7, _), (8, _), (9, _)] ⟨rfl, rfl, rfl, rfl, rfl, trivial⟩ ?_
      refine CV.seq ?_
      -- region 5 law.go:324
      refine CV.region ?_
      refine RV.op (OV.step gno (Step.loadN _ Tryd.underlying26 rfl I26 rfl rfl (fun w h => h.cells 4 rfl)) rfl ?_)
      refine RV.op (OV.call [] (F := [_, _, _, _, _, _, _, _, _]) Tryd.func18 B18 N18 rfl rfl (fun w h => new_fn dd (DR.ofHp (k1 := 1) (k2 := 2) (k3 := 3) h rfl rfl rfl rfl)) (fun _ hb => hb.elim) gno rfl (fun v L' hp => ?_))
      rcases hp with ⟨_, qb, db, heb, rfl, rfl⟩ | ⟨hno, _, _⟩
      rotate_left
      · exact absurd hck hno
      have htb : db.hs.map (·.t) = dd.d.ts := congrArg Dv.ts heb
      have hlb : db.hs.length = dd.d.ts.length := by rw [← htb, List.length_map]
      have hbb : Bnd db := hbdd.eq heb
      unfold instL
      refine RV.op (OV.step gno (Step.move rfl) rfl ?_)
      refine RV.op (OV.step gno (Step.extract0 rfl rfl) rfl ?_)
      refine RV.op (OV.step gno (Step.extract0 rfl rfl) rfl ?_)
      refine RV.op (OV.step gno (Step.assign rfl) rfl ?_)
      refine RV.op (OV.step gno (Step.assign rfl) rfl ?_)
      refine RV.nil ?_
      refine KV.then_n ?_
      refine KV.env [(1, _), (2, _), (7, _), (8, _), (9, _), (10, _), (11, _)] ⟨rfl, rfl, rfl, rfl, rfl, rfl, rfl, trivial⟩ ?_
      refine CV.seq ?_
      refine CV.seq ?_
      -- region 6 law.go:325
      refine CV.region ?_
      refine RV.op (OV.step gno (Step.move rfl) rfl ?_)
      refine RV.op (OV.split gno (Step.neq rfl rfl) rfl (fun n1 => ?_) (fun n1 => ?_))
      · -- True
        exact absurd rfl n1
      · -- False
        refine RV.op (OV.step gno (Step.move rfl) rfl ?_)
        refine RV.op (OV.step (gyes rfl) (Step.move rfl) rfl ?_)
        refine RV.op (OV.split (gyes rfl) (Step.neq rfl rfl) rfl (fun n2 => ?_) (fun n2 => ?_))
        · -- True
          exact absurd rfl n2
        · -- False
          refine RV.op (OV.step gno (Step.pick_f rfl rfl) rfl ?_)
          refine RV.op (OV.step gno (Step.move rfl) rfl ?_)
          refine RV.op (OV.step (gyes rfl) (Step.move rfl) rfl ?_)
          refine RV.op (OV.split (gyes rfl) (Step.eqlP Tryd.underlying40 rfl rfl) rfl (fun n3 => ?_) (fun n3 => ?_))
          · -- True
            cases n3
          · -- False
            refine RV.op (OV.step gno (Step.pick_f rfl rfl) rfl ?_)
            refine RV.op (OV.step gno (Step.move rfl) rfl ?_)
            refine RV.op (OV.step (gyes rfl) (Step.move rfl) rfl ?_)
            refine RV.op (OV.split (gyes rfl) (Step.eqlP Tryd.underlying40 rfl rfl) rfl (fun n4 => ?_) (fun n4 => ?_))
            · -- True
              cases n4
            · -- False
              refine RV.op (OV.step gno (Step.pick_f rfl rfl) rfl ?_)
              refine RV.nil ?_
              refine KV.then_n ?_
              refine KV.env [(1, _), (2, _), (7, _), (8, _), (10, _), (54, _)] ⟨rfl, rfl, rfl, rfl, rfl, rfl, trivial⟩ ?_
              refine CV.cond_f rfl ?_
              refine CV.skip ?_
              refine KV.then_n ?_
              refine KV.env [(1, _), (2, _), (7, _), (8, _), (10, _)] ⟨rfl, rfl, rfl, rfl, rfl, trivial⟩ ?_
              refine CV.seq ?_
              refine CV.seq ?_
              -- region 8 law.go:328
              refine CV.region ?_
              refine RV.op (OV.step gno (Step.assign rfl) rfl ?_)
              refine RV.nil ?_
              refine KV.then_n ?_
              refine KV.env [(1, _), (2, _), (7, _), (8, _), (10, _), (12, _)] ⟨rfl, rfl, rfl, rfl, rfl, rfl, trivial⟩ ?_
              refine CV.block ?_
              -- loop L9; live [1, 2, 7, 8, 10, 12]
              refine KV.sel [4, 1, 1, 1, 1, 1, 1, 1, 1, 1, 1, 1] [_, _, _, _, _, _, _, _, _, _, _, _] rfl ?_
              refine CV.loop2 (fun (j : Nat) (s : IS) => j ≤ l.length ∧ ISok dd.d.ts s) (fun (j : Nat) (s : IS) => l.length - j) (fun (j : Nat) (s : IS) => [(1, .slice A l.length c), (2, .string (bs other)), (7, .pointer (some ⟨p, 0, none⟩)), (8, .pointer (some ⟨qa, 0, none⟩)), (10, .pointer (some ⟨qb, 0, none⟩)), (12, .int .i64 j)]) (fun (j : Nat) (s : IS) => Hp I w [Blk p (.cells #[.string (bs dd.name), .slice dd.sA dd.ss.length dd.sc, .slice dd.tA dd.hs.length dd.tc] 26 (0, 0)), OS 9 strK dd.sA dd.sc dd.ss, OS 61 thK dd.tA dd.tc dd.hs, Big opA dd.hs, Blk qa (.cells #[.string (bs da.name), .slice da.sA da.ss.length da.sc, .slice da.tA da.hs.length da.tc, .int .i64 (s.st), .bool s.wt, .int .i64 (s.cd)] 105 (0, 0)), OS 9 strK da.sA da.sc da.ss, OS 61 thK da.tA da.tc da.hs, Big opA da.hs, Blk qb (.cells #[.string (bs db.name), .slice db.sA db.ss.length db.sc, .slice db.tA db.hs.length db.tc, .int .i64 (s.st), .bool s.wt, .int .i64 (s.cd)] 105 (0, 0)), OS 9 strK db.sA db.sc db.ss, OS 61 thK db.tA db.tc db.hs, Big opA db.hs]) (0) (⟨0, false, 0⟩) ⟨Nat.zero_le _, fun h => by cases h⟩ ⟨rfl, rfl, rfl, rfl, rfl, rfl, trivial⟩ (fun _ h => h) ?_
              intro j s hinv
              refine CV.seq ?_
              refine CV.seq ?_
              -- region 9 law.go:328
              refine CV.region ?_
              refine RV.op (OV.step gno (Step.move rfl) rfl ?_)
              refine RV.op (OV.step gno (Step.move rfl) rfl ?_)
              refine RV.op (OV.step gno (Step.lenSl Tryd.underlying32 rfl) rfl ?_)
              refine RV.op (OV.split gno (Step.lss rfl rfl) rfl (fun hj => ?_) (fun hj => ?_))
              · -- True
                refine RV.nil ?_
                refine KV.then_n ?_
                refine KV.env [(1, _), (2, _), (7, _), (8, _), (10, _), (12, _), (58, _)] ⟨rfl, rfl, rfl, rfl, rfl, rfl, rfl, trivial⟩ ?_
                refine CV.cond_t rfl ?_
                refine CV.skip ?_
                refine KV.then_n ?_
                refine KV.env [(1, _), (2, _), (7, _), (8, _), (10, _), (12, _)] ⟨rfl, rfl, rfl, rfl, rfl, rfl, trivial⟩ ?_
                refine CV.seq ?_
                refine CV.block ?_
                refine CV.seq ?_
                -- region 11 law.go:329
                refine CV.region ?_
                refine RV.op (OV.step gno (Step.assign rfl) rfl ?_)
                refine RV.nil ?_
                refine KV.then_n ?_
                refine KV.env [(1, _), (2, _), (7, _), (8, _), (10, _), (12, _), (13, _)] ⟨rfl, rfl, rfl, rfl, rfl, rfl, rfl, trivial⟩ ?_
                refine CV.seq ?_
                refine CV.seq ?_
                -- region 12 law.go:330
                refine CV.region ?_
                refine RV.op (OV.step gno (Step.assign rfl) rfl ?_)
                refine RV.nil ?_
                refine KV.then_n ?_
                refine KV.env [(1, _), (2, _), (7, _), (8, _), (10, _), (12, _), (13, _), (14, _)] ⟨rfl, rfl, rfl, rfl, rfl, rfl, rfl, rfl, trivial⟩ ?_
                refine CV.block ?_
                -- loop L13; live [1, 2, 7, 8, 10, 12, 13, 14]
                refine KV.sel [0, 0, 0, 0, 0, 0, 0, 0, 0, 0, 0, 0] [_, _, _, _, _, _, _, _, _, _, _, _] rfl ?_
                refine CV.loopI (fun (k : Nat) => k ≤ dd.hs.length) (fun (k : Nat) => dd.hs.length - k) (fun (k : Nat) => [(1, .slice A l.length c), (2, .string (bs other)), (7, .pointer (some ⟨p, 0, none⟩)), (8, .pointer (some ⟨qa, 0, none⟩)), (10, .pointer (some ⟨qb, 0, none⟩)), (12, .int .i64 j), (13, .bool (knw dd.hs s.st other k)), (14, .int .i64 k)]) (fun (k : Nat) => Hp I w [Blk p (.cells #[.string (bs dd.name), .slice dd.sA dd.ss.length dd.sc, .slice dd.tA dd.hs.length dd.tc] 26 (0, 0)), OS 9 strK dd.sA dd.sc dd.ss, OS 61 thK dd.tA dd.tc dd.hs, Big opA dd.hs, Blk qa (.cells #[.string (bs da.name), .slice da.sA da.ss.length da.sc, .slice da.tA da.hs.length da.tc, .int .i64 (s.st), .bool s.wt, .int .i64 (s.cd)] 105 (0, 0)), OS 9 strK da.sA da.sc da.ss, OS 61 thK da.tA da.tc da.hs, Big opA da.hs, Blk qb (.cells #[.string (bs db.name), .slice db.sA db.ss.length db.sc, .slice db.tA db.hs.length db.tc, .int .i64 (s.st), .bool s.wt, .int .i64 (s.cd)] 105 (0, 0)), OS 9 strK db.sA db.sc db.ss, OS 61 thK db.tA db.tc db.hs, Big opA db.hs]) (0) (Nat.zero_le _) ⟨rfl, rfl, rfl, rfl, rfl, rfl, rfl, rfl, trivial⟩ (fun _ h => h) ?_
                intro k hkl
                refine CV.seq ?_
                refine CV.seq ?_
                -- region 13 law.go:330
                refine CV.region ?_
                refine RV.op (OV.step gno (Step.move rfl) rfl ?_)
                refine RV.op (OV.step gno (Step.fieldAddr rfl (F26_2 _ _)) rfl ?_)
                refine RV.op (OV.step gno (Step.load Tryd.underlying24 rfl rfl (fun w h => h.cell 0 rfl rfl)) rfl ?_)
                refine RV.op (OV.step gno (Step.lenSl Tryd.underlying24 rfl) rfl ?_)
                refine RV.op (OV.split gno (Step.lss rfl rfl) rfl (fun hk => ?_) (fun hk => ?_))
                · -- True
                  refine RV.nil ?_
                  refine KV.then_n ?_
                  refine KV.env [(1, _), (2, _), (7, _), (8, _), (10, _), (12, _), (13, _), (14, _), (65, _)] ⟨rfl, rfl, rfl, rfl, rfl, rfl, rfl, rfl, rfl, trivial⟩ ?_
                  refine CV.cond_t rfl ?_
                  refine CV.skip ?_
                  refine KV.then_n ?_
                  refine KV.env [(1, _), (2, _), (7, _), (8, _), (10, _), (12, _), (13, _), (14, _)] ⟨rfl, rfl, rfl, rfl, rfl, rfl, rfl, rfl, trivial⟩ ?_
                  refine CV.seq ?_
                  refine CV.block ?_
                  -- region 15 law.go:331
                  refine CV.any (Hp I w [OS 61 thK dd.tA dd.tc dd.hs, Blk p (.cells #[.string (bs dd.name), .slice dd.sA dd.ss.length dd.sc, .slice dd.tA dd.hs.length dd.tc] 26 (0, 0))]) (by kernel_rfl) (fun _ h => h.drew) 23 rfl ?_
                  refine AV.take 0 #[true, false, false, false, false, false, false, false, false, false, false, false, false, false, false, false, false, false, false, false, false, false, false] rfl (by kernel_rfl) (by kernel_rfl) (by kernel_rfl) (fun _ _ _ h => h) gno (Step.move rfl) rfl (fun _ h => h.sel [2, 0] rfl) (by kernel_rfl) ?_
                  refine AV.take 1 #[true, true, false, false, false, false, false, false, false, false, false, false, false, false, false, false, false, false, false, false, false, false, false] rfl (by kernel_rfl) (by kernel_rfl) (by kernel_rfl) (fun _ _ _ h => h) gno (Step.move rfl) rfl (fun _ h => h.sel [2, 0] rfl) (by kernel_rfl) ?_
                  refine KV.cases 69 rfl (fun cc2 => ?_) (fun cc2 => ?_)
                  · -- True
                    have hk1 := cc2
                    refine AV.takeSkip 2 #[true, true, true, false, false, false, false, false, false, false, false, false, false, false, false, false, false, false, false, false, false, false, false] rfl (by kernel_rfl) (by kernel_rfl) (by kernel_rfl) (fun _ _ _ h => h) rfl rfl (fun _ h => h.sel [2, 0] rfl) (by kernel_rfl) ?_
                    refine AV.takeSkip 3 #[true, true, true, true, false, false, false, false, false, false, false, false, false, false, false, false, false, false, false, false, false, false, false] rfl (by kernel_rfl) (by kernel_rfl) (by kernel_rfl) (fun _ _ _ h => h) rfl rfl (fun _ h => h.sel [2, 0] rfl) (by kernel_rfl) ?_
                    refine AV.takeSkip 4 #[true, true, true, true, true, false, false, false, false, false, false, false, false, false, false, false, false, false, false, false, false, false, false] rfl (by kernel_rfl) (by kernel_rfl) (by kernel_rfl) (fun _ _ _ h => h) rfl rfl (fun _ h => h.sel [2, 0] rfl) (by kernel_rfl) ?_
                    refine AV.takeSkip 5 #[true, true, true, true, true, true, false, false, false, false, false, false, false, false, false, false, false, false, false, false, false, false, false] rfl (by kernel_rfl) (by kernel_rfl) (by kernel_rfl) (fun _ _ _ h => h) rfl rfl (fun _ h => h.sel [2, 0] rfl) (by kernel_rfl) ?_
                    refine AV.takeSkip 6 #[true, true, true, true, true, true, true, false, false, false, false, false, false, false, false, false, false, false, false, false, false, false, false] rfl (by kernel_rfl) (by kernel_rfl) (by kernel_rfl) (fun _ _ _ h => h) rfl rfl (fun _ h => h.sel [2, 0] rfl) (by kernel_rfl) ?_
                    refine AV.takeSkip 7 #[true, true, true, true, true, true, true, true, false, false, false, false, false, false, false, false, false, false, false, false, false, false, false] rfl (by kernel_rfl) (by kernel_rfl) (by kernel_rfl) (fun _ _ _ h => h) rfl rfl (fun _ h => h.sel [2, 0] rfl) (by kernel_rfl) ?_
                    refine AV.takeSkip 8 #[true, true, true, true, true, true, true, true, true, false, false, false, false, false, false, false, false, false, false, false, false, false, false] rfl (by kernel_rfl) (by kernel_rfl) (by kernel_rfl) (fun _ _ _ h => h) rfl rfl (fun _ h => h.sel [2, 0] rfl) (by kernel_rfl) ?_
                    refine AV.takeSkip 9 #[true, true, true, true, true, true, true, true, true, true, false, false, false, false, false, false, false, false, false, false, false, false, false] rfl (by kernel_rfl) (by kernel_rfl) (by kernel_rfl) (fun _ _ _ h => h) rfl rfl (fun _ h => h.sel [2, 0] rfl) (by kernel_rfl) ?_
                    refine AV.takeSkip 10 #[true, true, true, true, true, true, true, true, true, true, true, false, false, false, false, false, false, false, false, false, false, false, false] rfl (by kernel_rfl) (by kernel_rfl) (by kernel_rfl) (fun _ _ _ h => h) rfl rfl (fun _ h => h.sel [2, 0] rfl) (by kernel_rfl) ?_
                    refine AV.takeSkip 11 #[true, true, true, true, true, true, true, true, true, true, true, true, false, false, false, false, false, false, false, false, false, false, false] rfl (by kernel_rfl) (by kernel_rfl) (by kernel_rfl) (fun _ _ _ h => h) rfl rfl (fun _ h => h.sel [2, 0] rfl) (by kernel_rfl) ?_
                    refine AV.takeSkipU 12 #[true, true, true, true, true, true, true, true, true, true, true, true, true, false, false, false, false, false, false, false, false, false, false] rfl (by kernel_rfl) (by kernel_rfl) (by kernel_rfl) (fun _ _ _ h => h) rfl rfl (fun _ h => h.sel [2, 0] rfl) (by kernel_rfl) ?_
                    refine AV.takeSkipU 13 #[true, true, true, true, true, true, true, true, true, true, true, true, true, true, false, false, false, false, false, false, false, false, false] rfl (by kernel_rfl) (by kernel_rfl) (by kernel_rfl) (fun _ _ _ h => h) rfl rfl (fun _ h => h.sel [2, 0] rfl) (by kernel_rfl) ?_
                    refine AV.takeSkipU 14 #[true, true, true, true, true, true, true, true, true, true, true, true, true, true, true, false, false, false, false, false, false, false, false] rfl (by kernel_rfl) (by kernel_rfl) (by kernel_rfl) (fun _ _ _ h => h) rfl rfl (fun _ h => h.sel [2, 0] rfl) (by kernel_rfl) ?_
                    refine AV.takeSkipU 15 #[true, true, true, true, true, true, true, true, true, true, true, true, true, true, true, true, false, false, false, false, false, false, false] rfl (by kernel_rfl) (by kernel_rfl) (by kernel_rfl) (fun _ _ _ h => h) rfl rfl (fun _ h => h.sel [2, 0] rfl) (by kernel_rfl) ?_
                    refine AV.takeSkipU 16 #[true, true, true, true, true, true, true, true, true, true, true, true, true, true, true, true, true, false, false, false, false, false, false] rfl (by kernel_rfl) (by kernel_rfl) (by kernel_rfl) (fun _ _ _ h => h) rfl rfl (fun _ h => h.sel [2, 0] rfl) (by kernel_rfl) ?_
                    refine AV.takeSkipU 17 #[true, true, true, true, true, true, true, true, true, true, true, true, true, true, true, true, true, true, false, false, false, false, false] rfl (by kernel_rfl) (by kernel_rfl) (by kernel_rfl) (fun _ _ _ h => h) rfl rfl (fun _ h => h.sel [2, 0] rfl) (by kernel_rfl) ?_
                    refine AV.takeSkipU 18 #[true, true, true, true, true, true, true, true, true, true, true, true, true, true, true, true, true, true, true, false, false, false, false] rfl (by kernel_rfl) (by kernel_rfl) (by kernel_rfl) (fun _ _ _ h => h) rfl rfl (fun _ h => h.sel [2, 0] rfl) (by kernel_rfl) ?_
                    refine AV.takeSkipU 19 #[true, true, true, true, true, true, true, true, true, true, true, true, true, true, true, true, true, true, true, true, false, false, false] rfl (by kernel_rfl) (by kernel_rfl) (by kernel_rfl) (fun _ _ _ h => h) rfl rfl (fun _ h => h.sel [2, 0] rfl) (by kernel_rfl) ?_
                    refine AV.takeSkip 20 #[true, true, true, true, true, true, true, true, true, true, true, true, true, true, true, true, true, true, true, true, true, false, false] rfl (by kernel_rfl) (by kernel_rfl) (by kernel_rfl) (fun _ _ _ h => h) rfl rfl (fun _ h => h.sel [2, 0] rfl) (by kernel_rfl) ?_
                    refine AV.take 21 #[true, true, true, true, true, true, true, true, true, true, true, true, true, true, true, true, true, true, true, true, true, true, false] rfl (by kernel_rfl) (by kernel_rfl) (by kernel_rfl) (fun _ _ _ h => h) gno (Step.pick_t rfl rfl) rfl (fun _ h => h.sel [2, 0] rfl) (by kernel_rfl) ?_
                    refine AV.take 22 #[true, true, true, true, true, true, true, true, true, true, true, true, true, true, true, true, true, true, true, true, true, true, true] rfl (by kernel_rfl) (by kernel_rfl) (by kernel_rfl) (fun _ _ _ h => h) gno (Step.assign rfl) rfl (fun _ h => h.sel [2, 0] rfl) (by kernel_rfl) ?_
                    refine AV.done (by kernel_rfl) ?_
                    refine KV.block_n ?_
                    refine KV.then_n ?_
                    refine KV.env [(1, _), (2, _), (7, _), (8, _), (10, _), (12, _), (13, _), (14, _)] ⟨rfl, rfl, rfl, rfl, rfl, rfl, rfl, rfl, trivial⟩ ?_
                    -- region 14 law.go:330
                    refine CV.region ?_
                    refine RV.op (OV.step gno (Step.move rfl) rfl ?_)
                    (first | refine RV.op (OV.step gno (Step.add rfl rfl (wI64 (by omega) (by omega))) rfl ?_) | refine RV.op (OV.step gno (Step.add rfl rfl rfl) rfl ?_))
                    refine RV.op (OV.step gno (Step.assign rfl) rfl ?_)
                    refine RV.nil ?_
                    refine KV.then_n ?_
                    refine KV.env [(1, _), (2, _), (7, _), (8, _), (10, _), (12, _), (13, _), (14, _)] ⟨rfl, rfl, rfl, rfl, rfl, rfl, rfl, rfl, trivial⟩ ?_
                    refine KV.sel [0, 0, 0, 0, 0, 0, 0, 0, 0, 0, 0, 0] [_, _, _, _, _, _, _, _, _, _, _, _] rfl ?_
                    exact KV.loopI (z := k) (k + 1) (by omega) (by omega) ⟨rfl, rfl, rfl, rfl, rfl, rfl, (by first | (rw [knw_1 hk1]; rfl) | (rw [knw_2 hk0 hf1]; rfl) | (rw [knw_3 hk0 hf0]; rfl)), rfl, trivial⟩ (fun _ h => h)
                  · -- False
                    have hk0 := cc2
                    refine AV.take 2 #[true, true, true, false, false, false, false, false, false, false, false, false, false, false, false, false, false, false, false, false, false, false, false] rfl (by kernel_rfl) (by kernel_rfl) (by kernel_rfl) (fun _ _ _ h => h) (gyes rfl) (Step.fieldAddr rfl (F26_2 _ _)) rfl (fun _ h => h.sel [2, 0] rfl) (by kernel_rfl) ?_
                    refine AV.take 3 #[true, true, true, true, false, false, false, false, false, false, false, false, false, false, false, false, false, false, false, false, false, false, false] rfl (by kernel_rfl) (by kernel_rfl) (by kernel_rfl) (fun _ _ _ h => h) (gyes rfl) (Step.load Tryd.underlying24 rfl rfl (fun w h => h.cell 1 rfl rfl)) rfl (fun _ h => h.sel [2, 0] rfl) (by kernel_rfl) ?_
                    refine AV.take 4 #[true, true, true, true, true, false, false, false, false, false, false, false, false, false, false, false, false, false, false, false, false, false, false] rfl (by kernel_rfl) (by kernel_rfl) (by kernel_rfl) (fun _ _ _ h => h) (gyes rfl) (Step.move rfl) rfl (fun _ h => h.sel [2, 0] rfl) (by kernel_rfl) ?_
                    refine AV.take 5 #[true, true, true, true, true, true, false, false, false, false, false, false, false, false, false, false, false, false, false, false, false, false, false] rfl (by kernel_rfl) (by kernel_rfl) (by kernel_rfl) (fun _ _ _ h => h) (gyes rfl) (Step.idx Tryd.underlying24 I61 (fun w h => h.os 0 rfl) rfl rfl (rfl) _ rfl (by omega)) rfl (fun _ h => h.sel [2, 0] rfl) (by kernel_rfl) ?_
                    refine AV.take 6 #[true, true, true, true, true, true, true, false, false, false, false, false, false, false, false, false, false, false, false, false, false, false, false] rfl (by kernel_rfl) (by kernel_rfl) (by kernel_rfl) (fun _ _ _ h => h) (gyes rfl) (Step.fieldAddr rfl (F61_0 _ _)) rfl (fun _ h => h.sel [2, 0] rfl) (by kernel_rfl) ?_
                    refine AV.take 7 #[true, true, true, true, true, true, true, true, false, false, false, false, false, false, false, false, false, false, false, false, false, false, false] rfl (by kernel_rfl) (by kernel_rfl) (by kernel_rfl) (fun _ _ _ h => h) (gyes rfl) (Step.load Tryd.underlying3 rfl rfl (fun w h => (h.os 0 rfl).cell0 (by omega) rfl)) rfl (fun _ h => h.sel [2, 0] rfl) (by kernel_rfl) ?_
                    refine AV.take 8 #[true, true, true, true, true, true, true, true, true, false, false, false, false, false, false, false, false, false, false, false, false, false, false] rfl (by kernel_rfl) (by kernel_rfl) (by kernel_rfl) (fun _ _ _ h => h) (gyes rfl) (Step.move rfl) rfl (fun _ h => h.sel [2, 0] rfl) (by kernel_rfl) ?_
                    refine AV.all [9] (by kernel_rfl) (by decide) ?_
                    refine ⟨⟨_, rfl, ?_⟩, trivial⟩
                    · -- 9 comes up
                      refine OV.call [] (F := [_, _, _, _, _, _, _, _, _, _, _, _]) Tryd.func26 B26 N26 rfl rfl (fun w h => state_fn (d := da) (s := s) (h.blk 4 rfl)) (fun _ hb => hb.elim) (gyes rfl) rfl (fun v L' hp => ?_)
                      obtain ⟨rfl, rfl⟩ := hp
                      simp only [List.append_nil]
                      refine AV.next #[true, true, true, true, true, true, true, true, true, true, false, false, false, false, false, false, false, false, false, false, false, false, false] (by kernel_rfl) (fun _ h => h.sel [2, 0] rfl) ?_
                      refine AV.take 10 #[true, true, true, true, true, true, true, true, true, true, true, false, false, false, false, false, false, false, false, false, false, false, false] rfl (by kernel_rfl) (by kernel_rfl) (by kernel_rfl) (fun _ _ _ h => h) (gyes rfl) (Step.eql rfl rfl) rfl (fun _ h => h.sel [2, 0] rfl) (by kernel_rfl) ?_
                      refine AV.take 11 #[true, true, true, true, true, true, true, true, true, true, true, true, false, false, false, false, false, false, false, false, false, false, false] rfl (by kernel_rfl) (by kernel_rfl) (by kernel_rfl) (fun _ _ _ h => h) (gyes rfl) (Step.move rfl) rfl (fun _ h => h.sel [2, 0] rfl) (by kernel_rfl) ?_
                      refine KV.cases 79 rfl (fun cc3 => ?_) (fun cc3 => ?_)
                      · -- True
                        have hf1 := of_decide_eq_true cc3
                        refine AV.take 12 #[true, true, true, true, true, true, true, true, true, true, true, true, true, false, false, false, false, false, false, false, false, false, false] rfl (by kernel_rfl) (by kernel_rfl) (by kernel_rfl) (fun _ _ _ h => h) (gyes rfl) (Step.fieldAddr rfl (F26_2 _ _)) rfl (fun _ h => h.sel [2, 0] rfl) (by kernel_rfl) ?_
                        refine AV.take 13 #[true, true, true, true, true, true, true, true, true, true, true, true, true, true, false, false, false, false, false, false, false, false, false] rfl (by kernel_rfl) (by kernel_rfl) (by kernel_rfl) (fun _ _ _ h => h) (gyes rfl) (Step.load Tryd.underlying24 rfl rfl (fun w h => h.cell 1 rfl rfl)) rfl (fun _ h => h.sel [2, 0] rfl) (by kernel_rfl) ?_
                        refine AV.take 14 #[true, true, true, true, true, true, true, true, true, true, true, true, true, true, true, false, false, false, false, false, false, false, false] rfl (by kernel_rfl) (by kernel_rfl) (by kernel_rfl) (fun _ _ _ h => h) (gyes rfl) (Step.move rfl) rfl (fun _ h => h.sel [2, 0] rfl) (by kernel_rfl) ?_
                        refine AV.take 15 #[true, true, true, true, true, true, true, true, true, true, true, true, true, true, true, true, false, false, false, false, false, false, false] rfl (by kernel_rfl) (by kernel_rfl) (by kernel_rfl) (fun _ _ _ h => h) (gyes rfl) (Step.idx Tryd.underlying24 I61 (fun w h => h.os 0 rfl) rfl rfl (rfl) _ rfl (by omega)) rfl (fun _ h => h.sel [2, 0] rfl) (by kernel_rfl) ?_
                        refine AV.take 16 #[true, true, true, true, true, true, true, true, true, true, true, true, true, true, true, true, true, false, false, false, false, false, false] rfl (by kernel_rfl) (by kernel_rfl) (by kernel_rfl) (fun _ _ _ h => h) (gyes rfl) (Step.fieldAddr rfl (F61_1 _ _)) rfl (fun _ h => h.sel [2, 0] rfl) (by kernel_rfl) ?_
                        refine AV.take 17 #[true, true, true, true, true, true, true, true, true, true, true, true, true, true, true, true, true, true, false, false, false, false, false] rfl (by kernel_rfl) (by kernel_rfl) (by kernel_rfl) (fun _ _ _ h => h) (gyes rfl) (Step.load Tryd.underlying9 rfl rfl (fun w h => (h.os 0 rfl).cell (by omega) rfl)) rfl (fun _ h => h.sel [2, 0] rfl) (by kernel_rfl) ?_
                        refine AV.take 18 #[true, true, true, true, true, true, true, true, true, true, true, true, true, true, true, true, true, true, true, false, false, false, false] rfl (by kernel_rfl) (by kernel_rfl) (by kernel_rfl) (fun _ _ _ h => h) (gyes rfl) (Step.move rfl) rfl (fun _ h => h.sel [2, 0] rfl) (by kernel_rfl) ?_
                        refine AV.take 19 #[true, true, true, true, true, true, true, true, true, true, true, true, true, true, true, true, true, true, true, true, false, false, false] rfl (by kernel_rfl) (by kernel_rfl) (by kernel_rfl) (fun _ _ _ h => h) (gyes rfl) (Step.eqlStr rfl rfl) rfl (fun _ h => h.sel [2, 0] rfl) (by kernel_rfl) ?_
                        refine AV.take 20 #[true, true, true, true, true, true, true, true, true, true, true, true, true, true, true, true, true, true, true, true, true, false, false] rfl (by kernel_rfl) (by kernel_rfl) (by kernel_rfl) (fun _ _ _ h => h) (gyes rfl) (Step.pick_t rfl rfl) rfl (fun _ h => h.sel [2, 0] rfl) (by kernel_rfl) ?_
                        refine AV.take 21 #[true, true, true, true, true, true, true, true, true, true, true, true, true, true, true, true, true, true, true, true, true, true, false] rfl (by kernel_rfl) (by kernel_rfl) (by kernel_rfl) (fun _ _ _ h => h) gno (Step.pick_f rfl rfl) rfl (fun _ h => h.sel [2, 0] rfl) (by kernel_rfl) ?_
                        refine AV.take 22 #[true, true, true, true, true, true, true, true, true, true, true, true, true, true, true, true, true, true, true, true, true, true, true] rfl (by kernel_rfl) (by kernel_rfl) (by kernel_rfl) (fun _ _ _ h => h) gno (Step.assign rfl) rfl (fun _ h => h.sel [2, 0] rfl) (by kernel_rfl) ?_
                        refine AV.done (by kernel_rfl) ?_
                        refine KV.block_n ?_
                        refine KV.then_n ?_
                        refine KV.env [(1, _), (2, _), (7, _), (8, _), (10, _), (12, _), (13, _), (14, _)] ⟨rfl, rfl, rfl, rfl, rfl, rfl, rfl, rfl, trivial⟩ ?_
                        -- region 14 law.go:330
                        refine CV.region ?_
                        refine RV.op (OV.step gno (Step.move rfl) rfl ?_)
                        (first | refine RV.op (OV.step gno (Step.add rfl rfl (wI64 (by omega) (by omega))) rfl ?_) | refine RV.op (OV.step gno (Step.add rfl rfl rfl) rfl ?_))
                        refine RV.op (OV.step gno (Step.assign rfl) rfl ?_)
                        refine RV.nil ?_
                        refine KV.then_n ?_
                        refine KV.env [(1, _), (2, _), (7, _), (8, _), (10, _), (12, _), (13, _), (14, _)] ⟨rfl, rfl, rfl, rfl, rfl, rfl, rfl, rfl, trivial⟩ ?_
                        refine KV.sel [0, 0, 0, 0, 0, 0, 0, 0, 0, 0, 0, 0] [_, _, _, _, _, _, _, _, _, _, _, _] rfl ?_
                        exact KV.loopI (z := k) (k + 1) (by omega) (by omega) ⟨rfl, rfl, rfl, rfl, rfl, rfl, (by first | (rw [knw_1 hk1]; rfl) | (rw [knw_2 hk0 hf1]; rfl) | (rw [knw_3 hk0 hf0]; rfl)), rfl, trivial⟩ (fun _ h => h)
                      · -- False
                        have hf0 := of_decide_eq_false cc3
                        refine AV.takeSkip 12 #[true, true, true, true, true, true, true, true, true, true, true, true, true, false, false, false, false, false, false, false, false, false, false] rfl (by kernel_rfl) (by kernel_rfl) (by kernel_rfl) (fun _ _ _ h => h) rfl rfl (fun _ h => h.sel [2, 0] rfl) (by kernel_rfl) ?_
                        refine AV.takeSkip 13 #[true, true, true, true, true, true, true, true, true, true, true, true, true, true, false, false, false, false, false, false, false, false, false] rfl (by kernel_rfl) (by kernel_rfl) (by kernel_rfl) (fun _ _ _ h => h) rfl rfl (fun _ h => h.sel [2, 0] rfl) (by kernel_rfl) ?_
                        refine AV.takeSkip 14 #[true, true, true, true, true, true, true, true, true, true, true, true, true, true, true, false, false, false, false, false, false, false, false] rfl (by kernel_rfl) (by kernel_rfl) (by kernel_rfl) (fun _ _ _ h => h) rfl rfl (fun _ h => h.sel [2, 0] rfl) (by kernel_rfl) ?_
                        refine AV.takeSkip 15 #[true, true, true, true, true, true, true, true, true, true, true, true, true, true, true, true, false, false, false, false, false, false, false] rfl (by kernel_rfl) (by kernel_rfl) (by kernel_rfl) (fun _ _ _ h => h) rfl rfl (fun _ h => h.sel [2, 0] rfl) (by kernel_rfl) ?_
                        refine AV.takeSkip 16 #[true, true, true, true, true, true, true, true, true, true, true, true, true, true, true, true, true, false, false, false, false, false, false] rfl (by kernel_rfl) (by kernel_rfl) (by kernel_rfl) (fun _ _ _ h => h) rfl rfl (fun _ h => h.sel [2, 0] rfl) (by kernel_rfl) ?_
                        refine AV.takeSkip 17 #[true, true, true, true, true, true, true, true, true, true, true, true, true, true, true, true, true, true, false, false, false, false, false] rfl (by kernel_rfl) (by kernel_rfl) (by kernel_rfl) (fun _ _ _ h => h) rfl rfl (fun _ h => h.sel [2, 0] rfl) (by kernel_rfl) ?_
                        refine AV.takeSkip 18 #[true, true, true, true, true, true, true, true, true, true, true, true, true, true, true, true, true, true, true, false, false, false, false] rfl (by kernel_rfl) (by kernel_rfl) (by kernel_rfl) (fun _ _ _ h => h) rfl rfl (fun _ h => h.sel [2, 0] rfl) (by kernel_rfl) ?_
                        refine AV.takeSkip 19 #[true, true, true, true, true, true, true, true, true, true, true, true, true, true, true, true, true, true, true, true, false, false, false] rfl (by kernel_rfl) (by kernel_rfl) (by kernel_rfl) (fun _ _ _ h => h) rfl rfl (fun _ h => h.sel [2, 0] rfl) (by kernel_rfl) ?_
                        refine AV.take 20 #[true, true, true, true, true, true, true, true, true, true, true, true, true, true, true, true, true, true, true, true, true, false, false] rfl (by kernel_rfl) (by kernel_rfl) (by kernel_rfl) (fun _ _ _ h => h) (gyes rfl) (Step.pick_f rfl rfl) rfl (fun _ h => h.sel [2, 0] rfl) (by kernel_rfl) ?_
                        refine AV.take 21 #[true, true, true, true, true, true, true, true, true, true, true, true, true, true, true, true, true, true, true, true, true, true, false] rfl (by kernel_rfl) (by kernel_rfl) (by kernel_rfl) (fun _ _ _ h => h) gno (Step.pick_f rfl rfl) rfl (fun _ h => h.sel [2, 0] rfl) (by kernel_rfl) ?_
                        refine AV.take 22 #[true, true, true, true, true, true, true, true, true, true, true, true, true, true, true, true, true, true, true, true, true, true, true] rfl (by kernel_rfl) (by kernel_rfl) (by kernel_rfl) (fun _ _ _ h => h) gno (Step.assign rfl) rfl (fun _ h => h.sel [2, 0] rfl) (by kernel_rfl) ?_
                        refine AV.done (by kernel_rfl) ?_
                        refine KV.block_n ?_
                        refine KV.then_n ?_
                        refine KV.env [(1, _), (2, _), (7, _), (8, _), (10, _), (12, _), (13, _), (14, _)] ⟨rfl, rfl, rfl, rfl, rfl, rfl, rfl, rfl, trivial⟩ ?_
                        -- region 14 law.go:330
                        refine CV.region ?_
                        refine RV.op (OV.step gno (Step.move rfl) rfl ?_)
                        (first | refine RV.op (OV.step gno (Step.add rfl rfl (wI64 (by omega) (by omega))) rfl ?_) | refine RV.op (OV.step gno (Step.add rfl rfl rfl) rfl ?_))
                        refine RV.op (OV.step gno (Step.assign rfl) rfl ?_)
                        refine RV.nil ?_
                        refine KV.then_n ?_
                        refine KV.env [(1, _), (2, _), (7, _), (8, _), (10, _), (12, _), (13, _), (14, _)] ⟨rfl, rfl, rfl, rfl, rfl, rfl, rfl, rfl, trivial⟩ ?_
                        refine KV.sel [0, 0, 0, 0, 0, 0, 0, 0, 0, 0, 0, 0] [_, _, _, _, _, _, _, _, _, _, _, _] rfl ?_
                        exact KV.loopI (z := k) (k + 1) (by omega) (by omega) ⟨rfl, rfl, rfl, rfl, rfl, rfl, (by first | (rw [knw_1 hk1]; rfl) | (rw [knw_2 hk0 hf1]; rfl) | (rw [knw_3 hk0 hf0]; rfl)), rfl, trivial⟩ (fun _ h => h)
                · -- False
                  refine RV.nil ?_
                  refine KV.then_n ?_
                  refine KV.env [(1, _), (2, _), (7, _), (8, _), (10, _), (12, _), (13, _), (14, _), (65, _)] ⟨rfl, rfl, rfl, rfl, rfl, rfl, rfl, rfl, rfl, trivial⟩ ?_
                  refine CV.cond_f rfl ?_
                  refine CV.exit ?_
                  refine KV.then_exit ?_
                  refine KV.then_exit ?_
                  refine KV.block_hit ?_
                  refine KV.then_n ?_
                  refine KV.env [(1, _), (2, _), (7, _), (8, _), (10, _), (12, _), (13, _)] ⟨rfl, rfl, rfl, rfl, rfl, rfl, rfl, trivial⟩ ?_
                  -- join; live [1, 2, 7, 8, 10, 12]
                  refine CV.join (α := Unit) (fun _ => [(1, .slice A l.length c), (2, .string (bs other)), (7, .pointer (some ⟨p, 0, none⟩)), (8, .pointer (some ⟨qa, 0, none⟩)), (10, .pointer (some ⟨qb, 0, none⟩)), (12, .int .i64 j)]) (fun _ => Hp I w [Blk p (.cells #[.string (bs dd.name), .slice dd.sA dd.ss.length dd.sc, .slice dd.tA dd.hs.length dd.tc] 26 (0, 0)), OS 9 strK dd.sA dd.sc dd.ss, OS 61 thK dd.tA dd.tc dd.hs, Big opA dd.hs, Blk qa (.cells #[.string (bs da.name), .slice da.sA da.ss.length da.sc, .slice da.tA da.hs.length da.tc, .int .i64 (s.st), .bool s.wt, .int .i64 (s.cd)] 105 (0, 0)), OS 9 strK da.sA da.sc da.ss, OS 61 thK da.tA da.tc da.hs, Big opA da.hs, Blk qb (.cells #[.string (bs db.name), .slice db.sA db.ss.length db.sc, .slice db.tA db.hs.length db.tc, .int .i64 (s.st), .bool s.wt, .int .i64 (s.cd)] 105 (0, 0)), OS 9 strK db.sA db.sc db.ss, OS 61 thK db.tA db.tc db.hs, Big opA db.hs]) ?_ ?_
                  · skip
                    refine CV.seq ?_
                    -- region 16 law.go:333
                    obtain rfl : k = dd.hs.length := by omega
                    refine CV.region ?_
                    refine RV.op (OV.step gno (Step.move rfl) rfl ?_)
                    refine RV.op (OV.step gno (Step.not rfl) rfl ?_)
                    refine RV.op (OV.step gno (Step.move rfl) rfl ?_)
                    refine KV.cases 92 rfl (fun cc4 => ?_) (fun cc4 => ?_)
                    · -- True
                      have hkn := neg_t cc4
                      refine RV.op (OV.step (gyes rfl) (Step.move rfl) rfl ?_)
                      refine RV.op (OV.call [] (F := [_, _, _, _, _, _, _, _, _, _, _, _]) Tryd.func27 B27 N27 rfl rfl (fun w h => waiting_fn (d := da) (s := s) (h.blk 4 rfl)) (fun _ hb => hb.elim) (gyes rfl) rfl (fun v L' hp => ?_))
                      obtain ⟨rfl, rfl⟩ := hp
                      simp only [List.append_nil]
                      refine RV.op (OV.step (gyes rfl) (Step.not rfl) rfl ?_)
                      refine RV.op (OV.step gno (Step.pick_t rfl rfl) rfl ?_)
                      refine RV.nil ?_
                      refine KV.then_n ?_
                      refine KV.env [(1, _), (2, _), (7, _), (8, _), (10, _), (12, _), (96, _)] ⟨rfl, rfl, rfl, rfl, rfl, rfl, rfl, trivial⟩ ?_
                      refine KV.cases 96 rfl (fun cc5 => ?_) (fun cc5 => ?_)
                      · -- True
                        have hw := neg_t cc5
                        refine CV.cond_t rfl ?_
                        refine CV.seq ?_
                        -- region 17 law.go:334
                        refine CV.region ?_
                        refine RV.op (OV.step gno (Step.move rfl) rfl ?_)
                        refine RV.op (OV.step gno (Step.move rfl) rfl ?_)
                        refine RV.op (OV.call [4, 4, 4, 4] (F := [_, _, _, _, _, _, _, _]) Tryd.func22 B22 N22 rfl rfl (fun w h => handle_fn da s other hba) (fun _ hb => hb.elim) gno rfl (fun v L' hp => ?_))
                        obtain ⟨A1, c1, rfl, rfl⟩ := hp
                        rw [hta, ← hdT, knw_hdl hkn hw]
                        dsimp only
                        unfold instL
                        refine RV.op (OV.step gno (Step.move rfl) rfl ?_)
                        refine RV.op (OV.step gno (Step.extract0 rfl rfl) rfl ?_)
                        refine RV.op (OV.step gno (Step.extract0 rfl rfl) rfl ?_)
                        refine RV.op (OV.alloc #[.slice none 0 0, .bool false] I48 rfl gno rfl (fun z => ?_))
                        refine RV.op (OV.store 13 [_, _] #[_, _] I48 rfl rfl rfl rfl rfl (Nat.le_of_ble_eq_true rfl) (by simp [Value.oneCell']) rfl gno ?_)
                        refine RV.op (OV.step gno (Step.assign rfl) rfl ?_)
                        refine RV.nil ?_
                        refine KV.then_n ?_
                        refine KV.env [(1, _), (2, _), (7, _), (8, _), (10, _), (12, _), (15, _), (16, _)] ⟨rfl, rfl, rfl, rfl, rfl, rfl, rfl, rfl, trivial⟩ ?_
                        refine CV.seq ?_
                        -- region 18 law.go:335
                        refine CV.region ?_
                        refine RV.op (OV.step gno (Step.move rfl) rfl ?_)
                        refine RV.op (OV.split gno (Step.neq rfl rfl) rfl (fun n5 => ?_) (fun n5 => ?_))
                        · -- True
                          exact absurd rfl n5
                        · -- False
                          refine RV.op (OV.step gno (Step.move rfl) rfl ?_)
                          refine RV.op (OV.step (gyes rfl) (Step.loadN _ Tryd.underlying48 rfl I48 rfl rfl (fun w h => h.cells 13 rfl)) rfl ?_)
                          refine RV.op (OV.step (gyes rfl) (Step.build rfl (Bd48_)) rfl ?_)
                          refine RV.op (OV.call [] (F := [_, _, _, _, _, _, _, _, _, _, _, _, _, _]) Tryd.func25 B25 N25 rfl rfl (fun w h => same_fn (l := []) (m := []) (h.os 12 rfl) (.inl rfl) (by decide) (by decide)) (fun _ hb => hb.elim) (gyes rfl) rfl (fun v L' hp => ?_))
                          obtain ⟨rfl, rfl⟩ := hp
                          rw [decide_eq_true (⟨rfl, rfl⟩ : ([] : List Ro) = [] ∧ false = false)]
                          simp only [List.append_nil]
                          refine RV.op (OV.step (gyes rfl) (Step.not rfl) rfl ?_)
                          refine RV.op (OV.step gno (Step.pick_f rfl rfl) rfl ?_)
                          refine RV.nil ?_
                          refine KV.then_n ?_
                          refine KV.env [(1, _), (2, _), (7, _), (8, _), (10, _), (12, _), (110, _)] ⟨rfl, rfl, rfl, rfl, rfl, rfl, rfl, trivial⟩ ?_
                          refine CV.cond_f rfl ?_
                          refine CV.skip ?_
                          refine KV.then_n ?_
                          refine KV.env [(1, _), (2, _), (7, _), (8, _), (10, _), (12, _)] ⟨rfl, rfl, rfl, rfl, rfl, rfl, trivial⟩ ?_
                          refine KV.sel [0, 0, 0, 0, 4, 4, 4, 4, 0, 0, 0, 0] [_, _, _, _, _, _, _, _, _, _, _, _] rfl ?_
                          exact KV.join () ⟨rfl, rfl, rfl, rfl, rfl, rfl, trivial⟩ (fun _ h => h)
                      · -- False
                        have hw := neg_f cc5
                        refine CV.cond_f rfl ?_
                        refine CV.skip ?_
                        refine KV.then_n ?_
                        refine KV.env [(1, _), (2, _), (7, _), (8, _), (10, _), (12, _)] ⟨rfl, rfl, rfl, rfl, rfl, rfl, trivial⟩ ?_
                        refine KV.sel [0, 0, 0, 0, 0, 0, 0, 0, 0, 0, 0, 0] [_, _, _, _, _, _, _, _, _, _, _, _] rfl ?_
                        exact KV.join () ⟨rfl, rfl, rfl, rfl, rfl, rfl, trivial⟩ (fun _ h => h)
                    · -- False
                      have hkn := neg_f cc4
                      refine RV.op (OV.skip rfl rfl ?_)
                      refine RV.op (OV.skip rfl rfl ?_)
                      refine RV.op (OV.skip rfl rfl ?_)
                      refine RV.op (OV.step gno (Step.pick_f rfl rfl) rfl ?_)
                      refine RV.nil ?_
                      refine KV.then_n ?_
                      refine KV.env [(1, _), (2, _), (7, _), (8, _), (10, _), (12, _), (96, _)] ⟨rfl, rfl, rfl, rfl, rfl, rfl, rfl, trivial⟩ ?_
                      refine CV.cond_f rfl ?_
                      refine CV.skip ?_
                      refine KV.then_n ?_
                      refine KV.env [(1, _), (2, _), (7, _), (8, _), (10, _), (12, _)] ⟨rfl, rfl, rfl, rfl, rfl, rfl, trivial⟩ ?_
                      refine KV.sel [0, 0, 0, 0, 0, 0, 0, 0, 0, 0, 0, 0] [_, _, _, _, _, _, _, _, _, _, _, _] rfl ?_
                      exact KV.join () ⟨rfl, rfl, rfl, rfl, rfl, rfl, trivial⟩ (fun _ h => h)
                  · intro _
                    refine CV.seq ?_
                    -- region 20 law.go:339
                    refine CV.region ?_
                    refine RV.op (OV.alloc #[.slice none 0 0, .bool false] I48 rfl gno rfl (fun x => ?_))
                    refine RV.op (OV.alloc #[.slice none 0 0, .bool false] I48 rfl gno rfl (fun y => ?_))
                    refine RV.nil ?_
                    refine KV.then_n ?_
                    refine KV.env [(1, _), (2, _), (7, _), (8, _), (10, _), (12, _), (17, _), (18, _)] ⟨rfl, rfl, rfl, rfl, rfl, rfl, rfl, rfl, trivial⟩ ?_
                    refine CV.seq ?_
                    -- region 21 law.go:340
                    refine CV.region ?_
                    refine RV.op (OV.step gno (Step.assign rfl) rfl ?_)
                    refine RV.op (OV.step gno (Step.assign rfl) rfl ?_)
                    refine RV.nil ?_
                    refine KV.then_n ?_
                    refine KV.env [(1, _), (2, _), (7, _), (8, _), (10, _), (12, _), (17, _), (18, _)] ⟨rfl, rfl, rfl, rfl, rfl, rfl, rfl, rfl, trivial⟩ ?_
                    refine CV.seq ?_
                    refine CV.seq ?_
                    -- region 22 law.go:341
                    refine CV.region ?_
                    refine RV.op (OV.step gno (Step.move rfl) rfl ?_)
                    refine RV.op (OV.call [] (F := [_, _, _, _, _, _, _, _, _, _, _, _, _, _]) Tryd.func27 B27 N27 rfl rfl (fun w h => waiting_fn (d := da) (s := s) (h.blk 4 rfl)) (fun _ hb => hb.elim) gno rfl (fun v L' hp => ?_))
                    obtain ⟨rfl, rfl⟩ := hp
                    simp only [List.append_nil]
                    refine RV.nil ?_
                    refine KV.then_n ?_
                    refine KV.env [(1, _), (2, _), (7, _), (8, _), (10, _), (12, _), (17, _), (18, _), (112, _)] ⟨rfl, rfl, rfl, rfl, rfl, rfl, rfl, rfl, rfl, trivial⟩ ?_
                    refine KV.cases 112 rfl (fun cc6 => ?_) (fun cc6 => ?_)
                    · -- True
                      have hw : s.wt = true := cc6
                      refine CV.cond_t rfl ?_
                      refine CV.seq ?_
                      -- region 23 law.go:342
                      refine CV.region ?_
                      refine RV.op (OV.step gno (Step.move rfl) rfl ?_)
                      refine RV.op (OV.step gno (Step.move rfl) rfl ?_)
                      (first | refine RV.op (OV.step gno (Step.convI Tryd.underlying3 Tryd.underlying51 rfl (wU64 (by omega) (by omega))) rfl ?_) | refine RV.op (OV.step gno (Step.convI Tryd.underlying3 Tryd.underlying51 rfl rfl) rfl ?_))
                      refine RV.op (OV.call [4, 4, 4, 4] (F := [_, _, _, _, _, _, _, _, _, _]) Tryd.func20 B20 N20 rfl rfl (fun w h => reply_fn da s (j : Int) hba (fun hw => by rw [hla]; exact hinv.2 hw)) (fun _ hb => hb.elim) gno rfl (fun v L' hp => ?_))
                      obtain ⟨A3, c3, rfl, rfl⟩ := hp
                      rw [hta]
                      unfold instL
                      refine RV.op (OV.step gno (Step.move rfl) rfl ?_)
                      refine RV.op (OV.step gno (Step.extract0 rfl rfl) rfl ?_)
                      refine RV.op (OV.step gno (Step.extract0 rfl rfl) rfl ?_)
                      refine RV.op (OV.store 8 [_, _] #[_, _] I48 rfl rfl rfl rfl rfl (Nat.le_of_ble_eq_true rfl) (by simp [Value.oneCell']) rfl gno ?_)
                      refine RV.op (OV.step gno (Step.assign rfl) rfl ?_)
                      refine RV.nil ?_
                      refine KV.then_n ?_
                      refine KV.env [(1, _), (2, _), (7, _), (8, _), (10, _), (12, _), (17, _), (18, _), (19, _)] ⟨rfl, rfl, rfl, rfl, rfl, rfl, rfl, rfl, rfl, trivial⟩ ?_
                      -- region 24 law.go:343
                      refine CV.region ?_
                      refine RV.op (OV.step gno (Step.move rfl) rfl ?_)
                      refine RV.op (OV.step gno (Step.move rfl) rfl ?_)
                      (first | refine RV.op (OV.step gno (Step.convI Tryd.underlying3 Tryd.underlying51 rfl (wU64 (by omega) (by omega))) rfl ?_) | refine RV.op (OV.step gno (Step.convI Tryd.underlying3 Tryd.underlying51 rfl rfl) rfl ?_))
                      refine RV.op (OV.call [4, 4, 4, 4] (F := [_, _, _, _, _, _, _, _, _, _, _]) Tryd.func20 B20 N20 rfl rfl (fun w h => reply_fn db s (j : Int) hbb (fun hw => by rw [hlb]; exact hinv.2 hw)) (fun _ hb => hb.elim) gno rfl (fun v L' hp => ?_))
                      obtain ⟨A4, c4, rfl, rfl⟩ := hp
                      rw [htb]
                      unfold instL
                      refine RV.op (OV.step gno (Step.move rfl) rfl ?_)
                      refine RV.op (OV.step gno (Step.extract0 rfl rfl) rfl ?_)
                      refine RV.op (OV.step gno (Step.extract0 rfl rfl) rfl ?_)
                      refine RV.op (OV.store 5 [_, _] #[_, _] I48 rfl rfl rfl rfl rfl (Nat.le_of_ble_eq_true rfl) (by simp [Value.oneCell']) rfl gno ?_)
                      refine RV.op (OV.step gno (Step.assign rfl) rfl ?_)
                      refine RV.nil ?_
                      refine KV.then_n ?_
                      refine KV.env [(1, _), (2, _), (7, _), (8, _), (10, _), (12, _), (17, _), (18, _), (19, _), (20, _)] ⟨rfl, rfl, rfl, rfl, rfl, rfl, rfl, rfl, rfl, rfl, trivial⟩ ?_
                      refine CV.seq ?_
                      -- region 27 law.go:348
                      refine CV.region ?_
                      refine RV.op (OV.step gno (Step.move rfl) rfl ?_)
                      refine RV.op (OV.step gno (Step.move rfl) rfl ?_)
                      refine RV.op (OV.split gno (Step.neq rfl rfl) rfl (fun n6 => ?_) (fun n6 => ?_))
                      · -- True
                        exact absurd rfl n6
                      · -- False
                        refine RV.op (OV.step gno (Step.move rfl) rfl ?_)
                        refine RV.op (OV.step (gyes rfl) (Step.loadN _ Tryd.underlying48 rfl I48 rfl rfl (fun w h => h.cells 4 rfl)) rfl ?_)
                        refine RV.op (OV.step (gyes rfl) (Step.loadN _ Tryd.underlying48 rfl I48 rfl rfl (fun w h => h.cells 5 rfl)) rfl ?_)
                        refine RV.op (OV.call [] (F := [_, _, _, _, _, _, _, _, _, _, _, _, _, _, _, _]) Tryd.func25 B25 N25 rfl rfl (fun w h => same_fn (h.os 10 rfl) (h.os 15 rfl) (by first | exact rpl_le hole _ _ | exact hdl_le hole _ _) (by first | exact rpl_le hole _ _ | exact hdl_le hole _ _)) (fun _ hb => hb.elim) (gyes rfl) rfl (fun v L' hp => ?_))
                        obtain ⟨rfl, rfl⟩ := hp
                        rw [decide_eq_true (⟨rfl, rfl⟩ : _ ∧ _)]
                        simp only [List.append_nil]
                        refine RV.op (OV.step (gyes rfl) (Step.not rfl) rfl ?_)
                        refine RV.op (OV.step gno (Step.pick_f rfl rfl) rfl ?_)
                        refine RV.op (OV.step gno (Step.move rfl) rfl ?_)
                        refine RV.op (OV.step (gyes rfl) (Step.move rfl) rfl ?_)
                        refine RV.op (OV.call [] (F := [_, _, _, _, _, _, _, _, _, _, _, _, _, _, _, _]) Tryd.func26 B26 N26 rfl rfl (fun w h => state_fn (d := da) (h.blk 6 rfl)) (fun _ hb => hb.elim) (gyes rfl) rfl (fun v L' hp => ?_))
                        obtain ⟨rfl, rfl⟩ := hp
                        simp only [List.append_nil]
                        refine RV.op (OV.step (gyes rfl) (Step.move rfl) rfl ?_)
                        refine RV.op (OV.call [] (F := [_, _, _, _, _, _, _, _, _, _, _, _, _, _, _, _]) Tryd.func26 B26 N26 rfl rfl (fun w h => state_fn (d := db) (h.blk 11 rfl)) (fun _ hb => hb.elim) (gyes rfl) rfl (fun v L' hp => ?_))
                        obtain ⟨rfl, rfl⟩ := hp
                        simp only [List.append_nil]
                        refine RV.op (OV.split (gyes rfl) (Step.neq rfl rfl) rfl (fun n7 => ?_) (fun n7 => ?_))
                        · -- True
                          exact absurd rfl n7
                        · -- False
                          refine RV.op (OV.step gno (Step.pick_f rfl rfl) rfl ?_)
                          refine RV.nil ?_
                          refine KV.then_n ?_
                          refine KV.env [(1, _), (2, _), (7, _), (8, _), (10, _), (12, _), (162, _)] ⟨rfl, rfl, rfl, rfl, rfl, rfl, rfl, trivial⟩ ?_
                          refine CV.cond_f rfl ?_
                          refine CV.skip ?_
                          refine KV.block_n ?_
                          refine KV.then_n ?_
                          refine KV.env [(1, _), (2, _), (7, _), (8, _), (10, _), (12, _)] ⟨rfl, rfl, rfl, rfl, rfl, rfl, trivial⟩ ?_
                          -- region 10 law.go:328
                          refine CV.region ?_
                          refine RV.op (OV.step gno (Step.move rfl) rfl ?_)
                          (first | refine RV.op (OV.step gno (Step.add rfl rfl (wI64 (by omega) (by omega))) rfl ?_) | refine RV.op (OV.step gno (Step.add rfl rfl rfl) rfl ?_))
                          refine RV.op (OV.step gno (Step.assign rfl) rfl ?_)
                          refine RV.nil ?_
                          refine KV.then_n ?_
                          refine KV.env [(1, _), (2, _), (7, _), (8, _), (10, _), (12, _)] ⟨rfl, rfl, rfl, rfl, rfl, rfl, trivial⟩ ?_
                          refine KV.sel [0, 0, 0, 0, 2, 2, 2, 2, 3, 3, 3, 3] [_, _, _, _, _, _, _, _, _, _, _, _] rfl ?_
                          (first | exact KV.loop2 (x := j) (y := s) (j + 1) ((rplM dd.d.ts s (j : Int)).1.1) ⟨by omega, rpl_ok hinv.2⟩ (by omega) ⟨rfl, rfl, rfl, rfl, rfl, rfl, trivial⟩ (fun _ h => h) | exact KV.loop2 (x := j) (y := s) (j + 1) ((hdlM dd.d.ts s (evM (l.getD j (intK .i64).d))).1.1) ⟨by omega, hdl_ok hinv.2⟩ (by omega) ⟨rfl, rfl, rfl, rfl, rfl, rfl, trivial⟩ (fun _ h => h))
                    · -- False
                      have hw : s.wt = false := cc6
                      refine CV.cond_f rfl ?_
                      refine CV.seq ?_
                      -- region 25 law.go:345
                      refine CV.region ?_
                      refine RV.op (OV.step gno (Step.move rfl) rfl ?_)
                      refine RV.op (OV.step gno (Step.move rfl) rfl ?_)
                      refine RV.op (OV.step gno (Step.move rfl) rfl ?_)
                      refine RV.op (OV.step gno (Step.idx Tryd.underlying32 I3 (fun w h => (h.rs hl fun _ => hI _)) rfl rfl (rfl) _ rfl (by omega)) rfl ?_)
                      refine RV.op (OV.step gno (Step.load Tryd.underlying3 rfl rfl (fun w h => (h.rs hl fun _ => hI _).cell0 (by omega) rfl)) rfl ?_)
                      refine RV.op (OV.callP Tryd.func23 B23 N23 rfl (event_fn (l.getD j (intK .i64).d)) gno rfl ?_)
                      refine RV.op (OV.call [4, 4, 4, 4] (F := [_, _, _, _, _, _, _, _, _, _]) Tryd.func22 B22 N22 rfl rfl (fun w h => handle_fn da s (evM (l.getD j (intK .i64).d)) hba) (fun _ hb => hb.elim) gno rfl (fun v L' hp => ?_))
                      obtain ⟨A5, c5, rfl, rfl⟩ := hp
                      rw [hta]
                      unfold instL
                      refine RV.op (OV.step gno (Step.move rfl) rfl ?_)
                      refine RV.op (OV.step gno (Step.extract0 rfl rfl) rfl ?_)
                      refine RV.op (OV.step gno (Step.extract0 rfl rfl) rfl ?_)
                      refine RV.op (OV.store 8 [_, _] #[_, _] I48 rfl rfl rfl rfl rfl (Nat.le_of_ble_eq_true rfl) (by simp [Value.oneCell']) rfl gno ?_)
                      refine RV.op (OV.step gno (Step.assign rfl) rfl ?_)
                      refine RV.nil ?_
                      refine KV.then_n ?_
                      refine KV.env [(1, _), (2, _), (7, _), (8, _), (10, _), (12, _), (17, _), (18, _), (19, _)] ⟨rfl, rfl, rfl, rfl, rfl, rfl, rfl, rfl, rfl, trivial⟩ ?_
                      -- region 26 law.go:346
                      refine CV.region ?_
                      refine RV.op (OV.step gno (Step.move rfl) rfl ?_)
                      refine RV.op (OV.step gno (Step.move rfl) rfl ?_)
                      refine RV.op (OV.step gno (Step.move rfl) rfl ?_)
                      refine RV.op (OV.step gno (Step.idx Tryd.underlying32 I3 (fun w h => (h.rs hl fun _ => hI _)) rfl rfl (rfl) _ rfl (by omega)) rfl ?_)
                      refine RV.op (OV.step gno (Step.load Tryd.underlying3 rfl rfl (fun w h => (h.rs hl fun _ => hI _).cell0 (by omega) rfl)) rfl ?_)
                      refine RV.op (OV.callP Tryd.func23 B23 N23 rfl (event_fn (l.getD j (intK .i64).d)) gno rfl ?_)
                      refine RV.op (OV.call [4, 4, 4, 4] (F := [_, _, _, _, _, _, _, _, _, _, _]) Tryd.func22 B22 N22 rfl rfl (fun w h => handle_fn db s (evM (l.getD j (intK .i64).d)) hbb) (fun _ hb => hb.elim) gno rfl (fun v L' hp => ?_))
                      obtain ⟨A6, c6, rfl, rfl⟩ := hp
                      rw [htb]
                      unfold instL
                      refine RV.op (OV.step gno (Step.move rfl) rfl ?_)
                      refine RV.op (OV.step gno (Step.extract0 rfl rfl) rfl ?_)
                      refine RV.op (OV.step gno (Step.extract0 rfl rfl) rfl ?_)
                      refine RV.op (OV.store 5 [_, _] #[_, _] I48 rfl rfl rfl rfl rfl (Nat.le_of_ble_eq_true rfl) (by simp [Value.oneCell']) rfl gno ?_)
                      refine RV.op (OV.step gno (Step.assign rfl) rfl ?_)
                      refine RV.nil ?_
                      refine KV.then_n ?_
                      refine KV.env [(1, _), (2, _), (7, _), (8, _), (10, _), (12, _), (17, _), (18, _), (19, _), (20, _)] ⟨rfl, rfl, rfl, rfl, rfl, rfl, rfl, rfl, rfl, rfl, trivial⟩ ?_
                      refine CV.seq ?_
                      -- region 27 law.go:348
                      refine CV.region ?_
                      refine RV.op (OV.step gno (Step.move rfl) rfl ?_)
                      refine RV.op (OV.step gno (Step.move rfl) rfl ?_)
                      refine RV.op (OV.split gno (Step.neq rfl rfl) rfl (fun n6 => ?_) (fun n6 => ?_))
                      · -- True
                        exact absurd rfl n6
                      · -- False
                        refine RV.op (OV.step gno (Step.move rfl) rfl ?_)
                        refine RV.op (OV.step (gyes rfl) (Step.loadN _ Tryd.underlying48 rfl I48 rfl rfl (fun w h => h.cells 4 rfl)) rfl ?_)
                        refine RV.op (OV.step (gyes rfl) (Step.loadN _ Tryd.underlying48 rfl I48 rfl rfl (fun w h => h.cells 5 rfl)) rfl ?_)
                        refine RV.op (OV.call [] (F := [_, _, _, _, _, _, _, _, _, _, _, _, _, _, _, _]) Tryd.func25 B25 N25 rfl rfl (fun w h => same_fn (h.os 10 rfl) (h.os 15 rfl) (by first | exact rpl_le hole _ _ | exact hdl_le hole _ _) (by first | exact rpl_le hole _ _ | exact hdl_le hole _ _)) (fun _ hb => hb.elim) (gyes rfl) rfl (fun v L' hp => ?_))
                        obtain ⟨rfl, rfl⟩ := hp
                        rw [decide_eq_true (⟨rfl, rfl⟩ : _ ∧ _)]
                        simp only [List.append_nil]
                        refine RV.op (OV.step (gyes rfl) (Step.not rfl) rfl ?_)
                        refine RV.op (OV.step gno (Step.pick_f rfl rfl) rfl ?_)
                        refine RV.op (OV.step gno (Step.move rfl) rfl ?_)
                        refine RV.op (OV.step (gyes rfl) (Step.move rfl) rfl ?_)
                        refine RV.op (OV.call [] (F := [_, _, _, _, _, _, _, _, _, _, _, _, _, _, _, _]) Tryd.func26 B26 N26 rfl rfl (fun w h => state_fn (d := da) (h.blk 6 rfl)) (fun _ hb => hb.elim) (gyes rfl) rfl (fun v L' hp => ?_))
                        obtain ⟨rfl, rfl⟩ := hp
                        simp only [List.append_nil]
                        refine RV.op (OV.step (gyes rfl) (Step.move rfl) rfl ?_)
                        refine RV.op (OV.call [] (F := [_, _, _, _, _, _, _, _, _, _, _, _, _, _, _, _]) Tryd.func26 B26 N26 rfl rfl (fun w h => state_fn (d := db) (h.blk 11 rfl)) (fun _ hb => hb.elim) (gyes rfl) rfl (fun v L' hp => ?_))
                        obtain ⟨rfl, rfl⟩ := hp
                        simp only [List.append_nil]
                        refine RV.op (OV.split (gyes rfl) (Step.neq rfl rfl) rfl (fun n7 => ?_) (fun n7 => ?_))
                        · -- True
                          exact absurd rfl n7
                        · -- False
                          refine RV.op (OV.step gno (Step.pick_f rfl rfl) rfl ?_)
                          refine RV.nil ?_
                          refine KV.then_n ?_
                          refine KV.env [(1, _), (2, _), (7, _), (8, _), (10, _), (12, _), (162, _)] ⟨rfl, rfl, rfl, rfl, rfl, rfl, rfl, trivial⟩ ?_
                          refine CV.cond_f rfl ?_
                          refine CV.skip ?_
                          refine KV.block_n ?_
                          refine KV.then_n ?_
                          refine KV.env [(1, _), (2, _), (7, _), (8, _), (10, _), (12, _)] ⟨rfl, rfl, rfl, rfl, rfl, rfl, trivial⟩ ?_
                          -- region 10 law.go:328
                          refine CV.region ?_
                          refine RV.op (OV.step gno (Step.move rfl) rfl ?_)
                          (first | refine RV.op (OV.step gno (Step.add rfl rfl (wI64 (by omega) (by omega))) rfl ?_) | refine RV.op (OV.step gno (Step.add rfl rfl rfl) rfl ?_))
                          refine RV.op (OV.step gno (Step.assign rfl) rfl ?_)
                          refine RV.nil ?_
                          refine KV.then_n ?_
                          refine KV.env [(1, _), (2, _), (7, _), (8, _), (10, _), (12, _)] ⟨rfl, rfl, rfl, rfl, rfl, rfl, trivial⟩ ?_
                          refine KV.sel [0, 0, 0, 0, 2, 2, 2, 2, 3, 3, 3, 3] [_, _, _, _, _, _, _, _, _, _, _, _] rfl ?_
                          (first | exact KV.loop2 (x := j) (y := s) (j + 1) ((rplM dd.d.ts s (j : Int)).1.1) ⟨by omega, rpl_ok hinv.2⟩ (by omega) ⟨rfl, rfl, rfl, rfl, rfl, rfl, trivial⟩ (fun _ h => h) | exact KV.loop2 (x := j) (y := s) (j + 1) ((hdlM dd.d.ts s (evM (l.getD j (intK .i64).d))).1.1) ⟨by omega, hdl_ok hinv.2⟩ (by omega) ⟨rfl, rfl, rfl, rfl, rfl, rfl, trivial⟩ (fun _ h => h))
              · -- False
                refine RV.nil ?_
                refine KV.then_n ?_
                refine KV.env [(1, _), (2, _), (7, _), (8, _), (10, _), (12, _), (58, _)] ⟨rfl, rfl, rfl, rfl, rfl, rfl, rfl, trivial⟩ ?_
                refine CV.cond_f rfl ?_
                refine CV.exit ?_
                refine KV.then_exit ?_
                refine KV.then_exit ?_
                refine KV.block_hit ?_
                refine KV.then_n ?_
                refine KV.env [] trivial ?_
                refine CV.seq ?_
                -- region 29 law.go:352
                refine CV.region ?_
                refine RV.op (OV.call [] (F := [_, _, _, _, _, _, _, _, _, _, _, _]) Tryd.func10 B10 N10 rfl rfl (fun w h => awake_fn (EvR.keep h hE (hro 4 rfl))) (fun b hb => roAt4 hE hro b hb) gno rfl (fun v L' hp => ?_))
                obtain ⟨rfl, rfl⟩ := hp
                simp only [List.append_nil]
                refine RV.op (OV.step gno (Step.assign rfl) rfl ?_)
                refine RV.nil ?_
                refine KV.then_n ?_
                refine KV.env [(6, _)] ⟨rfl, trivial⟩ ?_
                refine CV.ret ?_
                -- return at r29
                refine KV.sel [] [] rfl ?_
                exact KV.ret1 rfl rfl _ (fun _ h => h) ⟨rfl, rfl⟩
end Go.Proofs.YtplmfekhdaefaaaDoor
