/-
  Walks, part 21.
-/
import Derived.Test.YtplmfekhdaefaaaDoorTab21
import Derived.Test.YtplmfekhdaefaaaDoorW20
set_option linter.unusedSimpArgs false
set_option linter.unusedVariables false
namespace Go.Proofs.YtplmfekhdaefaaaDoor
open Go.Sv Go.Drv
structure JG (T : List Tr) where
  M : (IS × List Ro × Bool) × Int
  ev : Bs
  A1 : Option Addr
  c1 : Nat
  A2 : Option Addr
  c2 : Nat
  he : EvI T M.1.1 ev
  ho : M.1.2.1.length ≤ 1000000

set_option maxRecDepth 100000 in
set_option maxHeartbeats 16000000 in
theorem run_fn (raw : DH) {A B : Option Addr} {c cv : Nat} (l vs : List Int) {w : World} (hE : EvR w) (hd : DR w raw) (hl : RS w (intK .i64) A l) (hv : RS w (intK .u64) B vs) : Fx Tryd.prog 5 [.agg #[.string (bs raw.name), .slice raw.sA raw.ss.length raw.sc, .slice raw.tA raw.hs.length raw.tc], .slice A l.length c, .slice B vs.length cv] w [] at4 (fun v L => v = .bool true ∧ L = []) := by
  refine Sv.Fx.body Tryd.func5 rfl T5 rfl ?_
  intro I hro hI
  refine KV.env [(0, _), (1, _), (2, _)] ⟨rfl, rfl, rfl, trivial⟩ ?_
  refine CV.seq ?_
  -- region 0 law.go:253
  refine CV.region ?_
  refine RV.op (OV.box (t := 26) #[_, _, _] rfl rfl gno rfl (fun b0 => ?_))
  refine RV.op (OV.step gno (Step.assign rfl) rfl ?_)
  refine RV.nil ?_
  refine KV.then_n ?_
  refine KV.env [(1, _), (2, _), (3, _)] ⟨rfl, rfl, rfl, trivial⟩ ?_
  refine CV.seq ?_
  refine CV.seq ?_
  -- region 1 law.go:254
  refine CV.region ?_
  refine RV.op (OV.step gno (Step.loadN _ Tryd.underlying26 rfl I26 rfl rfl (fun w h => h.cells 0 rfl)) rfl ?_)
  refine RV.op (OV.call [] (F := [_]) Tryd.func16 B16 N16 rfl rfl (fun w h => large_fn raw (DR.keep h hd hI)) (fun _ hb => hb.elim) gno rfl (fun v L' hp => ?_))
  obtain ⟨rfl, rfl⟩ := hp
  simp only [List.append_nil]
  refine RV.op (OV.step gno (Step.move rfl) rfl ?_)
  refine KV.cases 20 rfl (fun cc1 => ?_) (fun cc1 => ?_)
  · -- True
    refine RV.op (OV.skip rfl rfl ?_)
    refine RV.op (OV.skip rfl rfl ?_)
    refine RV.op (OV.skip rfl rfl ?_)
    refine RV.op (OV.step gno (Step.pick_t rfl rfl) rfl ?_)
    refine RV.nil ?_
    refine KV.then_n ?_
    refine KV.env [(1, _), (2, _), (3, _), (24, _)] ⟨rfl, rfl, rfl, rfl, trivial⟩ ?_
    refine CV.cond_t rfl ?_
    refine CV.seq ?_
    -- region 2 law.go:255
    refine CV.region ?_
    refine RV.op (OV.call [] (F := [_]) Tryd.func10 B10 N10 rfl rfl (fun w h => awake_fn (EvR.keep h hE (hro 4 rfl))) (fun b hb => roAt4 hE hro b hb) gno rfl (fun v L' hp => ?_))
    obtain ⟨rfl, rfl⟩ := hp
    simp only [List.append_nil]
    refine RV.op (OV.step gno (Step.assign rfl) rfl ?_)
    refine RV.nil ?_
    refine KV.then_n ?_
    refine KV.env [(6, _)] ⟨rfl, trivial⟩ ?_
    refine CV.ret ?_
    refine KV.then_ret ?_
    -- return at r2
    refine KV.sel [] [] rfl ?_
    exact KV.ret1 rfl rfl _ (fun _ h => h) ⟨rfl, rfl⟩
  · -- False
    have hsm := lrg_sml cc1
    have hsm1 : raw.ss.length ≤ 40 := hsm.1
    refine RV.op (OV.step (gyes rfl) (Step.move rfl) rfl ?_)
    refine RV.op (OV.step (gyes rfl) (Step.lenSl Tryd.underlying32 rfl) rfl ?_)
    refine RV.op (OV.split (gyes rfl) (Step.gtr rfl rfl) rfl (fun h30 => ?_) (fun h30 => ?_))
    · -- True
      refine RV.op (OV.step gno (Step.pick_f rfl rfl) rfl ?_)
      refine RV.nil ?_
      refine KV.then_n ?_
      refine KV.env [(1, _), (2, _), (3, _), (24, _)] ⟨rfl, rfl, rfl, rfl, trivial⟩ ?_
      refine CV.cond_t rfl ?_
      refine CV.seq ?_
      -- region 2 law.go:255
      refine CV.region ?_
      refine RV.op (OV.call [] (F := [_]) Tryd.func10 B10 N10 rfl rfl (fun w h => awake_fn (EvR.keep h hE (hro 4 rfl))) (fun b hb => roAt4 hE hro b hb) gno rfl (fun v L' hp => ?_))
      obtain ⟨rfl, rfl⟩ := hp
      simp only [List.append_nil]
      refine RV.op (OV.step gno (Step.assign rfl) rfl ?_)
      refine RV.nil ?_
      refine KV.then_n ?_
      refine KV.env [(6, _)] ⟨rfl, trivial⟩ ?_
      refine CV.ret ?_
      refine KV.then_ret ?_
      -- return at r2
      refine KV.sel [] [] rfl ?_
      exact KV.ret1 rfl rfl _ (fun _ h => h) ⟨rfl, rfl⟩
    · -- False
      refine RV.op (OV.step gno (Step.pick_f rfl rfl) rfl ?_)
      refine RV.nil ?_
      refine KV.then_n ?_
      refine KV.env [(1, _), (2, _), (3, _), (24, _)] ⟨rfl, rfl, rfl, rfl, trivial⟩ ?_
      refine CV.cond_f rfl ?_
      refine CV.skip ?_
      refine KV.then_n ?_
      refine KV.env [(1, _), (2, _), (3, _)] ⟨rfl, rfl, rfl, trivial⟩ ?_
      refine CV.seq ?_
      -- region 3 law.go:257
      refine CV.region ?_
      refine RV.op (OV.step gno (Step.loadN _ Tryd.underlying26 rfl I26 rfl rfl (fun w h => h.cells 0 rfl)) rfl ?_)
      refine RV.op (OV.call [] (F := [_]) Tryd.func17 B17 N17 rfl rfl (fun w h => some_fn raw (DR.keep h hd hI) (by omega)) (fun _ hb => hb.elim) gno rfl (fun v L' hp => ?_))
      obtain ⟨dd, rfl, hdd, rfl⟩ := hp
      have hck := some_chk raw.d
      rw [← hdd] at hck
      have hdT : dd.hs.map (·.t) = dd.d.ts := rfl
      have hole := opsLe_of hck
      have hbdd := chk_bnd hck
      have hdl : dd.hs.length ≤ 128 := hbdd.t
      unfold dL
      refine RV.op (OV.alloc #[.string (Sv.bs []), .slice none 0 0, .slice none 0 0] I26 rfl gno rfl (fun p => ?_))
      refine RV.op (OV.store 4 [_, _, _] #[_, _, _] I26 rfl rfl rfl rfl rfl (Nat.le_of_ble_eq_true rfl) (by simp [Value.oneCell']) rfl gno ?_)
      refine RV.nil ?_
      refine KV.then_n ?_
      refine KV.env [(1, _), (2, _), (7, _)] ⟨rfl, rfl, rfl, trivial⟩ ?_
      refine CV.seq ?_
      -- region 4 law.go:258
      refine CV.region ?_
      refine RV.op (OV.step gno (Step.loadN _ Tryd.underlying26 rfl I26 rfl rfl (fun w h => h.cells 4 rfl)) rfl ?_)
      refine RV.op (OV.call [] (F := [_, _, _, _, _]) Tryd.func18 B18 N18 rfl rfl (fun w h => new_fn dd (DR.ofHp (k1 := 1) (k2 := 2) (k3 := 3) h rfl rfl rfl rfl)) (fun _ hb => hb.elim) gno rfl (fun v L' hp => ?_))
      rcases hp with ⟨_, qa, da, hea, rfl, rfl⟩ | ⟨hno, _, _⟩
      rotate_left
      · exact absurd hck hno
      have hta : da.hs.map (·.t) = dd.d.ts := congrArg Dv.ts hea
      have hla : da.hs.length = dd.d.ts.length := by rw [← hta, List.length_map]
      have hba : Bnd da := hbdd.eq hea
      unfold instL
      refine RV.op (OV.step gno (Step.move rfl) rfl ?_)
      refine RV.op (OV.step gno (Step.extract0 rfl rfl) rfl ?_)
      refine RV.op (OV.step gno (Step.extract0 rfl rfl) rfl ?_)
      refine RV.op (OV.step gno (Step.assign rfl) rfl ?_)
      refine RV.op (OV.step gno (Step.assign rfl) rfl ?_)
      refine RV.nil ?_
      refine KV.then_n ?_
      refine KV.env [(1, _), (2, _), (7, _), (8, _), (9, _)] ⟨rfl, rfl, rfl, rfl, rfl, trivial⟩ ?_
      refine CV.seq ?_
      -- region 5 law.go:259
      refine CV.region ?_
      refine RV.op (OV.step gno (Step.loadN _ Tryd.underlying26 rfl I26 rfl rfl (fun w h => h.cells 4 rfl)) rfl ?_)
      refine RV.op (OV.call [] (F := [_, _, _, _, _, _, _, _, _]) Tryd.func19 B19 N19 rfl rfl (fun w h => rnew_fn dd (DR.ofHp (k1 := 1) (k2 := 2) (k3 := 3) h rfl rfl rfl rfl)) (fun _ hb => hb.elim) gno rfl (fun v L' hp => ?_))
      rcases hp with ⟨_, qb, rfl, rfl⟩ | ⟨hno, _, _⟩
      rotate_left
      · exact absurd hck hno
      refine RV.op (OV.step gno (Step.move rfl) rfl ?_)
      refine RV.op (OV.step gno (Step.extract0 rfl rfl) rfl ?_)
      refine RV.op (OV.step gno (Step.extract0 rfl rfl) rfl ?_)
      refine RV.op (OV.step gno (Step.assign rfl) rfl ?_)
      refine RV.op (OV.step gno (Step.assign rfl) rfl ?_)
      refine RV.nil ?_
      refine KV.then_n ?_
      refine KV.env [(1, _), (2, _), (8, _), (9, _), (10, _), (11, _)] ⟨rfl, rfl, rfl, rfl, rfl, rfl, trivial⟩ ?_
      refine CV.seq ?_
      refine CV.seq ?_
      -- region 6 law.go:260
      refine CV.region ?_
      refine RV.op (OV.step gno (Step.move rfl) rfl ?_)
      refine RV.op (OV.split gno (Step.neq rfl rfl) rfl (fun n1 => ?_) (fun n1 => ?_))
      · -- True
        exact absurd rfl n1
      · -- False
        refine RV.op (OV.step gno (Step.move rfl) rfl ?_)
        refine RV.op (OV.step (gyes rfl) (Step.move rfl) rfl ?_)
        refine RV.op (OV.split (gyes rfl) (Step.neq rfl rfl) rfl (fun n2 => ?_) (fun n2 => ?_))
        · -- True
          exact absurd rfl n2
        · -- False
          refine RV.op (OV.step gno (Step.pick_f rfl rfl) rfl ?_)
          refine RV.op (OV.step gno (Step.move rfl) rfl ?_)
          refine RV.op (OV.step (gyes rfl) (Step.move rfl) rfl ?_)
          refine RV.op (OV.split (gyes rfl) (Step.eqlP Tryd.underlying40 rfl rfl) rfl (fun n3 => ?_) (fun n3 => ?_))
          · -- True
            cases n3
          · -- False
            refine RV.op (OV.step gno (Step.pick_f rfl rfl) rfl ?_)
            refine RV.nil ?_
            refine KV.then_n ?_
            refine KV.env [(1, _), (2, _), (8, _), (10, _), (47, _)] ⟨rfl, rfl, rfl, rfl, rfl, trivial⟩ ?_
            refine CV.cond_f rfl ?_
            refine CV.skip ?_
            refine KV.then_n ?_
            refine KV.env [(1, _), (2, _), (8, _), (10, _)] ⟨rfl, rfl, rfl, rfl, trivial⟩ ?_
            refine CV.seq ?_
            refine CV.seq ?_
            -- region 8 law.go:263
            refine CV.region ?_
            refine RV.op (OV.step gno (Step.assign rfl) rfl ?_)
            refine RV.nil ?_
            refine KV.then_n ?_
            refine KV.env [(1, _), (2, _), (8, _), (10, _), (12, _)] ⟨rfl, rfl, rfl, rfl, rfl, trivial⟩ ?_
            refine CV.block ?_
            -- loop L9; live [1, 2, 8, 10, 12]
            refine KV.sel [4, 4, 4, 4, 4, 4, 1, 1, 1] [_, _, _, _, _, _, _, _, _] rfl ?_
            refine CV.loop3 (fun (j : Nat) (s : IS) (e : Bs) => j ≤ l.length ∧ EvI dd.d.ts s e) (fun (j : Nat) (s : IS) (e : Bs) => l.length - j) (fun (j : Nat) (s : IS) (e : Bs) => [(1, .slice A l.length c), (2, .slice B vs.length cv), (8, .pointer (some ⟨qa, 0, none⟩)), (10, .pointer (some ⟨qb, 0, none⟩)), (12, .int .i64 j)]) (fun (j : Nat) (s : IS) (e : Bs) => Hp I w [Blk p (.cells #[.string (bs dd.name), .slice dd.sA dd.ss.length dd.sc, .slice dd.tA dd.hs.length dd.tc] 26 (0, 0)), Blk qa (.cells #[.string (bs da.name), .slice da.sA da.ss.length da.sc, .slice da.tA da.hs.length da.tc, .int .i64 (s.st), .bool s.wt, .int .i64 (s.cd)] 105 (0, 0)), OS 9 strK da.sA da.sc da.ss, OS 61 thK da.tA da.tc da.hs, Big opA da.hs, Blk qb (.cells #[.string (bs dd.name), .slice dd.sA dd.ss.length dd.sc, .slice dd.tA dd.hs.length dd.tc, .int .i64 s.st, .int .i64 (wtI s), .string (bs e)] 50 (0, 0)), OS 9 strK dd.sA dd.sc dd.ss, OS 61 thK dd.tA dd.tc dd.hs, Big opA dd.hs]) (0) (⟨0, false, 0⟩) ([]) ⟨Nat.zero_le _, fun h => by cases h⟩ ⟨rfl, rfl, rfl, rfl, rfl, trivial⟩ (fun _ h => h) ?_
            intro j s e hinv
            refine CV.seq ?_
            refine CV.seq ?_
            -- region 9 law.go:263
            refine CV.region ?_
            refine RV.op (OV.step gno (Step.move rfl) rfl ?_)
            refine RV.op (OV.step gno (Step.move rfl) rfl ?_)
            refine RV.op (OV.step gno (Step.lenSl Tryd.underlying32 rfl) rfl ?_)
            refine RV.op (OV.split gno (Step.lss rfl rfl) rfl (fun hj => ?_) (fun hj => ?_))
            · -- True
              refine RV.nil ?_
              refine KV.then_n ?_
              refine KV.env [(1, _), (2, _), (8, _), (10, _), (12, _), (51, _)] ⟨rfl, rfl, rfl, rfl, rfl, rfl, trivial⟩ ?_
              refine CV.cond_t rfl ?_
              refine CV.skip ?_
              refine KV.then_n ?_
              refine KV.env [(1, _), (2, _), (8, _), (10, _), (12, _)] ⟨rfl, rfl, rfl, rfl, rfl, trivial⟩ ?_
              refine CV.seq ?_
              refine CV.block ?_
              refine CV.seq ?_
              -- region 11 law.go:264
              refine CV.region ?_
              refine RV.op (OV.alloc #[.slice none 0 0, .bool false] I48 rfl gno rfl (fun x => ?_))
              refine RV.op (OV.alloc #[.slice none 0 0, .bool false] I48 rfl gno rfl (fun y => ?_))
              refine RV.nil ?_
              refine KV.then_n ?_
              refine KV.env [(1, _), (2, _), (8, _), (10, _), (12, _), (13, _), (14, _)] ⟨rfl, rfl, rfl, rfl, rfl, rfl, rfl, trivial⟩ ?_
              refine CV.seq ?_
              -- region 12 law.go:265
              refine CV.region ?_
              refine RV.op (OV.step gno (Step.assign rfl) rfl ?_)
              refine RV.op (OV.step gno (Step.assign rfl) rfl ?_)
              refine RV.nil ?_
              refine KV.then_n ?_
              refine KV.env [(1, _), (2, _), (8, _), (10, _), (12, _), (13, _), (14, _)] ⟨rfl, rfl, rfl, rfl, rfl, rfl, rfl, trivial⟩ ?_
              -- join; live [1, 2, 8, 10, 12, 13, 14, 15, 16]
              refine CV.join (fun (J : JG dd.d.ts) => [(1, .slice A l.length c), (2, .slice B vs.length cv), (8, .pointer (some ⟨qa, 0, none⟩)), (10, .pointer (some ⟨qb, 0, none⟩)), (12, .int .i64 j), (13, .pointer (some ⟨x, 0, none⟩)), (14, .pointer (some ⟨y, 0, none⟩)), (15, .int .i64 J.M.2), (16, .int .i64 J.M.2)]) (fun (J : JG dd.d.ts) => Hp I w [Blk p (.cells #[.string (bs dd.name), .slice dd.sA dd.ss.length dd.sc, .slice dd.tA dd.hs.length dd.tc] 26 (0, 0)), Blk qa (.cells #[.string (bs da.name), .slice da.sA da.ss.length da.sc, .slice da.tA da.hs.length da.tc, .int .i64 (J.M.1.1.st), .bool J.M.1.1.wt, .int .i64 (J.M.1.1.cd)] 105 (0, 0)), OS 9 strK da.sA da.sc da.ss, OS 61 thK da.tA da.tc da.hs, Big opA da.hs, Blk qb (.cells #[.string (bs dd.name), .slice dd.sA dd.ss.length dd.sc, .slice dd.tA dd.hs.length dd.tc, .int .i64 J.M.1.1.st, .int .i64 (wtI J.M.1.1), .string (bs J.ev)] 50 (0, 0)), OS 9 strK dd.sA dd.sc dd.ss, OS 61 thK dd.tA dd.tc dd.hs, Big opA dd.hs, Blk x (.cells #[.slice J.A1 J.M.1.2.1.length J.c1, .bool J.M.1.2.2] 48 (0, 0)), Blk y (.cells #[.slice J.A2 J.M.1.2.1.length J.c2, .bool J.M.1.2.2] 48 (0, 0)), OS 71 roK J.A1 J.c1 J.M.1.2.1, OS 71 roK J.A2 J.c2 J.M.1.2.1]) ?_ ?_
              · skip
                refine CV.seq ?_
                -- region 13 law.go:266
                refine CV.still (by kernel_rfl) (by kernel_rfl) (fun _ h => h.drew) ?_
                refine SV.step gno (Step.move rfl) rfl ?_
                refine SV.step gno (Step.nilCheck rfl) rfl ?_
                refine SV.step gno (Step.fieldAddr rfl (F50_2 _ _)) rfl ?_
                refine SV.step gno (Step.load Tryd.underlying3 rfl rfl (fun w h => h.cell 5 rfl rfl)) rfl ?_
                refine SV.step gno (Step.geq rfl rfl) rfl ?_
                refine SV.step gno (Step.move rfl) rfl ?_
                refine SV.step gno (Step.move rfl) rfl ?_
                refine SV.step gno (Step.idx Tryd.underlying32 I3 (fun w h => (h.rs hl fun _ => hI _)) rfl rfl (rfl) _ rfl (by omega)) rfl ?_
                refine SV.step gno (Step.load Tryd.underlying3 rfl rfl (fun w h => (h.rs hl fun _ => hI _).cell0 (by omega) rfl)) rfl ?_
                refine SV.step gno (Step.rem rfl rfl (by omega) (rfl)) rfl ?_
                refine SV.step gno (Step.neq rfl rfl) rfl ?_
                refine SV.split gno (Step.eqlBool Tryd.underlying4 rfl rfl) rfl (fun hm => ?_) (fun hm => ?_)
                · -- True
                  refine SV.nil ?_
                  refine KV.then_n ?_
                  refine KV.env [(1, _), (2, _), (8, _), (10, _), (12, _), (13, _), (14, _), (65, _)] ⟨rfl, rfl, rfl, rfl, rfl, rfl, rfl, rfl, trivial⟩ ?_
                  refine CV.cond_t rfl ?_
                  refine CV.seq ?_
                  -- region 14 law.go:267
                  refine CV.region ?_
                  refine RV.op (OV.step gno (Step.move rfl) rfl ?_)
                  (first | refine RV.op (OV.step gno (Step.convI Tryd.underlying3 Tryd.underlying51 rfl (wU64 (by omega) (by omega))) rfl ?_) | refine RV.op (OV.step gno (Step.convI Tryd.underlying3 Tryd.underlying51 rfl rfl) rfl ?_))
                  refine RV.op (OV.step gno (Step.rem rfl rfl (by omega) (rfl)) rfl ?_)
                  refine RV.op (OV.step gno (Step.assign rfl) rfl ?_)
                  refine RV.nil ?_
                  refine KV.then_n ?_
                  refine KV.env [(1, _), (2, _), (8, _), (10, _), (12, _), (13, _), (14, _), (17, _)] ⟨rfl, rfl, rfl, rfl, rfl, rfl, rfl, rfl, trivial⟩ ?_
                  -- join; live [1, 2, 8, 10, 12, 13, 14, 17]
                  refine CV.join (fun (v : Int) => [(1, .slice A l.length c), (2, .slice B vs.length cv), (8, .pointer (some ⟨qa, 0, none⟩)), (10, .pointer (some ⟨qb, 0, none⟩)), (12, .int .i64 j), (13, .pointer (some ⟨x, 0, none⟩)), (14, .pointer (some ⟨y, 0, none⟩)), (17, .int .u64 v)]) (fun (v : Int) => Hp I w [Blk p (.cells #[.string (bs dd.name), .slice dd.sA dd.ss.length dd.sc, .slice dd.tA dd.hs.length dd.tc] 26 (0, 0)), Blk qa (.cells #[.string (bs da.name), .slice da.sA da.ss.length da.sc, .slice da.tA da.hs.length da.tc, .int .i64 (s.st), .bool s.wt, .int .i64 (s.cd)] 105 (0, 0)), OS 9 strK da.sA da.sc da.ss, OS 61 thK da.tA da.tc da.hs, Big opA da.hs, Blk qb (.cells #[.string (bs dd.name), .slice dd.sA dd.ss.length dd.sc, .slice dd.tA dd.hs.length dd.tc, .int .i64 s.st, .int .i64 (wtI s), .string (bs e)] 50 (0, 0)), OS 9 strK dd.sA dd.sc dd.ss, OS 61 thK dd.tA dd.tc dd.hs, Big opA dd.hs, Blk x (.cells #[.slice none 0 0, .bool false] 48 (0, 0)), Blk y (.cells #[.slice none 0 0, .bool false] 48 (0, 0))]) ?_ ?_
                  · skip
                    refine CV.seq ?_
                    -- region 15 law.go:268
                    refine CV.region ?_
                    refine RV.op (OV.step gno (Step.move rfl) rfl ?_)
                    refine RV.op (OV.step gno (Step.move rfl) rfl ?_)
                    refine RV.op (OV.step gno (Step.lenSl Tryd.underlying37 rfl) rfl ?_)
                    refine RV.op (OV.split gno (Step.lss rfl rfl) rfl (fun hi => ?_) (fun hi => ?_))
                    · -- True
                      refine RV.nil ?_
                      refine KV.then_n ?_
                      refine KV.env [(1, _), (2, _), (8, _), (10, _), (12, _), (13, _), (14, _), (17, _), (72, _)] ⟨rfl, rfl, rfl, rfl, rfl, rfl, rfl, rfl, rfl, trivial⟩ ?_
                      refine CV.cond_t rfl ?_
                      -- region 16 law.go:269
                      refine CV.region ?_
                      refine RV.op (OV.step gno (Step.move rfl) rfl ?_)
                      refine RV.op (OV.step gno (Step.move rfl) rfl ?_)
                      refine RV.op (OV.step gno (Step.idx Tryd.underlying37 I51 (fun w h => (h.rs hv fun _ => hI _)) rfl rfl (rfl) _ rfl (by omega)) rfl ?_)
                      refine RV.op (OV.step gno (Step.load Tryd.underlying51 rfl rfl (fun w h => (h.rs hv fun _ => hI _).cell0 (by omega) rfl)) rfl ?_)
                      refine RV.op (OV.step gno (Step.rem rfl rfl (by omega) (rfl)) rfl ?_)
                      refine RV.op (OV.step gno (Step.assign rfl) rfl ?_)
                      refine RV.nil ?_
                      refine KV.then_n ?_
                      refine KV.env [(1, _), (2, _), (8, _), (10, _), (12, _), (13, _), (14, _), (17, _)] ⟨rfl, rfl, rfl, rfl, rfl, rfl, rfl, rfl, trivial⟩ ?_
                      refine KV.sel [0, 0, 0, 0, 0, 0, 0, 0, 0, 0, 0] [_, _, _, _, _, _, _, _, _, _, _] rfl ?_
                      exact KV.join (_) ⟨rfl, rfl, rfl, rfl, rfl, rfl, rfl, rfl, trivial⟩ (fun _ h => h)
                    · -- False
                      refine RV.nil ?_
                      refine KV.then_n ?_
                      refine KV.env [(1, _), (2, _), (8, _), (10, _), (12, _), (13, _), (14, _), (17, _), (72, _)] ⟨rfl, rfl, rfl, rfl, rfl, rfl, rfl, rfl, rfl, trivial⟩ ?_
                      refine CV.cond_f rfl ?_
                      refine CV.skip ?_
                      refine KV.then_n ?_
                      refine KV.env [(1, _), (2, _), (8, _), (10, _), (12, _), (13, _), (14, _), (17, _)] ⟨rfl, rfl, rfl, rfl, rfl, rfl, rfl, rfl, trivial⟩ ?_
                      refine KV.sel [0, 0, 0, 0, 0, 0, 0, 0, 0, 0, 0] [_, _, _, _, _, _, _, _, _, _, _] rfl ?_
                      exact KV.join (_) ⟨rfl, rfl, rfl, rfl, rfl, rfl, rfl, rfl, trivial⟩ (fun _ h => h)
                  · intro v
                    refine CV.seq ?_
                    -- region 17 law.go:271
                    refine CV.region ?_
                    refine RV.op (OV.step gno (Step.move rfl) rfl ?_)
                    refine RV.op (OV.step gno (Step.move rfl) rfl ?_)
                    refine RV.op (OV.call [1, 1, 1, 1] (F := [_, _, _, _, _, _, _]) Tryd.func20 B20 N20 rfl rfl (fun w h => reply_fn da s v hba (fun hw => by rw [hla]; exact (hinv.2 hw).1)) (fun _ hb => hb.elim) gno rfl (fun v L' hp => ?_))
                    obtain ⟨A3, c3, rfl, rfl⟩ := hp
                    rw [hta]
                    unfold instL
                    refine RV.op (OV.step gno (Step.move rfl) rfl ?_)
                    refine RV.op (OV.step gno (Step.extract0 rfl rfl) rfl ?_)
                    refine RV.op (OV.step gno (Step.extract0 rfl rfl) rfl ?_)
                    refine RV.op (OV.store 5 [_, _] #[_, _] I48 rfl rfl rfl rfl rfl (Nat.le_of_ble_eq_true rfl) (by simp [Value.oneCell']) rfl gno ?_)
                    refine RV.op (OV.step gno (Step.assign rfl) rfl ?_)
                    refine RV.nil ?_
                    refine KV.then_n ?_
                    refine KV.env [(1, _), (2, _), (8, _), (10, _), (12, _), (13, _), (14, _), (15, _), (17, _)] ⟨rfl, rfl, rfl, rfl, rfl, rfl, rfl, rfl, rfl, trivial⟩ ?_
                    -- region 18 law.go:272
                    refine CV.region ?_
                    refine RV.op (OV.step gno (Step.move rfl) rfl ?_)
                    refine RV.op (OV.step gno (Step.move rfl) rfl ?_)
                    refine RV.op (OV.call [1, 1, 1, 1] (F := [_, _, _, _, _, _, _, _]) Tryd.func21 B21 N21 rfl rfl (fun w h => rreply_fn dd s e v hbdd hinv.2) (fun _ hb => hb.elim) gno rfl (fun v L' hp => ?_))
                    obtain ⟨A4, c4, rfl, rfl⟩ := hp
                    rw [hdT]
                    unfold rinC
                    refine RV.op (OV.step gno (Step.move rfl) rfl ?_)
                    refine RV.op (OV.step gno (Step.extract0 rfl rfl) rfl ?_)
                    refine RV.op (OV.step gno (Step.extract0 rfl rfl) rfl ?_)
                    refine RV.op (OV.store 2 [_, _] #[_, _] I48 rfl rfl rfl rfl rfl (Nat.le_of_ble_eq_true rfl) (by simp [Value.oneCell']) rfl gno ?_)
                    refine RV.op (OV.step gno (Step.assign rfl) rfl ?_)
                    refine RV.nil ?_
                    refine KV.then_n ?_
                    refine KV.env [(1, _), (2, _), (8, _), (10, _), (12, _), (13, _), (14, _), (15, _), (16, _)] ⟨rfl, rfl, rfl, rfl, rfl, rfl, rfl, rfl, rfl, trivial⟩ ?_
                    refine KV.sel [0, 2, 2, 2, 2, 3, 3, 3, 3, 0, 0, 0, 0] [_, _, _, _, _, _, _, _, _, _, _, _, _] rfl ?_
                    (first | exact KV.join (⟨rplM dd.d.ts s v, e, A3, c3, A4, c4, evi_rpl hinv.2 _, rpl_le hole _ _⟩) ⟨rfl, rfl, rfl, rfl, rfl, rfl, rfl, rfl, rfl, trivial⟩ (fun _ h => h) | exact KV.join (⟨hdlM dd.d.ts s (evM (l.getD j (intK .i64).d)), (if s.wt = true then e else evM (l.getD j (intK .i64).d)), A3, c3, A4, c4, evi_hdl hinv.2 _, hdl_le hole _ _⟩) ⟨rfl, rfl, rfl, rfl, rfl, rfl, rfl, rfl, rfl, trivial⟩ (fun _ h => h))
                · -- False
                  refine SV.nil ?_
                  refine KV.then_n ?_
                  refine KV.env [(1, _), (2, _), (8, _), (10, _), (12, _), (13, _), (14, _), (65, _)] ⟨rfl, rfl, rfl, rfl, rfl, rfl, rfl, rfl, trivial⟩ ?_
                  refine CV.cond_f rfl ?_
                  refine CV.seq ?_
                  -- region 19 law.go:274
                  refine CV.region ?_
                  refine RV.op (OV.step gno (Step.move rfl) rfl ?_)
                  refine RV.op (OV.step gno (Step.move rfl) rfl ?_)
                  refine RV.op (OV.step gno (Step.move rfl) rfl ?_)
                  refine RV.op (OV.step gno (Step.idx Tryd.underlying32 I3 (fun w h => (h.rs hl fun _ => hI _)) rfl rfl (rfl) _ rfl (by omega)) rfl ?_)
                  refine RV.op (OV.step gno (Step.load Tryd.underlying3 rfl rfl (fun w h => (h.rs hl fun _ => hI _).cell0 (by omega) rfl)) rfl ?_)
                  refine RV.op (OV.callP Tryd.func23 B23 N23 rfl (event_fn (l.getD j (intK .i64).d)) gno rfl ?_)
                  refine RV.op (OV.call [1, 1, 1, 1] (F := [_, _, _, _, _, _, _]) Tryd.func22 B22 N22 rfl rfl (fun w h => handle_fn da s (evM (l.getD j (intK .i64).d)) hba) (fun _ hb => hb.elim) gno rfl (fun v L' hp => ?_))
                  obtain ⟨A3, c3, rfl, rfl⟩ := hp
                  rw [hta]
                  unfold instL
                  refine RV.op (OV.step gno (Step.move rfl) rfl ?_)
                  refine RV.op (OV.step gno (Step.extract0 rfl rfl) rfl ?_)
                  refine RV.op (OV.step gno (Step.extract0 rfl rfl) rfl ?_)
                  refine RV.op (OV.store 5 [_, _] #[_, _] I48 rfl rfl rfl rfl rfl (Nat.le_of_ble_eq_true rfl) (by simp [Value.oneCell']) rfl gno ?_)
                  refine RV.op (OV.step gno (Step.assign rfl) rfl ?_)
                  refine RV.nil ?_
                  refine KV.then_n ?_
                  refine KV.env [(1, _), (2, _), (8, _), (10, _), (12, _), (13, _), (14, _), (15, _)] ⟨rfl, rfl, rfl, rfl, rfl, rfl, rfl, rfl, trivial⟩ ?_
                  -- region 20 law.go:275
                  refine CV.region ?_
                  refine RV.op (OV.step gno (Step.move rfl) rfl ?_)
                  refine RV.op (OV.step gno (Step.move rfl) rfl ?_)
                  refine RV.op (OV.step gno (Step.move rfl) rfl ?_)
                  refine RV.op (OV.step gno (Step.idx Tryd.underlying32 I3 (fun w h => (h.rs hl fun _ => hI _)) rfl rfl (rfl) _ rfl (by omega)) rfl ?_)
                  refine RV.op (OV.step gno (Step.load Tryd.underlying3 rfl rfl (fun w h => (h.rs hl fun _ => hI _).cell0 (by omega) rfl)) rfl ?_)
                  refine RV.op (OV.callP Tryd.func23 B23 N23 rfl (event_fn (l.getD j (intK .i64).d)) gno rfl ?_)
                  refine RV.op (OV.call [1, 1, 1, 1] (F := [_, _, _, _, _, _, _, _]) Tryd.func24 B24 N24 rfl rfl (fun w h => rhandle_fn dd s e (evM (l.getD j (intK .i64).d)) hbdd) (fun _ hb => hb.elim) gno rfl (fun v L' hp => ?_))
                  obtain ⟨A4, c4, rfl, rfl⟩ := hp
                  rw [hdT]
                  unfold rinC
                  refine RV.op (OV.step gno (Step.move rfl) rfl ?_)
                  refine RV.op (OV.step gno (Step.extract0 rfl rfl) rfl ?_)
                  refine RV.op (OV.step gno (Step.extract0 rfl rfl) rfl ?_)
                  refine RV.op (OV.store 2 [_, _] #[_, _] I48 rfl rfl rfl rfl rfl (Nat.le_of_ble_eq_true rfl) (by simp [Value.oneCell']) rfl gno ?_)
                  refine RV.op (OV.step gno (Step.assign rfl) rfl ?_)
                  refine RV.nil ?_
                  refine KV.then_n ?_
                  refine KV.env [(1, _), (2, _), (8, _), (10, _), (12, _), (13, _), (14, _), (15, _), (16, _)] ⟨rfl, rfl, rfl, rfl, rfl, rfl, rfl, rfl, rfl, trivial⟩ ?_
                  refine KV.sel [0, 2, 2, 2, 2, 3, 3, 3, 3, 0, 0, 0, 0] [_, _, _, _, _, _, _, _, _, _, _, _, _] rfl ?_
                  (first | exact KV.join (⟨rplM dd.d.ts s v, e, A3, c3, A4, c4, evi_rpl hinv.2 _, rpl_le hole _ _⟩) ⟨rfl, rfl, rfl, rfl, rfl, rfl, rfl, rfl, rfl, trivial⟩ (fun _ h => h) | exact KV.join (⟨hdlM dd.d.ts s (evM (l.getD j (intK .i64).d)), (if s.wt = true then e else evM (l.getD j (intK .i64).d)), A3, c3, A4, c4, evi_hdl hinv.2 _, hdl_le hole _ _⟩) ⟨rfl, rfl, rfl, rfl, rfl, rfl, rfl, rfl, rfl, trivial⟩ (fun _ h => h))
              · intro J
                refine CV.seq ?_
                -- region 21 law.go:277
                refine CV.any (Hp I w [Blk x (.cells #[.slice J.A1 J.M.1.2.1.length J.c1, .bool J.M.1.2.2] 48 (0, 0)), Blk y (.cells #[.slice J.A2 J.M.1.2.1.length J.c2, .bool J.M.1.2.2] 48 (0, 0)), Blk qb (.cells #[.string (bs dd.name), .slice dd.sA dd.ss.length dd.sc, .slice dd.tA dd.hs.length dd.tc, .int .i64 J.M.1.1.st, .int .i64 (wtI J.M.1.1), .string (bs J.ev)] 50 (0, 0))]) (by kernel_rfl) (fun _ h => h.drew) 28 rfl ?_
                refine AV.take 0 #[true, false, false, false, false, false, false, false, false, false, false, false, false, false, false, false, false, false, false, false, false, false, false, false, false, false, false, false] rfl (by kernel_rfl) (by kernel_rfl) (by kernel_rfl) (fun _ _ _ h => h) gno (Step.move rfl) rfl (fun _ h => h.sel [9, 9, 5] rfl) (by kernel_rfl) ?_
                refine AV.take 1 #[true, true, false, false, false, false, false, false, false, false, false, false, false, false, false, false, false, false, false, false, false, false, false, false, false, false, false, false] rfl (by kernel_rfl) (by kernel_rfl) (by kernel_rfl) (fun _ _ _ h => h) gno (Step.move rfl) rfl (fun _ h => h.sel [9, 9, 5] rfl) (by kernel_rfl) ?_
                refine AV.take 2 #[true, true, true, false, false, false, false, false, false, false, false, false, false, false, false, false, false, false, false, false, false, false, false, false, false, false, false, false] rfl (by kernel_rfl) (by kernel_rfl) (by kernel_rfl) (fun _ _ _ h => h) gno (Step.neq rfl rfl) rfl (fun _ h => h.sel [9, 9, 5] rfl) (by kernel_rfl) ?_
                rw [decide_eq_false (show ¬ ¬ J.M.2 = J.M.2 from fun h => h rfl)]
                refine AV.take 3 #[true, true, true, true, false, false, false, false, false, false, false, false, false, false, false, false, false, false, false, false, false, false, false, false, false, false, false, false] rfl (by kernel_rfl) (by kernel_rfl) (by kernel_rfl) (fun _ _ _ h => h) gno (Step.move rfl) rfl (fun _ h => h.sel [9, 9, 5] rfl) (by kernel_rfl) ?_
                refine AV.take 4 #[true, true, true, true, true, false, false, false, false, false, false, false, false, false, false, false, false, false, false, false, false, false, false, false, false, false, false, false] rfl (by kernel_rfl) (by kernel_rfl) (by kernel_rfl) (fun _ _ _ h => h) (gyes rfl) (Step.loadN _ Tryd.underlying48 rfl I48 rfl rfl (fun w h => h.cells 0 rfl)) rfl (fun _ h => h.sel [9, 9, 5] rfl) (by kernel_rfl) ?_
                refine AV.take 5 #[true, true, true, true, true, true, false, false, false, false, false, false, false, false, false, false, false, false, false, false, false, false, false, false, false, false, false, false] rfl (by kernel_rfl) (by kernel_rfl) (by kernel_rfl) (fun _ _ _ h => h) (gyes rfl) (Step.loadN _ Tryd.underlying48 rfl I48 rfl rfl (fun w h => h.cells 1 rfl)) rfl (fun _ h => h.sel [9, 9, 5] rfl) (by kernel_rfl) ?_
                refine AV.all [6] (by kernel_rfl) (by decide) ?_
                refine ⟨⟨_, rfl, ?_⟩, trivial⟩
                · -- 6 comes up
                  refine OV.call [] (F := [_, _, _, _, _, _, _, _, _, _, _, _, _]) Tryd.func25 B25 N25 rfl rfl (fun w h => same_fn (h.os 11 rfl) (h.os 12 rfl) J.ho J.ho) (fun _ hb => hb.elim) (gyes rfl) rfl (fun v L' hp => ?_)
                  obtain ⟨rfl, rfl⟩ := hp
                  rw [decide_eq_true (⟨rfl, rfl⟩ : _ ∧ _)]
                  simp only [List.append_nil]
                  refine AV.next #[true, true, true, true, true, true, true, false, false, false, false, false, false, false, false, false, false, false, false, false, false, false, false, false, false, false, false, false] (by kernel_rfl) (fun _ h => h.sel [9, 9, 5] rfl) ?_
                  refine AV.take 7 #[true, true, true, true, true, true, true, true, false, false, false, false, false, false, false, false, false, false, false, false, false, false, false, false, false, false, false, false] rfl (by kernel_rfl) (by kernel_rfl) (by kernel_rfl) (fun _ _ _ h => h) (gyes rfl) (Step.not rfl) rfl (fun _ h => h.sel [9, 9, 5] rfl) (by kernel_rfl) ?_
                  refine AV.take 8 #[true, true, true, true, true, true, true, true, true, false, false, false, false, false, false, false, false, false, false, false, false, false, false, false, false, false, false, false] rfl (by kernel_rfl) (by kernel_rfl) (by kernel_rfl) (fun _ _ _ h => h) gno (Step.pick_f rfl rfl) rfl (fun _ h => h.sel [9, 9, 5] rfl) (by kernel_rfl) ?_
                  refine AV.take 9 #[true, true, true, true, true, true, true, true, true, true, false, false, false, false, false, false, false, false, false, false, false, false, false, false, false, false, false, false] rfl (by kernel_rfl) (by kernel_rfl) (by kernel_rfl) (fun _ _ _ h => h) gno (Step.move rfl) rfl (fun _ h => h.sel [9, 9, 5] rfl) (by kernel_rfl) ?_
                  refine AV.take 10 #[true, true, true, true, true, true, true, true, true, true, true, false, false, false, false, false, false, false, false, false, false, false, false, false, false, false, false, false] rfl (by kernel_rfl) (by kernel_rfl) (by kernel_rfl) (fun _ _ _ h => h) (gyes rfl) (Step.move rfl) rfl (fun _ h => h.sel [9, 9, 5] rfl) (by kernel_rfl) ?_
                  refine AV.take 12 #[true, true, true, true, true, true, true, true, true, true, true, false, true, false, false, false, false, false, false, false, false, false, false, false, false, false, false, false] rfl (by kernel_rfl) (by kernel_rfl) (by kernel_rfl) (fun _ _ _ h => h) (gyes rfl) (Step.move rfl) rfl (fun _ h => h.sel [9, 9, 5] rfl) (by kernel_rfl) ?_
                  refine AV.take 13 #[true, true, true, true, true, true, true, true, true, true, true, false, true, true, false, false, false, false, false, false, false, false, false, false, false, false, false, false] rfl (by kernel_rfl) (by kernel_rfl) (by kernel_rfl) (fun _ _ _ h => h) (gyes rfl) (Step.nilCheck rfl) rfl (fun _ h => h.sel [9, 9, 5] rfl) (by kernel_rfl) ?_
                  refine AV.take 14 #[true, true, true, true, true, true, true, true, true, true, true, false, true, true, true, false, false, false, false, false, false, false, false, false, false, false, false, false] rfl (by kernel_rfl) (by kernel_rfl) (by kernel_rfl) (fun _ _ _ h => h) (gyes rfl) (Step.fieldAddr rfl (F50_1 _ _)) rfl (fun _ h => h.sel [9, 9, 5] rfl) (by kernel_rfl) ?_
                  refine AV.take 15 #[true, true, true, true, true, true, true, true, true, true, true, false, true, true, true, true, false, false, false, false, false, false, false, false, false, false, false, false] rfl (by kernel_rfl) (by kernel_rfl) (by kernel_rfl) (fun _ _ _ h => h) (gyes rfl) (Step.load Tryd.underlying3 rfl rfl (fun w h => h.cell 2 rfl rfl)) rfl (fun _ h => h.sel [9, 9, 5] rfl) (by kernel_rfl) ?_
                  refine AV.all [11] (by kernel_rfl) (by decide) ?_
                  refine ⟨⟨_, rfl, ?_⟩, trivial⟩
                  · -- 11 comes up
                    refine OV.call [] (F := [_, _, _, _, _, _, _, _, _, _, _, _, _]) Tryd.func26 B26 N26 rfl rfl (fun w h => state_fn (d := da) (s := J.M.1.1) (h.blk 1 rfl)) (fun _ hb => hb.elim) (gyes rfl) rfl (fun v L' hp => ?_)
                    obtain ⟨rfl, rfl⟩ := hp
                    simp only [List.append_nil]
                    refine AV.next #[true, true, true, true, true, true, true, true, true, true, true, true, true, true, true, true, false, false, false, false, false, false, false, false, false, false, false, false] (by kernel_rfl) (fun _ h => h.sel [9, 9, 5] rfl) ?_
                    refine AV.take 16 #[true, true, true, true, true, true, true, true, true, true, true, true, true, true, true, true, true, false, false, false, false, false, false, false, false, false, false, false] rfl (by kernel_rfl) (by kernel_rfl) (by kernel_rfl) (fun _ _ _ h => h) (gyes rfl) (Step.neq rfl rfl) rfl (fun _ h => h.sel [9, 9, 5] rfl) (by kernel_rfl) ?_
                    rw [decide_eq_false (show ¬ ¬ J.M.1.1.st = J.M.1.1.st from fun h => h rfl)]
                    refine AV.take 17 #[true, true, true, true, true, true, true, true, true, true, true, true, true, true, true, true, true, true, false, false, false, false, false, false, false, false, false, false] rfl (by kernel_rfl) (by kernel_rfl) (by kernel_rfl) (fun _ _ _ h => h) gno (Step.pick_f rfl rfl) rfl (fun _ h => h.sel [9, 9, 5] rfl) (by kernel_rfl) ?_
                    refine AV.take 18 #[true, true, true, true, true, true, true, true, true, true, true, true, true, true, true, true, true, true, true, false, false, false, false, false, false, false, false, false] rfl (by kernel_rfl) (by kernel_rfl) (by kernel_rfl) (fun _ _ _ h => h) gno (Step.move rfl) rfl (fun _ h => h.sel [9, 9, 5] rfl) (by kernel_rfl) ?_
                    refine AV.take 19 #[true, true, true, true, true, true, true, true, true, true, true, true, true, true, true, true, true, true, true, true, false, false, false, false, false, false, false, false] rfl (by kernel_rfl) (by kernel_rfl) (by kernel_rfl) (fun _ _ _ h => h) (gyes rfl) (Step.move rfl) rfl (fun _ h => h.sel [9, 9, 5] rfl) (by kernel_rfl) ?_
                    refine AV.take 21 #[true, true, true, true, true, true, true, true, true, true, true, true, true, true, true, true, true, true, true, true, false, true, false, false, false, false, false, false] rfl (by kernel_rfl) (by kernel_rfl) (by kernel_rfl) (fun _ _ _ h => h) (gyes rfl) (Step.move rfl) rfl (fun _ h => h.sel [9, 9, 5] rfl) (by kernel_rfl) ?_
                    refine AV.take 22 #[true, true, true, true, true, true, true, true, true, true, true, true, true, true, true, true, true, true, true, true, false, true, true, false, false, false, false, false] rfl (by kernel_rfl) (by kernel_rfl) (by kernel_rfl) (fun _ _ _ h => h) (gyes rfl) (Step.nilCheck rfl) rfl (fun _ h => h.sel [9, 9, 5] rfl) (by kernel_rfl) ?_
                    refine AV.take 23 #[true, true, true, true, true, true, true, true, true, true, true, true, true, true, true, true, true, true, true, true, false, true, true, true, false, false, false, false] rfl (by kernel_rfl) (by kernel_rfl) (by kernel_rfl) (fun _ _ _ h => h) (gyes rfl) (Step.fieldAddr rfl (F50_2 _ _)) rfl (fun _ h => h.sel [9, 9, 5] rfl) (by kernel_rfl) ?_
                    refine AV.take 24 #[true, true, true, true, true, true, true, true, true, true, true, true, true, true, true, true, true, true, true, true, false, true, true, true, true, false, false, false] rfl (by kernel_rfl) (by kernel_rfl) (by kernel_rfl) (fun _ _ _ h => h) (gyes rfl) (Step.load Tryd.underlying3 rfl rfl (fun w h => h.cell 2 rfl rfl)) rfl (fun _ h => h.sel [9, 9, 5] rfl) (by kernel_rfl) ?_
                    refine AV.take 25 #[true, true, true, true, true, true, true, true, true, true, true, true, true, true, true, true, true, true, true, true, false, true, true, true, true, true, false, false] rfl (by kernel_rfl) (by kernel_rfl) (by kernel_rfl) (fun _ _ _ h => h) (gyes rfl) (Step.geq rfl rfl) rfl (fun _ h => h.sel [9, 9, 5] rfl) (by kernel_rfl) ?_
                    refine AV.all [20] (by kernel_rfl) (by decide) ?_
                    refine ⟨⟨_, rfl, ?_⟩, trivial⟩
                    · -- 20 comes up
                      refine OV.call [] (F := [_, _, _, _, _, _, _, _, _, _, _, _, _]) Tryd.func27 B27 N27 rfl rfl (fun w h => waiting_fn (d := da) (s := J.M.1.1) (h.blk 1 rfl)) (fun _ hb => hb.elim) (gyes rfl) rfl (fun v L' hp => ?_)
                      obtain ⟨rfl, rfl⟩ := hp
                      simp only [List.append_nil]
                      refine AV.next #[true, true, true, true, true, true, true, true, true, true, true, true, true, true, true, true, true, true, true, true, true, true, true, true, true, true, false, false] (by kernel_rfl) (fun _ h => h.sel [9, 9, 5] rfl) ?_
                      refine AV.take 26 #[true, true, true, true, true, true, true, true, true, true, true, true, true, true, true, true, true, true, true, true, true, true, true, true, true, true, true, false] rfl (by kernel_rfl) (by kernel_rfl) (by kernel_rfl) (fun _ _ _ h => h) (gyes rfl) (Step.neqBool Tryd.underlying4 rfl rfl) rfl (fun _ h => h.sel [9, 9, 5] rfl) (by kernel_rfl) ?_
                      rw [decide_eq_false (show ¬ ¬ J.M.1.1.wt = decide (0 ≤ wtI J.M.1.1) from fun h => h (wtI_d _).symm)]
                      refine AV.take 27 #[true, true, true, true, true, true, true, true, true, true, true, true, true, true, true, true, true, true, true, true, true, true, true, true, true, true, true, true] rfl (by kernel_rfl) (by kernel_rfl) (by kernel_rfl) (fun _ _ _ h => h) gno (Step.pick_f rfl rfl) rfl (fun _ h => h.sel [9, 9, 5] rfl) (by kernel_rfl) ?_
                      refine AV.done (by kernel_rfl) ?_
                      refine KV.then_n ?_
                      refine KV.env [(1, _), (2, _), (8, _), (10, _), (12, _), (137, _)] ⟨rfl, rfl, rfl, rfl, rfl, rfl, trivial⟩ ?_
                      refine CV.cond_f rfl ?_
                      refine CV.skip ?_
                      refine KV.block_n ?_
                      refine KV.then_n ?_
                      refine KV.env [(1, _), (2, _), (8, _), (10, _), (12, _)] ⟨rfl, rfl, rfl, rfl, rfl, trivial⟩ ?_
                      -- region 10 law.go:263
                      refine CV.region ?_
                      refine RV.op (OV.step gno (Step.move rfl) rfl ?_)
                      (first | refine RV.op (OV.step gno (Step.add rfl rfl (wI64 (by omega) (by omega))) rfl ?_) | refine RV.op (OV.step gno (Step.add rfl rfl rfl) rfl ?_))
                      refine RV.op (OV.step gno (Step.assign rfl) rfl ?_)
                      refine RV.nil ?_
                      refine KV.then_n ?_
                      refine KV.env [(1, _), (2, _), (8, _), (10, _), (12, _)] ⟨rfl, rfl, rfl, rfl, rfl, trivial⟩ ?_
                      refine KV.sel [0, 0, 0, 0, 0, 0, 0, 0, 0] [_, _, _, _, _, _, _, _, _] rfl ?_
                      exact KV.loop3 (x := j) (y := s) (z := e) (j + 1) (J.M.1.1) (J.ev) ⟨by omega, J.he⟩ (by omega) ⟨rfl, rfl, rfl, rfl, rfl, trivial⟩ (fun _ h => h)
            · -- False
              refine RV.nil ?_
              refine KV.then_n ?_
              refine KV.env [(1, _), (2, _), (8, _), (10, _), (12, _), (51, _)] ⟨rfl, rfl, rfl, rfl, rfl, rfl, trivial⟩ ?_
              refine CV.cond_f rfl ?_
              refine CV.exit ?_
              refine KV.then_exit ?_
              refine KV.then_exit ?_
              refine KV.block_hit ?_
              refine KV.then_n ?_
              refine KV.env [] trivial ?_
              refine CV.seq ?_
              -- region 23 law.go:281
              refine CV.region ?_
              refine RV.op (OV.call [] (F := [_, _, _, _, _, _, _, _, _]) Tryd.func10 B10 N10 rfl rfl (fun w h => awake_fn (EvR.keep h hE (hro 4 rfl))) (fun b hb => roAt4 hE hro b hb) gno rfl (fun v L' hp => ?_))
              obtain ⟨rfl, rfl⟩ := hp
              simp only [List.append_nil]
              refine RV.op (OV.step gno (Step.assign rfl) rfl ?_)
              refine RV.nil ?_
              refine KV.then_n ?_
              refine KV.env [(6, _)] ⟨rfl, trivial⟩ ?_
              refine CV.ret ?_
              -- return at r23
              refine KV.sel [] [] rfl ?_
              exact KV.ret1 rfl rfl _ (fun _ h => h) ⟨rfl, rfl⟩
end Go.Proofs.YtplmfekhdaefaaaDoor
