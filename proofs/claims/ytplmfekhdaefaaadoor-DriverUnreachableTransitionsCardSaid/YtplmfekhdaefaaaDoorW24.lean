/-
  Walks, part 24.
-/
import Derived.Test.YtplmfekhdaefaaaDoorTab24
import Derived.Test.YtplmfekhdaefaaaDoorW22
import Derived.Test.YtplmfekhdaefaaaDoorDm20
set_option linter.unusedSimpArgs false
set_option linter.unusedVariables false
namespace Go.Proofs.YtplmfekhdaefaaaDoor
open Go.Sv Go.Drv
structure JU (d : Dv) (LT : List Tr) where
  M : (IS × List Ro × Bool) × Int
  s2 : IS
  A1 : Option Addr
  c1 : Nat
  A2 : Option Addr
  c2 : Nat
  R : R2 d LT (kq d) M.1.1 s2
  ho : M.1.2.1.length ≤ 1000000

set_option maxRecDepth 100000 in
set_option maxHeartbeats 16000000 in
theorem unreach_fn (raw : DH) {A B : Option Addr} {c cv : Nat} (l vs : List Int) {w : World} (hE : EvR w) (hd : DR w raw) (hl : RS w (intK .i64) A l) (hv : RS w (intK .u64) B vs) : Fx Tryd.prog 9 [.agg #[.string (bs raw.name), .slice raw.sA raw.ss.length raw.sc, .slice raw.tA raw.hs.length raw.tc], .slice A l.length c, .slice B vs.length cv] w [] at4 (fun v L => v = .bool true ∧ L = []) := by
  refine Sv.Fx.body Tryd.func9 rfl T9 rfl ?_
  intro I hro hI
  refine KV.env [(0, _), (1, _), (2, _)] ⟨rfl, rfl, rfl, trivial⟩ ?_
  refine CV.seq ?_
  -- region 0 more.go:9
  refine CV.region ?_
  refine RV.op (OV.box (t := 26) #[_, _, _] rfl rfl gno rfl (fun b0 => ?_))
  refine RV.op (OV.step gno (Step.assign rfl) rfl ?_)
  refine RV.nil ?_
  refine KV.then_n ?_
  refine KV.env [(1, _), (2, _), (3, _)] ⟨rfl, rfl, rfl, trivial⟩ ?_
  refine CV.seq ?_
  refine CV.seq ?_
  -- region 1 more.go:10
  refine CV.region ?_
  refine RV.op (OV.step gno (Step.loadN _ Tryd.underlying26 rfl I26 rfl rfl (fun w h => h.cells 0 rfl)) rfl ?_)
  refine RV.op (OV.call [] (F := [_]) Tryd.func16 B16 N16 rfl rfl (fun w h => large_fn raw (DR.keep h hd hI)) (fun _ hb => hb.elim) gno rfl (fun v L' hp => ?_))
  obtain ⟨rfl, rfl⟩ := hp
  simp only [List.append_nil]
  refine RV.op (OV.step gno (Step.move rfl) rfl ?_)
  refine KV.cases 26 rfl (fun cc1 => ?_) (fun cc1 => ?_)
  · -- True
    refine RV.op (OV.skip rfl rfl ?_)
    refine RV.op (OV.skip rfl rfl ?_)
    refine RV.op (OV.skip rfl rfl ?_)
    refine RV.op (OV.step gno (Step.pick_t rfl rfl) rfl ?_)
    refine RV.nil ?_
    refine KV.then_n ?_
    refine KV.env [(1, _), (2, _), (3, _), (30, _)] ⟨rfl, rfl, rfl, rfl, trivial⟩ ?_
    refine CV.cond_t rfl ?_
    refine CV.seq ?_
    -- region 2 more.go:11
    refine CV.region ?_
    refine RV.op (OV.call [] (F := [_]) Tryd.func10 B10 N10 rfl rfl (fun w h => awake_fn (EvR.keep h hE (hro 4 rfl))) (fun b hb => roAt4 hE hro b hb) gno rfl (fun v L' hp => ?_))
    obtain ⟨rfl, rfl⟩ := hp
    simp only [List.append_nil]
    refine RV.op (OV.step gno (Step.assign rfl) rfl ?_)
    refine RV.nil ?_
    refine KV.then_n ?_
    refine KV.env [(6, _)] ⟨rfl, trivial⟩ ?_
    refine CV.ret ?_
    refine KV.then_ret ?_
    -- return at r2
    refine KV.sel [] [] rfl ?_
    exact KV.ret1 rfl rfl _ (fun _ h => h) ⟨rfl, rfl⟩
  · -- False
    have hsm := lrg_sml cc1
    have hsm1 : raw.ss.length ≤ 40 := hsm.1
    refine RV.op (OV.step (gyes rfl) (Step.move rfl) rfl ?_)
    refine RV.op (OV.step (gyes rfl) (Step.lenSl Tryd.underlying32 rfl) rfl ?_)
    refine RV.op (OV.split (gyes rfl) (Step.gtr rfl rfl) rfl (fun h30 => ?_) (fun h30 => ?_))
    · -- True
      refine RV.op (OV.step gno (Step.pick_f rfl rfl) rfl ?_)
      refine RV.nil ?_
      refine KV.then_n ?_
      refine KV.env [(1, _), (2, _), (3, _), (30, _)] ⟨rfl, rfl, rfl, rfl, trivial⟩ ?_
      refine CV.cond_t rfl ?_
      refine CV.seq ?_
      -- region 2 more.go:11
      refine CV.region ?_
      refine RV.op (OV.call [] (F := [_]) Tryd.func10 B10 N10 rfl rfl (fun w h => awake_fn (EvR.keep h hE (hro 4 rfl))) (fun b hb => roAt4 hE hro b hb) gno rfl (fun v L' hp => ?_))
      obtain ⟨rfl, rfl⟩ := hp
      simp only [List.append_nil]
      refine RV.op (OV.step gno (Step.assign rfl) rfl ?_)
      refine RV.nil ?_
      refine KV.then_n ?_
      refine KV.env [(6, _)] ⟨rfl, trivial⟩ ?_
      refine CV.ret ?_
      refine KV.then_ret ?_
      -- return at r2
      refine KV.sel [] [] rfl ?_
      exact KV.ret1 rfl rfl _ (fun _ h => h) ⟨rfl, rfl⟩
    · -- False
      refine RV.op (OV.step gno (Step.pick_f rfl rfl) rfl ?_)
      refine RV.nil ?_
      refine KV.then_n ?_
      refine KV.env [(1, _), (2, _), (3, _), (30, _)] ⟨rfl, rfl, rfl, rfl, trivial⟩ ?_
      refine CV.cond_f rfl ?_
      refine CV.skip ?_
      refine KV.then_n ?_
      refine KV.env [(1, _), (2, _), (3, _)] ⟨rfl, rfl, rfl, trivial⟩ ?_
      refine CV.seq ?_
      -- region 3 more.go:13
      refine CV.region ?_
      refine RV.op (OV.step gno (Step.loadN _ Tryd.underlying26 rfl I26 rfl rfl (fun w h => h.cells 0 rfl)) rfl ?_)
      refine RV.op (OV.call [] (F := [_]) Tryd.func17 B17 N17 rfl rfl (fun w h => some_fn raw (DR.keep h hd hI) (by omega)) (fun _ hb => hb.elim) gno rfl (fun v L' hp => ?_))
      obtain ⟨dd, rfl, hdd, rfl⟩ := hp
      have hck := some_chk raw.d
      rw [← hdd] at hck
      have hdT : dd.hs.map (·.t) = dd.d.ts := rfl
      have hole := opsLe_of hck
      have hbdd := chk_bnd hck
      have hdl : dd.hs.length ≤ 128 := hbdd.t
      have hdtl : dd.d.ts.length = dd.hs.length := List.length_map _
      unfold dL
      refine RV.op (OV.alloc #[.string (Sv.bs []), .slice none 0 0, .slice none 0 0] I26 rfl gno rfl (fun p => ?_))
      refine RV.op (OV.store 4 [_, _, _] #[_, _, _] I26 rfl rfl rfl rfl rfl (Nat.le_of_ble_eq_true rfl) (by simp [Value.oneCell']) rfl gno ?_)
      refine RV.nil ?_
      refine KV.then_n ?_
      refine KV.env [(1, _), (2, _), (7, _)] ⟨rfl, rfl, rfl, trivial⟩ ?_
      refine CV.seq ?_
      -- region 4 more.go:14
      refine CV.region ?_
      refine RV.op (OV.step gno (Step.loadN _ Tryd.underlying26 rfl I26 rfl rfl (fun w h => h.cells 4 rfl)) rfl ?_)
      refine RV.op (OV.call [] (F := [_, _, _, _, _]) Tryd.func29 B29 N29 rfl rfl (fun w h => reachable_fn dd (DR.ofHp (k1 := 1) (k2 := 2) (k3 := 3) h rfl rfl rfl rfl)) (fun _ hb => hb.elim) gno rfl (fun v L' hp => ?_))
      rcases hp with ⟨_, Ai, ci, rfl, rfl⟩ | ⟨hno, _, _⟩
      rotate_left
      · exact absurd hck hno
      have hol := outR_len (rchM dd.d) dd.ss.length
      have hsl := hbdd.s
      refine RV.op (OV.step gno (Step.move rfl) rfl ?_)
      refine RV.op (OV.step gno (Step.extract0 rfl rfl) rfl ?_)
      refine RV.op (OV.step gno (Step.extract0 rfl rfl) rfl ?_)
      refine RV.op (OV.step gno (Step.assign rfl) rfl ?_)
      refine RV.op (OV.step gno (Step.assign rfl) rfl ?_)
      refine RV.nil ?_
      refine KV.then_n ?_
      refine KV.env [(1, _), (2, _), (7, _), (8, _), (9, _)] ⟨rfl, rfl, rfl, rfl, rfl, trivial⟩ ?_
      refine CV.seq ?_
      refine CV.seq ?_
      -- region 5 more.go:15
      refine CV.region ?_
      refine RV.op (OV.step gno (Step.move rfl) rfl ?_)
      refine RV.op (OV.split gno (Step.neq rfl rfl) rfl (fun n1 => ?_) (fun n1 => ?_))
      · -- True
        exact absurd rfl n1
      · -- False
        refine RV.nil ?_
        refine KV.then_n ?_
        refine KV.env [(1, _), (2, _), (7, _), (8, _), (40, _)] ⟨rfl, rfl, rfl, rfl, rfl, trivial⟩ ?_
        refine CV.cond_f rfl ?_
        refine CV.skip ?_
        refine KV.then_n ?_
        refine KV.env [(1, _), (2, _), (7, _), (8, _)] ⟨rfl, rfl, rfl, rfl, trivial⟩ ?_
        refine CV.seq ?_
        -- region 7 more.go:18
        refine CV.region ?_
        refine RV.op (OV.step gno (Step.fieldAddr rfl (F26_0 _ _)) rfl ?_)
        refine RV.op (OV.step gno (Step.load Tryd.underlying9 rfl rfl (fun w h => h.cell 4 rfl rfl)) rfl ?_)
        refine RV.op (OV.step gno (Step.fieldAddr rfl (F26_1 _ _)) rfl ?_)
        refine RV.op (OV.step gno (Step.load Tryd.underlying23 rfl rfl (fun w h => h.cell 4 rfl rfl)) rfl ?_)
        refine RV.op (OV.step gno (Step.build rfl (Bd26_0_1 _ _ _ _)) rfl ?_)
        refine RV.op (OV.alloc #[.string (Sv.bs []), .slice none 0 0, .slice none 0 0] I26 rfl gno rfl (fun pl => ?_))
        refine RV.op (OV.store 6 [_, _, _] #[_, _, _] I26 rfl rfl rfl rfl rfl (Nat.le_of_ble_eq_true rfl) (by simp [Value.oneCell']) rfl gno ?_)
        refine RV.nil ?_
        refine KV.then_n ?_
        refine KV.env [(1, _), (2, _), (7, _), (8, _), (10, _)] ⟨rfl, rfl, rfl, rfl, rfl, trivial⟩ ?_
        refine CV.seq ?_
        refine CV.seq ?_
        -- region 8 more.go:19
        refine KV.heap (fun w h => h.nilOS (e := 61) (K := thK)) ?_
        refine CV.region ?_
        refine RV.op (OV.step gno (Step.assign rfl) rfl ?_)
        refine RV.nil ?_
        refine KV.then_n ?_
        refine KV.env [(1, _), (2, _), (7, _), (8, _), (10, _), (11, _)] ⟨rfl, rfl, rfl, rfl, rfl, rfl, trivial⟩ ?_
        refine CV.block ?_
        -- loop L9; live [1, 2, 7, 8, 10, 11]
        refine KV.sel [4, 1, 1, 1, 1, 1, 1] [_, _, _, _, _, _, _] rfl ?_
        refine CV.loop3 (fun (i : Nat) (A1 : Option Addr) (c1 : Nat) => i ≤ dd.hs.length) (fun (i : Nat) (A1 : Option Addr) (c1 : Nat) => dd.hs.length - i) (fun (i : Nat) (A1 : Option Addr) (c1 : Nat) => [(1, .slice A l.length c), (2, .slice B vs.length cv), (7, .pointer (some ⟨p, 0, none⟩)), (8, .slice Ai (outR (rchM dd.d) dd.ss.length).length ci), (10, .pointer (some ⟨pl, 0, none⟩)), (11, .int .i64 i)]) (fun (i : Nat) (A1 : Option Addr) (c1 : Nat) => Hp I w [Blk p (.cells #[.string (bs dd.name), .slice dd.sA dd.ss.length dd.sc, .slice dd.tA dd.hs.length dd.tc] 26 (0, 0)), OS 9 strK dd.sA dd.sc dd.ss, OS 61 thK dd.tA dd.tc dd.hs, Big opA dd.hs, OS 3 (intK .i64) Ai ci (outR (rchM dd.d) dd.ss.length), Blk pl (.cells #[.string (bs dd.name), .slice dd.sA dd.ss.length dd.sc, .slice A1 (lsF dd i).length c1] 26 (0, 0)), OS 61 thK A1 c1 (lsF dd i)]) (0) (none) (0) (Nat.zero_le _) ⟨rfl, rfl, rfl, rfl, rfl, rfl, trivial⟩ (fun _ h => h) ?_
        intro i A1 c1 hil
        refine CV.seq ?_
        refine CV.seq ?_
        -- region 9 more.go:19
        refine CV.region ?_
        refine RV.op (OV.step gno (Step.move rfl) rfl ?_)
        refine RV.op (OV.step gno (Step.fieldAddr rfl (F26_2 _ _)) rfl ?_)
        refine RV.op (OV.step gno (Step.load Tryd.underlying24 rfl rfl (fun w h => h.cell 0 rfl rfl)) rfl ?_)
        refine RV.op (OV.step gno (Step.lenSl Tryd.underlying24 rfl) rfl ?_)
        refine RV.op (OV.split gno (Step.lss rfl rfl) rfl (fun hi => ?_) (fun hi => ?_))
        · -- True
          refine RV.nil ?_
          refine KV.then_n ?_
          refine KV.env [(1, _), (2, _), (7, _), (8, _), (10, _), (11, _), (50, _)] ⟨rfl, rfl, rfl, rfl, rfl, rfl, rfl, trivial⟩ ?_
          refine CV.cond_t rfl ?_
          refine CV.skip ?_
          refine KV.then_n ?_
          refine KV.env [(1, _), (2, _), (7, _), (8, _), (10, _), (11, _)] ⟨rfl, rfl, rfl, rfl, rfl, rfl, trivial⟩ ?_
          refine CV.seq ?_
          refine CV.block ?_
          refine CV.seq ?_
          -- region 11 more.go:20
          refine CV.region ?_
          refine RV.op (OV.step gno (Step.assign rfl) rfl ?_)
          refine RV.nil ?_
          refine KV.then_n ?_
          refine KV.env [(1, _), (2, _), (7, _), (8, _), (10, _), (11, _), (12, _)] ⟨rfl, rfl, rfl, rfl, rfl, rfl, rfl, trivial⟩ ?_
          refine CV.seq ?_
          refine CV.seq ?_
          -- region 12 more.go:21
          refine CV.region ?_
          refine RV.op (OV.step gno (Step.assign rfl) rfl ?_)
          refine RV.nil ?_
          refine KV.then_n ?_
          refine KV.env [(1, _), (2, _), (7, _), (8, _), (10, _), (11, _), (12, _), (13, _)] ⟨rfl, rfl, rfl, rfl, rfl, rfl, rfl, rfl, trivial⟩ ?_
          refine CV.block ?_
          -- loop L13; live [1, 2, 7, 8, 10, 11, 12, 13]
          refine KV.sel [0, 0, 0, 0, 0, 0, 0] [_, _, _, _, _, _, _] rfl ?_
          refine CV.loopI (fun (m : Nat) => m ≤ (outR (rchM dd.d) dd.ss.length).length) (fun (m : Nat) => (outR (rchM dd.d) dd.ss.length).length - m) (fun (m : Nat) => [(1, .slice A l.length c), (2, .slice B vs.length cv), (7, .pointer (some ⟨p, 0, none⟩)), (8, .slice Ai (outR (rchM dd.d) dd.ss.length).length ci), (10, .pointer (some ⟨pl, 0, none⟩)), (11, .int .i64 i), (12, .bool (fndI (outR (rchM dd.d) dd.ss.length) (dd.hs.getD i thK.d).t.frm m)), (13, .int .i64 m)]) (fun (m : Nat) => Hp I w [Blk p (.cells #[.string (bs dd.name), .slice dd.sA dd.ss.length dd.sc, .slice dd.tA dd.hs.length dd.tc] 26 (0, 0)), OS 9 strK dd.sA dd.sc dd.ss, OS 61 thK dd.tA dd.tc dd.hs, Big opA dd.hs, OS 3 (intK .i64) Ai ci (outR (rchM dd.d) dd.ss.length), Blk pl (.cells #[.string (bs dd.name), .slice dd.sA dd.ss.length dd.sc, .slice A1 (lsF dd i).length c1] 26 (0, 0)), OS 61 thK A1 c1 (lsF dd i)]) (0) (Nat.zero_le _) ⟨rfl, rfl, rfl, rfl, rfl, rfl, rfl, rfl, trivial⟩ (fun _ h => h) ?_
          intro m hml
          refine CV.seq ?_
          refine CV.seq ?_
          -- region 13 more.go:21
          refine CV.region ?_
          refine RV.op (OV.step gno (Step.move rfl) rfl ?_)
          refine RV.op (OV.step gno (Step.move rfl) rfl ?_)
          refine RV.op (OV.step gno (Step.lenSl Tryd.underlying32 rfl) rfl ?_)
          refine RV.op (OV.split gno (Step.lss rfl rfl) rfl (fun hm => ?_) (fun hm => ?_))
          · -- True
            refine RV.nil ?_
            refine KV.then_n ?_
            refine KV.env [(1, _), (2, _), (7, _), (8, _), (10, _), (11, _), (12, _), (13, _), (56, _)] ⟨rfl, rfl, rfl, rfl, rfl, rfl, rfl, rfl, rfl, trivial⟩ ?_
            refine CV.cond_t rfl ?_
            refine CV.skip ?_
            refine KV.then_n ?_
            refine KV.env [(1, _), (2, _), (7, _), (8, _), (10, _), (11, _), (12, _), (13, _)] ⟨rfl, rfl, rfl, rfl, rfl, rfl, rfl, rfl, trivial⟩ ?_
            refine CV.seq ?_
            refine CV.block ?_
            -- region 15 more.go:22
            refine CV.still (by kernel_rfl) (by kernel_rfl) (fun _ h => h.drew) ?_
            refine SV.step gno (Step.move rfl) rfl ?_
            refine SV.step gno (Step.move rfl) rfl ?_
            refine SV.cases 60 rfl (fun cc2 => ?_) (fun cc2 => ?_)
            · -- True
              have hk1 := cc2
              refine SV.skip rfl rfl ?_
              refine SV.skip rfl rfl ?_
              refine SV.skip rfl rfl ?_
              refine SV.skip rfl rfl ?_
              refine SV.skip rfl rfl ?_
              refine SV.skip rfl rfl ?_
              refine SV.skip rfl rfl ?_
              refine SV.skip rfl rfl ?_
              refine SV.skip rfl rfl ?_
              refine SV.skip rfl rfl ?_
              refine SV.skip rfl rfl ?_
              refine SV.step gno (Step.pick_t rfl rfl) rfl ?_
              refine SV.step gno (Step.assign rfl) rfl ?_
              refine SV.nil ?_
              refine KV.block_n ?_
              refine KV.then_n ?_
              refine KV.env [(1, _), (2, _), (7, _), (8, _), (10, _), (11, _), (12, _), (13, _)] ⟨rfl, rfl, rfl, rfl, rfl, rfl, rfl, rfl, trivial⟩ ?_
              -- region 14 more.go:21
              refine CV.region ?_
              refine RV.op (OV.step gno (Step.move rfl) rfl ?_)
              (first | refine RV.op (OV.step gno (Step.add rfl rfl (wI64 (by omega) (by omega))) rfl ?_) | refine RV.op (OV.step gno (Step.add rfl rfl rfl) rfl ?_))
              refine RV.op (OV.step gno (Step.assign rfl) rfl ?_)
              refine RV.nil ?_
              refine KV.then_n ?_
              refine KV.env [(1, _), (2, _), (7, _), (8, _), (10, _), (11, _), (12, _), (13, _)] ⟨rfl, rfl, rfl, rfl, rfl, rfl, rfl, rfl, trivial⟩ ?_
              refine KV.sel [0, 0, 0, 0, 0, 0, 0] [_, _, _, _, _, _, _] rfl ?_
              exact KV.loopI (z := m) (m + 1) (by omega) (by omega) ⟨rfl, rfl, rfl, rfl, rfl, rfl, (by first | (rw [fndI_1 hk1]; rfl) | (rw [fndI_2 hk0]; rfl)), rfl, trivial⟩ (fun _ h => h)
            · -- False
              have hk0 := cc2
              refine SV.step (gyes rfl) (Step.move rfl) rfl ?_
              refine SV.step (gyes rfl) (Step.move rfl) rfl ?_
              refine SV.step (gyes rfl) (Step.idx Tryd.underlying32 I3 (fun w h => h.os 4 rfl) rfl rfl (rfl) _ rfl (by omega)) rfl ?_
              refine SV.step (gyes rfl) (Step.load Tryd.underlying3 rfl rfl (fun w h => (h.os 4 rfl).cell0 (by omega) rfl)) rfl ?_
              refine SV.step (gyes rfl) (Step.fieldAddr rfl (F26_2 _ _)) rfl ?_
              refine SV.step (gyes rfl) (Step.load Tryd.underlying24 rfl rfl (fun w h => h.cell 0 rfl rfl)) rfl ?_
              refine SV.step (gyes rfl) (Step.move rfl) rfl ?_
              refine SV.step (gyes rfl) (Step.idx Tryd.underlying24 I61 (fun w h => h.os 2 rfl) rfl rfl (rfl) _ rfl (by omega)) rfl ?_
              refine SV.step (gyes rfl) (Step.fieldAddr rfl (F61_0 _ _)) rfl ?_
              refine SV.step (gyes rfl) (Step.load Tryd.underlying3 rfl rfl (fun w h => (h.os 2 rfl).cell0 (by omega) rfl)) rfl ?_
              refine SV.step (gyes rfl) (Step.eql rfl rfl) rfl ?_
              refine SV.step gno (Step.pick_f rfl rfl) rfl ?_
              refine SV.step gno (Step.assign rfl) rfl ?_
              refine SV.nil ?_
              refine KV.block_n ?_
              refine KV.then_n ?_
              refine KV.env [(1, _), (2, _), (7, _), (8, _), (10, _), (11, _), (12, _), (13, _)] ⟨rfl, rfl, rfl, rfl, rfl, rfl, rfl, rfl, trivial⟩ ?_
              -- region 14 more.go:21
              refine CV.region ?_
              refine RV.op (OV.step gno (Step.move rfl) rfl ?_)
              (first | refine RV.op (OV.step gno (Step.add rfl rfl (wI64 (by omega) (by omega))) rfl ?_) | refine RV.op (OV.step gno (Step.add rfl rfl rfl) rfl ?_))
              refine RV.op (OV.step gno (Step.assign rfl) rfl ?_)
              refine RV.nil ?_
              refine KV.then_n ?_
              refine KV.env [(1, _), (2, _), (7, _), (8, _), (10, _), (11, _), (12, _), (13, _)] ⟨rfl, rfl, rfl, rfl, rfl, rfl, rfl, rfl, trivial⟩ ?_
              refine KV.sel [0, 0, 0, 0, 0, 0, 0] [_, _, _, _, _, _, _] rfl ?_
              exact KV.loopI (z := m) (m + 1) (by omega) (by omega) ⟨rfl, rfl, rfl, rfl, rfl, rfl, (by first | (rw [fndI_1 hk1]; rfl) | (rw [fndI_2 hk0]; rfl)), rfl, trivial⟩ (fun _ h => h)
          · -- False
            refine RV.nil ?_
            refine KV.then_n ?_
            refine KV.env [(1, _), (2, _), (7, _), (8, _), (10, _), (11, _), (12, _), (13, _), (56, _)] ⟨rfl, rfl, rfl, rfl, rfl, rfl, rfl, rfl, rfl, trivial⟩ ?_
            refine CV.cond_f rfl ?_
            refine CV.exit ?_
            refine KV.then_exit ?_
            refine KV.then_exit ?_
            refine KV.block_hit ?_
            refine KV.then_n ?_
            refine KV.env [(1, _), (2, _), (7, _), (8, _), (10, _), (11, _), (12, _)] ⟨rfl, rfl, rfl, rfl, rfl, rfl, rfl, trivial⟩ ?_
            refine CV.seq ?_
            -- region 16 more.go:24
            obtain rfl : m = (outR (rchM dd.d) dd.ss.length).length := by omega
            refine CV.region ?_
            refine RV.op (OV.step gno (Step.move rfl) rfl ?_)
            rw [kpt_f]
            refine RV.nil ?_
            refine KV.then_n ?_
            refine KV.env [(1, _), (2, _), (7, _), (8, _), (10, _), (11, _), (73, _)] ⟨rfl, rfl, rfl, rfl, rfl, rfl, rfl, trivial⟩ ?_
            refine KV.cases 73 rfl (fun cc3 => ?_) (fun cc3 => ?_)
            · -- True
              have hkp := cc3
              refine CV.cond_t rfl ?_
              -- region 17 more.go:25
              refine CV.any (Hp I w [OS 61 thK dd.tA dd.tc dd.hs, Blk p (.cells #[.string (bs dd.name), .slice dd.sA dd.ss.length dd.sc, .slice dd.tA dd.hs.length dd.tc] 26 (0, 0))]) (by kernel_rfl) (fun _ h => h.drew) 11 rfl ?_
              refine AV.take 0 #[true, false, false, false, false, false, false, false, false, false, false] rfl (by kernel_rfl) (by kernel_rfl) (by kernel_rfl) (fun _ _ _ h => h) gno (Step.fieldAddr rfl (F26_2 _ _)) rfl (fun _ h => h.sel [2, 0] rfl) (by kernel_rfl) ?_
              refine AV.take 2 #[true, false, true, false, false, false, false, false, false, false, false] rfl (by kernel_rfl) (by kernel_rfl) (by kernel_rfl) (fun _ _ _ h => h) gno (Step.fieldAddr rfl (F26_2 _ _)) rfl (fun _ h => h.sel [2, 0] rfl) (by kernel_rfl) ?_
              refine AV.take 3 #[true, false, true, true, false, false, false, false, false, false, false] rfl (by kernel_rfl) (by kernel_rfl) (by kernel_rfl) (fun _ _ _ h => h) gno (Step.load Tryd.underlying24 rfl rfl (fun w h => h.cell 1 rfl rfl)) rfl (fun _ h => h.sel [2, 0] rfl) (by kernel_rfl) ?_
              refine AV.take 4 #[true, false, true, true, true, false, false, false, false, false, false] rfl (by kernel_rfl) (by kernel_rfl) (by kernel_rfl) (fun _ _ _ h => h) gno (Step.move rfl) rfl (fun _ h => h.sel [2, 0] rfl) (by kernel_rfl) ?_
              refine AV.take 5 #[true, false, true, true, true, true, false, false, false, false, false] rfl (by kernel_rfl) (by kernel_rfl) (by kernel_rfl) (fun _ _ _ h => h) gno (Step.idx Tryd.underlying24 I61 (fun w h => h.os 0 rfl) rfl rfl (rfl) _ rfl (by omega)) rfl (fun _ h => h.sel [2, 0] rfl) (by kernel_rfl) ?_
              refine AV.take 6 #[true, false, true, true, true, true, true, false, false, false, false] rfl (by kernel_rfl) (by kernel_rfl) (by kernel_rfl) (fun _ _ _ h => h) gno (Step.loadN _ Tryd.underlying61 rfl I61 rfl rfl (fun w h => (h.os 0 rfl).cells (by omega))) rfl (fun _ h => h.sel [2, 0] rfl) (by kernel_rfl) ?_
              refine AV.all [1, 7] (by kernel_rfl) (by decide) ?_
              refine ⟨⟨_, rfl, ?_⟩, ⟨⟨_, rfl, ?_⟩, trivial⟩⟩
              · -- 1 comes up
                refine OV.step gno (Step.load Tryd.underlying24 rfl rfl (fun w h => h.cell 5 rfl rfl)) rfl ?_
                refine AV.next #[true, true, true, true, true, true, true, false, false, false, false] (by kernel_rfl) (fun _ h => h.sel [2, 0] rfl) ?_
                refine AV.all [7] (by kernel_rfl) (by decide) ?_
                refine ⟨⟨_, rfl, ?_⟩, trivial⟩
                · -- 7 comes up
                  refine OV.buildSlice (K := thK) ([(dd.hs.getD i thK.d)]) rfl (Bs24_1_0 _ _ _ _ _ _ _ _) rfl rfl (by omega) gno rfl (fun z => ?_)
                  refine AV.next #[true, true, true, true, true, true, true, true, false, false, false] (by kernel_rfl) (fun _ h => h.sel [2, 0] rfl) ?_
                  refine AV.all [8] (by kernel_rfl) (by decide) ?_
                  refine ⟨⟨_, rfl, ?_⟩, trivial⟩
                  · -- 8 comes up
                    refine OV.append 6 Tryd.underlying24 I61 rfl rfl rfl rfl rfl rfl (fun w h => h.os 7 rfl) (by have := lsF_le dd i; simp only [List.length_cons, List.length_nil]; omega) (by have := lsF_le dd i; simp only [List.length_cons, List.length_nil]; omega) gno rfl (fun A2 c2 => ?_)
                    refine AV.next #[true, true, true, true, true, true, true, true, true, false, false] (by kernel_rfl) (fun _ h => h.sel [2, 0] rfl) ?_
                    refine AV.take 9 #[true, true, true, true, true, true, true, true, true, true, false] rfl (by kernel_rfl) (by kernel_rfl) (by kernel_rfl) (fun _ _ _ h => h) gno (Step.fieldAddr rfl (F26_2 _ _)) rfl (fun _ h => h.sel [2, 0] rfl) (by kernel_rfl) ?_
                    refine AV.all [10] (by kernel_rfl) (by decide) ?_
                    refine ⟨⟨_, rfl, ?_⟩, trivial⟩
                    · -- 10 comes up
                      refine OV.store 5 [_] #[_, _, _] I24 rfl rfl rfl rfl rfl (Nat.le_of_ble_eq_true rfl) (by simp [Value.oneCell']) rfl gno ?_
                      refine AV.next #[true, true, true, true, true, true, true, true, true, true, true] (by kernel_rfl) (fun _ h => h.sel [2, 0] rfl) ?_
                      refine AV.done (by kernel_rfl) ?_
                      refine KV.block_n ?_
                      refine KV.then_n ?_
                      refine KV.env [(1, _), (2, _), (7, _), (8, _), (10, _), (11, _)] ⟨rfl, rfl, rfl, rfl, rfl, rfl, trivial⟩ ?_
                      -- region 10 more.go:19
                      refine CV.region ?_
                      refine RV.op (OV.step gno (Step.move rfl) rfl ?_)
                      (first | refine RV.op (OV.step gno (Step.add rfl rfl (wI64 (by omega) (by omega))) rfl ?_) | refine RV.op (OV.step gno (Step.add rfl rfl rfl) rfl ?_))
                      refine RV.op (OV.step gno (Step.assign rfl) rfl ?_)
                      refine RV.nil ?_
                      refine KV.then_n ?_
                      refine KV.env [(1, _), (2, _), (7, _), (8, _), (10, _), (11, _)] ⟨rfl, rfl, rfl, rfl, rfl, rfl, trivial⟩ ?_
                      refine KV.sel [0, 0, 0, 0, 0, 0, 0] [_, _, _, _, _, _, _] rfl ?_
                      (first | exact KV.loop3 (x := i) (y := A1) (z := c1) (i + 1) (A2) (c2) (by omega) (by omega) ⟨rfl, rfl, rfl, rfl, rfl, rfl, trivial⟩ (fun _ h => by rw [lsF_t (by omega) hkp]; exact h) | exact KV.loop3 (x := i) (y := A1) (z := c1) (i + 1) (A1) (c1) (by omega) (by omega) ⟨rfl, rfl, rfl, rfl, rfl, rfl, trivial⟩ (fun _ h => by rw [lsF_f (by omega) hkp]; exact h))
              · -- 7 comes up
                refine OV.buildSlice (K := thK) ([(dd.hs.getD i thK.d)]) rfl (Bs24_1_0 _ _ _ _ _ _ _ _) rfl rfl (by omega) gno rfl (fun z => ?_)
                refine AV.next #[true, false, true, true, true, true, true, true, false, false, false] (by kernel_rfl) (fun _ h => h.sel [2, 0] rfl) ?_
                refine AV.all [1] (by kernel_rfl) (by decide) ?_
                refine ⟨⟨_, rfl, ?_⟩, trivial⟩
                · -- 1 comes up
                  refine OV.step gno (Step.load Tryd.underlying24 rfl rfl (fun w h => h.cell 5 rfl rfl)) rfl ?_
                  refine AV.next #[true, true, true, true, true, true, true, true, false, false, false] (by kernel_rfl) (fun _ h => h.sel [2, 0] rfl) ?_
                  refine AV.all [8] (by kernel_rfl) (by decide) ?_
                  refine ⟨⟨_, rfl, ?_⟩, trivial⟩
                  · -- 8 comes up
                    refine OV.append 6 Tryd.underlying24 I61 rfl rfl rfl rfl rfl rfl (fun w h => h.os 7 rfl) (by have := lsF_le dd i; simp only [List.length_cons, List.length_nil]; omega) (by have := lsF_le dd i; simp only [List.length_cons, List.length_nil]; omega) gno rfl (fun A2 c2 => ?_)
                    refine AV.next #[true, true, true, true, true, true, true, true, true, false, false] (by kernel_rfl) (fun _ h => h.sel [2, 0] rfl) ?_
                    refine AV.take 9 #[true, true, true, true, true, true, true, true, true, true, false] rfl (by kernel_rfl) (by kernel_rfl) (by kernel_rfl) (fun _ _ _ h => h) gno (Step.fieldAddr rfl (F26_2 _ _)) rfl (fun _ h => h.sel [2, 0] rfl) (by kernel_rfl) ?_
                    refine AV.all [10] (by kernel_rfl) (by decide) ?_
                    refine ⟨⟨_, rfl, ?_⟩, trivial⟩
                    · -- 10 comes up
                      refine OV.store 5 [_] #[_, _, _] I24 rfl rfl rfl rfl rfl (Nat.le_of_ble_eq_true rfl) (by simp [Value.oneCell']) rfl gno ?_
                      refine AV.next #[true, true, true, true, true, true, true, true, true, true, true] (by kernel_rfl) (fun _ h => h.sel [2, 0] rfl) ?_
                      refine AV.done (by kernel_rfl) ?_
                      refine KV.block_n ?_
                      refine KV.then_n ?_
                      refine KV.env [(1, _), (2, _), (7, _), (8, _), (10, _), (11, _)] ⟨rfl, rfl, rfl, rfl, rfl, rfl, trivial⟩ ?_
                      -- region 10 more.go:19
                      refine CV.region ?_
                      refine RV.op (OV.step gno (Step.move rfl) rfl ?_)
                      (first | refine RV.op (OV.step gno (Step.add rfl rfl (wI64 (by omega) (by omega))) rfl ?_) | refine RV.op (OV.step gno (Step.add rfl rfl rfl) rfl ?_))
                      refine RV.op (OV.step gno (Step.assign rfl) rfl ?_)
                      refine RV.nil ?_
                      refine KV.then_n ?_
                      refine KV.env [(1, _), (2, _), (7, _), (8, _), (10, _), (11, _)] ⟨rfl, rfl, rfl, rfl, rfl, rfl, trivial⟩ ?_
                      refine KV.sel [0, 0, 0, 0, 0, 0, 0] [_, _, _, _, _, _, _] rfl ?_
                      (first | exact KV.loop3 (x := i) (y := A1) (z := c1) (i + 1) (A2) (c2) (by omega) (by omega) ⟨rfl, rfl, rfl, rfl, rfl, rfl, trivial⟩ (fun _ h => by rw [lsF_t (by omega) hkp]; exact h) | exact KV.loop3 (x := i) (y := A1) (z := c1) (i + 1) (A1) (c1) (by omega) (by omega) ⟨rfl, rfl, rfl, rfl, rfl, rfl, trivial⟩ (fun _ h => by rw [lsF_f (by omega) hkp]; exact h))
            · -- False
              have hkp := cc3
              refine CV.cond_f rfl ?_
              refine CV.skip ?_
              refine KV.block_n ?_
              refine KV.then_n ?_
              refine KV.env [(1, _), (2, _), (7, _), (8, _), (10, _), (11, _)] ⟨rfl, rfl, rfl, rfl, rfl, rfl, trivial⟩ ?_
              -- region 10 more.go:19
              refine CV.region ?_
              refine RV.op (OV.step gno (Step.move rfl) rfl ?_)
              (first | refine RV.op (OV.step gno (Step.add rfl rfl (wI64 (by omega) (by omega))) rfl ?_) | refine RV.op (OV.step gno (Step.add rfl rfl rfl) rfl ?_))
              refine RV.op (OV.step gno (Step.assign rfl) rfl ?_)
              refine RV.nil ?_
              refine KV.then_n ?_
              refine KV.env [(1, _), (2, _), (7, _), (8, _), (10, _), (11, _)] ⟨rfl, rfl, rfl, rfl, rfl, rfl, trivial⟩ ?_
              refine KV.sel [0, 0, 0, 0, 0, 0, 0] [_, _, _, _, _, _, _] rfl ?_
              (first | exact KV.loop3 (x := i) (y := A1) (z := c1) (i + 1) (A2) (c2) (by omega) (by omega) ⟨rfl, rfl, rfl, rfl, rfl, rfl, trivial⟩ (fun _ h => by rw [lsF_t (by omega) hkp]; exact h) | exact KV.loop3 (x := i) (y := A1) (z := c1) (i + 1) (A1) (c1) (by omega) (by omega) ⟨rfl, rfl, rfl, rfl, rfl, rfl, trivial⟩ (fun _ h => by rw [lsF_f (by omega) hkp]; exact h))
        · -- False
          refine RV.nil ?_
          refine KV.then_n ?_
          refine KV.env [(1, _), (2, _), (7, _), (8, _), (10, _), (11, _), (50, _)] ⟨rfl, rfl, rfl, rfl, rfl, rfl, rfl, trivial⟩ ?_
          refine CV.cond_f rfl ?_
          refine CV.exit ?_
          refine KV.then_exit ?_
          refine KV.then_exit ?_
          refine KV.block_hit ?_
          refine KV.then_n ?_
          refine KV.env [(1, _), (2, _), (7, _), (10, _)] ⟨rfl, rfl, rfl, rfl, trivial⟩ ?_
          refine CV.seq ?_
          -- region 18 more.go:28
          obtain rfl : i = dd.hs.length := by omega
          refine CV.region ?_
          refine RV.op (OV.step gno (Step.loadN _ Tryd.underlying26 rfl I26 rfl rfl (fun w h => h.cells 0 rfl)) rfl ?_)
          refine RV.op (OV.call [] (F := [_, _, _, _, _, _, _]) Tryd.func18 B18 N18 rfl rfl (fun w h => new_fn dd (DR.ofHp (k1 := 1) (k2 := 2) (k3 := 3) h rfl rfl rfl rfl)) (fun _ hb => hb.elim) gno rfl (fun v L' hp => ?_))
          rcases hp with ⟨_, qa, da, hea, rfl, rfl⟩ | ⟨hno, _, _⟩
          rotate_left
          · exact absurd hck hno
          have hta : da.hs.map (·.t) = dd.d.ts := congrArg Dv.ts hea
          have hla : da.hs.length = dd.d.ts.length := by rw [← hta, List.length_map]
          have hba : Bnd da := hbdd.eq hea
          unfold instL
          refine RV.op (OV.step gno (Step.move rfl) rfl ?_)
          refine RV.op (OV.step gno (Step.extract0 rfl rfl) rfl ?_)
          refine RV.op (OV.step gno (Step.extract0 rfl rfl) rfl ?_)
          refine RV.op (OV.step gno (Step.assign rfl) rfl ?_)
          refine RV.op (OV.step gno (Step.assign rfl) rfl ?_)
          refine RV.nil ?_
          refine KV.then_n ?_
          refine KV.env [(1, _), (2, _), (10, _), (14, _), (15, _)] ⟨rfl, rfl, rfl, rfl, rfl, trivial⟩ ?_
          refine CV.seq ?_
          -- region 19 more.go:29
          refine CV.region ?_
          refine RV.op (OV.step gno (Step.loadN _ Tryd.underlying26 rfl I26 rfl rfl (fun w h => h.cells 5 rfl)) rfl ?_)
          refine RV.op (OV.call [] (F := [_, _, _, _, _, _, _, _, _, _, _]) Tryd.func18 B18 N18 rfl rfl (fun w h => new_fn (lsD dd A1 c1) (DR.ofLs (k1 := 1) (k2 := 6) (k3 := 3) h rfl rfl rfl)) (fun _ hb => hb.elim) gno rfl (fun v L' hp => ?_))
          rcases hp with ⟨_, qb, db, heb, rfl, rfl⟩ | ⟨hno, _, _⟩
          rotate_left
          · exact absurd (lsD_chk hck A1 c1) hno
          have htb : db.hs.map (·.t) = (dd.d.ts.filter (kq dd.d)) := (congrArg Dv.ts heb).trans (lsD_ts hck A1 c1)
          have hlb : db.hs.length = (dd.d.ts.filter (kq dd.d)).length := by rw [← htb, List.length_map]
          have hbb : Bnd db := (chk_bnd (lsD_chk hck A1 c1)).eq heb
          unfold instL
          refine RV.op (OV.step gno (Step.move rfl) rfl ?_)
          refine RV.op (OV.step gno (Step.extract0 rfl rfl) rfl ?_)
          refine RV.op (OV.step gno (Step.extract0 rfl rfl) rfl ?_)
          refine RV.op (OV.step gno (Step.assign rfl) rfl ?_)
          refine RV.op (OV.step gno (Step.assign rfl) rfl ?_)
          refine RV.nil ?_
          refine KV.then_n ?_
          refine KV.env [(1, _), (2, _), (14, _), (15, _), (16, _), (17, _)] ⟨rfl, rfl, rfl, rfl, rfl, rfl, trivial⟩ ?_
          refine CV.seq ?_
          refine CV.seq ?_
          -- region 20 more.go:30
          refine CV.region ?_
          refine RV.op (OV.step gno (Step.move rfl) rfl ?_)
          refine RV.op (OV.split gno (Step.neq rfl rfl) rfl (fun n2 => ?_) (fun n2 => ?_))
          · -- True
            exact absurd rfl n2
          · -- False
            refine RV.op (OV.step gno (Step.move rfl) rfl ?_)
            refine RV.op (OV.step (gyes rfl) (Step.move rfl) rfl ?_)
            refine RV.op (OV.split (gyes rfl) (Step.neq rfl rfl) rfl (fun n3 => ?_) (fun n3 => ?_))
            · -- True
              exact absurd rfl n3
            · -- False
              refine RV.op (OV.step gno (Step.pick_f rfl rfl) rfl ?_)
              refine RV.op (OV.step gno (Step.move rfl) rfl ?_)
              refine RV.op (OV.step (gyes rfl) (Step.move rfl) rfl ?_)
              refine RV.op (OV.split (gyes rfl) (Step.eqlP Tryd.underlying40 rfl rfl) rfl (fun n4 => ?_) (fun n4 => ?_))
              · -- True
                cases n4
              · -- False
                refine RV.op (OV.step gno (Step.pick_f rfl rfl) rfl ?_)
                refine RV.op (OV.step gno (Step.move rfl) rfl ?_)
                refine RV.op (OV.step (gyes rfl) (Step.move rfl) rfl ?_)
                refine RV.op (OV.split (gyes rfl) (Step.eqlP Tryd.underlying40 rfl rfl) rfl (fun n5 => ?_) (fun n5 => ?_))
                · -- True
                  cases n5
                · -- False
                  refine RV.op (OV.step gno (Step.pick_f rfl rfl) rfl ?_)
                  refine RV.nil ?_
                  refine KV.then_n ?_
                  refine KV.env [(1, _), (2, _), (14, _), (16, _), (107, _)] ⟨rfl, rfl, rfl, rfl, rfl, trivial⟩ ?_
                  refine CV.cond_f rfl ?_
                  refine CV.skip ?_
                  refine KV.then_n ?_
                  refine KV.env [(1, _), (2, _), (14, _), (16, _)] ⟨rfl, rfl, rfl, rfl, trivial⟩ ?_
                  refine CV.seq ?_
                  refine CV.seq ?_
                  -- region 22 more.go:33
                  refine CV.region ?_
                  refine RV.op (OV.step gno (Step.assign rfl) rfl ?_)
                  refine RV.nil ?_
                  refine KV.then_n ?_
                  refine KV.env [(1, _), (2, _), (14, _), (16, _), (18, _)] ⟨rfl, rfl, rfl, rfl, rfl, trivial⟩ ?_
                  refine CV.block ?_
                  -- loop L23; live [1, 2, 14, 16, 18]
                  refine KV.sel [7, 7, 7, 7, 7, 7, 7, 7] [_, _, _, _, _, _, _, _] rfl ?_
                  refine CV.loop3 (fun (j : Nat) (s : IS) (s2 : IS) => j ≤ l.length ∧ R2 dd.d (dd.d.ts.filter (kq dd.d)) (kq dd.d) s s2) (fun (j : Nat) (s : IS) (s2 : IS) => l.length - j) (fun (j : Nat) (s : IS) (s2 : IS) => [(1, .slice A l.length c), (2, .slice B vs.length cv), (14, .pointer (some ⟨qa, 0, none⟩)), (16, .pointer (some ⟨qb, 0, none⟩)), (18, .int .i64 j)]) (fun (j : Nat) (s : IS) (s2 : IS) => Hp I w [Blk qa (.cells #[.string (bs da.name), .slice da.sA da.ss.length da.sc, .slice da.tA da.hs.length da.tc, .int .i64 (s.st), .bool s.wt, .int .i64 (s.cd)] 105 (0, 0)), OS 9 strK da.sA da.sc da.ss, OS 61 thK da.tA da.tc da.hs, Big opA da.hs, Blk qb (.cells #[.string (bs db.name), .slice db.sA db.ss.length db.sc, .slice db.tA db.hs.length db.tc, .int .i64 (s2.st), .bool s2.wt, .int .i64 (s2.cd)] 105 (0, 0)), OS 9 strK db.sA db.sc db.ss, OS 61 thK db.tA db.tc db.hs, Big opA db.hs]) (0) (⟨0, false, 0⟩) (⟨0, false, 0⟩) ⟨Nat.zero_le _, ri_start hck, rfl, rfl, fun h => by cases h⟩ ⟨rfl, rfl, rfl, rfl, rfl, trivial⟩ (fun _ h => h) ?_
                  intro j s s2 hinv
                  refine CV.seq ?_
                  refine CV.seq ?_
                  -- region 23 more.go:33
                  refine CV.region ?_
                  refine RV.op (OV.step gno (Step.move rfl) rfl ?_)
                  refine RV.op (OV.step gno (Step.move rfl) rfl ?_)
                  refine RV.op (OV.step gno (Step.lenSl Tryd.underlying32 rfl) rfl ?_)
                  refine RV.op (OV.split gno (Step.lss rfl rfl) rfl (fun hj => ?_) (fun hj => ?_))
                  · -- True
                    refine RV.nil ?_
                    refine KV.then_n ?_
                    refine KV.env [(1, _), (2, _), (14, _), (16, _), (18, _), (111, _)] ⟨rfl, rfl, rfl, rfl, rfl, rfl, trivial⟩ ?_
                    refine CV.cond_t rfl ?_
                    refine CV.skip ?_
                    refine KV.then_n ?_
                    refine KV.env [(1, _), (2, _), (14, _), (16, _), (18, _)] ⟨rfl, rfl, rfl, rfl, rfl, trivial⟩ ?_
                    refine CV.seq ?_
                    refine CV.block ?_
                    refine CV.seq ?_
                    -- region 25 more.go:34
                    refine CV.region ?_
                    refine RV.op (OV.alloc #[.slice none 0 0, .bool false] I48 rfl gno rfl (fun x => ?_))
                    refine RV.op (OV.alloc #[.slice none 0 0, .bool false] I48 rfl gno rfl (fun y => ?_))
                    refine RV.nil ?_
                    refine KV.then_n ?_
                    refine KV.env [(1, _), (2, _), (14, _), (16, _), (18, _), (19, _), (20, _)] ⟨rfl, rfl, rfl, rfl, rfl, rfl, rfl, trivial⟩ ?_
                    refine CV.seq ?_
                    -- region 26 more.go:35
                    refine CV.region ?_
                    refine RV.op (OV.step gno (Step.assign rfl) rfl ?_)
                    refine RV.op (OV.step gno (Step.assign rfl) rfl ?_)
                    refine RV.nil ?_
                    refine KV.then_n ?_
                    refine KV.env [(1, _), (2, _), (14, _), (16, _), (18, _), (19, _), (20, _)] ⟨rfl, rfl, rfl, rfl, rfl, rfl, rfl, trivial⟩ ?_
                    -- join; live [1, 2, 14, 16, 18, 19, 20, 21, 22]
                    refine CV.join (fun (J : JU dd.d (dd.d.ts.filter (kq dd.d))) => [(1, .slice A l.length c), (2, .slice B vs.length cv), (14, .pointer (some ⟨qa, 0, none⟩)), (16, .pointer (some ⟨qb, 0, none⟩)), (18, .int .i64 j), (19, .pointer (some ⟨x, 0, none⟩)), (20, .pointer (some ⟨y, 0, none⟩)), (21, .int .i64 J.M.2), (22, .int .i64 J.M.2)]) (fun (J : JU dd.d (dd.d.ts.filter (kq dd.d))) => Hp I w [Blk qa (.cells #[.string (bs da.name), .slice da.sA da.ss.length da.sc, .slice da.tA da.hs.length da.tc, .int .i64 (J.M.1.1.st), .bool J.M.1.1.wt, .int .i64 (J.M.1.1.cd)] 105 (0, 0)), OS 9 strK da.sA da.sc da.ss, OS 61 thK da.tA da.tc da.hs, Big opA da.hs, Blk qb (.cells #[.string (bs db.name), .slice db.sA db.ss.length db.sc, .slice db.tA db.hs.length db.tc, .int .i64 (J.s2.st), .bool J.s2.wt, .int .i64 (J.s2.cd)] 105 (0, 0)), OS 9 strK db.sA db.sc db.ss, OS 61 thK db.tA db.tc db.hs, Big opA db.hs, Blk x (.cells #[.slice J.A1 J.M.1.2.1.length J.c1, .bool J.M.1.2.2] 48 (0, 0)), Blk y (.cells #[.slice J.A2 J.M.1.2.1.length J.c2, .bool J.M.1.2.2] 48 (0, 0)), OS 71 roK J.A1 J.c1 J.M.1.2.1, OS 71 roK J.A2 J.c2 J.M.1.2.1]) ?_ ?_
                    · skip
                      refine CV.seq ?_
                      -- region 27 more.go:36
                      refine CV.region ?_
                      refine RV.op (OV.step gno (Step.move rfl) rfl ?_)
                      refine RV.op (OV.call [] (F := [_, _, _, _, _, _, _, _, _, _]) Tryd.func27 B27 N27 rfl rfl (fun w h => waiting_fn (d := da) (s := s) (h.blk 0 rfl)) (fun _ hb => hb.elim) gno rfl (fun v L' hp => ?_))
                      obtain ⟨rfl, rfl⟩ := hp
                      simp only [List.append_nil]
                      refine RV.nil ?_
                      refine KV.then_n ?_
                      refine KV.env [(1, _), (2, _), (14, _), (16, _), (18, _), (19, _), (20, _), (115, _)] ⟨rfl, rfl, rfl, rfl, rfl, rfl, rfl, rfl, trivial⟩ ?_
                      refine KV.cases 115 rfl (fun cc4 => ?_) (fun cc4 => ?_)
                      · -- True
                        have hw : s.wt = true := cc4
                        refine CV.cond_t rfl ?_
                        refine CV.seq ?_
                        -- region 28 more.go:37
                        refine CV.region ?_
                        refine RV.op (OV.step gno (Step.move rfl) rfl ?_)
                        (first | refine RV.op (OV.step gno (Step.convI Tryd.underlying3 Tryd.underlying51 rfl (wU64 (by omega) (by omega))) rfl ?_) | refine RV.op (OV.step gno (Step.convI Tryd.underlying3 Tryd.underlying51 rfl rfl) rfl ?_))
                        refine RV.op (OV.step gno (Step.rem rfl rfl (by omega) (rfl)) rfl ?_)
                        refine RV.op (OV.step gno (Step.assign rfl) rfl ?_)
                        refine RV.nil ?_
                        refine KV.then_n ?_
                        refine KV.env [(1, _), (2, _), (14, _), (16, _), (18, _), (19, _), (20, _), (23, _)] ⟨rfl, rfl, rfl, rfl, rfl, rfl, rfl, rfl, trivial⟩ ?_
                        -- join; live [1, 2, 14, 16, 18, 19, 20, 23]
                        refine CV.join (fun (v : Int) => [(1, .slice A l.length c), (2, .slice B vs.length cv), (14, .pointer (some ⟨qa, 0, none⟩)), (16, .pointer (some ⟨qb, 0, none⟩)), (18, .int .i64 j), (19, .pointer (some ⟨x, 0, none⟩)), (20, .pointer (some ⟨y, 0, none⟩)), (23, .int .u64 v)]) (fun (v : Int) => Hp I w [Blk qa (.cells #[.string (bs da.name), .slice da.sA da.ss.length da.sc, .slice da.tA da.hs.length da.tc, .int .i64 (s.st), .bool s.wt, .int .i64 (s.cd)] 105 (0, 0)), OS 9 strK da.sA da.sc da.ss, OS 61 thK da.tA da.tc da.hs, Big opA da.hs, Blk qb (.cells #[.string (bs db.name), .slice db.sA db.ss.length db.sc, .slice db.tA db.hs.length db.tc, .int .i64 (s2.st), .bool s2.wt, .int .i64 (s2.cd)] 105 (0, 0)), OS 9 strK db.sA db.sc db.ss, OS 61 thK db.tA db.tc db.hs, Big opA db.hs, Blk x (.cells #[.slice none 0 0, .bool false] 48 (0, 0)), Blk y (.cells #[.slice none 0 0, .bool false] 48 (0, 0))]) ?_ ?_
                        · skip
                          refine CV.seq ?_
                          -- region 29 more.go:38
                          refine CV.region ?_
                          refine RV.op (OV.step gno (Step.move rfl) rfl ?_)
                          refine RV.op (OV.step gno (Step.move rfl) rfl ?_)
                          refine RV.op (OV.step gno (Step.lenSl Tryd.underlying37 rfl) rfl ?_)
                          refine RV.op (OV.split gno (Step.lss rfl rfl) rfl (fun hi2 => ?_) (fun hi2 => ?_))
                          · -- True
                            refine RV.nil ?_
                            refine KV.then_n ?_
                            refine KV.env [(1, _), (2, _), (14, _), (16, _), (18, _), (19, _), (20, _), (23, _), (122, _)] ⟨rfl, rfl, rfl, rfl, rfl, rfl, rfl, rfl, rfl, trivial⟩ ?_
                            refine CV.cond_t rfl ?_
                            -- region 30 more.go:39
                            refine CV.region ?_
                            refine RV.op (OV.step gno (Step.move rfl) rfl ?_)
                            refine RV.op (OV.step gno (Step.move rfl) rfl ?_)
                            refine RV.op (OV.step gno (Step.idx Tryd.underlying37 I51 (fun w h => (h.rs hv fun _ => hI _)) rfl rfl (rfl) _ rfl (by omega)) rfl ?_)
                            refine RV.op (OV.step gno (Step.load Tryd.underlying51 rfl rfl (fun w h => (h.rs hv fun _ => hI _).cell0 (by omega) rfl)) rfl ?_)
                            refine RV.op (OV.step gno (Step.rem rfl rfl (by omega) (rfl)) rfl ?_)
                            refine RV.op (OV.step gno (Step.assign rfl) rfl ?_)
                            refine RV.nil ?_
                            refine KV.then_n ?_
                            refine KV.env [(1, _), (2, _), (14, _), (16, _), (18, _), (19, _), (20, _), (23, _)] ⟨rfl, rfl, rfl, rfl, rfl, rfl, rfl, rfl, trivial⟩ ?_
                            refine KV.sel [0, 0, 0, 0, 0, 0, 0, 0, 0, 0] [_, _, _, _, _, _, _, _, _, _] rfl ?_
                            exact KV.join (_) ⟨rfl, rfl, rfl, rfl, rfl, rfl, rfl, rfl, trivial⟩ (fun _ h => h)
                          · -- False
                            refine RV.nil ?_
                            refine KV.then_n ?_
                            refine KV.env [(1, _), (2, _), (14, _), (16, _), (18, _), (19, _), (20, _), (23, _), (122, _)] ⟨rfl, rfl, rfl, rfl, rfl, rfl, rfl, rfl, rfl, trivial⟩ ?_
                            refine CV.cond_f rfl ?_
                            refine CV.skip ?_
                            refine KV.then_n ?_
                            refine KV.env [(1, _), (2, _), (14, _), (16, _), (18, _), (19, _), (20, _), (23, _)] ⟨rfl, rfl, rfl, rfl, rfl, rfl, rfl, rfl, trivial⟩ ?_
                            refine KV.sel [0, 0, 0, 0, 0, 0, 0, 0, 0, 0] [_, _, _, _, _, _, _, _, _, _] rfl ?_
                            exact KV.join (_) ⟨rfl, rfl, rfl, rfl, rfl, rfl, rfl, rfl, trivial⟩ (fun _ h => h)
                        · intro v
                          refine CV.seq ?_
                          -- region 31 more.go:41
                          refine CV.region ?_
                          refine RV.op (OV.step gno (Step.move rfl) rfl ?_)
                          refine RV.op (OV.step gno (Step.move rfl) rfl ?_)
                          refine RV.op (OV.call [0, 0, 0, 0] (F := [_, _, _, _, _, _]) Tryd.func20 B20 N20 rfl rfl (fun w h => reply_fn da s v hba (fun hw => by rw [hla]; exact (hinv.2.ri.c hw).1)) (fun _ hb => hb.elim) gno rfl (fun v L' hp => ?_))
                          obtain ⟨A3, c3, rfl, rfl⟩ := hp
                          rw [hta]
                          unfold instL
                          refine RV.op (OV.step gno (Step.move rfl) rfl ?_)
                          refine RV.op (OV.step gno (Step.extract0 rfl rfl) rfl ?_)
                          refine RV.op (OV.step gno (Step.extract0 rfl rfl) rfl ?_)
                          refine RV.op (OV.store 4 [_, _] #[_, _] I48 rfl rfl rfl rfl rfl (Nat.le_of_ble_eq_true rfl) (by simp [Value.oneCell']) rfl gno ?_)
                          refine RV.op (OV.step gno (Step.assign rfl) rfl ?_)
                          refine RV.nil ?_
                          refine KV.then_n ?_
                          refine KV.env [(1, _), (2, _), (14, _), (16, _), (18, _), (19, _), (20, _), (21, _), (23, _)] ⟨rfl, rfl, rfl, rfl, rfl, rfl, rfl, rfl, rfl, trivial⟩ ?_
                          -- region 32 more.go:42
                          refine CV.region ?_
                          refine RV.op (OV.step gno (Step.move rfl) rfl ?_)
                          refine RV.op (OV.step gno (Step.move rfl) rfl ?_)
                          refine RV.op (OV.call [0, 0, 0, 0] (F := [_, _, _, _, _, _, _]) Tryd.func20 B20 N20 rfl rfl (fun w h => reply_fn db s2 v hbb (fun hw => by rw [hlb]; exact (hinv.2.c (hinv.2.wt.symm.trans hw)).1)) (fun _ hb => hb.elim) gno rfl (fun v L' hp => ?_))
                          obtain ⟨A4, c4, rfl, rfl⟩ := hp
                          rw [htb]
                          have hR := r2_rpl hck (fun t => kq_of t) hinv.2 hw v
                          rw [hR.2.1, hR.2.2]
                          unfold instL
                          refine RV.op (OV.step gno (Step.move rfl) rfl ?_)
                          refine RV.op (OV.step gno (Step.extract0 rfl rfl) rfl ?_)
                          refine RV.op (OV.step gno (Step.extract0 rfl rfl) rfl ?_)
                          refine RV.op (OV.store 1 [_, _] #[_, _] I48 rfl rfl rfl rfl rfl (Nat.le_of_ble_eq_true rfl) (by simp [Value.oneCell']) rfl gno ?_)
                          refine RV.op (OV.step gno (Step.assign rfl) rfl ?_)
                          refine RV.nil ?_
                          refine KV.then_n ?_
                          refine KV.env [(1, _), (2, _), (14, _), (16, _), (18, _), (19, _), (20, _), (21, _), (22, _)] ⟨rfl, rfl, rfl, rfl, rfl, rfl, rfl, rfl, rfl, trivial⟩ ?_
                          refine KV.sel [2, 2, 2, 2, 3, 3, 3, 3, 0, 0, 0, 0] [_, _, _, _, _, _, _, _, _, _, _, _] rfl ?_
                          (first | exact KV.join (⟨rplM dd.d.ts s v, (rplM (dd.d.ts.filter (kq dd.d)) s2 v).1.1, A3, c3, A4, c4, hR.1, rpl_le hole _ _⟩) ⟨rfl, rfl, rfl, rfl, rfl, rfl, rfl, rfl, rfl, trivial⟩ (fun _ h => h) | exact KV.join (⟨hdlM dd.d.ts s (evM (l.getD j (intK .i64).d)), (hdlM (dd.d.ts.filter (kq dd.d)) s2 (evM (l.getD j (intK .i64).d))).1.1, A3, c3, A4, c4, hR.1, hdl_le hole _ _⟩) ⟨rfl, rfl, rfl, rfl, rfl, rfl, rfl, rfl, rfl, trivial⟩ (fun _ h => h))
                      · -- False
                        have hw : s.wt = false := cc4
                        refine CV.cond_f rfl ?_
                        refine CV.seq ?_
                        -- region 33 more.go:44
                        refine CV.region ?_
                        refine RV.op (OV.step gno (Step.move rfl) rfl ?_)
                        refine RV.op (OV.step gno (Step.move rfl) rfl ?_)
                        refine RV.op (OV.step gno (Step.move rfl) rfl ?_)
                        refine RV.op (OV.step gno (Step.idx Tryd.underlying32 I3 (fun w h => (h.rs hl fun _ => hI _)) rfl rfl (rfl) _ rfl (by omega)) rfl ?_)
                        refine RV.op (OV.step gno (Step.load Tryd.underlying3 rfl rfl (fun w h => (h.rs hl fun _ => hI _).cell0 (by omega) rfl)) rfl ?_)
                        refine RV.op (OV.callP Tryd.func23 B23 N23 rfl (event_fn (l.getD j (intK .i64).d)) gno rfl ?_)
                        refine RV.op (OV.call [0, 0, 0, 0] (F := [_, _, _, _, _, _]) Tryd.func22 B22 N22 rfl rfl (fun w h => handle_fn da s (evM (l.getD j (intK .i64).d)) hba) (fun _ hb => hb.elim) gno rfl (fun v L' hp => ?_))
                        obtain ⟨A3, c3, rfl, rfl⟩ := hp
                        rw [hta]
                        unfold instL
                        refine RV.op (OV.step gno (Step.move rfl) rfl ?_)
                        refine RV.op (OV.step gno (Step.extract0 rfl rfl) rfl ?_)
                        refine RV.op (OV.step gno (Step.extract0 rfl rfl) rfl ?_)
                        refine RV.op (OV.store 4 [_, _] #[_, _] I48 rfl rfl rfl rfl rfl (Nat.le_of_ble_eq_true rfl) (by simp [Value.oneCell']) rfl gno ?_)
                        refine RV.op (OV.step gno (Step.assign rfl) rfl ?_)
                        refine RV.nil ?_
                        refine KV.then_n ?_
                        refine KV.env [(1, _), (2, _), (14, _), (16, _), (18, _), (19, _), (20, _), (21, _)] ⟨rfl, rfl, rfl, rfl, rfl, rfl, rfl, rfl, trivial⟩ ?_
                        -- region 34 more.go:45
                        refine CV.region ?_
                        refine RV.op (OV.step gno (Step.move rfl) rfl ?_)
                        refine RV.op (OV.step gno (Step.move rfl) rfl ?_)
                        refine RV.op (OV.step gno (Step.move rfl) rfl ?_)
                        refine RV.op (OV.step gno (Step.idx Tryd.underlying32 I3 (fun w h => (h.rs hl fun _ => hI _)) rfl rfl (rfl) _ rfl (by omega)) rfl ?_)
                        refine RV.op (OV.step gno (Step.load Tryd.underlying3 rfl rfl (fun w h => (h.rs hl fun _ => hI _).cell0 (by omega) rfl)) rfl ?_)
                        refine RV.op (OV.callP Tryd.func23 B23 N23 rfl (event_fn (l.getD j (intK .i64).d)) gno rfl ?_)
                        refine RV.op (OV.call [0, 0, 0, 0] (F := [_, _, _, _, _, _, _]) Tryd.func22 B22 N22 rfl rfl (fun w h => handle_fn db s2 (evM (l.getD j (intK .i64).d)) hbb) (fun _ hb => hb.elim) gno rfl (fun v L' hp => ?_))
                        obtain ⟨A4, c4, rfl, rfl⟩ := hp
                        rw [htb]
                        have hR := r2_hdl hck (fun t => kq_of t) rfl hinv.2 hw (evM (l.getD j (intK .i64).d))
                        rw [hR.2.1, hR.2.2]
                        unfold instL
                        refine RV.op (OV.step gno (Step.move rfl) rfl ?_)
                        refine RV.op (OV.step gno (Step.extract0 rfl rfl) rfl ?_)
                        refine RV.op (OV.step gno (Step.extract0 rfl rfl) rfl ?_)
                        refine RV.op (OV.store 1 [_, _] #[_, _] I48 rfl rfl rfl rfl rfl (Nat.le_of_ble_eq_true rfl) (by simp [Value.oneCell']) rfl gno ?_)
                        refine RV.op (OV.step gno (Step.assign rfl) rfl ?_)
                        refine RV.nil ?_
                        refine KV.then_n ?_
                        refine KV.env [(1, _), (2, _), (14, _), (16, _), (18, _), (19, _), (20, _), (21, _), (22, _)] ⟨rfl, rfl, rfl, rfl, rfl, rfl, rfl, rfl, rfl, trivial⟩ ?_
                        refine KV.sel [2, 2, 2, 2, 3, 3, 3, 3, 0, 0, 0, 0] [_, _, _, _, _, _, _, _, _, _, _, _] rfl ?_
                        (first | exact KV.join (⟨rplM dd.d.ts s v, (rplM (dd.d.ts.filter (kq dd.d)) s2 v).1.1, A3, c3, A4, c4, hR.1, rpl_le hole _ _⟩) ⟨rfl, rfl, rfl, rfl, rfl, rfl, rfl, rfl, rfl, trivial⟩ (fun _ h => h) | exact KV.join (⟨hdlM dd.d.ts s (evM (l.getD j (intK .i64).d)), (hdlM (dd.d.ts.filter (kq dd.d)) s2 (evM (l.getD j (intK .i64).d))).1.1, A3, c3, A4, c4, hR.1, hdl_le hole _ _⟩) ⟨rfl, rfl, rfl, rfl, rfl, rfl, rfl, rfl, rfl, trivial⟩ (fun _ h => h))
                    · intro J
                      refine CV.seq ?_
                      -- region 35 more.go:47
                      refine CV.region ?_
                      refine RV.op (OV.step gno (Step.move rfl) rfl ?_)
                      refine RV.op (OV.step gno (Step.move rfl) rfl ?_)
                      refine RV.op (OV.split gno (Step.neq rfl rfl) rfl (fun n6 => ?_) (fun n6 => ?_))
                      · -- True
                        exact absurd rfl n6
                      · -- False
                        refine RV.op (OV.step gno (Step.move rfl) rfl ?_)
                        refine RV.op (OV.step (gyes rfl) (Step.loadN _ Tryd.underlying48 rfl I48 rfl rfl (fun w h => h.cells 8 rfl)) rfl ?_)
                        refine RV.op (OV.step (gyes rfl) (Step.loadN _ Tryd.underlying48 rfl I48 rfl rfl (fun w h => h.cells 9 rfl)) rfl ?_)
                        refine RV.op (OV.call [] (F := [_, _, _, _, _, _, _, _, _, _, _, _]) Tryd.func25 B25 N25 rfl rfl (fun w h => same_fn (h.os 10 rfl) (h.os 11 rfl) J.ho J.ho) (fun _ hb => hb.elim) (gyes rfl) rfl (fun v L' hp => ?_))
                        obtain ⟨rfl, rfl⟩ := hp
                        rw [decide_eq_true (⟨rfl, rfl⟩ : _ ∧ _)]
                        simp only [List.append_nil]
                        refine RV.op (OV.step (gyes rfl) (Step.not rfl) rfl ?_)
                        refine RV.op (OV.step gno (Step.pick_f rfl rfl) rfl ?_)
                        refine RV.op (OV.step gno (Step.move rfl) rfl ?_)
                        refine RV.op (OV.step (gyes rfl) (Step.move rfl) rfl ?_)
                        refine RV.op (OV.call [] (F := [_, _, _, _, _, _, _, _, _, _, _, _]) Tryd.func26 B26 N26 rfl rfl (fun w h => state_fn (d := da) (s := J.M.1.1) (h.blk 0 rfl)) (fun _ hb => hb.elim) (gyes rfl) rfl (fun v L' hp => ?_))
                        obtain ⟨rfl, rfl⟩ := hp
                        simp only [List.append_nil]
                        refine RV.op (OV.step (gyes rfl) (Step.move rfl) rfl ?_)
                        refine RV.op (OV.call [] (F := [_, _, _, _, _, _, _, _, _, _, _, _]) Tryd.func26 B26 N26 rfl rfl (fun w h => state_fn (d := db) (s := J.s2) (h.blk 4 rfl)) (fun _ hb => hb.elim) (gyes rfl) rfl (fun v L' hp => ?_))
                        obtain ⟨rfl, rfl⟩ := hp
                        simp only [List.append_nil]
                        refine RV.op (OV.split (gyes rfl) (Step.neq rfl rfl) rfl (fun n7 => ?_) (fun n7 => ?_))
                        · -- True
                          exact absurd J.R.st.symm n7
                        · -- False
                          refine RV.op (OV.step gno (Step.pick_f rfl rfl) rfl ?_)
                          refine RV.op (OV.step gno (Step.move rfl) rfl ?_)
                          refine RV.op (OV.step (gyes rfl) (Step.move rfl) rfl ?_)
                          refine RV.op (OV.call [] (F := [_, _, _, _, _, _, _, _, _, _, _, _]) Tryd.func27 B27 N27 rfl rfl (fun w h => waiting_fn (d := da) (s := J.M.1.1) (h.blk 0 rfl)) (fun _ hb => hb.elim) (gyes rfl) rfl (fun v L' hp => ?_))
                          obtain ⟨rfl, rfl⟩ := hp
                          simp only [List.append_nil]
                          refine RV.op (OV.step (gyes rfl) (Step.move rfl) rfl ?_)
                          refine RV.op (OV.call [] (F := [_, _, _, _, _, _, _, _, _, _, _, _]) Tryd.func27 B27 N27 rfl rfl (fun w h => waiting_fn (d := db) (s := J.s2) (h.blk 4 rfl)) (fun _ hb => hb.elim) (gyes rfl) rfl (fun v L' hp => ?_))
                          obtain ⟨rfl, rfl⟩ := hp
                          simp only [List.append_nil]
                          refine RV.op (OV.split (gyes rfl) (Step.neqBool Tryd.underlying4 rfl rfl) rfl (fun n8 => ?_) (fun n8 => ?_))
                          · -- True
                            exact absurd J.R.wt.symm n8
                          · -- False
                            refine RV.op (OV.step gno (Step.pick_f rfl rfl) rfl ?_)
                            refine RV.nil ?_
                            refine KV.then_n ?_
                            refine KV.env [(1, _), (2, _), (14, _), (16, _), (18, _), (182, _)] ⟨rfl, rfl, rfl, rfl, rfl, rfl, trivial⟩ ?_
                            refine CV.cond_f rfl ?_
                            refine CV.skip ?_
                            refine KV.block_n ?_
                            refine KV.then_n ?_
                            refine KV.env [(1, _), (2, _), (14, _), (16, _), (18, _)] ⟨rfl, rfl, rfl, rfl, rfl, trivial⟩ ?_
                            -- region 24 more.go:33
                            refine CV.region ?_
                            refine RV.op (OV.step gno (Step.move rfl) rfl ?_)
                            (first | refine RV.op (OV.step gno (Step.add rfl rfl (wI64 (by omega) (by omega))) rfl ?_) | refine RV.op (OV.step gno (Step.add rfl rfl rfl) rfl ?_))
                            refine RV.op (OV.step gno (Step.assign rfl) rfl ?_)
                            refine RV.nil ?_
                            refine KV.then_n ?_
                            refine KV.env [(1, _), (2, _), (14, _), (16, _), (18, _)] ⟨rfl, rfl, rfl, rfl, rfl, trivial⟩ ?_
                            refine KV.sel [0, 0, 0, 0, 0, 0, 0, 0] [_, _, _, _, _, _, _, _] rfl ?_
                            exact KV.loop3 (x := j) (y := s) (z := s2) (j + 1) (J.M.1.1) (J.s2) ⟨by omega, J.R⟩ (by omega) ⟨rfl, rfl, rfl, rfl, rfl, trivial⟩ (fun _ h => h)
                  · -- False
                    refine RV.nil ?_
                    refine KV.then_n ?_
                    refine KV.env [(1, _), (2, _), (14, _), (16, _), (18, _), (111, _)] ⟨rfl, rfl, rfl, rfl, rfl, rfl, trivial⟩ ?_
                    refine CV.cond_f rfl ?_
                    refine CV.exit ?_
                    refine KV.then_exit ?_
                    refine KV.then_exit ?_
                    refine KV.block_hit ?_
                    refine KV.then_n ?_
                    refine KV.env [] trivial ?_
                    refine CV.seq ?_
                    -- region 37 more.go:51
                    refine CV.region ?_
                    refine RV.op (OV.call [] (F := [_, _, _, _, _, _, _, _]) Tryd.func10 B10 N10 rfl rfl (fun w h => awake_fn (EvR.keep h hE (hro 4 rfl))) (fun b hb => roAt4 hE hro b hb) gno rfl (fun v L' hp => ?_))
                    obtain ⟨rfl, rfl⟩ := hp
                    simp only [List.append_nil]
                    refine RV.op (OV.step gno (Step.assign rfl) rfl ?_)
                    refine RV.nil ?_
                    refine KV.then_n ?_
                    refine KV.env [(6, _)] ⟨rfl, trivial⟩ ?_
                    refine CV.ret ?_
                    -- return at r37
                    refine KV.sel [] [] rfl ?_
                    exact KV.ret1 rfl rfl _ (fun _ h => h) ⟨rfl, rfl⟩
end Go.Proofs.YtplmfekhdaefaaaDoor
