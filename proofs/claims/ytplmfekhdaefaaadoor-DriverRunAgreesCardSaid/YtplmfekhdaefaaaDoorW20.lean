/-
  Walks, part 20.
-/
import Derived.Test.YtplmfekhdaefaaaDoorTab20
import Derived.Test.YtplmfekhdaefaaaDoorW18
import Derived.Test.YtplmfekhdaefaaaDoorDm17
set_option linter.unusedSimpArgs false
set_option linter.unusedVariables false
namespace Go.Proofs.YtplmfekhdaefaaaDoor
open Go.Sv Go.Drv
set_option maxRecDepth 100000 in
set_option maxHeartbeats 4000000 in
theorem rtake_fn {q k : Nat} (d : DH) (st wi : Int) (ev : Bs) {w : World} (hk : k < d.hs.length) (hl3 : ∀ i, i < d.hs.length → (d.hs.getD i thK.d).t.ops.length ≤ 1000000) : Fx Tryd.prog 49 [.pointer (some ⟨q, 0, none⟩), .agg #[.int .i64 (d.hs.getD k thK.d).t.frm, .string (bs (d.hs.getD k thK.d).t.ev), .bool (d.hs.getD k thK.d).t.gd.used, .int .u64 (d.hs.getD k thK.d).t.gd.reg, .int .u64 (d.hs.getD k thK.d).t.gd.mask, .int .u64 (d.hs.getD k thK.d).t.gd.val, .slice (d.hs.getD k thK.d).A (d.hs.getD k thK.d).t.ops.length (d.hs.getD k thK.d).c, .int .i64 (d.hs.getD k thK.d).t.to]] w (rinC q d st wi ev) no (fun v L => ∃ A c, v = .agg #[.slice A (d.hs.getD k thK.d).t.ops.length c, .bool false] ∧ L = rinC q d (d.hs.getD k thK.d).t.to (-1) ev ++ [OS 71 roK A c (d.hs.getD k thK.d).t.ops]) := by
  refine Sv.Fx.body Tryd.func49 rfl T49 rfl ?_
  intro I hro hI
  refine KV.env [(0, _), (1, _)] ⟨rfl, rfl, trivial⟩ ?_
  unfold rinC
  have hk3 := hl3 k hk
  refine CV.seq ?_
  -- region 0 ref.go:367
  refine CV.region ?_
  refine RV.op (OV.box (t := 61) #[_, _, _, _, _, _, _, _] rfl rfl gno rfl (fun x => ?_))
  refine RV.op (OV.alloc #[.slice none 0 0, .bool false] I48 rfl gno rfl (fun p => ?_))
  refine RV.nil ?_
  refine KV.then_n ?_
  refine KV.env [(0, _), (3, _), (4, _)] ⟨rfl, rfl, rfl, trivial⟩ ?_
  refine CV.seq ?_
  -- region 1 ref.go:368
  refine CV.region ?_
  refine RV.op (OV.step gno (Step.move rfl) rfl ?_)
  refine RV.op (OV.step gno (Step.nilCheck rfl) rfl ?_)
  refine RV.op (OV.step gno (Step.fieldAddr rfl (F50_2 _ _)) rfl ?_)
  refine RV.op (OV.store 0 [_] #[_, _, _, _, _, _] I3 rfl rfl rfl rfl rfl (Nat.le_of_ble_eq_true rfl) (by simp [Value.oneCell']) rfl gno ?_)
  refine RV.nil ?_
  refine KV.then_n ?_
  refine KV.env [(0, _), (3, _), (4, _)] ⟨rfl, rfl, rfl, trivial⟩ ?_
  refine CV.seq ?_
  -- region 2 ref.go:369
  refine CV.region ?_
  refine RV.op (OV.step gno (Step.move rfl) rfl ?_)
  refine RV.op (OV.step gno (Step.fieldAddr rfl (F61_4 _ _)) rfl ?_)
  refine RV.op (OV.step gno (Step.load Tryd.underlying3 rfl rfl (fun w h => h.cell 4 rfl rfl)) rfl ?_)
  refine RV.op (OV.step gno (Step.nilCheck rfl) rfl ?_)
  refine RV.op (OV.step gno (Step.fieldAddr rfl (F50_1 _ _)) rfl ?_)
  refine RV.op (OV.store 0 [_] #[_, _, _, _, _, _] I3 rfl rfl rfl rfl rfl (Nat.le_of_ble_eq_true rfl) (by simp [Value.oneCell']) rfl gno ?_)
  refine RV.nil ?_
  refine KV.then_n ?_
  refine KV.env [(3, _), (4, _)] ⟨rfl, rfl, trivial⟩ ?_
  refine CV.seq ?_
  -- region 3 ref.go:370
  refine CV.region ?_
  refine RV.op (OV.buildSlice (K := roK) (([] : List Ro)) rfl (Bs46_0_) rfl rfl (by omega) gno rfl (fun y => ?_))
  refine RV.op (OV.step gno (Step.fieldAddr rfl (F61_3 _ _)) rfl ?_)
  refine RV.op (OV.step gno (Step.load Tryd.underlying46 rfl rfl (fun w h => h.cell 4 rfl rfl)) rfl ?_)
  refine RV.op (OV.append 6 Tryd.underlying46 I71 rfl rfl rfl rfl rfl rfl (fun w h => bigRS h (k := 3) rfl hk) (by simp only [List.length_nil]; omega) (by simp only [List.length_nil]; omega) gno rfl (fun A3 c3 => ?_))
  refine RV.op (OV.step gno (Step.build rfl (Bd48_0 _ _ _)) rfl ?_)
  refine RV.op (OV.store 5 [_, _] #[_, _] I48 rfl rfl rfl rfl rfl (Nat.le_of_ble_eq_true rfl) (by simp [Value.oneCell']) rfl gno ?_)
  refine RV.nil ?_
  refine KV.then_n ?_
  refine KV.env [(4, _)] ⟨rfl, trivial⟩ ?_
  refine CV.ret ?_
  -- return at r3
  refine KV.sel [5, 0, 0, 0, 0, 1] [_, _, _, _, _, _] rfl ?_
  exact KV.retC1 [_, _] rfl rfl Tryd.underlying48 rfl I48 rfl (fun w h => h.cells 0 rfl) _ (fun _ h => h.sel [1, 1, 1, 1, 1] rfl) ⟨A3, c3, rfl, rfl⟩

set_option maxRecDepth 100000 in
set_option maxHeartbeats 8000000 in
theorem rconsider_fn {q k : Nat} (d : DH) (st : Int) (cd : Nat) (wi : Int) (ev : Bs) {w : World} (hk : k ≤ d.hs.length) (hl2 : d.hs.length ≤ 1000000) (hl3 : ∀ i, i < d.hs.length → (d.hs.getD i thK.d).t.ops.length ≤ 1000000) : Fx Tryd.prog 50 [.pointer (some ⟨q, 0, none⟩), .int .i64 k] w (rinC q d st wi ev) no (fun v L => ∃ A c, v = .agg #[.slice A (conM (d.hs.map (·.t)) (⟨st, false, cd⟩ : IS) ev k).2.1.length c, .bool (conM (d.hs.map (·.t)) (⟨st, false, cd⟩ : IS) ev k).2.2] ∧ L = rinC q d (conM (d.hs.map (·.t)) (⟨st, false, cd⟩ : IS) ev k).1.st (wtI (conM (d.hs.map (·.t)) (⟨st, false, cd⟩ : IS) ev k).1) ev ++ [OS 71 roK A c (conM (d.hs.map (·.t)) (⟨st, false, cd⟩ : IS) ev k).2.1]) := by
  refine Sv.Fx.body Tryd.func50 rfl T50 rfl ?_
  intro I hro hI
  refine KV.env [(0, _), (1, _)] ⟨rfl, rfl, trivial⟩ ?_
  unfold rinC
  refine CV.seq ?_
  -- region 0 ref.go:374
  refine CV.region ?_
  refine RV.op (OV.alloc #[.slice none 0 0, .bool false] I48 rfl gno rfl (fun p => ?_))
  refine RV.nil ?_
  refine KV.then_n ?_
  refine KV.env [(0, _), (1, _), (4, _)] ⟨rfl, rfl, rfl, trivial⟩ ?_
  refine CV.seq ?_
  -- region 1 ref.go:375
  refine CV.region ?_
  refine RV.op (OV.step gno (Step.move rfl) rfl ?_)
  refine RV.op (OV.step gno (Step.nilCheck rfl) rfl ?_)
  refine RV.op (OV.step gno (Step.fieldAddr rfl (F50_2 _ _)) rfl ?_)
  refine RV.op (OV.store 0 [_] #[_, _, _, _, _, _] I3 rfl rfl rfl rfl rfl (Nat.le_of_ble_eq_true rfl) (by simp [Value.oneCell']) rfl gno ?_)
  refine RV.nil ?_
  refine KV.then_n ?_
  refine KV.env [(0, _), (1, _), (4, _)] ⟨rfl, rfl, rfl, trivial⟩ ?_
  refine CV.seq ?_
  refine CV.block ?_
  -- loop L2; live [0, 1, 4]
  refine KV.sel [0, 0, 0, 0, 0] [_, _, _, _, _] rfl ?_
  refine CV.loopI (fun (j : Nat) => k ≤ j ∧ j ≤ d.hs.length ∧ ∀ i, k ≤ i → i < j → ¬ ((d.hs.getD i thK.d).t.frm = st ∧ (d.hs.getD i thK.d).t.ev = ev)) (fun (j : Nat) => d.hs.length - j) (fun (j : Nat) => [(0, .pointer (some ⟨q, 0, none⟩)), (1, .int .i64 j), (4, .pointer (some ⟨p, 0, none⟩))]) (fun (j : Nat) => Hp I w [Blk q (.cells #[.string (bs d.name), .slice d.sA d.ss.length d.sc, .slice d.tA d.hs.length d.tc, .int .i64 st, .int .i64 (-1), .string (bs ev)] 50 (0, 0)), OS 9 strK d.sA d.sc d.ss, OS 61 thK d.tA d.tc d.hs, Big opA d.hs, Blk p (.cells #[.slice none 0 0, .bool false] 48 (0, 0))]) (k) ⟨Nat.le_refl _, hk, fun i h1 h2 => by omega⟩ ⟨rfl, rfl, rfl, trivial⟩ (fun _ h => h) ?_
  intro j hinv
  refine CV.seq ?_
  refine CV.seq ?_
  -- region 2 ref.go:376
  refine CV.region ?_
  refine RV.op (OV.step gno (Step.move rfl) rfl ?_)
  refine RV.op (OV.step gno (Step.move rfl) rfl ?_)
  refine RV.op (OV.step gno (Step.nilCheck rfl) rfl ?_)
  refine RV.op (OV.step gno (Step.fieldAddr rfl (F50_0 _ _)) rfl ?_)
  refine RV.op (OV.step gno (Step.fieldAddr rfl (F26_2 _ _)) rfl ?_)
  refine RV.op (OV.step gno (Step.load Tryd.underlying24 rfl rfl (fun w h => h.cell 0 rfl rfl)) rfl ?_)
  refine RV.op (OV.step gno (Step.lenSl Tryd.underlying24 rfl) rfl ?_)
  refine RV.op (OV.split gno (Step.lss rfl rfl) rfl (fun hj => ?_) (fun hj => ?_))
  · -- True
    refine RV.nil ?_
    refine KV.then_n ?_
    refine KV.env [(0, _), (1, _), (4, _), (16, _)] ⟨rfl, rfl, rfl, rfl, trivial⟩ ?_
    refine CV.cond_t rfl ?_
    refine CV.skip ?_
    refine KV.then_n ?_
    refine KV.env [(0, _), (1, _), (4, _)] ⟨rfl, rfl, rfl, trivial⟩ ?_
    refine CV.seq ?_
    refine CV.block ?_
    refine CV.seq ?_
    -- region 4 ref.go:377
    refine CV.region ?_
    refine RV.op (OV.step gno (Step.move rfl) rfl ?_)
    refine RV.op (OV.step gno (Step.nilCheck rfl) rfl ?_)
    refine RV.op (OV.step gno (Step.fieldAddr rfl (F50_0 _ _)) rfl ?_)
    refine RV.op (OV.step gno (Step.fieldAddr rfl (F26_2 _ _)) rfl ?_)
    refine RV.op (OV.step gno (Step.load Tryd.underlying24 rfl rfl (fun w h => h.cell 0 rfl rfl)) rfl ?_)
    refine RV.op (OV.step gno (Step.move rfl) rfl ?_)
    refine RV.op (OV.step gno (Step.idx Tryd.underlying24 I61 (fun w h => h.os 2 rfl) rfl rfl (rfl) _ rfl (by omega)) rfl ?_)
    refine RV.op (OV.step gno (Step.loadN _ Tryd.underlying61 rfl I61 rfl rfl (fun w h => (h.os 2 rfl).cells (by omega))) rfl ?_)
    refine RV.op (OV.alloc #[.int .i64 0, .string (Sv.bs []), .bool false, .int .u64 0, .int .u64 0, .int .u64 0, .slice none 0 0, .int .i64 0] I61 rfl gno rfl (fun x => ?_))
    refine RV.op (OV.store 5 [_, _, _, _, _, _, _, _] #[_, _, _, _, _, _, _, _] I61 rfl rfl rfl rfl rfl (Nat.le_of_ble_eq_true rfl) (by simp [Value.oneCell']) rfl gno ?_)
    refine RV.nil ?_
    refine KV.then_n ?_
    refine KV.env [(0, _), (1, _), (4, _), (5, _)] ⟨rfl, rfl, rfl, rfl, trivial⟩ ?_
    refine CV.seq ?_
    refine CV.seq ?_
    -- region 5 ref.go:378
    refine CV.any (Hp I w [Blk q (.cells #[.string (bs d.name), .slice d.sA d.ss.length d.sc, .slice d.tA d.hs.length d.tc, .int .i64 st, .int .i64 (-1), .string (bs ev)] 50 (0, 0)), Blk x (.cells #[.int .i64 (d.hs.getD j thK.d).t.frm, .string (bs (d.hs.getD j thK.d).t.ev), .bool (d.hs.getD j thK.d).t.gd.used, .int .u64 (d.hs.getD j thK.d).t.gd.reg, .int .u64 (d.hs.getD j thK.d).t.gd.mask, .int .u64 (d.hs.getD j thK.d).t.gd.val, .slice (d.hs.getD j thK.d).A (d.hs.getD j thK.d).t.ops.length (d.hs.getD j thK.d).c, .int .i64 (d.hs.getD j thK.d).t.to] 61 (0, 0))]) (by kernel_rfl) (fun _ h => h.drew) 16 rfl ?_
    refine AV.take 0 #[true, false, false, false, false, false, false, false, false, false, false, false, false, false, false, false] rfl (by kernel_rfl) (by kernel_rfl) (by kernel_rfl) (fun _ _ _ h => h) gno (Step.fieldAddr rfl (F61_0 _ _)) rfl (fun _ h => h.sel [0, 4] rfl) (by kernel_rfl) ?_
    refine AV.take 1 #[true, true, false, false, false, false, false, false, false, false, false, false, false, false, false, false] rfl (by kernel_rfl) (by kernel_rfl) (by kernel_rfl) (fun _ _ _ h => h) gno (Step.load Tryd.underlying3 rfl rfl (fun w h => h.cell 1 rfl rfl)) rfl (fun _ h => h.sel [0, 4] rfl) (by kernel_rfl) ?_
    refine AV.take 2 #[true, true, true, false, false, false, false, false, false, false, false, false, false, false, false, false] rfl (by kernel_rfl) (by kernel_rfl) (by kernel_rfl) (fun _ _ _ h => h) gno (Step.move rfl) rfl (fun _ h => h.sel [0, 4] rfl) (by kernel_rfl) ?_
    refine AV.take 3 #[true, true, true, true, false, false, false, false, false, false, false, false, false, false, false, false] rfl (by kernel_rfl) (by kernel_rfl) (by kernel_rfl) (fun _ _ _ h => h) gno (Step.nilCheck rfl) rfl (fun _ h => h.sel [0, 4] rfl) (by kernel_rfl) ?_
    refine AV.take 4 #[true, true, true, true, true, false, false, false, false, false, false, false, false, false, false, false] rfl (by kernel_rfl) (by kernel_rfl) (by kernel_rfl) (fun _ _ _ h => h) gno (Step.fieldAddr rfl (F50_1 _ _)) rfl (fun _ h => h.sel [0, 4] rfl) (by kernel_rfl) ?_
    refine AV.take 5 #[true, true, true, true, true, true, false, false, false, false, false, false, false, false, false, false] rfl (by kernel_rfl) (by kernel_rfl) (by kernel_rfl) (fun _ _ _ h => h) gno (Step.load Tryd.underlying3 rfl rfl (fun w h => h.cell 0 rfl rfl)) rfl (fun _ h => h.sel [0, 4] rfl) (by kernel_rfl) ?_
    refine AV.take 6 #[true, true, true, true, true, true, true, false, false, false, false, false, false, false, false, false] rfl (by kernel_rfl) (by kernel_rfl) (by kernel_rfl) (fun _ _ _ h => h) gno (Step.neq rfl rfl) rfl (fun _ h => h.sel [0, 4] rfl) (by kernel_rfl) ?_
    refine AV.take 7 #[true, true, true, true, true, true, true, true, false, false, false, false, false, false, false, false] rfl (by kernel_rfl) (by kernel_rfl) (by kernel_rfl) (fun _ _ _ h => h) gno (Step.move rfl) rfl (fun _ h => h.sel [0, 4] rfl) (by kernel_rfl) ?_
    refine KV.cases 34 rfl (fun cc1 => ?_) (fun cc1 => ?_)
    · -- True
      have hm1 := of_decide_eq_true cc1
      refine AV.takeSkip 8 #[true, true, true, true, true, true, true, true, true, false, false, false, false, false, false, false] rfl (by kernel_rfl) (by kernel_rfl) (by kernel_rfl) (fun _ _ _ h => h) rfl rfl (fun _ h => h.sel [0, 4] rfl) (by kernel_rfl) ?_
      refine AV.takeSkip 9 #[true, true, true, true, true, true, true, true, true, true, false, false, false, false, false, false] rfl (by kernel_rfl) (by kernel_rfl) (by kernel_rfl) (fun _ _ _ h => h) rfl rfl (fun _ h => h.sel [0, 4] rfl) (by kernel_rfl) ?_
      refine AV.takeSkip 10 #[true, true, true, true, true, true, true, true, true, true, true, false, false, false, false, false] rfl (by kernel_rfl) (by kernel_rfl) (by kernel_rfl) (fun _ _ _ h => h) rfl rfl (fun _ h => h.sel [0, 4] rfl) (by kernel_rfl) ?_
      refine AV.takeSkip 11 #[true, true, true, true, true, true, true, true, true, true, true, true, false, false, false, false] rfl (by kernel_rfl) (by kernel_rfl) (by kernel_rfl) (fun _ _ _ h => h) rfl rfl (fun _ h => h.sel [0, 4] rfl) (by kernel_rfl) ?_
      refine AV.takeSkip 12 #[true, true, true, true, true, true, true, true, true, true, true, true, true, false, false, false] rfl (by kernel_rfl) (by kernel_rfl) (by kernel_rfl) (fun _ _ _ h => h) rfl rfl (fun _ h => h.sel [0, 4] rfl) (by kernel_rfl) ?_
      refine AV.takeSkip 13 #[true, true, true, true, true, true, true, true, true, true, true, true, true, true, false, false] rfl (by kernel_rfl) (by kernel_rfl) (by kernel_rfl) (fun _ _ _ h => h) rfl rfl (fun _ h => h.sel [0, 4] rfl) (by kernel_rfl) ?_
      refine AV.takeSkip 14 #[true, true, true, true, true, true, true, true, true, true, true, true, true, true, true, false] rfl (by kernel_rfl) (by kernel_rfl) (by kernel_rfl) (fun _ _ _ h => h) rfl rfl (fun _ h => h.sel [0, 4] rfl) (by kernel_rfl) ?_
      refine AV.take 15 #[true, true, true, true, true, true, true, true, true, true, true, true, true, true, true, true] rfl (by kernel_rfl) (by kernel_rfl) (by kernel_rfl) (fun _ _ _ h => h) gno (Step.pick_t rfl rfl) rfl (fun _ h => h.sel [0, 4] rfl) (by kernel_rfl) ?_
      refine AV.done (by kernel_rfl) ?_
      refine KV.then_n ?_
      refine KV.env [(0, _), (1, _), (4, _), (5, _), (42, _)] ⟨rfl, rfl, rfl, rfl, rfl, trivial⟩ ?_
      refine CV.cond_t rfl ?_
      refine CV.exit ?_
      refine KV.then_exit ?_
      refine KV.block_hit ?_
      refine KV.then_n ?_
      refine KV.env [(0, _), (1, _), (4, _)] ⟨rfl, rfl, rfl, trivial⟩ ?_
      -- region 3 ref.go:376
      refine CV.region ?_
      refine RV.op (OV.step gno (Step.move rfl) rfl ?_)
      (first | refine RV.op (OV.step gno (Step.add rfl rfl (wI64 (by omega) (by omega))) rfl ?_) | refine RV.op (OV.step gno (Step.add rfl rfl rfl) rfl ?_))
      refine RV.op (OV.step gno (Step.assign rfl) rfl ?_)
      refine RV.nil ?_
      refine KV.then_n ?_
      refine KV.env [(0, _), (1, _), (4, _)] ⟨rfl, rfl, rfl, trivial⟩ ?_
      refine KV.sel [0, 0, 0, 0, 0] [_, _, _, _, _] rfl ?_
      exact KV.loopI (z := j) (j + 1) ⟨by omega, by omega, fun i h1 h2 => by by_cases e : i = j; (subst e; first | exact fun k => hm1 k.1 | exact fun k => hm2 k.2); exact hinv.2.2 i h1 (by omega)⟩ (by omega) ⟨rfl, rfl, rfl, trivial⟩ (fun _ h => h)
    · -- False
      have hm1 := Decidable.not_not.1 (of_decide_eq_false cc1)
      refine AV.take 8 #[true, true, true, true, true, true, true, true, true, false, false, false, false, false, false, false] rfl (by kernel_rfl) (by kernel_rfl) (by kernel_rfl) (fun _ _ _ h => h) (gyes rfl) (Step.fieldAddr rfl (F61_1 _ _)) rfl (fun _ h => h.sel [0, 4] rfl) (by kernel_rfl) ?_
      refine AV.take 9 #[true, true, true, true, true, true, true, true, true, true, false, false, false, false, false, false] rfl (by kernel_rfl) (by kernel_rfl) (by kernel_rfl) (fun _ _ _ h => h) (gyes rfl) (Step.load Tryd.underlying9 rfl rfl (fun w h => h.cell 1 rfl rfl)) rfl (fun _ h => h.sel [0, 4] rfl) (by kernel_rfl) ?_
      refine AV.take 10 #[true, true, true, true, true, true, true, true, true, true, true, false, false, false, false, false] rfl (by kernel_rfl) (by kernel_rfl) (by kernel_rfl) (fun _ _ _ h => h) (gyes rfl) (Step.move rfl) rfl (fun _ h => h.sel [0, 4] rfl) (by kernel_rfl) ?_
      refine AV.take 11 #[true, true, true, true, true, true, true, true, true, true, true, true, false, false, false, false] rfl (by kernel_rfl) (by kernel_rfl) (by kernel_rfl) (fun _ _ _ h => h) (gyes rfl) (Step.nilCheck rfl) rfl (fun _ h => h.sel [0, 4] rfl) (by kernel_rfl) ?_
      refine AV.take 12 #[true, true, true, true, true, true, true, true, true, true, true, true, true, false, false, false] rfl (by kernel_rfl) (by kernel_rfl) (by kernel_rfl) (fun _ _ _ h => h) (gyes rfl) (Step.fieldAddr rfl (F50_3 _ _)) rfl (fun _ h => h.sel [0, 4] rfl) (by kernel_rfl) ?_
      refine AV.take 13 #[true, true, true, true, true, true, true, true, true, true, true, true, true, true, false, false] rfl (by kernel_rfl) (by kernel_rfl) (by kernel_rfl) (fun _ _ _ h => h) (gyes rfl) (Step.load Tryd.underlying9 rfl rfl (fun w h => h.cell 0 rfl rfl)) rfl (fun _ h => h.sel [0, 4] rfl) (by kernel_rfl) ?_
      refine AV.take 14 #[true, true, true, true, true, true, true, true, true, true, true, true, true, true, true, false] rfl (by kernel_rfl) (by kernel_rfl) (by kernel_rfl) (fun _ _ _ h => h) (gyes rfl) (Step.neqStr rfl rfl) rfl (fun _ h => h.sel [0, 4] rfl) (by kernel_rfl) ?_
      refine AV.take 15 #[true, true, true, true, true, true, true, true, true, true, true, true, true, true, true, true] rfl (by kernel_rfl) (by kernel_rfl) (by kernel_rfl) (fun _ _ _ h => h) gno (Step.pick_f rfl rfl) rfl (fun _ h => h.sel [0, 4] rfl) (by kernel_rfl) ?_
      refine AV.done (by kernel_rfl) ?_
      refine KV.then_n ?_
      refine KV.env [(0, _), (1, _), (4, _), (5, _), (42, _)] ⟨rfl, rfl, rfl, rfl, rfl, trivial⟩ ?_
      refine KV.cases 42 rfl (fun cc2 => ?_) (fun cc2 => ?_)
      · -- True
        have hm2 := of_decide_eq_true cc2
        refine CV.cond_t rfl ?_
        refine CV.exit ?_
        refine KV.then_exit ?_
        refine KV.block_hit ?_
        refine KV.then_n ?_
        refine KV.env [(0, _), (1, _), (4, _)] ⟨rfl, rfl, rfl, trivial⟩ ?_
        -- region 3 ref.go:376
        refine CV.region ?_
        refine RV.op (OV.step gno (Step.move rfl) rfl ?_)
        (first | refine RV.op (OV.step gno (Step.add rfl rfl (wI64 (by omega) (by omega))) rfl ?_) | refine RV.op (OV.step gno (Step.add rfl rfl rfl) rfl ?_))
        refine RV.op (OV.step gno (Step.assign rfl) rfl ?_)
        refine RV.nil ?_
        refine KV.then_n ?_
        refine KV.env [(0, _), (1, _), (4, _)] ⟨rfl, rfl, rfl, trivial⟩ ?_
        refine KV.sel [0, 0, 0, 0, 0] [_, _, _, _, _] rfl ?_
        exact KV.loopI (z := j) (j + 1) ⟨by omega, by omega, fun i h1 h2 => by by_cases e : i = j; (subst e; first | exact fun k => hm1 k.1 | exact fun k => hm2 k.2); exact hinv.2.2 i h1 (by omega)⟩ (by omega) ⟨rfl, rfl, rfl, trivial⟩ (fun _ h => h)
      · -- False
        have hm2 := Decidable.not_not.1 (of_decide_eq_false cc2)
        refine CV.cond_f rfl ?_
        refine CV.skip ?_
        refine KV.then_n ?_
        refine KV.env [(0, _), (1, _), (4, _), (5, _)] ⟨rfl, rfl, rfl, rfl, trivial⟩ ?_
        refine CV.seq ?_
        refine CV.seq ?_
        -- region 6 ref.go:381
        refine CV.region ?_
        refine RV.op (OV.step gno (Step.fieldAddr rfl (F61_2 _ _)) rfl ?_)
        refine RV.op (OV.step gno (Step.fieldAddr rfl (F59_0 _ _)) rfl ?_)
        refine RV.op (OV.step gno (Step.load Tryd.underlying4 rfl rfl (fun w h => h.cell 5 rfl rfl)) rfl ?_)
        refine RV.op (OV.step gno (Step.not rfl) rfl ?_)
        refine RV.nil ?_
        refine KV.then_n ?_
        refine KV.env [(0, _), (1, _), (4, _), (5, _), (46, _)] ⟨rfl, rfl, rfl, rfl, rfl, trivial⟩ ?_
        refine KV.cases 46 rfl (fun cc3 => ?_) (fun cc3 => ?_)
        · -- True
          have hu := neg_t cc3
          refine CV.cond_t rfl ?_
          refine CV.seq ?_
          -- region 7 ref.go:382
          refine CV.region ?_
          refine RV.op (OV.step gno (Step.move rfl) rfl ?_)
          refine RV.op (OV.step gno (Step.loadN _ Tryd.underlying61 rfl I61 rfl rfl (fun w h => h.cells 5 rfl)) rfl ?_)
          refine RV.op (OV.call [0, 0, 0, 0] (F := [_, _]) Tryd.func49 B49 N49 rfl rfl (fun w h => rtake_fn (k := j) d st (-1) ev (by omega) hl3) (fun _ hb => hb.elim) gno rfl (fun v L' hp => ?_))
          obtain ⟨A3, c3, rfl, rfl⟩ := hp
          refine RV.op (OV.store 0 [_, _] #[_, _] I48 rfl rfl rfl rfl rfl (Nat.le_of_ble_eq_true rfl) (by simp [Value.oneCell']) rfl gno ?_)
          refine RV.nil ?_
          refine KV.then_n ?_
          refine KV.env [(4, _)] ⟨rfl, trivial⟩ ?_
          refine CV.ret ?_
          refine KV.then_ret ?_
          refine KV.block_ret ?_
          refine KV.then_ret ?_
          refine KV.then_ret ?_
          refine KV.block_ret ?_
          refine KV.then_ret ?_
          -- return at r7
          refine KV.sel [0, 1, 1, 1, 1, 1] [_, _, _, _, _, _] rfl ?_
          exact KV.retC1 [_, _] rfl rfl Tryd.underlying48 rfl I48 rfl (fun w h => h.cells 0 rfl) _ (fun _ h => h.sel [1, 1, 1, 1, 1] rfl) ⟨A3, c3, by rw [con_take (s := (⟨st, false, cd⟩ : IS)) hinv.1 (by omega) hinv.2.2 ⟨hm1, hm2⟩ hu] <;> rfl, by rw [con_take (s := (⟨st, false, cd⟩ : IS)) hinv.1 (by omega) hinv.2.2 ⟨hm1, hm2⟩ hu] <;> rfl⟩
        · -- False
          have hu := neg_f cc3
          refine CV.cond_f rfl ?_
          refine CV.skip ?_
          refine KV.then_n ?_
          refine KV.env [(0, _), (1, _), (4, _), (5, _)] ⟨rfl, rfl, rfl, rfl, trivial⟩ ?_
          refine CV.seq ?_
          -- region 8 ref.go:384
          refine CV.region ?_
          refine RV.op (OV.step gno (Step.move rfl) rfl ?_)
          refine RV.op (OV.step gno (Step.move rfl) rfl ?_)
          refine RV.op (OV.step gno (Step.nilCheck rfl) rfl ?_)
          refine RV.op (OV.step gno (Step.fieldAddr rfl (F50_2 _ _)) rfl ?_)
          refine RV.op (OV.store 0 [_] #[_, _, _, _, _, _] I3 rfl rfl rfl rfl rfl (Nat.le_of_ble_eq_true rfl) (by simp [Value.oneCell']) rfl gno ?_)
          refine RV.nil ?_
          refine KV.then_n ?_
          refine KV.env [(4, _), (5, _)] ⟨rfl, rfl, trivial⟩ ?_
          refine CV.seq ?_
          -- region 9 ref.go:385
          refine CV.region ?_
          refine RV.op (OV.step gno (Step.fieldAddr rfl (F61_2 _ _)) rfl ?_)
          refine RV.op (OV.step gno (Step.fieldAddr rfl (F59_1 _ _)) rfl ?_)
          refine RV.op (OV.step gno (Step.load Tryd.underlying51 rfl rfl (fun w h => h.cell 5 rfl rfl)) rfl ?_)
          refine RV.op (OV.step gno (Step.build rfl (Bd71_1 _)) rfl ?_)
          refine RV.op (OV.buildSlice (K := roK) ([(⟨false, (d.hs.getD j thK.d).t.gd.reg, 0⟩ : Ro)]) rfl (Bs46_1_0 _ _ _) rfl rfl (by omega) gno rfl (fun y => ?_))
          refine RV.op (OV.step gno (Step.build rfl (Bd48_0_1 _ _ _ _)) rfl ?_)
          refine RV.op (OV.store 4 [_, _] #[_, _] I48 rfl rfl rfl rfl rfl (Nat.le_of_ble_eq_true rfl) (by simp [Value.oneCell']) rfl gno ?_)
          refine RV.nil ?_
          refine KV.then_n ?_
          refine KV.env [(4, _)] ⟨rfl, trivial⟩ ?_
          refine CV.ret ?_
          refine KV.block_ret ?_
          refine KV.then_ret ?_
          refine KV.then_ret ?_
          refine KV.block_ret ?_
          refine KV.then_ret ?_
          -- return at r9
          refine KV.sel [4, 0, 0, 0, 0, 1] [_, _, _, _, _, _] rfl ?_
          exact KV.retC1 [_, _] rfl rfl Tryd.underlying48 rfl I48 rfl (fun w h => h.cells 0 rfl) _ (fun _ h => h.sel [1, 1, 1, 1, 1] rfl) ⟨_, _, by rw [con_wait (s := (⟨st, false, cd⟩ : IS)) hinv.1 (by omega) hinv.2.2 ⟨hm1, hm2⟩ hu] <;> rfl, by rw [con_wait (s := (⟨st, false, cd⟩ : IS)) hinv.1 (by omega) hinv.2.2 ⟨hm1, hm2⟩ hu] <;> rfl⟩
  · -- False
    refine RV.nil ?_
    refine KV.then_n ?_
    refine KV.env [(0, _), (1, _), (4, _), (16, _)] ⟨rfl, rfl, rfl, rfl, trivial⟩ ?_
    refine CV.cond_f rfl ?_
    refine CV.exit ?_
    refine KV.then_exit ?_
    refine KV.then_exit ?_
    refine KV.block_hit ?_
    refine KV.then_n ?_
    refine KV.env [(4, _)] ⟨rfl, trivial⟩ ?_
    refine CV.seq ?_
    -- region 10 ref.go:387
    refine CV.region ?_
    refine RV.op (OV.step gno (Step.build rfl (Bd48_)) rfl ?_)
    refine RV.op (OV.store 4 [_, _] #[_, _] I48 rfl rfl rfl rfl rfl (Nat.le_of_ble_eq_true rfl) (by simp [Value.oneCell']) rfl gno ?_)
    refine RV.nil ?_
    refine KV.then_n ?_
    refine KV.env [(4, _)] ⟨rfl, trivial⟩ ?_
    refine CV.ret ?_
    -- return at r10
    refine KV.sel [4, 0, 0, 0, 0] [_, _, _, _, _] rfl ?_
    obtain rfl : j = d.hs.length := by omega
    exact KV.retC1 [_, _] rfl rfl Tryd.underlying48 rfl I48 rfl (fun w h => h.cells 0 rfl) _ (fun _ h => (h.sel [1, 1, 1, 1] rfl).nilOS) ⟨none, 0, by rw [con_none (s := (⟨st, false, cd⟩ : IS)) hinv.2.2] <;> rfl, by rw [con_none (s := (⟨st, false, cd⟩ : IS)) hinv.2.2] <;> rfl⟩

set_option maxRecDepth 100000 in
set_option maxHeartbeats 4000000 in
theorem rhandleW_fn {q : Nat} (d : DH) (st : Int) (cd : Nat) (e0 ev : Bs) {w : World} (hb : Bnd d) : Fx Tryd.prog 24 [.pointer (some ⟨q, 0, none⟩), .string (bs ev)] w (rinC q d st (cd : Int) e0) no (fun v L => ∃ A c, v = .tuple #[.agg #[.slice A (hdlM (d.hs.map (·.t)) (⟨st, true, cd⟩ : IS) ev).1.2.1.length c, .bool (hdlM (d.hs.map (·.t)) (⟨st, true, cd⟩ : IS) ev).1.2.2], .int .i64 (hdlM (d.hs.map (·.t)) (⟨st, true, cd⟩ : IS) ev).2] ∧ L = rinC q d (hdlM (d.hs.map (·.t)) (⟨st, true, cd⟩ : IS) ev).1.1.st (wtI (hdlM (d.hs.map (·.t)) (⟨st, true, cd⟩ : IS) ev).1.1) e0 ++ [OS 71 roK A c (hdlM (d.hs.map (·.t)) (⟨st, true, cd⟩ : IS) ev).1.2.1]) := by
  refine Sv.Fx.body Tryd.func24 rfl T24 rfl ?_
  intro I hro hI
  refine KV.env [(0, _), (1, _)] ⟨rfl, rfl, trivial⟩ ?_
  unfold rinC
  refine CV.seq ?_
  -- region 0 ref.go:391
  refine CV.region ?_
  refine RV.op (OV.alloc #[.slice none 0 0, .bool false] I48 rfl gno rfl (fun p => ?_))
  refine RV.op (OV.step gno (Step.assign rfl) rfl ?_)
  refine RV.nil ?_
  refine KV.then_n ?_
  refine KV.env [(0, _), (1, _), (4, _)] ⟨rfl, rfl, rfl, trivial⟩ ?_
  refine CV.seq ?_
  refine CV.seq ?_
  -- region 1 ref.go:392
  refine CV.region ?_
  refine RV.op (OV.step gno (Step.move rfl) rfl ?_)
  refine RV.op (OV.step gno (Step.nilCheck rfl) rfl ?_)
  refine RV.op (OV.step gno (Step.fieldAddr rfl (F50_2 _ _)) rfl ?_)
  refine RV.op (OV.step gno (Step.load Tryd.underlying3 rfl rfl (fun w h => h.cell 0 rfl rfl)) rfl ?_)
  refine RV.op (OV.split gno (Step.geq rfl rfl) rfl (fun hg => ?_) (fun hg => ?_))
  · -- True
    refine RV.nil ?_
    refine KV.then_n ?_
    refine KV.env [(0, _), (1, _), (4, _), (10, _)] ⟨rfl, rfl, rfl, rfl, trivial⟩ ?_
    refine CV.cond_t rfl ?_
    refine CV.seq ?_
    -- region 2 ref.go:393
    refine CV.region ?_
    refine RV.op (OV.step gno (Step.build rfl (Bd48_)) rfl ?_)
    refine RV.op (OV.store 4 [_, _] #[_, _] I48 rfl rfl rfl rfl rfl (Nat.le_of_ble_eq_true rfl) (by simp [Value.oneCell']) rfl gno ?_)
    refine RV.op (OV.step gno (Step.assign rfl) rfl ?_)
    refine RV.nil ?_
    refine KV.then_n ?_
    refine KV.env [(4, _), (5, _)] ⟨rfl, rfl, trivial⟩ ?_
    refine CV.ret ?_
    refine KV.then_ret ?_
    -- return at r2
    refine KV.sel [4, 0, 0, 0, 0] [_, _, _, _, _] rfl ?_
    exact KV.retC2 [_, _] rfl rfl rfl Tryd.underlying48 rfl I48 rfl (fun w h => h.cells 0 rfl) _ (fun _ h => (h.sel [1, 1, 1, 1] rfl).nilOS) ⟨none, 0, rfl, rfl⟩
  · -- False
    omega

set_option maxRecDepth 100000 in
set_option maxHeartbeats 4000000 in
theorem rhandleN_fn {q : Nat} (d : DH) (st : Int) (cd : Nat) (e0 ev : Bs) {w : World} (hb : Bnd d) : Fx Tryd.prog 24 [.pointer (some ⟨q, 0, none⟩), .string (bs ev)] w (rinC q d st (-1) e0) no (fun v L => ∃ A c, v = .tuple #[.agg #[.slice A (hdlM (d.hs.map (·.t)) (⟨st, false, cd⟩ : IS) ev).1.2.1.length c, .bool (hdlM (d.hs.map (·.t)) (⟨st, false, cd⟩ : IS) ev).1.2.2], .int .i64 (hdlM (d.hs.map (·.t)) (⟨st, false, cd⟩ : IS) ev).2] ∧ L = rinC q d (hdlM (d.hs.map (·.t)) (⟨st, false, cd⟩ : IS) ev).1.1.st (wtI (hdlM (d.hs.map (·.t)) (⟨st, false, cd⟩ : IS) ev).1.1) ev ++ [OS 71 roK A c (hdlM (d.hs.map (·.t)) (⟨st, false, cd⟩ : IS) ev).1.2.1]) := by
  refine Sv.Fx.body Tryd.func24 rfl T24 rfl ?_
  intro I hro hI
  refine KV.env [(0, _), (1, _)] ⟨rfl, rfl, trivial⟩ ?_
  unfold rinC
  refine CV.seq ?_
  -- region 0 ref.go:391
  refine CV.region ?_
  refine RV.op (OV.alloc #[.slice none 0 0, .bool false] I48 rfl gno rfl (fun p => ?_))
  refine RV.op (OV.step gno (Step.assign rfl) rfl ?_)
  refine RV.nil ?_
  refine KV.then_n ?_
  refine KV.env [(0, _), (1, _), (4, _)] ⟨rfl, rfl, rfl, trivial⟩ ?_
  refine CV.seq ?_
  refine CV.seq ?_
  -- region 1 ref.go:392
  refine CV.region ?_
  refine RV.op (OV.step gno (Step.move rfl) rfl ?_)
  refine RV.op (OV.step gno (Step.nilCheck rfl) rfl ?_)
  refine RV.op (OV.step gno (Step.fieldAddr rfl (F50_2 _ _)) rfl ?_)
  refine RV.op (OV.step gno (Step.load Tryd.underlying3 rfl rfl (fun w h => h.cell 0 rfl rfl)) rfl ?_)
  refine RV.op (OV.split gno (Step.geq rfl rfl) rfl (fun hg => ?_) (fun hg => ?_))
  · -- True
    omega
  · -- False
    refine RV.nil ?_
    refine KV.then_n ?_
    refine KV.env [(0, _), (1, _), (4, _), (10, _)] ⟨rfl, rfl, rfl, rfl, trivial⟩ ?_
    refine CV.cond_f rfl ?_
    refine CV.skip ?_
    refine KV.then_n ?_
    refine KV.env [(0, _), (1, _), (4, _)] ⟨rfl, rfl, rfl, trivial⟩ ?_
    refine CV.seq ?_
    -- region 3 ref.go:395
    refine CV.region ?_
    refine RV.op (OV.step gno (Step.move rfl) rfl ?_)
    refine RV.op (OV.step gno (Step.move rfl) rfl ?_)
    refine RV.op (OV.step gno (Step.nilCheck rfl) rfl ?_)
    refine RV.op (OV.step gno (Step.fieldAddr rfl (F50_3 _ _)) rfl ?_)
    refine RV.op (OV.store 0 [_] #[_, _, _, _, _, _] I9 rfl rfl rfl rfl rfl (Nat.le_of_ble_eq_true rfl) (by simp [Value.oneCell']) rfl gno ?_)
    refine RV.nil ?_
    refine KV.then_n ?_
    refine KV.env [(0, _), (4, _)] ⟨rfl, rfl, trivial⟩ ?_
    refine CV.seq ?_
    -- region 4 ref.go:396
    refine CV.region ?_
    refine RV.op (OV.step gno (Step.move rfl) rfl ?_)
    refine RV.op (OV.call [0, 0, 0, 0] (F := [_]) Tryd.func50 B50 N50 rfl rfl (fun w h => rconsider_fn (k := 0) d st cd (-1) ev (Nat.zero_le _) (by have := hb.t; omega) (fun i hi => by have := hb.o i hi; omega)) (fun _ hb => hb.elim) gno rfl (fun v L' hp => ?_))
    obtain ⟨A3, c3, rfl, rfl⟩ := hp
    refine RV.op (OV.store 0 [_, _] #[_, _] I48 rfl rfl rfl rfl rfl (Nat.le_of_ble_eq_true rfl) (by simp [Value.oneCell']) rfl gno ?_)
    refine RV.op (OV.step gno (Step.assign rfl) rfl ?_)
    refine RV.nil ?_
    refine KV.then_n ?_
    refine KV.env [(4, _), (5, _)] ⟨rfl, rfl, trivial⟩ ?_
    refine CV.ret ?_
    -- return at r4
    refine KV.sel [0, 0, 0, 0, 0, 0] [_, _, _, _, _, _] rfl ?_
    exact KV.retC2 [_, _] rfl rfl rfl Tryd.underlying48 rfl I48 rfl (fun w h => h.cells 0 rfl) _ (fun _ h => h.sel [1, 1, 1, 1, 1] rfl) ⟨A3, c3, rfl, rfl⟩

set_option maxRecDepth 100000 in
set_option maxHeartbeats 4000000 in
theorem rreplyN_fn {q : Nat} (d : DH) (st : Int) (cd : Nat) (ev : Bs) (v0 : Int) {w : World} : Fx Tryd.prog 21 [.pointer (some ⟨q, 0, none⟩), .int .u64 v0] w (rinC q d st (-1) ev) no (fun v L => ∃ A c, v = .tuple #[.agg #[.slice A (rplM (d.hs.map (·.t)) (⟨st, false, cd⟩ : IS) v0).1.2.1.length c, .bool (rplM (d.hs.map (·.t)) (⟨st, false, cd⟩ : IS) v0).1.2.2], .int .i64 (rplM (d.hs.map (·.t)) (⟨st, false, cd⟩ : IS) v0).2] ∧ L = rinC q d (rplM (d.hs.map (·.t)) (⟨st, false, cd⟩ : IS) v0).1.1.st (wtI (rplM (d.hs.map (·.t)) (⟨st, false, cd⟩ : IS) v0).1.1) ev ++ [OS 71 roK A c (rplM (d.hs.map (·.t)) (⟨st, false, cd⟩ : IS) v0).1.2.1]) := by
  refine Sv.Fx.body Tryd.func21 rfl T21 rfl ?_
  intro I hro hI
  refine KV.env [(0, _), (1, _)] ⟨rfl, rfl, trivial⟩ ?_
  unfold rinC
  refine CV.seq ?_
  -- region 0 ref.go:398
  refine CV.region ?_
  refine RV.op (OV.alloc #[.slice none 0 0, .bool false] I48 rfl gno rfl (fun p => ?_))
  refine RV.op (OV.step gno (Step.assign rfl) rfl ?_)
  refine RV.nil ?_
  refine KV.then_n ?_
  refine KV.env [(0, _), (1, _), (4, _)] ⟨rfl, rfl, rfl, trivial⟩ ?_
  refine CV.seq ?_
  refine CV.seq ?_
  -- region 1 ref.go:399
  refine CV.region ?_
  refine RV.op (OV.step gno (Step.move rfl) rfl ?_)
  refine RV.op (OV.step gno (Step.nilCheck rfl) rfl ?_)
  refine RV.op (OV.step gno (Step.fieldAddr rfl (F50_2 _ _)) rfl ?_)
  refine RV.op (OV.step gno (Step.load Tryd.underlying3 rfl rfl (fun w h => h.cell 0 rfl rfl)) rfl ?_)
  refine RV.op (OV.split gno (Step.lss rfl rfl) rfl (fun hg => ?_) (fun hg => ?_))
  · -- True
    refine RV.nil ?_
    refine KV.then_n ?_
    refine KV.env [(0, _), (1, _), (4, _), (11, _)] ⟨rfl, rfl, rfl, rfl, trivial⟩ ?_
    refine CV.cond_t rfl ?_
    refine CV.seq ?_
    -- region 2 ref.go:400
    refine CV.region ?_
    refine RV.op (OV.step gno (Step.build rfl (Bd48_)) rfl ?_)
    refine RV.op (OV.store 4 [_, _] #[_, _] I48 rfl rfl rfl rfl rfl (Nat.le_of_ble_eq_true rfl) (by simp [Value.oneCell']) rfl gno ?_)
    refine RV.op (OV.step gno (Step.assign rfl) rfl ?_)
    refine RV.nil ?_
    refine KV.then_n ?_
    refine KV.env [(4, _), (5, _)] ⟨rfl, rfl, trivial⟩ ?_
    refine CV.ret ?_
    refine KV.then_ret ?_
    -- return at r2
    refine KV.sel [4, 0, 0, 0, 0] [_, _, _, _, _] rfl ?_
    exact KV.retC2 [_, _] rfl rfl rfl Tryd.underlying48 rfl I48 rfl (fun w h => h.cells 0 rfl) _ (fun _ h => (h.sel [1, 1, 1, 1] rfl).nilOS) ⟨none, 0, rfl, rfl⟩
  · -- False
    omega

set_option maxRecDepth 100000 in
set_option maxHeartbeats 4000000 in
theorem rreplyW_fn {q : Nat} (d : DH) (st : Int) (cd : Nat) (ev : Bs) (v0 : Int) {w : World} (hb : Bnd d) (hcl : cd < d.hs.length) (hev : (d.hs.getD cd thK.d).t.ev = ev) : Fx Tryd.prog 21 [.pointer (some ⟨q, 0, none⟩), .int .u64 v0] w (rinC q d st cd ev) no (fun v L => ∃ A c, v = .tuple #[.agg #[.slice A (rplM (d.hs.map (·.t)) (⟨st, true, cd⟩ : IS) v0).1.2.1.length c, .bool (rplM (d.hs.map (·.t)) (⟨st, true, cd⟩ : IS) v0).1.2.2], .int .i64 (rplM (d.hs.map (·.t)) (⟨st, true, cd⟩ : IS) v0).2] ∧ L = rinC q d (rplM (d.hs.map (·.t)) (⟨st, true, cd⟩ : IS) v0).1.1.st (wtI (rplM (d.hs.map (·.t)) (⟨st, true, cd⟩ : IS) v0).1.1) ev ++ [OS 71 roK A c (rplM (d.hs.map (·.t)) (⟨st, true, cd⟩ : IS) v0).1.2.1]) := by
  refine Sv.Fx.body Tryd.func21 rfl T21 rfl ?_
  intro I hro hI
  refine KV.env [(0, _), (1, _)] ⟨rfl, rfl, trivial⟩ ?_
  unfold rinC
  have hbt := hb.t
  refine CV.seq ?_
  -- region 0 ref.go:398
  refine CV.region ?_
  refine RV.op (OV.alloc #[.slice none 0 0, .bool false] I48 rfl gno rfl (fun p => ?_))
  refine RV.op (OV.step gno (Step.assign rfl) rfl ?_)
  refine RV.nil ?_
  refine KV.then_n ?_
  refine KV.env [(0, _), (1, _), (4, _)] ⟨rfl, rfl, rfl, trivial⟩ ?_
  refine CV.seq ?_
  refine CV.seq ?_
  -- region 1 ref.go:399
  refine CV.region ?_
  refine RV.op (OV.step gno (Step.move rfl) rfl ?_)
  refine RV.op (OV.step gno (Step.nilCheck rfl) rfl ?_)
  refine RV.op (OV.step gno (Step.fieldAddr rfl (F50_2 _ _)) rfl ?_)
  refine RV.op (OV.step gno (Step.load Tryd.underlying3 rfl rfl (fun w h => h.cell 0 rfl rfl)) rfl ?_)
  refine RV.op (OV.split gno (Step.lss rfl rfl) rfl (fun hg => ?_) (fun hg => ?_))
  · -- True
    omega
  · -- False
    refine RV.nil ?_
    refine KV.then_n ?_
    refine KV.env [(0, _), (1, _), (4, _), (11, _)] ⟨rfl, rfl, rfl, rfl, trivial⟩ ?_
    refine CV.cond_f rfl ?_
    refine CV.skip ?_
    refine KV.then_n ?_
    refine KV.env [(0, _), (1, _), (4, _)] ⟨rfl, rfl, rfl, trivial⟩ ?_
    refine CV.seq ?_
    -- region 3 ref.go:402
    refine CV.any (Hp I w [Blk q (.cells #[.string (bs d.name), .slice d.sA d.ss.length d.sc, .slice d.tA d.hs.length d.tc, .int .i64 st, .int .i64 cd, .string (bs ev)] 50 (0, 0)), OS 61 thK d.tA d.tc d.hs]) (by kernel_rfl) (fun _ h => h.drew) 13 rfl ?_
    refine AV.take 0 #[true, false, false, false, false, false, false, false, false, false, false, false, false] rfl (by kernel_rfl) (by kernel_rfl) (by kernel_rfl) (fun _ _ _ h => h) gno (Step.move rfl) rfl (fun _ h => h.sel [0, 1] rfl) (by kernel_rfl) ?_
    refine AV.take 1 #[true, true, false, false, false, false, false, false, false, false, false, false, false] rfl (by kernel_rfl) (by kernel_rfl) (by kernel_rfl) (fun _ _ _ h => h) gno (Step.nilCheck rfl) rfl (fun _ h => h.sel [0, 1] rfl) (by kernel_rfl) ?_
    refine AV.take 2 #[true, true, true, false, false, false, false, false, false, false, false, false, false] rfl (by kernel_rfl) (by kernel_rfl) (by kernel_rfl) (fun _ _ _ h => h) gno (Step.fieldAddr rfl (F50_0 _ _)) rfl (fun _ h => h.sel [0, 1] rfl) (by kernel_rfl) ?_
    refine AV.take 3 #[true, true, true, true, false, false, false, false, false, false, false, false, false] rfl (by kernel_rfl) (by kernel_rfl) (by kernel_rfl) (fun _ _ _ h => h) gno (Step.fieldAddr rfl (F26_2 _ _)) rfl (fun _ h => h.sel [0, 1] rfl) (by kernel_rfl) ?_
    refine AV.take 4 #[true, true, true, true, true, false, false, false, false, false, false, false, false] rfl (by kernel_rfl) (by kernel_rfl) (by kernel_rfl) (fun _ _ _ h => h) gno (Step.load Tryd.underlying24 rfl rfl (fun w h => h.cell 0 rfl rfl)) rfl (fun _ h => h.sel [0, 1] rfl) (by kernel_rfl) ?_
    refine AV.take 5 #[true, true, true, true, true, true, false, false, false, false, false, false, false] rfl (by kernel_rfl) (by kernel_rfl) (by kernel_rfl) (fun _ _ _ h => h) gno (Step.move rfl) rfl (fun _ h => h.sel [0, 1] rfl) (by kernel_rfl) ?_
    refine AV.take 6 #[true, true, true, true, true, true, true, false, false, false, false, false, false] rfl (by kernel_rfl) (by kernel_rfl) (by kernel_rfl) (fun _ _ _ h => h) gno (Step.nilCheck rfl) rfl (fun _ h => h.sel [0, 1] rfl) (by kernel_rfl) ?_
    refine AV.take 7 #[true, true, true, true, true, true, true, true, false, false, false, false, false] rfl (by kernel_rfl) (by kernel_rfl) (by kernel_rfl) (fun _ _ _ h => h) gno (Step.fieldAddr rfl (F50_2 _ _)) rfl (fun _ h => h.sel [0, 1] rfl) (by kernel_rfl) ?_
    refine AV.take 8 #[true, true, true, true, true, true, true, true, true, false, false, false, false] rfl (by kernel_rfl) (by kernel_rfl) (by kernel_rfl) (fun _ _ _ h => h) gno (Step.load Tryd.underlying3 rfl rfl (fun w h => h.cell 0 rfl rfl)) rfl (fun _ h => h.sel [0, 1] rfl) (by kernel_rfl) ?_
    refine AV.take 9 #[true, true, true, true, true, true, true, true, true, true, false, false, false] rfl (by kernel_rfl) (by kernel_rfl) (by kernel_rfl) (fun _ _ _ h => h) gno (Step.idx Tryd.underlying24 I61 (fun w h => h.os 1 rfl) rfl rfl (rfl) _ rfl (by omega)) rfl (fun _ h => h.sel [0, 1] rfl) (by kernel_rfl) ?_
    refine AV.take 10 #[true, true, true, true, true, true, true, true, true, true, true, false, false] rfl (by kernel_rfl) (by kernel_rfl) (by kernel_rfl) (fun _ _ _ h => h) gno (Step.loadN _ Tryd.underlying61 rfl I61 rfl rfl (fun w h => (h.os 1 rfl).cells (by omega))) rfl (fun _ h => h.sel [0, 1] rfl) (by kernel_rfl) ?_
    refine AV.all [11] (by kernel_rfl) (by decide) ?_
    refine ⟨⟨_, rfl, ?_⟩, trivial⟩
    · -- 11 comes up
      refine OV.alloc #[.int .i64 0, .string (Sv.bs []), .bool false, .int .u64 0, .int .u64 0, .int .u64 0, .slice none 0 0, .int .i64 0] I61 rfl gno rfl (fun x => ?_)
      refine AV.next #[true, true, true, true, true, true, true, true, true, true, true, true, false] (by kernel_rfl) (fun _ h => h.sel [0, 1] rfl) ?_
      refine AV.all [12] (by kernel_rfl) (by decide) ?_
      refine ⟨⟨_, rfl, ?_⟩, trivial⟩
      · -- 12 comes up
        refine OV.store 5 [_, _, _, _, _, _, _, _] #[_, _, _, _, _, _, _, _] I61 rfl rfl rfl rfl rfl (Nat.le_of_ble_eq_true rfl) (by simp [Value.oneCell']) rfl gno ?_
        refine AV.next #[true, true, true, true, true, true, true, true, true, true, true, true, true] (by kernel_rfl) (fun _ h => h.sel [0, 1] rfl) ?_
        refine AV.done (by kernel_rfl) ?_
        refine KV.then_n ?_
        refine KV.env [(0, _), (1, _), (4, _), (6, _)] ⟨rfl, rfl, rfl, rfl, trivial⟩ ?_
        refine CV.seq ?_
        refine CV.seq ?_
        -- region 4 ref.go:403
        refine CV.region ?_
        refine RV.op (OV.step gno (Step.move rfl) rfl ?_)
        refine RV.op (OV.step gno (Step.fieldAddr rfl (F61_2 _ _)) rfl ?_)
        refine RV.op (OV.step gno (Step.fieldAddr rfl (F59_2 _ _)) rfl ?_)
        refine RV.op (OV.step gno (Step.load Tryd.underlying51 rfl rfl (fun w h => h.cell 5 rfl rfl)) rfl ?_)
        refine RV.op (OV.step gno (Step.band rfl rfl (rfl)) rfl ?_)
        refine RV.op (OV.step gno (Step.fieldAddr rfl (F61_2 _ _)) rfl ?_)
        refine RV.op (OV.step gno (Step.fieldAddr rfl (F59_3 _ _)) rfl ?_)
        refine RV.op (OV.step gno (Step.load Tryd.underlying51 rfl rfl (fun w h => h.cell 5 rfl rfl)) rfl ?_)
        refine RV.op (OV.split gno (Step.eql rfl rfl) rfl (fun hv => ?_) (fun hv => ?_))
        · -- True
          refine RV.nil ?_
          refine KV.then_n ?_
          refine KV.env [(0, _), (4, _), (6, _), (32, _)] ⟨rfl, rfl, rfl, rfl, trivial⟩ ?_
          refine CV.cond_t rfl ?_
          refine CV.seq ?_
          -- region 5 ref.go:404
          refine CV.region ?_
          refine RV.op (OV.step gno (Step.move rfl) rfl ?_)
          refine RV.op (OV.step gno (Step.loadN _ Tryd.underlying61 rfl I61 rfl rfl (fun w h => h.cells 5 rfl)) rfl ?_)
          refine RV.op (OV.call [0, 0, 0, 0] (F := [_, _]) Tryd.func49 B49 N49 rfl rfl (fun w h => rtake_fn (k := cd) d st cd ev (by omega) (fun i hi => by have := hb.o i hi; omega)) (fun _ hb => hb.elim) gno rfl (fun v L' hp => ?_))
          obtain ⟨A3, c3, rfl, rfl⟩ := hp
          refine RV.op (OV.store 0 [_, _] #[_, _] I48 rfl rfl rfl rfl rfl (Nat.le_of_ble_eq_true rfl) (by simp [Value.oneCell']) rfl gno ?_)
          refine RV.op (OV.step gno (Step.assign rfl) rfl ?_)
          refine RV.nil ?_
          refine KV.then_n ?_
          refine KV.env [(4, _), (5, _)] ⟨rfl, rfl, trivial⟩ ?_
          refine CV.ret ?_
          refine KV.then_ret ?_
          -- return at r5
          refine KV.sel [0, 1, 1, 1, 1, 1] [_, _, _, _, _, _] rfl ?_
          have hm : rplM (d.hs.map (·.t)) (⟨st, true, cd⟩ : IS) v0 = ((⟨(d.hs.getD cd thK.d).t.to, false, 0⟩, (d.hs.getD cd thK.d).t.ops, false), 0) := by unfold rplM; rw [if_neg (show ¬ (true = false) by decide)]; simp only [trA_th]; exact if_pos hv
          exact KV.retC2 [_, _] rfl rfl rfl Tryd.underlying48 rfl I48 rfl (fun w h => h.cells 0 rfl) _ (fun _ h => h.sel [1, 1, 1, 1, 1] rfl) ⟨A3, c3, by rw [hm] <;> rfl, by rw [hm] <;> rfl⟩
        · -- False
          refine RV.nil ?_
          refine KV.then_n ?_
          refine KV.env [(0, _), (4, _), (6, _), (32, _)] ⟨rfl, rfl, rfl, rfl, trivial⟩ ?_
          refine CV.cond_f rfl ?_
          refine CV.skip ?_
          refine KV.then_n ?_
          refine KV.env [(0, _), (4, _)] ⟨rfl, rfl, trivial⟩ ?_
          refine CV.seq ?_
          -- region 6 ref.go:406
          refine CV.region ?_
          refine RV.op (OV.step gno (Step.move rfl) rfl ?_)
          refine RV.op (OV.step gno (Step.move rfl) rfl ?_)
          refine RV.op (OV.step gno (Step.nilCheck rfl) rfl ?_)
          refine RV.op (OV.step gno (Step.fieldAddr rfl (F50_2 _ _)) rfl ?_)
          refine RV.op (OV.step gno (Step.load Tryd.underlying3 rfl rfl (fun w h => h.cell 0 rfl rfl)) rfl ?_)
          (first | refine RV.op (OV.step gno (Step.add rfl rfl (wI64 (by omega) (by omega))) rfl ?_) | refine RV.op (OV.step gno (Step.add rfl rfl rfl) rfl ?_))
          refine RV.op (OV.call [0, 0, 0, 0] (F := [_, _]) Tryd.func50 B50 N50 rfl rfl (fun w h => rconsider_fn (k := cd + 1) d st 0 cd ev (by omega) (by have := hb.t; omega) (fun i hi => by have := hb.o i hi; omega)) (fun _ hb => hb.elim) gno rfl (fun v L' hp => ?_))
          obtain ⟨A3, c3, rfl, rfl⟩ := hp
          refine RV.op (OV.store 0 [_, _] #[_, _] I48 rfl rfl rfl rfl rfl (Nat.le_of_ble_eq_true rfl) (by simp [Value.oneCell']) rfl gno ?_)
          refine RV.op (OV.step gno (Step.assign rfl) rfl ?_)
          refine RV.nil ?_
          refine KV.then_n ?_
          refine KV.env [(4, _), (5, _)] ⟨rfl, rfl, trivial⟩ ?_
          refine CV.ret ?_
          -- return at r6
          refine KV.sel [0, 1, 1, 1, 1, 1] [_, _, _, _, _, _] rfl ?_
          have hm : rplM (d.hs.map (·.t)) (⟨st, true, cd⟩ : IS) v0 = (conM (d.hs.map (·.t)) ⟨st, false, 0⟩ (d.hs.getD cd thK.d).t.ev (cd + 1), 0) := by unfold rplM; rw [if_neg (show ¬ (true = false) by decide)]; simp only [trA_th]; exact if_neg hv
          rw [hev] at hm
          exact KV.retC2 [_, _] rfl rfl rfl Tryd.underlying48 rfl I48 rfl (fun w h => h.cells 0 rfl) _ (fun _ h => h.sel [1, 1, 1, 1, 1] rfl) ⟨A3, c3, by rw [hm] <;> rfl, by rw [hm] <;> rfl⟩

theorem rhandle_fn {q : Nat} (d : DH) (s : IS) (e0 ev : Bs) {w : World} (hb : Bnd d) : Fx Tryd.prog 24 [.pointer (some ⟨q, 0, none⟩), .string (bs ev)] w (rinC q d s.st (wtI s) e0) no (fun v L => ∃ A c, v = .tuple #[.agg #[.slice A (hdlM (d.hs.map (·.t)) s ev).1.2.1.length c, .bool (hdlM (d.hs.map (·.t)) s ev).1.2.2], .int .i64 (hdlM (d.hs.map (·.t)) s ev).2] ∧ L = rinC q d (hdlM (d.hs.map (·.t)) s ev).1.1.st (wtI (hdlM (d.hs.map (·.t)) s ev).1.1) (if s.wt = true then e0 else ev) ++ [OS 71 roK A c (hdlM (d.hs.map (·.t)) s ev).1.2.1]) := by
  obtain ⟨st, wt, cd⟩ := s
  cases wt with
  | true => exact rhandleW_fn d st cd e0 ev hb
  | false => exact rhandleN_fn d st cd e0 ev hb
theorem rreply_fn {q : Nat} (d : DH) (s : IS) (ev : Bs) (v0 : Int) {w : World} (hb : Bnd d) (he : EvI (d.hs.map (·.t)) s ev) : Fx Tryd.prog 21 [.pointer (some ⟨q, 0, none⟩), .int .u64 v0] w (rinC q d s.st (wtI s) ev) no (fun v L => ∃ A c, v = .tuple #[.agg #[.slice A (rplM (d.hs.map (·.t)) s v0).1.2.1.length c, .bool (rplM (d.hs.map (·.t)) s v0).1.2.2], .int .i64 (rplM (d.hs.map (·.t)) s v0).2] ∧ L = rinC q d (rplM (d.hs.map (·.t)) s v0).1.1.st (wtI (rplM (d.hs.map (·.t)) s v0).1.1) ev ++ [OS 71 roK A c (rplM (d.hs.map (·.t)) s v0).1.2.1]) := by
  obtain ⟨st, wt, cd⟩ := s
  cases wt with
  | true =>
    have h := he rfl
    rw [trA_th, List.length_map] at h
    exact rreplyW_fn d st cd ev v0 hb h.1 h.2
  | false => exact rreplyN_fn d st cd ev v0

set_option maxRecDepth 100000 in
set_option maxHeartbeats 4000000 in
theorem rnew_fn (d : DH) {w : World} (hd : DR w d) : Fx Tryd.prog 19 [.agg #[.string (bs d.name), .slice d.sA d.ss.length d.sc, .slice d.tA d.hs.length d.tc]] w [] no (fun v L => (chkM d.d = 0 ∧ ∃ q : Nat, v = .tuple #[.pointer (some ⟨q, 0, none⟩), .int .i64 0] ∧ L = [Blk q (.cells #[.string (bs d.name), .slice d.sA d.ss.length d.sc, .slice d.tA d.hs.length d.tc, .int .i64 0, .int .i64 (-1), .string (bs [])] 50 (0, 0))]) ∨ (chkM d.d ≠ 0 ∧ v = .tuple #[.pointer none, .int .i64 (chkM d.d)] ∧ L = [])) := by
  refine Sv.Fx.body Tryd.func19 rfl T19 rfl ?_
  intro I hro hI
  refine KV.env [(0, _)] ⟨rfl, trivial⟩ ?_
  refine CV.seq ?_
  -- region 0 ref.go:359
  refine CV.region ?_
  refine RV.op (OV.box (t := 26) #[_, _, _] rfl rfl gno rfl (fun b => ?_))
  refine RV.op (OV.step gno (Step.assign rfl) rfl ?_)
  refine RV.op (OV.step gno (Step.assign rfl) rfl ?_)
  refine RV.nil ?_
  refine KV.then_n ?_
  refine KV.env [(1, _)] ⟨rfl, trivial⟩ ?_
  refine CV.seq ?_
  refine CV.seq ?_
  -- region 1 ref.go:360
  refine CV.region ?_
  refine RV.op (OV.step gno (Step.loadN _ Tryd.underlying26 rfl I26 rfl rfl (fun w h => h.cells 0 rfl)) rfl ?_)
  refine RV.op (OV.call [] (F := [_]) Tryd.func31 B31 N31 rfl rfl (fun w h => rcheck_fn d (DR.keep h hd hI)) (fun _ hb => hb.elim) gno rfl (fun v L' hp => ?_))
  obtain ⟨rfl, rfl⟩ := hp
  simp only [List.append_nil]
  refine RV.op (OV.step gno (Step.assign rfl) rfl ?_)
  refine RV.nil ?_
  refine KV.then_n ?_
  refine KV.env [(1, _), (4, _)] ⟨rfl, rfl, trivial⟩ ?_
  refine CV.seq ?_
  -- region 2 ref.go:360
  refine CV.region ?_
  refine RV.op (OV.step gno (Step.move rfl) rfl ?_)
  refine RV.op (OV.split gno (Step.neq rfl rfl) rfl (fun hck => ?_) (fun hck => ?_))
  · -- True
    refine RV.nil ?_
    refine KV.then_n ?_
    refine KV.env [(1, _), (4, _), (8, _)] ⟨rfl, rfl, rfl, trivial⟩ ?_
    refine CV.cond_t rfl ?_
    refine CV.seq ?_
    -- region 3 ref.go:361
    refine CV.region ?_
    refine RV.op (OV.step gno (Step.move rfl) rfl ?_)
    refine RV.op (OV.step gno (Step.assign rfl) rfl ?_)
    refine RV.op (OV.step gno (Step.assign rfl) rfl ?_)
    refine RV.nil ?_
    refine KV.then_n ?_
    refine KV.env [(2, _), (3, _)] ⟨rfl, rfl, trivial⟩ ?_
    refine CV.ret ?_
    refine KV.then_ret ?_
    -- return at r3
    refine KV.sel [] [] rfl ?_
    exact KV.ret2 rfl rfl rfl _ (fun _ h => h) (.inr ⟨hck, rfl, rfl⟩)
  · -- False
    have hck0 := Decidable.not_not.1 hck
    refine RV.nil ?_
    refine KV.then_n ?_
    refine KV.env [(1, _), (4, _), (8, _)] ⟨rfl, rfl, rfl, trivial⟩ ?_
    refine CV.cond_f rfl ?_
    refine CV.skip ?_
    refine KV.then_n ?_
    refine KV.env [(1, _)] ⟨rfl, trivial⟩ ?_
    refine CV.seq ?_
    -- region 4 ref.go:363
    refine CV.region ?_
    refine RV.op (OV.step gno (Step.loadN _ Tryd.underlying26 rfl I26 rfl rfl (fun w h => h.cells 0 rfl)) rfl ?_)
    refine RV.op (OV.step gno (Step.build rfl (Bd50_0_2 _ _ _ _)) rfl ?_)
    refine RV.op (OV.box (t := 50) #[_, _, _, _, _, _] rfl rfl gno rfl (fun q => ?_))
    refine RV.op (OV.step gno (Step.assign rfl) rfl ?_)
    refine RV.op (OV.step gno (Step.assign rfl) rfl ?_)
    refine RV.nil ?_
    refine KV.then_n ?_
    refine KV.env [(2, _), (3, _)] ⟨rfl, rfl, trivial⟩ ?_
    refine CV.ret ?_
    -- return at r4
    refine KV.sel [1] [_] rfl ?_
    exact KV.ret2 rfl rfl rfl _ (fun _ h => h) (.inl ⟨hck0, q, rfl, rfl⟩)
end Go.Proofs.YtplmfekhdaefaaaDoor
