/-
  Walks, part 22.
-/
import Derived.Test.YthdpojggdodpfaaTabs
import Derived.Test.YthdpojggdodpfaaW21
set_option linter.unusedSimpArgs false
set_option linter.unusedVariables false
namespace Go.Proofs.Ythdpojggdodpfaa
open Go.Sv Go.Ios
set_option maxRecDepth 100000 in
set_option maxHeartbeats 8000000 in
theorem apply_fn (b c : Nat) (s : BS) (r : RB) (n : Nat) {w : World} (R : Rel s r n) (hn : n < 100) (o : Ios.Op) (ho : okO o) : Fx Try.prog 18 [.agg #[.pointer (some ⟨b, 0, none⟩), .pointer (some ⟨c, 0, none⟩)], .agg #[.int .i64 o.kind, .int .i64 o.space, .int .u64 o.addr, .int .u64 o.len, .int .i64 o.width, .int .i64 o.own, .bool o.wr, .int .u64 o.val, .bool o.raw]] w (busL b s ++ rbL c r) no (fun v L => v = .bool true ∧ ∃ s2 r2, Rel s2 r2 (n + 1) ∧ L = busL b s2 ++ rbL c r2) := by
  refine Sv.Fx.body Try.func18 rfl T18 rfl ?_
  intro I hro hI
  refine KV.env [(0, _), (1, _)] ⟨rfl, rfl, trivial⟩ ?_
  have hrf : r.fl.length < 1000 := by have := R.nf; omega
  refine CV.seq ?_
  -- region 0 law.go:65
  refine CV.region ?_
  refine RV.op (OV.box (t := 58) #[_, _] rfl rfl gno rfl (fun bp => ?_))
  refine RV.op (OV.box (t := 43) #[_, _, _, _, _, _, _, _, _] rfl rfl gno rfl (fun bo => ?_))
  refine RV.op (OV.step gno (Step.assign rfl) rfl ?_)
  refine RV.nil ?_
  refine KV.then_n ?_
  refine KV.env [(2, _), (3, _)] ⟨rfl, rfl, trivial⟩ ?_
  refine CV.seq ?_
  -- region 1 law.go:66
  refine CV.region ?_
  refine RV.op (OV.step gno (Step.fieldAddr rfl (F43_2 _ _)) rfl ?_)
  refine RV.op (OV.step gno (Step.load Try.underlying22 rfl rfl (fun w h => h.cell 10 rfl rfl)) rfl ?_)
  refine RV.op (OV.step gno (Step.fieldAddr rfl (F43_3 _ _)) rfl ?_)
  refine RV.op (OV.step gno (Step.load Try.underlying22 rfl rfl (fun w h => h.cell 10 rfl rfl)) rfl ?_)
  refine RV.op (OV.step gno (Step.build rfl (Bd32_0_1 _ _)) rfl ?_)
  refine RV.op (OV.alloc #[.int .u64 0, .int .u64 0] I32 rfl gno rfl (fun bg => ?_))
  refine RV.op (OV.store 11 [_, _] #[_, _] I32 rfl rfl rfl rfl rfl (Nat.le_of_ble_eq_true rfl) (by simp [Value.oneCell']) rfl gno ?_)
  refine RV.nil ?_
  refine KV.then_n ?_
  refine KV.env [(2, _), (3, _), (5, _)] ⟨rfl, rfl, rfl, trivial⟩ ?_
  refine CV.seq ?_
  refine CV.seq ?_
  -- region 2 law.go:67
  refine CV.region ?_
  refine RV.op (OV.step gno (Step.fieldAddr rfl (F43_0 _ _)) rfl ?_)
  refine RV.op (OV.step gno (Step.load Try.underlying3 rfl rfl (fun w h => h.cell 10 rfl rfl)) rfl ?_)
  refine RV.nil ?_
  refine KV.then_n ?_
  refine KV.env [(2, _), (3, _), (5, _), (21, _)] ⟨rfl, rfl, rfl, rfl, trivial⟩ ?_
  refine CV.block ?_
  refine CV.seq ?_
  refine CV.seq ?_
  -- region 3 law.go:68
  refine CV.region ?_
  refine RV.op (OV.split gno (Step.eql rfl rfl) rfl (fun cc1 => ?_) (fun cc1 => ?_))
  · -- True
    refine RV.op (OV.step gno (Step.assign rfl) rfl ?_)
    refine RV.nil ?_
    refine KV.then_n ?_
    refine KV.env [(2, _), (3, _), (5, _), (21, _), (22, _)] ⟨rfl, rfl, rfl, rfl, rfl, trivial⟩ ?_
    refine CV.cond_t rfl ?_
    refine CV.skip ?_
    refine KV.then_n ?_
    refine KV.env [(2, _), (3, _), (5, _), (21, _), (22, _)] ⟨rfl, rfl, rfl, rfl, rfl, trivial⟩ ?_
    refine CV.cond_t rfl ?_
    refine CV.seq ?_
    -- region 5 law.go:69
    refine KV.sel [9, 9, 9, 0, 0, 0, 0, 0, 0, 0, 0, 0] [_, _, _, _, _, _, _, _, _, _, _, _] rfl ?_
    refine CV.any (Hp I w [Blk bp (.cells #[.pointer (some ⟨b, 0, none⟩), .pointer (some ⟨c, 0, none⟩)] 58 (0, 0)), Blk bo (.cells #[.int .i64 o.kind, .int .i64 o.space, .int .u64 o.addr, .int .u64 o.len, .int .i64 o.width, .int .i64 o.own, .bool o.wr, .int .u64 o.val, .bool o.raw] 43 (0, 0)), Blk bg (.cells #[.int .u64 o.addr, .int .u64 o.len] 32 (0, 0))]) (by kernel_rfl) (fun _ h => h.drew) 18 rfl ?_
    refine AV.take 0 #[true, false, false, false, false, false, false, false, false, false, false, false, false, false, false, false, false, false] rfl (by kernel_rfl) (by kernel_rfl) (by kernel_rfl) (fun _ _ _ h => h) gno (Step.fieldAddr rfl (F58_0 _ _)) rfl (fun _ h => h.sel [0, 0, 0] rfl) (by kernel_rfl) ?_
    refine AV.take 1 #[true, true, false, false, false, false, false, false, false, false, false, false, false, false, false, false, false, false] rfl (by kernel_rfl) (by kernel_rfl) (by kernel_rfl) (fun _ _ _ h => h) gno (Step.load Try.underlying24 rfl rfl (fun w h => h.cell 0 rfl rfl)) rfl (fun _ h => h.sel [0, 0, 0] rfl) (by kernel_rfl) ?_
    refine AV.take 2 #[true, true, true, false, false, false, false, false, false, false, false, false, false, false, false, false, false, false] rfl (by kernel_rfl) (by kernel_rfl) (by kernel_rfl) (fun _ _ _ h => h) gno (Step.fieldAddr rfl (F43_1 _ _)) rfl (fun _ h => h.sel [0, 0, 0] rfl) (by kernel_rfl) ?_
    refine AV.take 3 #[true, true, true, true, false, false, false, false, false, false, false, false, false, false, false, false, false, false] rfl (by kernel_rfl) (by kernel_rfl) (by kernel_rfl) (fun _ _ _ h => h) gno (Step.load Try.underlying3 rfl rfl (fun w h => h.cell 1 rfl rfl)) rfl (fun _ h => h.sel [0, 0, 0] rfl) (by kernel_rfl) ?_
    refine AV.take 4 #[true, true, true, true, true, false, false, false, false, false, false, false, false, false, false, false, false, false] rfl (by kernel_rfl) (by kernel_rfl) (by kernel_rfl) (fun _ _ _ h => h) gno (Step.loadN _ Try.underlying32 rfl I32 rfl rfl (fun w h => h.cells 2 rfl)) rfl (fun _ h => h.sel [0, 0, 0] rfl) (by kernel_rfl) ?_
    refine AV.take 5 #[true, true, true, true, true, true, false, false, false, false, false, false, false, false, false, false, false, false] rfl (by kernel_rfl) (by kernel_rfl) (by kernel_rfl) (fun _ _ _ h => h) gno (Step.fieldAddr rfl (F43_5 _ _)) rfl (fun _ h => h.sel [0, 0, 0] rfl) (by kernel_rfl) ?_
    refine AV.take 6 #[true, true, true, true, true, true, true, false, false, false, false, false, false, false, false, false, false, false] rfl (by kernel_rfl) (by kernel_rfl) (by kernel_rfl) (fun _ _ _ h => h) gno (Step.load Try.underlying3 rfl rfl (fun w h => h.cell 1 rfl rfl)) rfl (fun _ h => h.sel [0, 0, 0] rfl) (by kernel_rfl) ?_
    refine AV.take 8 #[true, true, true, true, true, true, true, false, true, false, false, false, false, false, false, false, false, false] rfl (by kernel_rfl) (by kernel_rfl) (by kernel_rfl) (fun _ _ _ h => h) gno (Step.fieldAddr rfl (F58_1 _ _)) rfl (fun _ h => h.sel [0, 0, 0] rfl) (by kernel_rfl) ?_
    refine AV.take 9 #[true, true, true, true, true, true, true, false, true, true, false, false, false, false, false, false, false, false] rfl (by kernel_rfl) (by kernel_rfl) (by kernel_rfl) (fun _ _ _ h => h) gno (Step.load Try.underlying50 rfl rfl (fun w h => h.cell 0 rfl rfl)) rfl (fun _ h => h.sel [0, 0, 0] rfl) (by kernel_rfl) ?_
    refine AV.take 10 #[true, true, true, true, true, true, true, false, true, true, true, false, false, false, false, false, false, false] rfl (by kernel_rfl) (by kernel_rfl) (by kernel_rfl) (fun _ _ _ h => h) gno (Step.fieldAddr rfl (F43_1 _ _)) rfl (fun _ h => h.sel [0, 0, 0] rfl) (by kernel_rfl) ?_
    refine AV.take 11 #[true, true, true, true, true, true, true, false, true, true, true, true, false, false, false, false, false, false] rfl (by kernel_rfl) (by kernel_rfl) (by kernel_rfl) (fun _ _ _ h => h) gno (Step.load Try.underlying3 rfl rfl (fun w h => h.cell 1 rfl rfl)) rfl (fun _ h => h.sel [0, 0, 0] rfl) (by kernel_rfl) ?_
    refine AV.take 12 #[true, true, true, true, true, true, true, false, true, true, true, true, true, false, false, false, false, false] rfl (by kernel_rfl) (by kernel_rfl) (by kernel_rfl) (fun _ _ _ h => h) gno (Step.loadN _ Try.underlying32 rfl I32 rfl rfl (fun w h => h.cells 2 rfl)) rfl (fun _ h => h.sel [0, 0, 0] rfl) (by kernel_rfl) ?_
    refine AV.take 13 #[true, true, true, true, true, true, true, false, true, true, true, true, true, true, false, false, false, false] rfl (by kernel_rfl) (by kernel_rfl) (by kernel_rfl) (fun _ _ _ h => h) gno (Step.fieldAddr rfl (F43_5 _ _)) rfl (fun _ h => h.sel [0, 0, 0] rfl) (by kernel_rfl) ?_
    refine AV.take 14 #[true, true, true, true, true, true, true, false, true, true, true, true, true, true, true, false, false, false] rfl (by kernel_rfl) (by kernel_rfl) (by kernel_rfl) (fun _ _ _ h => h) gno (Step.load Try.underlying3 rfl rfl (fun w h => h.cell 1 rfl rfl)) rfl (fun _ h => h.sel [0, 0, 0] rfl) (by kernel_rfl) ?_
    refine AV.all [7] (by kernel_rfl) (by decide) ?_
    refine ⟨⟨_, rfl, ?_⟩, trivial⟩
    · -- 7 comes up
      refine OV.call [3, 3, 3, 3] (F := [_, _, _, _, _, _, _, _]) Try.func11 B11 N11 rfl rfl (fun w h => mapO_fn b s R.sk o.space o.addr o.len o.own ho.1) (fun _ hb => hb.elim) gno rfl (fun v L' hp => ?_)
      obtain ⟨e1, s2, rfl, rfl, h1⟩ := hp
      refine AV.next #[true, true, true, true, true, true, true, true, true, true, true, true, true, true, true, false, false, false] (by kernel_rfl) (fun _ h => h.sel [0, 0, 0] rfl) ?_
      refine AV.all [15] (by kernel_rfl) (by decide) ?_
      refine ⟨⟨_, rfl, ?_⟩, trivial⟩
      · -- 15 comes up
        refine OV.call [3, 3, 3, 3, 3] (F := [_, _, _, _, _, _, _]) Try.func35 B35 N35 rfl rfl (fun w h => mapR_fn c r R.rk o.space o.addr o.len o.own ho.1) (fun _ hb => hb.elim) gno rfl (fun v L' hp => ?_)
        obtain ⟨e2, r2, rfl, rfl, h2⟩ := hp
        obtain ⟨rfl, R2⟩ := R.map ho.1 h1 h2
        refine AV.next #[true, true, true, true, true, true, true, true, true, true, true, true, true, true, true, true, false, false] (by kernel_rfl) (fun _ h => h.sel [0, 0, 0] rfl) ?_
        refine AV.take 16 #[true, true, true, true, true, true, true, true, true, true, true, true, true, true, true, true, true, false] rfl (by kernel_rfl) (by kernel_rfl) (by kernel_rfl) (fun _ _ _ h => h) gno (Step.eql rfl rfl) rfl (fun _ h => h.sel [0, 0, 0] rfl) (by kernel_rfl) ?_
        rw [decide_eq_true (Eq.refl _)]
        refine AV.take 17 #[true, true, true, true, true, true, true, true, true, true, true, true, true, true, true, true, true, true] rfl (by kernel_rfl) (by kernel_rfl) (by kernel_rfl) (fun _ _ _ h => h) gno (Step.assign rfl) rfl (fun _ h => h.sel [0, 0, 0] rfl) (by kernel_rfl) ?_
        refine AV.done (by kernel_rfl) ?_
        refine KV.then_n ?_
        refine KV.env [(4, _)] ⟨rfl, trivial⟩ ?_
        refine CV.ret ?_
        refine KV.block_ret ?_
        refine KV.then_ret ?_
        -- return at r5
        refine KV.sel [3, 3, 3, 3, 3, 3, 3, 3, 3] [_, _, _, _, _, _, _, _, _] rfl ?_
        first | exact KV.ret1 rfl rfl _ (fun _ h => h) ⟨rfl, _, _, R2, rfl⟩ | exact KV.ret1 rfl rfl _ (fun _ h => h) ⟨rfl, _, _, R.take, rfl⟩
  · -- False
    refine RV.op (OV.step gno (Step.assign rfl) rfl ?_)
    refine RV.nil ?_
    refine KV.then_n ?_
    refine KV.env [(2, _), (3, _), (5, _), (21, _), (22, _)] ⟨rfl, rfl, rfl, rfl, rfl, trivial⟩ ?_
    refine CV.cond_f rfl ?_
    -- region 4 law.go:68
    refine CV.region ?_
    refine RV.op (OV.split gno (Step.eql rfl rfl) rfl (fun cc2 => ?_) (fun cc2 => ?_))
    · -- True
      refine RV.op (OV.step gno (Step.assign rfl) rfl ?_)
      refine RV.nil ?_
      refine KV.then_n ?_
      refine KV.env [(2, _), (3, _), (5, _), (21, _), (22, _)] ⟨rfl, rfl, rfl, rfl, rfl, trivial⟩ ?_
      refine CV.cond_t rfl ?_
      refine CV.seq ?_
      -- region 5 law.go:69
      refine KV.sel [9, 9, 9, 0, 0, 0, 0, 0, 0, 0, 0, 0] [_, _, _, _, _, _, _, _, _, _, _, _] rfl ?_
      refine CV.any (Hp I w [Blk bp (.cells #[.pointer (some ⟨b, 0, none⟩), .pointer (some ⟨c, 0, none⟩)] 58 (0, 0)), Blk bo (.cells #[.int .i64 o.kind, .int .i64 o.space, .int .u64 o.addr, .int .u64 o.len, .int .i64 o.width, .int .i64 o.own, .bool o.wr, .int .u64 o.val, .bool o.raw] 43 (0, 0)), Blk bg (.cells #[.int .u64 o.addr, .int .u64 o.len] 32 (0, 0))]) (by kernel_rfl) (fun _ h => h.drew) 18 rfl ?_
      refine AV.take 0 #[true, false, false, false, false, false, false, false, false, false, false, false, false, false, false, false, false, false] rfl (by kernel_rfl) (by kernel_rfl) (by kernel_rfl) (fun _ _ _ h => h) gno (Step.fieldAddr rfl (F58_0 _ _)) rfl (fun _ h => h.sel [0, 0, 0] rfl) (by kernel_rfl) ?_
      refine AV.take 1 #[true, true, false, false, false, false, false, false, false, false, false, false, false, false, false, false, false, false] rfl (by kernel_rfl) (by kernel_rfl) (by kernel_rfl) (fun _ _ _ h => h) gno (Step.load Try.underlying24 rfl rfl (fun w h => h.cell 0 rfl rfl)) rfl (fun _ h => h.sel [0, 0, 0] rfl) (by kernel_rfl) ?_
      refine AV.take 2 #[true, true, true, false, false, false, false, false, false, false, false, false, false, false, false, false, false, false] rfl (by kernel_rfl) (by kernel_rfl) (by kernel_rfl) (fun _ _ _ h => h) gno (Step.fieldAddr rfl (F43_1 _ _)) rfl (fun _ h => h.sel [0, 0, 0] rfl) (by kernel_rfl) ?_
      refine AV.take 3 #[true, true, true, true, false, false, false, false, false, false, false, false, false, false, false, false, false, false] rfl (by kernel_rfl) (by kernel_rfl) (by kernel_rfl) (fun _ _ _ h => h) gno (Step.load Try.underlying3 rfl rfl (fun w h => h.cell 1 rfl rfl)) rfl (fun _ h => h.sel [0, 0, 0] rfl) (by kernel_rfl) ?_
      refine AV.take 4 #[true, true, true, true, true, false, false, false, false, false, false, false, false, false, false, false, false, false] rfl (by kernel_rfl) (by kernel_rfl) (by kernel_rfl) (fun _ _ _ h => h) gno (Step.loadN _ Try.underlying32 rfl I32 rfl rfl (fun w h => h.cells 2 rfl)) rfl (fun _ h => h.sel [0, 0, 0] rfl) (by kernel_rfl) ?_
      refine AV.take 5 #[true, true, true, true, true, true, false, false, false, false, false, false, false, false, false, false, false, false] rfl (by kernel_rfl) (by kernel_rfl) (by kernel_rfl) (fun _ _ _ h => h) gno (Step.fieldAddr rfl (F43_5 _ _)) rfl (fun _ h => h.sel [0, 0, 0] rfl) (by kernel_rfl) ?_
      refine AV.take 6 #[true, true, true, true, true, true, true, false, false, false, false, false, false, false, false, false, false, false] rfl (by kernel_rfl) (by kernel_rfl) (by kernel_rfl) (fun _ _ _ h => h) gno (Step.load Try.underlying3 rfl rfl (fun w h => h.cell 1 rfl rfl)) rfl (fun _ h => h.sel [0, 0, 0] rfl) (by kernel_rfl) ?_
      refine AV.take 8 #[true, true, true, true, true, true, true, false, true, false, false, false, false, false, false, false, false, false] rfl (by kernel_rfl) (by kernel_rfl) (by kernel_rfl) (fun _ _ _ h => h) gno (Step.fieldAddr rfl (F58_1 _ _)) rfl (fun _ h => h.sel [0, 0, 0] rfl) (by kernel_rfl) ?_
      refine AV.take 9 #[true, true, true, true, true, true, true, false, true, true, false, false, false, false, false, false, false, false] rfl (by kernel_rfl) (by kernel_rfl) (by kernel_rfl) (fun _ _ _ h => h) gno (Step.load Try.underlying50 rfl rfl (fun w h => h.cell 0 rfl rfl)) rfl (fun _ h => h.sel [0, 0, 0] rfl) (by kernel_rfl) ?_
      refine AV.take 10 #[true, true, true, true, true, true, true, false, true, true, true, false, false, false, false, false, false, false] rfl (by kernel_rfl) (by kernel_rfl) (by kernel_rfl) (fun _ _ _ h => h) gno (Step.fieldAddr rfl (F43_1 _ _)) rfl (fun _ h => h.sel [0, 0, 0] rfl) (by kernel_rfl) ?_
      refine AV.take 11 #[true, true, true, true, true, true, true, false, true, true, true, true, false, false, false, false, false, false] rfl (by kernel_rfl) (by kernel_rfl) (by kernel_rfl) (fun _ _ _ h => h) gno (Step.load Try.underlying3 rfl rfl (fun w h => h.cell 1 rfl rfl)) rfl (fun _ h => h.sel [0, 0, 0] rfl) (by kernel_rfl) ?_
      refine AV.take 12 #[true, true, true, true, true, true, true, false, true, true, true, true, true, false, false, false, false, false] rfl (by kernel_rfl) (by kernel_rfl) (by kernel_rfl) (fun _ _ _ h => h) gno (Step.loadN _ Try.underlying32 rfl I32 rfl rfl (fun w h => h.cells 2 rfl)) rfl (fun _ h => h.sel [0, 0, 0] rfl) (by kernel_rfl) ?_
      refine AV.take 13 #[true, true, true, true, true, true, true, false, true, true, true, true, true, true, false, false, false, false] rfl (by kernel_rfl) (by kernel_rfl) (by kernel_rfl) (fun _ _ _ h => h) gno (Step.fieldAddr rfl (F43_5 _ _)) rfl (fun _ h => h.sel [0, 0, 0] rfl) (by kernel_rfl) ?_
      refine AV.take 14 #[true, true, true, true, true, true, true, false, true, true, true, true, true, true, true, false, false, false] rfl (by kernel_rfl) (by kernel_rfl) (by kernel_rfl) (fun _ _ _ h => h) gno (Step.load Try.underlying3 rfl rfl (fun w h => h.cell 1 rfl rfl)) rfl (fun _ h => h.sel [0, 0, 0] rfl) (by kernel_rfl) ?_
      refine AV.all [7] (by kernel_rfl) (by decide) ?_
      refine ⟨⟨_, rfl, ?_⟩, trivial⟩
      · -- 7 comes up
        refine OV.call [3, 3, 3, 3] (F := [_, _, _, _, _, _, _, _]) Try.func11 B11 N11 rfl rfl (fun w h => mapO_fn b s R.sk o.space o.addr o.len o.own ho.1) (fun _ hb => hb.elim) gno rfl (fun v L' hp => ?_)
        obtain ⟨e1, s2, rfl, rfl, h1⟩ := hp
        refine AV.next #[true, true, true, true, true, true, true, true, true, true, true, true, true, true, true, false, false, false] (by kernel_rfl) (fun _ h => h.sel [0, 0, 0] rfl) ?_
        refine AV.all [15] (by kernel_rfl) (by decide) ?_
        refine ⟨⟨_, rfl, ?_⟩, trivial⟩
        · -- 15 comes up
          refine OV.call [3, 3, 3, 3, 3] (F := [_, _, _, _, _, _, _]) Try.func35 B35 N35 rfl rfl (fun w h => mapR_fn c r R.rk o.space o.addr o.len o.own ho.1) (fun _ hb => hb.elim) gno rfl (fun v L' hp => ?_)
          obtain ⟨e2, r2, rfl, rfl, h2⟩ := hp
          obtain ⟨rfl, R2⟩ := R.map ho.1 h1 h2
          refine AV.next #[true, true, true, true, true, true, true, true, true, true, true, true, true, true, true, true, false, false] (by kernel_rfl) (fun _ h => h.sel [0, 0, 0] rfl) ?_
          refine AV.take 16 #[true, true, true, true, true, true, true, true, true, true, true, true, true, true, true, true, true, false] rfl (by kernel_rfl) (by kernel_rfl) (by kernel_rfl) (fun _ _ _ h => h) gno (Step.eql rfl rfl) rfl (fun _ h => h.sel [0, 0, 0] rfl) (by kernel_rfl) ?_
          rw [decide_eq_true (Eq.refl _)]
          refine AV.take 17 #[true, true, true, true, true, true, true, true, true, true, true, true, true, true, true, true, true, true] rfl (by kernel_rfl) (by kernel_rfl) (by kernel_rfl) (fun _ _ _ h => h) gno (Step.assign rfl) rfl (fun _ h => h.sel [0, 0, 0] rfl) (by kernel_rfl) ?_
          refine AV.done (by kernel_rfl) ?_
          refine KV.then_n ?_
          refine KV.env [(4, _)] ⟨rfl, trivial⟩ ?_
          refine CV.ret ?_
          refine KV.block_ret ?_
          refine KV.then_ret ?_
          -- return at r5
          refine KV.sel [3, 3, 3, 3, 3, 3, 3, 3, 3] [_, _, _, _, _, _, _, _, _] rfl ?_
          first | exact KV.ret1 rfl rfl _ (fun _ h => h) ⟨rfl, _, _, R2, rfl⟩ | exact KV.ret1 rfl rfl _ (fun _ h => h) ⟨rfl, _, _, R.take, rfl⟩
    · -- False
      refine RV.op (OV.step gno (Step.assign rfl) rfl ?_)
      refine RV.nil ?_
      refine KV.then_n ?_
      refine KV.env [(2, _), (3, _), (5, _), (21, _), (22, _)] ⟨rfl, rfl, rfl, rfl, rfl, trivial⟩ ?_
      refine CV.cond_f rfl ?_
      refine CV.seq ?_
      -- region 6 law.go:70
      refine CV.region ?_
      refine RV.op (OV.split gno (Step.eql rfl rfl) rfl (fun cc3 => ?_) (fun cc3 => ?_))
      · -- True
        refine RV.op (OV.step gno (Step.assign rfl) rfl ?_)
        refine RV.nil ?_
        refine KV.then_n ?_
        refine KV.env [(2, _), (3, _), (5, _), (21, _), (42, _)] ⟨rfl, rfl, rfl, rfl, rfl, trivial⟩ ?_
        refine CV.cond_t rfl ?_
        refine CV.seq ?_
        -- region 7 law.go:71
        refine KV.sel [9, 9, 9, 0, 0, 0, 0, 0, 0, 0, 0, 0] [_, _, _, _, _, _, _, _, _, _, _, _] rfl ?_
        refine CV.any (Hp I w [Blk bp (.cells #[.pointer (some ⟨b, 0, none⟩), .pointer (some ⟨c, 0, none⟩)] 58 (0, 0)), Blk bo (.cells #[.int .i64 o.kind, .int .i64 o.space, .int .u64 o.addr, .int .u64 o.len, .int .i64 o.width, .int .i64 o.own, .bool o.wr, .int .u64 o.val, .bool o.raw] 43 (0, 0)), Blk bg (.cells #[.int .u64 o.addr, .int .u64 o.len] 32 (0, 0))]) (by kernel_rfl) (fun _ h => h.drew) 14 rfl ?_
        refine AV.take 0 #[true, false, false, false, false, false, false, false, false, false, false, false, false, false] rfl (by kernel_rfl) (by kernel_rfl) (by kernel_rfl) (fun _ _ _ h => h) gno (Step.fieldAddr rfl (F58_0 _ _)) rfl (fun _ h => h.sel [0, 0, 0] rfl) (by kernel_rfl) ?_
        refine AV.take 1 #[true, true, false, false, false, false, false, false, false, false, false, false, false, false] rfl (by kernel_rfl) (by kernel_rfl) (by kernel_rfl) (fun _ _ _ h => h) gno (Step.load Try.underlying24 rfl rfl (fun w h => h.cell 0 rfl rfl)) rfl (fun _ h => h.sel [0, 0, 0] rfl) (by kernel_rfl) ?_
        refine AV.take 2 #[true, true, true, false, false, false, false, false, false, false, false, false, false, false] rfl (by kernel_rfl) (by kernel_rfl) (by kernel_rfl) (fun _ _ _ h => h) gno (Step.fieldAddr rfl (F43_1 _ _)) rfl (fun _ h => h.sel [0, 0, 0] rfl) (by kernel_rfl) ?_
        refine AV.take 3 #[true, true, true, true, false, false, false, false, false, false, false, false, false, false] rfl (by kernel_rfl) (by kernel_rfl) (by kernel_rfl) (fun _ _ _ h => h) gno (Step.load Try.underlying3 rfl rfl (fun w h => h.cell 1 rfl rfl)) rfl (fun _ h => h.sel [0, 0, 0] rfl) (by kernel_rfl) ?_
        refine AV.take 4 #[true, true, true, true, true, false, false, false, false, false, false, false, false, false] rfl (by kernel_rfl) (by kernel_rfl) (by kernel_rfl) (fun _ _ _ h => h) gno (Step.loadN _ Try.underlying32 rfl I32 rfl rfl (fun w h => h.cells 2 rfl)) rfl (fun _ h => h.sel [0, 0, 0] rfl) (by kernel_rfl) ?_
        refine AV.take 6 #[true, true, true, true, true, false, true, false, false, false, false, false, false, false] rfl (by kernel_rfl) (by kernel_rfl) (by kernel_rfl) (fun _ _ _ h => h) gno (Step.fieldAddr rfl (F58_1 _ _)) rfl (fun _ h => h.sel [0, 0, 0] rfl) (by kernel_rfl) ?_
        refine AV.take 7 #[true, true, true, true, true, false, true, true, false, false, false, false, false, false] rfl (by kernel_rfl) (by kernel_rfl) (by kernel_rfl) (fun _ _ _ h => h) gno (Step.load Try.underlying50 rfl rfl (fun w h => h.cell 0 rfl rfl)) rfl (fun _ h => h.sel [0, 0, 0] rfl) (by kernel_rfl) ?_
        refine AV.take 8 #[true, true, true, true, true, false, true, true, true, false, false, false, false, false] rfl (by kernel_rfl) (by kernel_rfl) (by kernel_rfl) (fun _ _ _ h => h) gno (Step.fieldAddr rfl (F43_1 _ _)) rfl (fun _ h => h.sel [0, 0, 0] rfl) (by kernel_rfl) ?_
        refine AV.take 9 #[true, true, true, true, true, false, true, true, true, true, false, false, false, false] rfl (by kernel_rfl) (by kernel_rfl) (by kernel_rfl) (fun _ _ _ h => h) gno (Step.load Try.underlying3 rfl rfl (fun w h => h.cell 1 rfl rfl)) rfl (fun _ h => h.sel [0, 0, 0] rfl) (by kernel_rfl) ?_
        refine AV.take 10 #[true, true, true, true, true, false, true, true, true, true, true, false, false, false] rfl (by kernel_rfl) (by kernel_rfl) (by kernel_rfl) (fun _ _ _ h => h) gno (Step.loadN _ Try.underlying32 rfl I32 rfl rfl (fun w h => h.cells 2 rfl)) rfl (fun _ h => h.sel [0, 0, 0] rfl) (by kernel_rfl) ?_
        refine AV.all [5] (by kernel_rfl) (by decide) ?_
        refine ⟨⟨_, rfl, ?_⟩, trivial⟩
        · -- 5 comes up
          refine OV.call [3, 3, 3, 3] (F := [_, _, _, _, _, _, _, _]) Try.func36 B36 N36 rfl rfl (fun w h => unO_fn b s R.sk o.space o.addr o.len ho.1) (fun _ hb => hb.elim) gno rfl (fun v L' hp => ?_)
          obtain ⟨e1, s2, rfl, rfl, h1⟩ := hp
          refine AV.next #[true, true, true, true, true, true, true, true, true, true, true, false, false, false] (by kernel_rfl) (fun _ h => h.sel [0, 0, 0] rfl) ?_
          refine AV.all [11] (by kernel_rfl) (by decide) ?_
          refine ⟨⟨_, rfl, ?_⟩, trivial⟩
          · -- 11 comes up
            refine OV.call [3, 3, 3, 3, 3] (F := [_, _, _, _, _, _, _]) Try.func37 B37 N37 rfl rfl (fun w h => unR_fn c r R.rk o.space o.addr o.len ho.1) (fun _ hb => hb.elim) gno rfl (fun v L' hp => ?_)
            obtain ⟨e2, r2, rfl, rfl, h2⟩ := hp
            obtain ⟨rfl, R2⟩ := R.un h1 h2
            refine AV.next #[true, true, true, true, true, true, true, true, true, true, true, true, false, false] (by kernel_rfl) (fun _ h => h.sel [0, 0, 0] rfl) ?_
            refine AV.take 12 #[true, true, true, true, true, true, true, true, true, true, true, true, true, false] rfl (by kernel_rfl) (by kernel_rfl) (by kernel_rfl) (fun _ _ _ h => h) gno (Step.eql rfl rfl) rfl (fun _ h => h.sel [0, 0, 0] rfl) (by kernel_rfl) ?_
            rw [decide_eq_true (Eq.refl _)]
            refine AV.take 13 #[true, true, true, true, true, true, true, true, true, true, true, true, true, true] rfl (by kernel_rfl) (by kernel_rfl) (by kernel_rfl) (fun _ _ _ h => h) gno (Step.assign rfl) rfl (fun _ h => h.sel [0, 0, 0] rfl) (by kernel_rfl) ?_
            refine AV.done (by kernel_rfl) ?_
            refine KV.then_n ?_
            refine KV.env [(4, _)] ⟨rfl, trivial⟩ ?_
            refine CV.ret ?_
            refine KV.block_ret ?_
            refine KV.then_ret ?_
            -- return at r7
            refine KV.sel [3, 3, 3, 3, 3, 3, 3, 3, 3] [_, _, _, _, _, _, _, _, _] rfl ?_
            first | exact KV.ret1 rfl rfl _ (fun _ h => h) ⟨rfl, _, _, R2, rfl⟩ | exact KV.ret1 rfl rfl _ (fun _ h => h) ⟨rfl, _, _, R.take, rfl⟩
      · -- False
        refine RV.op (OV.step gno (Step.assign rfl) rfl ?_)
        refine RV.nil ?_
        refine KV.then_n ?_
        refine KV.env [(2, _), (3, _), (5, _), (21, _), (42, _)] ⟨rfl, rfl, rfl, rfl, rfl, trivial⟩ ?_
        refine CV.cond_f rfl ?_
        refine CV.seq ?_
        refine CV.seq ?_
        -- region 8 law.go:72
        refine CV.region ?_
        refine RV.op (OV.split gno (Step.eql rfl rfl) rfl (fun cc4 => ?_) (fun cc4 => ?_))
        · -- True
          refine RV.op (OV.step gno (Step.assign rfl) rfl ?_)
          refine RV.nil ?_
          refine KV.then_n ?_
          refine KV.env [(2, _), (3, _), (5, _), (21, _), (57, _)] ⟨rfl, rfl, rfl, rfl, rfl, trivial⟩ ?_
          refine CV.cond_t rfl ?_
          refine CV.skip ?_
          refine KV.then_n ?_
          refine KV.env [(2, _), (3, _), (5, _), (21, _), (57, _)] ⟨rfl, rfl, rfl, rfl, rfl, trivial⟩ ?_
          refine CV.cond_t rfl ?_
          refine CV.seq ?_
          -- region 10 law.go:73
          refine KV.sel [9, 9, 9, 0, 0, 0, 0, 0, 0, 0, 0, 0] [_, _, _, _, _, _, _, _, _, _, _, _] rfl ?_
          refine CV.any (Hp I w [Blk bp (.cells #[.pointer (some ⟨b, 0, none⟩), .pointer (some ⟨c, 0, none⟩)] 58 (0, 0)), Blk bo (.cells #[.int .i64 o.kind, .int .i64 o.space, .int .u64 o.addr, .int .u64 o.len, .int .i64 o.width, .int .i64 o.own, .bool o.wr, .int .u64 o.val, .bool o.raw] 43 (0, 0)), Blk bg (.cells #[.int .u64 o.addr, .int .u64 o.len] 32 (0, 0))]) (by kernel_rfl) (fun _ h => h.drew) 16 rfl ?_
          refine AV.take 0 #[true, false, false, false, false, false, false, false, false, false, false, false, false, false, false, false] rfl (by kernel_rfl) (by kernel_rfl) (by kernel_rfl) (fun _ _ _ h => h) gno (Step.fieldAddr rfl (F58_0 _ _)) rfl (fun _ h => h.sel [0, 0, 0] rfl) (by kernel_rfl) ?_
          refine AV.take 1 #[true, true, false, false, false, false, false, false, false, false, false, false, false, false, false, false] rfl (by kernel_rfl) (by kernel_rfl) (by kernel_rfl) (fun _ _ _ h => h) gno (Step.load Try.underlying24 rfl rfl (fun w h => h.cell 0 rfl rfl)) rfl (fun _ h => h.sel [0, 0, 0] rfl) (by kernel_rfl) ?_
          refine AV.take 2 #[true, true, true, false, false, false, false, false, false, false, false, false, false, false, false, false] rfl (by kernel_rfl) (by kernel_rfl) (by kernel_rfl) (fun _ _ _ h => h) gno (Step.fieldAddr rfl (F43_5 _ _)) rfl (fun _ h => h.sel [0, 0, 0] rfl) (by kernel_rfl) ?_
          refine AV.take 3 #[true, true, true, true, false, false, false, false, false, false, false, false, false, false, false, false] rfl (by kernel_rfl) (by kernel_rfl) (by kernel_rfl) (fun _ _ _ h => h) gno (Step.load Try.underlying3 rfl rfl (fun w h => h.cell 1 rfl rfl)) rfl (fun _ h => h.sel [0, 0, 0] rfl) (by kernel_rfl) ?_
          refine AV.take 4 #[true, true, true, true, true, false, false, false, false, false, false, false, false, false, false, false] rfl (by kernel_rfl) (by kernel_rfl) (by kernel_rfl) (fun _ _ _ h => h) gno (Step.fieldAddr rfl (F43_6 _ _)) rfl (fun _ h => h.sel [0, 0, 0] rfl) (by kernel_rfl) ?_
          refine AV.take 5 #[true, true, true, true, true, true, false, false, false, false, false, false, false, false, false, false] rfl (by kernel_rfl) (by kernel_rfl) (by kernel_rfl) (fun _ _ _ h => h) gno (Step.load Try.underlying4 rfl rfl (fun w h => h.cell 1 rfl rfl)) rfl (fun _ h => h.sel [0, 0, 0] rfl) (by kernel_rfl) ?_
          refine AV.take 7 #[true, true, true, true, true, true, false, true, false, false, false, false, false, false, false, false] rfl (by kernel_rfl) (by kernel_rfl) (by kernel_rfl) (fun _ _ _ h => h) gno (Step.fieldAddr rfl (F58_1 _ _)) rfl (fun _ h => h.sel [0, 0, 0] rfl) (by kernel_rfl) ?_
          refine AV.take 8 #[true, true, true, true, true, true, false, true, true, false, false, false, false, false, false, false] rfl (by kernel_rfl) (by kernel_rfl) (by kernel_rfl) (fun _ _ _ h => h) gno (Step.load Try.underlying50 rfl rfl (fun w h => h.cell 0 rfl rfl)) rfl (fun _ h => h.sel [0, 0, 0] rfl) (by kernel_rfl) ?_
          refine AV.take 9 #[true, true, true, true, true, true, false, true, true, true, false, false, false, false, false, false] rfl (by kernel_rfl) (by kernel_rfl) (by kernel_rfl) (fun _ _ _ h => h) gno (Step.fieldAddr rfl (F43_5 _ _)) rfl (fun _ h => h.sel [0, 0, 0] rfl) (by kernel_rfl) ?_
          refine AV.take 10 #[true, true, true, true, true, true, false, true, true, true, true, false, false, false, false, false] rfl (by kernel_rfl) (by kernel_rfl) (by kernel_rfl) (fun _ _ _ h => h) gno (Step.load Try.underlying3 rfl rfl (fun w h => h.cell 1 rfl rfl)) rfl (fun _ h => h.sel [0, 0, 0] rfl) (by kernel_rfl) ?_
          refine AV.take 11 #[true, true, true, true, true, true, false, true, true, true, true, true, false, false, false, false] rfl (by kernel_rfl) (by kernel_rfl) (by kernel_rfl) (fun _ _ _ h => h) gno (Step.fieldAddr rfl (F43_6 _ _)) rfl (fun _ h => h.sel [0, 0, 0] rfl) (by kernel_rfl) ?_
          refine AV.take 12 #[true, true, true, true, true, true, false, true, true, true, true, true, true, false, false, false] rfl (by kernel_rfl) (by kernel_rfl) (by kernel_rfl) (fun _ _ _ h => h) gno (Step.load Try.underlying4 rfl rfl (fun w h => h.cell 1 rfl rfl)) rfl (fun _ h => h.sel [0, 0, 0] rfl) (by kernel_rfl) ?_
          refine AV.all [6] (by kernel_rfl) (by decide) ?_
          refine ⟨⟨_, rfl, ?_⟩, trivial⟩
          · -- 6 comes up
            refine OV.call [3, 3, 3, 3] (F := [_, _, _, _, _, _, _, _]) Try.func12 B12 N12 rfl rfl (fun w h => enO_fn b s R.sk o.own o.wr) (fun _ hb => hb.elim) gno rfl (fun v L' hp => ?_)
            obtain ⟨e1, s2, rfl, rfl, h1⟩ := hp
            refine AV.next #[true, true, true, true, true, true, true, true, true, true, true, true, true, false, false, false] (by kernel_rfl) (fun _ h => h.sel [0, 0, 0] rfl) ?_
            refine AV.all [13] (by kernel_rfl) (by decide) ?_
            refine ⟨⟨_, rfl, ?_⟩, trivial⟩
            · -- 13 comes up
              refine OV.call [3, 3, 3, 3, 3] (F := [_, _, _, _, _, _, _]) Try.func38 B38 N38 rfl rfl (fun w h => enR_fn c r R.rk o.own o.wr) (fun _ hb => hb.elim) gno rfl (fun v L' hp => ?_)
              obtain ⟨e2, r2, rfl, rfl, h2⟩ := hp
              obtain ⟨rfl, R2⟩ := R.enb h1 h2
              refine AV.next #[true, true, true, true, true, true, true, true, true, true, true, true, true, true, false, false] (by kernel_rfl) (fun _ h => h.sel [0, 0, 0] rfl) ?_
              refine AV.take 14 #[true, true, true, true, true, true, true, true, true, true, true, true, true, true, true, false] rfl (by kernel_rfl) (by kernel_rfl) (by kernel_rfl) (fun _ _ _ h => h) gno (Step.eql rfl rfl) rfl (fun _ h => h.sel [0, 0, 0] rfl) (by kernel_rfl) ?_
              rw [decide_eq_true (Eq.refl _)]
              refine AV.take 15 #[true, true, true, true, true, true, true, true, true, true, true, true, true, true, true, true] rfl (by kernel_rfl) (by kernel_rfl) (by kernel_rfl) (fun _ _ _ h => h) gno (Step.assign rfl) rfl (fun _ h => h.sel [0, 0, 0] rfl) (by kernel_rfl) ?_
              refine AV.done (by kernel_rfl) ?_
              refine KV.then_n ?_
              refine KV.env [(4, _)] ⟨rfl, trivial⟩ ?_
              refine CV.ret ?_
              refine KV.block_ret ?_
              refine KV.then_ret ?_
              -- return at r10
              refine KV.sel [3, 3, 3, 3, 3, 3, 3, 3, 3] [_, _, _, _, _, _, _, _, _] rfl ?_
              first | exact KV.ret1 rfl rfl _ (fun _ h => h) ⟨rfl, _, _, R2, rfl⟩ | exact KV.ret1 rfl rfl _ (fun _ h => h) ⟨rfl, _, _, R.take, rfl⟩
        · -- False
          refine RV.op (OV.step gno (Step.assign rfl) rfl ?_)
          refine RV.nil ?_
          refine KV.then_n ?_
          refine KV.env [(2, _), (3, _), (5, _), (21, _), (57, _)] ⟨rfl, rfl, rfl, rfl, rfl, trivial⟩ ?_
          refine CV.cond_f rfl ?_
          -- region 9 law.go:72
          refine CV.region ?_
          refine RV.op (OV.split gno (Step.eql rfl rfl) rfl (fun cc5 => ?_) (fun cc5 => ?_))
          · -- True
            refine RV.op (OV.step gno (Step.assign rfl) rfl ?_)
            refine RV.nil ?_
            refine KV.then_n ?_
            refine KV.env [(2, _), (3, _), (5, _), (21, _), (57, _)] ⟨rfl, rfl, rfl, rfl, rfl, trivial⟩ ?_
            refine CV.cond_t rfl ?_
            refine CV.seq ?_
            -- region 10 law.go:73
            refine KV.sel [9, 9, 9, 0, 0, 0, 0, 0, 0, 0, 0, 0] [_, _, _, _, _, _, _, _, _, _, _, _] rfl ?_
            refine CV.any (Hp I w [Blk bp (.cells #[.pointer (some ⟨b, 0, none⟩), .pointer (some ⟨c, 0, none⟩)] 58 (0, 0)), Blk bo (.cells #[.int .i64 o.kind, .int .i64 o.space, .int .u64 o.addr, .int .u64 o.len, .int .i64 o.width, .int .i64 o.own, .bool o.wr, .int .u64 o.val, .bool o.raw] 43 (0, 0)), Blk bg (.cells #[.int .u64 o.addr, .int .u64 o.len] 32 (0, 0))]) (by kernel_rfl) (fun _ h => h.drew) 16 rfl ?_
            refine AV.take 0 #[true, false, false, false, false, false, false, false, false, false, false, false, false, false, false, false] rfl (by kernel_rfl) (by kernel_rfl) (by kernel_rfl) (fun _ _ _ h => h) gno (Step.fieldAddr rfl (F58_0 _ _)) rfl (fun _ h => h.sel [0, 0, 0] rfl) (by kernel_rfl) ?_
            refine AV.take 1 #[true, true, false, false, false, false, false, false, false, false, false, false, false, false, false, false] rfl (by kernel_rfl) (by kernel_rfl) (by kernel_rfl) (fun _ _ _ h => h) gno (Step.load Try.underlying24 rfl rfl (fun w h => h.cell 0 rfl rfl)) rfl (fun _ h => h.sel [0, 0, 0] rfl) (by kernel_rfl) ?_
            refine AV.take 2 #[true, true, true, false, false, false, false, false, false, false, false, false, false, false, false, false] rfl (by kernel_rfl) (by kernel_rfl) (by kernel_rfl) (fun _ _ _ h => h) gno (Step.fieldAddr rfl (F43_5 _ _)) rfl (fun _ h => h.sel [0, 0, 0] rfl) (by kernel_rfl) ?_
            refine AV.take 3 #[true, true, true, true, false, false, false, false, false, false, false, false, false, false, false, false] rfl (by kernel_rfl) (by kernel_rfl) (by kernel_rfl) (fun _ _ _ h => h) gno (Step.load Try.underlying3 rfl rfl (fun w h => h.cell 1 rfl rfl)) rfl (fun _ h => h.sel [0, 0, 0] rfl) (by kernel_rfl) ?_
            refine AV.take 4 #[true, true, true, true, true, false, false, false, false, false, false, false, false, false, false, false] rfl (by kernel_rfl) (by kernel_rfl) (by kernel_rfl) (fun _ _ _ h => h) gno (Step.fieldAddr rfl (F43_6 _ _)) rfl (fun _ h => h.sel [0, 0, 0] rfl) (by kernel_rfl) ?_
            refine AV.take 5 #[true, true, true, true, true, true, false, false, false, false, false, false, false, false, false, false] rfl (by kernel_rfl) (by kernel_rfl) (by kernel_rfl) (fun _ _ _ h => h) gno (Step.load Try.underlying4 rfl rfl (fun w h => h.cell 1 rfl rfl)) rfl (fun _ h => h.sel [0, 0, 0] rfl) (by kernel_rfl) ?_
            refine AV.take 7 #[true, true, true, true, true, true, false, true, false, false, false, false, false, false, false, false] rfl (by kernel_rfl) (by kernel_rfl) (by kernel_rfl) (fun _ _ _ h => h) gno (Step.fieldAddr rfl (F58_1 _ _)) rfl (fun _ h => h.sel [0, 0, 0] rfl) (by kernel_rfl) ?_
            refine AV.take 8 #[true, true, true, true, true, true, false, true, true, false, false, false, false, false, false, false] rfl (by kernel_rfl) (by kernel_rfl) (by kernel_rfl) (fun _ _ _ h => h) gno (Step.load Try.underlying50 rfl rfl (fun w h => h.cell 0 rfl rfl)) rfl (fun _ h => h.sel [0, 0, 0] rfl) (by kernel_rfl) ?_
            refine AV.take 9 #[true, true, true, true, true, true, false, true, true, true, false, false, false, false, false, false] rfl (by kernel_rfl) (by kernel_rfl) (by kernel_rfl) (fun _ _ _ h => h) gno (Step.fieldAddr rfl (F43_5 _ _)) rfl (fun _ h => h.sel [0, 0, 0] rfl) (by kernel_rfl) ?_
            refine AV.take 10 #[true, true, true, true, true, true, false, true, true, true, true, false, false, false, false, false] rfl (by kernel_rfl) (by kernel_rfl) (by kernel_rfl) (fun _ _ _ h => h) gno (Step.load Try.underlying3 rfl rfl (fun w h => h.cell 1 rfl rfl)) rfl (fun _ h => h.sel [0, 0, 0] rfl) (by kernel_rfl) ?_
            refine AV.take 11 #[true, true, true, true, true, true, false, true, true, true, true, true, false, false, false, false] rfl (by kernel_rfl) (by kernel_rfl) (by kernel_rfl) (fun _ _ _ h => h) gno (Step.fieldAddr rfl (F43_6 _ _)) rfl (fun _ h => h.sel [0, 0, 0] rfl) (by kernel_rfl) ?_
            refine AV.take 12 #[true, true, true, true, true, true, false, true, true, true, true, true, true, false, false, false] rfl (by kernel_rfl) (by kernel_rfl) (by kernel_rfl) (fun _ _ _ h => h) gno (Step.load Try.underlying4 rfl rfl (fun w h => h.cell 1 rfl rfl)) rfl (fun _ h => h.sel [0, 0, 0] rfl) (by kernel_rfl) ?_
            refine AV.all [6] (by kernel_rfl) (by decide) ?_
            refine ⟨⟨_, rfl, ?_⟩, trivial⟩
            · -- 6 comes up
              refine OV.call [3, 3, 3, 3] (F := [_, _, _, _, _, _, _, _]) Try.func12 B12 N12 rfl rfl (fun w h => enO_fn b s R.sk o.own o.wr) (fun _ hb => hb.elim) gno rfl (fun v L' hp => ?_)
              obtain ⟨e1, s2, rfl, rfl, h1⟩ := hp
              refine AV.next #[true, true, true, true, true, true, true, true, true, true, true, true, true, false, false, false] (by kernel_rfl) (fun _ h => h.sel [0, 0, 0] rfl) ?_
              refine AV.all [13] (by kernel_rfl) (by decide) ?_
              refine ⟨⟨_, rfl, ?_⟩, trivial⟩
              · -- 13 comes up
                refine OV.call [3, 3, 3, 3, 3] (F := [_, _, _, _, _, _, _]) Try.func38 B38 N38 rfl rfl (fun w h => enR_fn c r R.rk o.own o.wr) (fun _ hb => hb.elim) gno rfl (fun v L' hp => ?_)
                obtain ⟨e2, r2, rfl, rfl, h2⟩ := hp
                obtain ⟨rfl, R2⟩ := R.enb h1 h2
                refine AV.next #[true, true, true, true, true, true, true, true, true, true, true, true, true, true, false, false] (by kernel_rfl) (fun _ h => h.sel [0, 0, 0] rfl) ?_
                refine AV.take 14 #[true, true, true, true, true, true, true, true, true, true, true, true, true, true, true, false] rfl (by kernel_rfl) (by kernel_rfl) (by kernel_rfl) (fun _ _ _ h => h) gno (Step.eql rfl rfl) rfl (fun _ h => h.sel [0, 0, 0] rfl) (by kernel_rfl) ?_
                rw [decide_eq_true (Eq.refl _)]
                refine AV.take 15 #[true, true, true, true, true, true, true, true, true, true, true, true, true, true, true, true] rfl (by kernel_rfl) (by kernel_rfl) (by kernel_rfl) (fun _ _ _ h => h) gno (Step.assign rfl) rfl (fun _ h => h.sel [0, 0, 0] rfl) (by kernel_rfl) ?_
                refine AV.done (by kernel_rfl) ?_
                refine KV.then_n ?_
                refine KV.env [(4, _)] ⟨rfl, trivial⟩ ?_
                refine CV.ret ?_
                refine KV.block_ret ?_
                refine KV.then_ret ?_
                -- return at r10
                refine KV.sel [3, 3, 3, 3, 3, 3, 3, 3, 3] [_, _, _, _, _, _, _, _, _] rfl ?_
                first | exact KV.ret1 rfl rfl _ (fun _ h => h) ⟨rfl, _, _, R2, rfl⟩ | exact KV.ret1 rfl rfl _ (fun _ h => h) ⟨rfl, _, _, R.take, rfl⟩
          · -- False
            refine RV.op (OV.step gno (Step.assign rfl) rfl ?_)
            refine RV.nil ?_
            refine KV.then_n ?_
            refine KV.env [(2, _), (3, _), (5, _), (21, _), (57, _)] ⟨rfl, rfl, rfl, rfl, rfl, trivial⟩ ?_
            refine CV.cond_f rfl ?_
            refine CV.seq ?_
            -- region 11 law.go:74
            refine CV.region ?_
            refine RV.op (OV.split gno (Step.eql rfl rfl) rfl (fun cc6 => ?_) (fun cc6 => ?_))
            · -- True
              refine RV.op (OV.step gno (Step.assign rfl) rfl ?_)
              refine RV.nil ?_
              refine KV.then_n ?_
              refine KV.env [(2, _), (3, _), (5, _), (21, _), (75, _)] ⟨rfl, rfl, rfl, rfl, rfl, trivial⟩ ?_
              refine CV.cond_t rfl ?_
              refine CV.seq ?_
              -- region 12 law.go:75
              refine KV.sel [9, 9, 9, 0, 0, 0, 0, 0, 0, 0, 0, 0] [_, _, _, _, _, _, _, _, _, _, _, _] rfl ?_
              refine CV.any (Hp I w [Blk bp (.cells #[.pointer (some ⟨b, 0, none⟩), .pointer (some ⟨c, 0, none⟩)] 58 (0, 0)), Blk bo (.cells #[.int .i64 o.kind, .int .i64 o.space, .int .u64 o.addr, .int .u64 o.len, .int .i64 o.width, .int .i64 o.own, .bool o.wr, .int .u64 o.val, .bool o.raw] 43 (0, 0)), Blk bg (.cells #[.int .u64 o.addr, .int .u64 o.len] 32 (0, 0))]) (by kernel_rfl) (fun _ h => h.drew) 18 rfl ?_
              refine AV.take 0 #[true, false, false, false, false, false, false, false, false, false, false, false, false, false, false, false, false, false] rfl (by kernel_rfl) (by kernel_rfl) (by kernel_rfl) (fun _ _ _ h => h) gno (Step.fieldAddr rfl (F58_0 _ _)) rfl (fun _ h => h.sel [0, 0, 0] rfl) (by kernel_rfl) ?_
              refine AV.take 1 #[true, true, false, false, false, false, false, false, false, false, false, false, false, false, false, false, false, false] rfl (by kernel_rfl) (by kernel_rfl) (by kernel_rfl) (fun _ _ _ h => h) gno (Step.load Try.underlying24 rfl rfl (fun w h => h.cell 0 rfl rfl)) rfl (fun _ h => h.sel [0, 0, 0] rfl) (by kernel_rfl) ?_
              refine AV.take 2 #[true, true, true, false, false, false, false, false, false, false, false, false, false, false, false, false, false, false] rfl (by kernel_rfl) (by kernel_rfl) (by kernel_rfl) (fun _ _ _ h => h) gno (Step.fieldAddr rfl (F43_1 _ _)) rfl (fun _ h => h.sel [0, 0, 0] rfl) (by kernel_rfl) ?_
              refine AV.take 3 #[true, true, true, true, false, false, false, false, false, false, false, false, false, false, false, false, false, false] rfl (by kernel_rfl) (by kernel_rfl) (by kernel_rfl) (fun _ _ _ h => h) gno (Step.load Try.underlying3 rfl rfl (fun w h => h.cell 1 rfl rfl)) rfl (fun _ h => h.sel [0, 0, 0] rfl) (by kernel_rfl) ?_
              refine AV.take 4 #[true, true, true, true, true, false, false, false, false, false, false, false, false, false, false, false, false, false] rfl (by kernel_rfl) (by kernel_rfl) (by kernel_rfl) (fun _ _ _ h => h) gno (Step.loadN _ Try.underlying32 rfl I32 rfl rfl (fun w h => h.cells 2 rfl)) rfl (fun _ h => h.sel [0, 0, 0] rfl) (by kernel_rfl) ?_
              refine AV.take 5 #[true, true, true, true, true, true, false, false, false, false, false, false, false, false, false, false, false, false] rfl (by kernel_rfl) (by kernel_rfl) (by kernel_rfl) (fun _ _ _ h => h) gno (Step.fieldAddr rfl (F43_4 _ _)) rfl (fun _ h => h.sel [0, 0, 0] rfl) (by kernel_rfl) ?_
              refine AV.take 6 #[true, true, true, true, true, true, true, false, false, false, false, false, false, false, false, false, false, false] rfl (by kernel_rfl) (by kernel_rfl) (by kernel_rfl) (fun _ _ _ h => h) gno (Step.load Try.underlying3 rfl rfl (fun w h => h.cell 1 rfl rfl)) rfl (fun _ h => h.sel [0, 0, 0] rfl) (by kernel_rfl) ?_
              refine AV.take 8 #[true, true, true, true, true, true, true, false, true, false, false, false, false, false, false, false, false, false] rfl (by kernel_rfl) (by kernel_rfl) (by kernel_rfl) (fun _ _ _ h => h) gno (Step.fieldAddr rfl (F58_1 _ _)) rfl (fun _ h => h.sel [0, 0, 0] rfl) (by kernel_rfl) ?_
              refine AV.take 9 #[true, true, true, true, true, true, true, false, true, true, false, false, false, false, false, false, false, false] rfl (by kernel_rfl) (by kernel_rfl) (by kernel_rfl) (fun _ _ _ h => h) gno (Step.load Try.underlying50 rfl rfl (fun w h => h.cell 0 rfl rfl)) rfl (fun _ h => h.sel [0, 0, 0] rfl) (by kernel_rfl) ?_
              refine AV.take 10 #[true, true, true, true, true, true, true, false, true, true, true, false, false, false, false, false, false, false] rfl (by kernel_rfl) (by kernel_rfl) (by kernel_rfl) (fun _ _ _ h => h) gno (Step.fieldAddr rfl (F43_1 _ _)) rfl (fun _ h => h.sel [0, 0, 0] rfl) (by kernel_rfl) ?_
              refine AV.take 11 #[true, true, true, true, true, true, true, false, true, true, true, true, false, false, false, false, false, false] rfl (by kernel_rfl) (by kernel_rfl) (by kernel_rfl) (fun _ _ _ h => h) gno (Step.load Try.underlying3 rfl rfl (fun w h => h.cell 1 rfl rfl)) rfl (fun _ h => h.sel [0, 0, 0] rfl) (by kernel_rfl) ?_
              refine AV.take 12 #[true, true, true, true, true, true, true, false, true, true, true, true, true, false, false, false, false, false] rfl (by kernel_rfl) (by kernel_rfl) (by kernel_rfl) (fun _ _ _ h => h) gno (Step.loadN _ Try.underlying32 rfl I32 rfl rfl (fun w h => h.cells 2 rfl)) rfl (fun _ h => h.sel [0, 0, 0] rfl) (by kernel_rfl) ?_
              refine AV.take 13 #[true, true, true, true, true, true, true, false, true, true, true, true, true, true, false, false, false, false] rfl (by kernel_rfl) (by kernel_rfl) (by kernel_rfl) (fun _ _ _ h => h) gno (Step.fieldAddr rfl (F43_4 _ _)) rfl (fun _ h => h.sel [0, 0, 0] rfl) (by kernel_rfl) ?_
              refine AV.take 14 #[true, true, true, true, true, true, true, false, true, true, true, true, true, true, true, false, false, false] rfl (by kernel_rfl) (by kernel_rfl) (by kernel_rfl) (fun _ _ _ h => h) gno (Step.load Try.underlying3 rfl rfl (fun w h => h.cell 1 rfl rfl)) rfl (fun _ h => h.sel [0, 0, 0] rfl) (by kernel_rfl) ?_
              refine AV.all [7] (by kernel_rfl) (by decide) ?_
              refine ⟨⟨_, rfl, ?_⟩, trivial⟩
              · -- 7 comes up
                refine OV.call [3, 3, 3, 3] (F := [_, _, _, _, _, _, _, _]) Try.func16 B16 N16 rfl rfl (fun w h => plO_fn b s R.sk o.space o.addr o.len o.width ho.1) (fun _ hb => hb.elim) gno rfl (fun v L' hp => ?_)
                obtain ⟨e1, s2, rfl, rfl, h1⟩ := hp
                refine AV.next #[true, true, true, true, true, true, true, true, true, true, true, true, true, true, true, false, false, false] (by kernel_rfl) (fun _ h => h.sel [0, 0, 0] rfl) ?_
                refine AV.all [15] (by kernel_rfl) (by decide) ?_
                refine ⟨⟨_, rfl, ?_⟩, trivial⟩
                · -- 15 comes up
                  refine OV.call [3, 3, 3, 3, 3] (F := [_, _, _, _, _, _, _]) Try.func39 B39 N39 rfl rfl (fun w h => plR_fn c r R.rk o.space o.addr o.len o.width ho.1 hrf) (fun _ hb => hb.elim) gno rfl (fun v L' hp => ?_)
                  obtain ⟨e2, r2, rfl, rfl, h2⟩ := hp
                  obtain ⟨rfl, R2⟩ := R.plan hn ho.1 h1 h2
                  refine AV.next #[true, true, true, true, true, true, true, true, true, true, true, true, true, true, true, true, false, false] (by kernel_rfl) (fun _ h => h.sel [0, 0, 0] rfl) ?_
                  refine AV.take 16 #[true, true, true, true, true, true, true, true, true, true, true, true, true, true, true, true, true, false] rfl (by kernel_rfl) (by kernel_rfl) (by kernel_rfl) (fun _ _ _ h => h) gno (Step.eql rfl rfl) rfl (fun _ h => h.sel [0, 0, 0] rfl) (by kernel_rfl) ?_
                  rw [decide_eq_true (Eq.refl _)]
                  refine AV.take 17 #[true, true, true, true, true, true, true, true, true, true, true, true, true, true, true, true, true, true] rfl (by kernel_rfl) (by kernel_rfl) (by kernel_rfl) (fun _ _ _ h => h) gno (Step.assign rfl) rfl (fun _ h => h.sel [0, 0, 0] rfl) (by kernel_rfl) ?_
                  refine AV.done (by kernel_rfl) ?_
                  refine KV.then_n ?_
                  refine KV.env [(4, _)] ⟨rfl, trivial⟩ ?_
                  refine CV.ret ?_
                  refine KV.block_ret ?_
                  refine KV.then_ret ?_
                  -- return at r12
                  refine KV.sel [3, 3, 3, 3, 3, 3, 3, 3, 3] [_, _, _, _, _, _, _, _, _] rfl ?_
                  first | exact KV.ret1 rfl rfl _ (fun _ h => h) ⟨rfl, _, _, R2, rfl⟩ | exact KV.ret1 rfl rfl _ (fun _ h => h) ⟨rfl, _, _, R.take, rfl⟩
            · -- False
              refine RV.op (OV.step gno (Step.assign rfl) rfl ?_)
              refine RV.nil ?_
              refine KV.then_n ?_
              refine KV.env [(2, _), (3, _), (5, _), (21, _), (75, _)] ⟨rfl, rfl, rfl, rfl, rfl, trivial⟩ ?_
              refine CV.cond_f rfl ?_
              refine CV.seq ?_
              -- region 13 law.go:76
              refine CV.region ?_
              refine RV.op (OV.split gno (Step.eql rfl rfl) rfl (fun cc7 => ?_) (fun cc7 => ?_))
              · -- True
                refine RV.op (OV.step gno (Step.assign rfl) rfl ?_)
                refine RV.nil ?_
                refine KV.then_n ?_
                refine KV.env [(2, _), (3, _), (21, _), (94, _)] ⟨rfl, rfl, rfl, rfl, trivial⟩ ?_
                refine CV.cond_t rfl ?_
                refine CV.seq ?_
                -- region 14 law.go:77
                refine KV.sel [9, 9, 9, 0, 0, 0, 0, 0, 0, 0, 0, 0] [_, _, _, _, _, _, _, _, _, _, _, _] rfl ?_
                refine CV.any (Hp I w [Blk bp (.cells #[.pointer (some ⟨b, 0, none⟩), .pointer (some ⟨c, 0, none⟩)] 58 (0, 0)), Blk bo (.cells #[.int .i64 o.kind, .int .i64 o.space, .int .u64 o.addr, .int .u64 o.len, .int .i64 o.width, .int .i64 o.own, .bool o.wr, .int .u64 o.val, .bool o.raw] 43 (0, 0)), Blk bg (.cells #[.int .u64 o.addr, .int .u64 o.len] 32 (0, 0))]) (by kernel_rfl) (fun _ h => h.drew) 8 rfl ?_
                refine AV.take 0 #[true, false, false, false, false, false, false, false] rfl (by kernel_rfl) (by kernel_rfl) (by kernel_rfl) (fun _ _ _ h => h) gno (Step.fieldAddr rfl (F58_0 _ _)) rfl (fun _ h => h.sel [0, 0, 0] rfl) (by kernel_rfl) ?_
                refine AV.take 1 #[true, true, false, false, false, false, false, false] rfl (by kernel_rfl) (by kernel_rfl) (by kernel_rfl) (fun _ _ _ h => h) gno (Step.load Try.underlying24 rfl rfl (fun w h => h.cell 0 rfl rfl)) rfl (fun _ h => h.sel [0, 0, 0] rfl) (by kernel_rfl) ?_
                refine AV.take 3 #[true, true, false, true, false, false, false, false] rfl (by kernel_rfl) (by kernel_rfl) (by kernel_rfl) (fun _ _ _ h => h) gno (Step.fieldAddr rfl (F58_1 _ _)) rfl (fun _ h => h.sel [0, 0, 0] rfl) (by kernel_rfl) ?_
                refine AV.take 4 #[true, true, false, true, true, false, false, false] rfl (by kernel_rfl) (by kernel_rfl) (by kernel_rfl) (fun _ _ _ h => h) gno (Step.load Try.underlying50 rfl rfl (fun w h => h.cell 0 rfl rfl)) rfl (fun _ h => h.sel [0, 0, 0] rfl) (by kernel_rfl) ?_
                refine AV.all [2] (by kernel_rfl) (by decide) ?_
                refine ⟨⟨_, rfl, ?_⟩, trivial⟩
                · -- 2 comes up
                  refine OV.call [3, 3, 3, 3] (F := [_, _, _, _, _, _, _, _]) Try.func21 B21 N21 rfl rfl (fun w h => takeTrace_fn b s R.sk) (fun _ hb => hb.elim) gno rfl (fun v L' hp => ?_)
                  obtain ⟨rfl, rfl⟩ := hp
                  refine AV.next #[true, true, true, true, true, false, false, false] (by kernel_rfl) (fun _ h => h.sel [0, 0, 0] rfl) ?_
                  refine AV.all [5] (by kernel_rfl) (by decide) ?_
                  refine ⟨⟨_, rfl, ?_⟩, trivial⟩
                  · -- 5 comes up
                    refine OV.call [3, 3, 3, 3, 3] (F := [_, _, _, _, _, _, _, _]) Try.func22 B22 N22 rfl rfl (fun w h => rtake_fn c r R.rk) (fun _ hb => hb.elim) gno rfl (fun v L' hp => ?_)
                    obtain ⟨rfl, rfl⟩ := hp
                    rw [← R.tr]
                    refine AV.next #[true, true, true, true, true, true, false, false] (by kernel_rfl) (fun _ h => h.sel [0, 0, 0] rfl) ?_
                    refine AV.all [6] (by kernel_rfl) (by decide) ?_
                    refine ⟨⟨_, rfl, ?_⟩, trivial⟩
                    · -- 6 comes up
                      refine OV.call [] (F := [_, _, _, _, _, _, _, _, _, _, _, _, _, _]) Try.func20 B20 N20 rfl rfl (fun w h => equalT_fn (h.os 7 rfl) (h.os 13 rfl) rfl rfl (by have := R.sk.tr; omega)) (fun _ hb => hb.elim) gno rfl (fun v L' hp => ?_)
                      obtain ⟨rfl, rfl⟩ := hp
                      simp only [List.append_nil]
                      refine AV.next #[true, true, true, true, true, true, true, false] (by kernel_rfl) (fun _ h => h.sel [0, 0, 0] rfl) ?_
                      refine AV.take 7 #[true, true, true, true, true, true, true, true] rfl (by kernel_rfl) (by kernel_rfl) (by kernel_rfl) (fun _ _ _ h => h) gno (Step.assign rfl) rfl (fun _ h => h.sel [0, 0, 0] rfl) (by kernel_rfl) ?_
                      refine AV.done (by kernel_rfl) ?_
                      refine KV.then_n ?_
                      refine KV.env [(4, _)] ⟨rfl, trivial⟩ ?_
                      refine CV.ret ?_
                      refine KV.block_ret ?_
                      refine KV.then_ret ?_
                      -- return at r14
                      refine KV.sel [3, 3, 3, 3, 4, 4, 4, 4, 4] [_, _, _, _, _, _, _, _, _] rfl ?_
                      first | exact KV.ret1 rfl rfl _ (fun _ h => h) ⟨rfl, _, _, R2, rfl⟩ | exact KV.ret1 rfl rfl _ (fun _ h => h) ⟨rfl, _, _, R.take, rfl⟩
              · -- False
                refine RV.op (OV.step gno (Step.assign rfl) rfl ?_)
                refine RV.nil ?_
                refine KV.then_n ?_
                refine KV.env [(2, _), (3, _), (21, _), (94, _)] ⟨rfl, rfl, rfl, rfl, trivial⟩ ?_
                refine CV.cond_f rfl ?_
                refine CV.seq ?_
                -- region 15 law.go:78
                refine CV.region ?_
                refine RV.op (OV.split gno (Step.eql rfl rfl) rfl (fun cc8 => ?_) (fun cc8 => ?_))
                · -- True
                  refine RV.op (OV.step gno (Step.assign rfl) rfl ?_)
                  refine RV.nil ?_
                  refine KV.then_n ?_
                  refine KV.env [(2, _), (3, _), (103, _)] ⟨rfl, rfl, rfl, trivial⟩ ?_
                  refine CV.cond_t rfl ?_
                  refine CV.seq ?_
                  -- region 16 law.go:79
                  refine KV.sel [9, 9, 9, 0, 0, 0, 0, 0, 0, 0, 0, 0] [_, _, _, _, _, _, _, _, _, _, _, _] rfl ?_
                  refine CV.any (Hp I w [Blk bp (.cells #[.pointer (some ⟨b, 0, none⟩), .pointer (some ⟨c, 0, none⟩)] 58 (0, 0)), Blk bo (.cells #[.int .i64 o.kind, .int .i64 o.space, .int .u64 o.addr, .int .u64 o.len, .int .i64 o.width, .int .i64 o.own, .bool o.wr, .int .u64 o.val, .bool o.raw] 43 (0, 0)), Blk bg (.cells #[.int .u64 o.addr, .int .u64 o.len] 32 (0, 0))]) (by kernel_rfl) (fun _ h => h.drew) 22 rfl ?_
                  refine AV.take 0 #[true, false, false, false, false, false, false, false, false, false, false, false, false, false, false, false, false, false, false, false, false, false] rfl (by kernel_rfl) (by kernel_rfl) (by kernel_rfl) (fun _ _ _ h => h) gno (Step.fieldAddr rfl (F58_0 _ _)) rfl (fun _ h => h.sel [0, 0, 0] rfl) (by kernel_rfl) ?_
                  refine AV.take 1 #[true, true, false, false, false, false, false, false, false, false, false, false, false, false, false, false, false, false, false, false, false, false] rfl (by kernel_rfl) (by kernel_rfl) (by kernel_rfl) (fun _ _ _ h => h) gno (Step.load Try.underlying24 rfl rfl (fun w h => h.cell 0 rfl rfl)) rfl (fun _ h => h.sel [0, 0, 0] rfl) (by kernel_rfl) ?_
                  refine AV.take 2 #[true, true, true, false, false, false, false, false, false, false, false, false, false, false, false, false, false, false, false, false, false, false] rfl (by kernel_rfl) (by kernel_rfl) (by kernel_rfl) (fun _ _ _ h => h) gno (Step.fieldAddr rfl (F43_1 _ _)) rfl (fun _ h => h.sel [0, 0, 0] rfl) (by kernel_rfl) ?_
                  refine AV.take 3 #[true, true, true, true, false, false, false, false, false, false, false, false, false, false, false, false, false, false, false, false, false, false] rfl (by kernel_rfl) (by kernel_rfl) (by kernel_rfl) (fun _ _ _ h => h) gno (Step.load Try.underlying3 rfl rfl (fun w h => h.cell 1 rfl rfl)) rfl (fun _ h => h.sel [0, 0, 0] rfl) (by kernel_rfl) ?_
                  refine AV.take 4 #[true, true, true, true, true, false, false, false, false, false, false, false, false, false, false, false, false, false, false, false, false, false] rfl (by kernel_rfl) (by kernel_rfl) (by kernel_rfl) (fun _ _ _ h => h) gno (Step.fieldAddr rfl (F43_2 _ _)) rfl (fun _ h => h.sel [0, 0, 0] rfl) (by kernel_rfl) ?_
                  refine AV.take 5 #[true, true, true, true, true, true, false, false, false, false, false, false, false, false, false, false, false, false, false, false, false, false] rfl (by kernel_rfl) (by kernel_rfl) (by kernel_rfl) (fun _ _ _ h => h) gno (Step.load Try.underlying22 rfl rfl (fun w h => h.cell 1 rfl rfl)) rfl (fun _ h => h.sel [0, 0, 0] rfl) (by kernel_rfl) ?_
                  refine AV.take 6 #[true, true, true, true, true, true, true, false, false, false, false, false, false, false, false, false, false, false, false, false, false, false] rfl (by kernel_rfl) (by kernel_rfl) (by kernel_rfl) (fun _ _ _ h => h) gno (Step.fieldAddr rfl (F43_7 _ _)) rfl (fun _ h => h.sel [0, 0, 0] rfl) (by kernel_rfl) ?_
                  refine AV.take 7 #[true, true, true, true, true, true, true, true, false, false, false, false, false, false, false, false, false, false, false, false, false, false] rfl (by kernel_rfl) (by kernel_rfl) (by kernel_rfl) (fun _ _ _ h => h) gno (Step.load Try.underlying22 rfl rfl (fun w h => h.cell 1 rfl rfl)) rfl (fun _ h => h.sel [0, 0, 0] rfl) (by kernel_rfl) ?_
                  refine AV.take 8 #[true, true, true, true, true, true, true, true, true, false, false, false, false, false, false, false, false, false, false, false, false, false] rfl (by kernel_rfl) (by kernel_rfl) (by kernel_rfl) (fun _ _ _ h => h) gno (Step.convI Try.underlying22 Try.underlying5 rfl rfl) rfl (fun _ h => h.sel [0, 0, 0] rfl) (by kernel_rfl) ?_
                  refine AV.take 10 #[true, true, true, true, true, true, true, true, true, false, true, false, false, false, false, false, false, false, false, false, false, false] rfl (by kernel_rfl) (by kernel_rfl) (by kernel_rfl) (fun _ _ _ h => h) gno (Step.fieldAddr rfl (F58_1 _ _)) rfl (fun _ h => h.sel [0, 0, 0] rfl) (by kernel_rfl) ?_
                  refine AV.take 11 #[true, true, true, true, true, true, true, true, true, false, true, true, false, false, false, false, false, false, false, false, false, false] rfl (by kernel_rfl) (by kernel_rfl) (by kernel_rfl) (fun _ _ _ h => h) gno (Step.load Try.underlying50 rfl rfl (fun w h => h.cell 0 rfl rfl)) rfl (fun _ h => h.sel [0, 0, 0] rfl) (by kernel_rfl) ?_
                  refine AV.take 12 #[true, true, true, true, true, true, true, true, true, false, true, true, true, false, false, false, false, false, false, false, false, false] rfl (by kernel_rfl) (by kernel_rfl) (by kernel_rfl) (fun _ _ _ h => h) gno (Step.fieldAddr rfl (F43_1 _ _)) rfl (fun _ h => h.sel [0, 0, 0] rfl) (by kernel_rfl) ?_
                  refine AV.take 13 #[true, true, true, true, true, true, true, true, true, false, true, true, true, true, false, false, false, false, false, false, false, false] rfl (by kernel_rfl) (by kernel_rfl) (by kernel_rfl) (fun _ _ _ h => h) gno (Step.load Try.underlying3 rfl rfl (fun w h => h.cell 1 rfl rfl)) rfl (fun _ h => h.sel [0, 0, 0] rfl) (by kernel_rfl) ?_
                  refine AV.take 14 #[true, true, true, true, true, true, true, true, true, false, true, true, true, true, true, false, false, false, false, false, false, false] rfl (by kernel_rfl) (by kernel_rfl) (by kernel_rfl) (fun _ _ _ h => h) gno (Step.fieldAddr rfl (F43_2 _ _)) rfl (fun _ h => h.sel [0, 0, 0] rfl) (by kernel_rfl) ?_
                  refine AV.take 15 #[true, true, true, true, true, true, true, true, true, false, true, true, true, true, true, true, false, false, false, false, false, false] rfl (by kernel_rfl) (by kernel_rfl) (by kernel_rfl) (fun _ _ _ h => h) gno (Step.load Try.underlying22 rfl rfl (fun w h => h.cell 1 rfl rfl)) rfl (fun _ h => h.sel [0, 0, 0] rfl) (by kernel_rfl) ?_
                  refine AV.take 16 #[true, true, true, true, true, true, true, true, true, false, true, true, true, true, true, true, true, false, false, false, false, false] rfl (by kernel_rfl) (by kernel_rfl) (by kernel_rfl) (fun _ _ _ h => h) gno (Step.fieldAddr rfl (F43_7 _ _)) rfl (fun _ h => h.sel [0, 0, 0] rfl) (by kernel_rfl) ?_
                  refine AV.take 17 #[true, true, true, true, true, true, true, true, true, false, true, true, true, true, true, true, true, true, false, false, false, false] rfl (by kernel_rfl) (by kernel_rfl) (by kernel_rfl) (fun _ _ _ h => h) gno (Step.load Try.underlying22 rfl rfl (fun w h => h.cell 1 rfl rfl)) rfl (fun _ h => h.sel [0, 0, 0] rfl) (by kernel_rfl) ?_
                  refine AV.take 18 #[true, true, true, true, true, true, true, true, true, false, true, true, true, true, true, true, true, true, true, false, false, false] rfl (by kernel_rfl) (by kernel_rfl) (by kernel_rfl) (fun _ _ _ h => h) gno (Step.convI Try.underlying22 Try.underlying5 rfl rfl) rfl (fun _ h => h.sel [0, 0, 0] rfl) (by kernel_rfl) ?_
                  refine AV.all [9] (by kernel_rfl) (by decide) ?_
                  refine ⟨⟨_, rfl, ?_⟩, trivial⟩
                  · -- 9 comes up
                    refine OV.call [3, 3, 3, 3] (F := [_, _, _, _, _, _, _, _]) Try.func40 B40 N40 rfl rfl (fun w h => pkO_fn b s R.sk o.space o.addr (IntKind.u8.wrap o.val) ho.1 (show 0 ≤ IntKind.u8.wrap o.val ∧ IntKind.u8.wrap o.val ≤ 255 by rw [IntKind.wrap_u8]; omega)) (fun _ hb => hb.elim) gno rfl (fun v L' hp => ?_)
                    obtain ⟨e1, s2, rfl, rfl, h1⟩ := hp
                    refine AV.next #[true, true, true, true, true, true, true, true, true, true, true, true, true, true, true, true, true, true, true, false, false, false] (by kernel_rfl) (fun _ h => h.sel [0, 0, 0] rfl) ?_
                    refine AV.all [19] (by kernel_rfl) (by decide) ?_
                    refine ⟨⟨_, rfl, ?_⟩, trivial⟩
                    · -- 19 comes up
                      refine OV.call [3, 3, 3, 3, 3] (F := [_, _, _, _, _, _, _]) Try.func41 B41 N41 rfl rfl (fun w h => pkR_fn c r R.rk o.space o.addr (IntKind.u8.wrap o.val) ho.1 (show 0 ≤ IntKind.u8.wrap o.val ∧ IntKind.u8.wrap o.val ≤ 255 by rw [IntKind.wrap_u8]; omega)) (fun _ hb => hb.elim) gno rfl (fun v L' hp => ?_)
                      obtain ⟨e2, r2, rfl, rfl, h2⟩ := hp
                      obtain ⟨rfl, R2⟩ := R.poke (show 0 ≤ IntKind.u8.wrap o.val ∧ IntKind.u8.wrap o.val ≤ 255 by rw [IntKind.wrap_u8]; omega) h1 h2
                      refine AV.next #[true, true, true, true, true, true, true, true, true, true, true, true, true, true, true, true, true, true, true, true, false, false] (by kernel_rfl) (fun _ h => h.sel [0, 0, 0] rfl) ?_
                      refine AV.take 20 #[true, true, true, true, true, true, true, true, true, true, true, true, true, true, true, true, true, true, true, true, true, false] rfl (by kernel_rfl) (by kernel_rfl) (by kernel_rfl) (fun _ _ _ h => h) gno (Step.eqlBool Try.underlying4 rfl rfl) rfl (fun _ h => h.sel [0, 0, 0] rfl) (by kernel_rfl) ?_
                      rw [decide_eq_true (Eq.refl _)]
                      refine AV.take 21 #[true, true, true, true, true, true, true, true, true, true, true, true, true, true, true, true, true, true, true, true, true, true] rfl (by kernel_rfl) (by kernel_rfl) (by kernel_rfl) (fun _ _ _ h => h) gno (Step.assign rfl) rfl (fun _ h => h.sel [0, 0, 0] rfl) (by kernel_rfl) ?_
                      refine AV.done (by kernel_rfl) ?_
                      refine KV.then_n ?_
                      refine KV.env [(4, _)] ⟨rfl, trivial⟩ ?_
                      refine CV.ret ?_
                      refine KV.block_ret ?_
                      refine KV.then_ret ?_
                      -- return at r16
                      refine KV.sel [3, 3, 3, 3, 3, 3, 3, 3, 3] [_, _, _, _, _, _, _, _, _] rfl ?_
                      first | exact KV.ret1 rfl rfl _ (fun _ h => h) ⟨rfl, _, _, R2, rfl⟩ | exact KV.ret1 rfl rfl _ (fun _ h => h) ⟨rfl, _, _, R.take, rfl⟩
                · -- False
                  refine RV.op (OV.step gno (Step.assign rfl) rfl ?_)
                  refine RV.nil ?_
                  refine KV.then_n ?_
                  refine KV.env [(2, _), (3, _), (103, _)] ⟨rfl, rfl, rfl, trivial⟩ ?_
                  refine CV.cond_f rfl ?_
                  refine CV.skip ?_
                  refine KV.block_n ?_
                  refine KV.then_n ?_
                  refine KV.env [(2, _), (3, _)] ⟨rfl, rfl, trivial⟩ ?_
                  refine CV.seq ?_
                  -- region 17 law.go:81
                  refine CV.region ?_
                  refine RV.op (OV.step gno (Step.fieldAddr rfl (F43_1 _ _)) rfl ?_)
                  refine RV.op (OV.step gno (Step.load Try.underlying3 rfl rfl (fun w h => h.cell 10 rfl rfl)) rfl ?_)
                  refine RV.op (OV.step gno (Step.fieldAddr rfl (F43_2 _ _)) rfl ?_)
                  refine RV.op (OV.step gno (Step.load Try.underlying22 rfl rfl (fun w h => h.cell 10 rfl rfl)) rfl ?_)
                  refine RV.op (OV.step gno (Step.fieldAddr rfl (F43_4 _ _)) rfl ?_)
                  refine RV.op (OV.step gno (Step.load Try.underlying3 rfl rfl (fun w h => h.cell 10 rfl rfl)) rfl ?_)
                  refine RV.op (OV.step gno (Step.fieldAddr rfl (F43_6 _ _)) rfl ?_)
                  refine RV.op (OV.step gno (Step.load Try.underlying4 rfl rfl (fun w h => h.cell 10 rfl rfl)) rfl ?_)
                  refine RV.op (OV.step gno (Step.fieldAddr rfl (F43_7 _ _)) rfl ?_)
                  refine RV.op (OV.step gno (Step.load Try.underlying22 rfl rfl (fun w h => h.cell 10 rfl rfl)) rfl ?_)
                  refine RV.op (OV.step gno (Step.build rfl (Bd37_0_1_2_3_4 _ _ _ _ _)) rfl ?_)
                  refine RV.op (OV.alloc #[.int .i64 0, .int .u64 0, .int .i64 0, .bool false, .int .u64 0] I37 rfl gno rfl (fun bq => ?_))
                  refine RV.op (OV.store 12 [_, _, _, _, _] #[_, _, _, _, _] I37 rfl rfl rfl rfl rfl (Nat.le_of_ble_eq_true rfl) (by simp [Value.oneCell']) rfl gno ?_)
                  refine RV.nil ?_
                  refine KV.then_n ?_
                  refine KV.env [(2, _), (3, _), (6, _)] ⟨rfl, rfl, rfl, trivial⟩ ?_
                  refine CV.seq ?_
                  -- region 18 law.go:82
                  refine CV.region ?_
                  refine RV.op (OV.step gno (Step.fieldAddr rfl (F58_0 _ _)) rfl ?_)
                  refine RV.op (OV.step gno (Step.load Try.underlying24 rfl rfl (fun w h => h.cell 9 rfl rfl)) rfl ?_)
                  refine RV.op (OV.step gno (Step.loadN _ Try.underlying37 rfl I37 rfl rfl (fun w h => h.cells 12 rfl)) rfl ?_)
                  refine RV.op (OV.call [0, 0, 0, 0] (F := [_, _, _, _, _, _, _, _, _]) Try.func13 B13 N13 rfl rfl (fun w h => acO_fn b s R.sk (⟨o.space, o.addr, o.width, o.wr, o.val⟩ : Acs) ho.1 ho.2.2) (fun _ hb => hb.elim) gno rfl (fun v L' hp => ?_))
                  obtain ⟨v1, e1, s2, rfl, rfl, h1⟩ := hp
                  refine RV.op (OV.step gno (Step.move rfl) rfl ?_)
                  refine RV.op (OV.step gno (Step.extract0 rfl rfl) rfl ?_)
                  refine RV.op (OV.step gno (Step.extract0 rfl rfl) rfl ?_)
                  refine RV.op (OV.step gno (Step.assign rfl) rfl ?_)
                  refine RV.op (OV.step gno (Step.assign rfl) rfl ?_)
                  refine RV.nil ?_
                  refine KV.then_n ?_
                  refine KV.env [(2, _), (3, _), (6, _), (7, _), (8, _)] ⟨rfl, rfl, rfl, rfl, rfl, trivial⟩ ?_
                  refine CV.seq ?_
                  -- region 19 law.go:83
                  refine CV.region ?_
                  refine RV.op (OV.step gno (Step.fieldAddr rfl (F58_1 _ _)) rfl ?_)
                  refine RV.op (OV.step gno (Step.load Try.underlying50 rfl rfl (fun w h => h.cell 5 rfl rfl)) rfl ?_)
                  refine RV.op (OV.step gno (Step.loadN _ Try.underlying37 rfl I37 rfl rfl (fun w h => h.cells 8 rfl)) rfl ?_)
                  refine RV.op (OV.call [0, 0, 0, 0, 0] (F := [_, _, _, _, _, _, _, _]) Try.func42 B42 N42 rfl rfl (fun w h => acR_fn c r R.rk (⟨o.space, o.addr, o.width, o.wr, o.val⟩ : Acs) ho.1 ho.2.2) (fun _ hb => hb.elim) gno rfl (fun v L' hp => ?_))
                  obtain ⟨v2, e2, r2, rfl, rfl, h2⟩ := hp
                  obtain ⟨rfl, rfl, R2⟩ := R.acc ho.1 ho.2.2 h1 h2
                  refine RV.op (OV.step gno (Step.move rfl) rfl ?_)
                  refine RV.op (OV.step gno (Step.extract0 rfl rfl) rfl ?_)
                  refine RV.op (OV.step gno (Step.extract0 rfl rfl) rfl ?_)
                  refine RV.op (OV.step gno (Step.assign rfl) rfl ?_)
                  refine RV.op (OV.step gno (Step.assign rfl) rfl ?_)
                  refine RV.nil ?_
                  refine KV.then_n ?_
                  refine KV.env [(2, _), (3, _), (7, _), (8, _), (9, _), (10, _)] ⟨rfl, rfl, rfl, rfl, rfl, rfl, trivial⟩ ?_
                  refine CV.seq ?_
                  -- region 20 law.go:84
                  refine CV.region ?_
                  refine RV.op (OV.step gno (Step.fieldAddr rfl (F58_0 _ _)) rfl ?_)
                  refine RV.op (OV.step gno (Step.load Try.underlying24 rfl rfl (fun w h => h.cell 0 rfl rfl)) rfl ?_)
                  refine RV.op (OV.step gno (Step.fieldAddr rfl (F43_1 _ _)) rfl ?_)
                  refine RV.op (OV.step gno (Step.load Try.underlying3 rfl rfl (fun w h => h.cell 1 rfl rfl)) rfl ?_)
                  refine RV.op (OV.step gno (Step.fieldAddr rfl (F43_2 _ _)) rfl ?_)
                  refine RV.op (OV.step gno (Step.load Try.underlying22 rfl rfl (fun w h => h.cell 1 rfl rfl)) rfl ?_)
                  refine RV.op (OV.call [4, 4, 4, 4] (F := [_, _, _, _, _, _, _, _, _]) Try.func17 B17 N17 rfl rfl (fun w h => peek_fn b s2 R2.sk o.space o.addr ho.1) (fun _ hb => hb.elim) gno rfl (fun v L' hp => ?_))
                  obtain ⟨rfl, rfl⟩ := hp
                  refine RV.op (OV.step gno (Step.move rfl) rfl ?_)
                  refine RV.op (OV.step gno (Step.extract0 rfl rfl) rfl ?_)
                  refine RV.op (OV.step gno (Step.extract0 rfl rfl) rfl ?_)
                  refine RV.op (OV.step gno (Step.assign rfl) rfl ?_)
                  refine RV.op (OV.step gno (Step.assign rfl) rfl ?_)
                  refine RV.nil ?_
                  refine KV.then_n ?_
                  refine KV.env [(2, _), (3, _), (7, _), (8, _), (9, _), (10, _), (11, _), (12, _)] ⟨rfl, rfl, rfl, rfl, rfl, rfl, rfl, rfl, trivial⟩ ?_
                  refine CV.seq ?_
                  -- region 21 law.go:85
                  refine CV.region ?_
                  refine RV.op (OV.step gno (Step.fieldAddr rfl (F58_1 _ _)) rfl ?_)
                  refine RV.op (OV.step gno (Step.load Try.underlying50 rfl rfl (fun w h => h.cell 0 rfl rfl)) rfl ?_)
                  refine RV.op (OV.step gno (Step.fieldAddr rfl (F43_1 _ _)) rfl ?_)
                  refine RV.op (OV.step gno (Step.load Try.underlying3 rfl rfl (fun w h => h.cell 1 rfl rfl)) rfl ?_)
                  refine RV.op (OV.step gno (Step.fieldAddr rfl (F43_2 _ _)) rfl ?_)
                  refine RV.op (OV.step gno (Step.load Try.underlying22 rfl rfl (fun w h => h.cell 1 rfl rfl)) rfl ?_)
                  refine RV.op (OV.call [4, 4, 4, 4, 4] (F := [_, _, _, _, _, _, _, _]) Try.func43 B43 N43 rfl rfl (fun w h => rpeek_fn c r2 R2.rk o.space o.addr ho.1) (fun _ hb => hb.elim) gno rfl (fun v L' hp => ?_))
                  obtain ⟨rfl, rfl⟩ := hp
                  rw [← (R2.own o.space o.addr).2.1, ← (R2.own o.space o.addr).2.2]
                  refine RV.op (OV.step gno (Step.move rfl) rfl ?_)
                  refine RV.op (OV.step gno (Step.extract0 rfl rfl) rfl ?_)
                  refine RV.op (OV.step gno (Step.extract0 rfl rfl) rfl ?_)
                  refine RV.op (OV.step gno (Step.assign rfl) rfl ?_)
                  refine RV.op (OV.step gno (Step.assign rfl) rfl ?_)
                  refine RV.nil ?_
                  refine KV.then_n ?_
                  refine KV.env [(2, _), (3, _), (7, _), (8, _), (9, _), (10, _), (11, _), (12, _), (13, _), (14, _)] ⟨rfl, rfl, rfl, rfl, rfl, rfl, rfl, rfl, rfl, rfl, trivial⟩ ?_
                  refine CV.seq ?_
                  -- region 22 law.go:86
                  refine KV.sel [0, 0, 2, 2, 2, 2, 2, 2, 2, 2, 2] [_, _, _, _, _, _, _, _, _, _, _] rfl ?_
                  refine CV.any (Hp I w [Blk bp (.cells #[.pointer (some ⟨b, 0, none⟩), .pointer (some ⟨c, 0, none⟩)] 58 (0, 0)), Blk bo (.cells #[.int .i64 o.kind, .int .i64 o.space, .int .u64 o.addr, .int .u64 o.len, .int .i64 o.width, .int .i64 o.own, .bool o.wr, .int .u64 o.val, .bool o.raw] 43 (0, 0))]) (by kernel_rfl) (fun _ h => h.drew) 49 rfl ?_
                  refine AV.take 0 #[true, false, false, false, false, false, false, false, false, false, false, false, false, false, false, false, false, false, false, false, false, false, false, false, false, false, false, false, false, false, false, false, false, false, false, false, false, false, false, false, false, false, false, false, false, false, false, false, false] rfl (by kernel_rfl) (by kernel_rfl) (by kernel_rfl) (fun _ _ _ h => h) gno (Step.move rfl) rfl (fun _ h => h.sel [0, 0] rfl) (by kernel_rfl) ?_
                  refine AV.take 1 #[true, true, false, false, false, false, false, false, false, false, false, false, false, false, false, false, false, false, false, false, false, false, false, false, false, false, false, false, false, false, false, false, false, false, false, false, false, false, false, false, false, false, false, false, false, false, false, false, false] rfl (by kernel_rfl) (by kernel_rfl) (by kernel_rfl) (fun _ _ _ h => h) gno (Step.move rfl) rfl (fun _ h => h.sel [0, 0] rfl) (by kernel_rfl) ?_
                  refine AV.take 2 #[true, true, true, false, false, false, false, false, false, false, false, false, false, false, false, false, false, false, false, false, false, false, false, false, false, false, false, false, false, false, false, false, false, false, false, false, false, false, false, false, false, false, false, false, false, false, false, false, false] rfl (by kernel_rfl) (by kernel_rfl) (by kernel_rfl) (fun _ _ _ h => h) gno (Step.eql rfl rfl) rfl (fun _ h => h.sel [0, 0] rfl) (by kernel_rfl) ?_
                  rw [decide_eq_true (Eq.refl _)]
                  refine AV.take 3 #[true, true, true, true, false, false, false, false, false, false, false, false, false, false, false, false, false, false, false, false, false, false, false, false, false, false, false, false, false, false, false, false, false, false, false, false, false, false, false, false, false, false, false, false, false, false, false, false, false] rfl (by kernel_rfl) (by kernel_rfl) (by kernel_rfl) (fun _ _ _ h => h) gno (Step.move rfl) rfl (fun _ h => h.sel [0, 0] rfl) (by kernel_rfl) ?_
                  refine AV.take 4 #[true, true, true, true, true, false, false, false, false, false, false, false, false, false, false, false, false, false, false, false, false, false, false, false, false, false, false, false, false, false, false, false, false, false, false, false, false, false, false, false, false, false, false, false, false, false, false, false, false] rfl (by kernel_rfl) (by kernel_rfl) (by kernel_rfl) (fun _ _ _ h => h) (gyes rfl) (Step.move rfl) rfl (fun _ h => h.sel [0, 0] rfl) (by kernel_rfl) ?_
                  refine AV.take 5 #[true, true, true, true, true, true, false, false, false, false, false, false, false, false, false, false, false, false, false, false, false, false, false, false, false, false, false, false, false, false, false, false, false, false, false, false, false, false, false, false, false, false, false, false, false, false, false, false, false] rfl (by kernel_rfl) (by kernel_rfl) (by kernel_rfl) (fun _ _ _ h => h) (gyes rfl) (Step.move rfl) rfl (fun _ h => h.sel [0, 0] rfl) (by kernel_rfl) ?_
                  refine AV.take 6 #[true, true, true, true, true, true, true, false, false, false, false, false, false, false, false, false, false, false, false, false, false, false, false, false, false, false, false, false, false, false, false, false, false, false, false, false, false, false, false, false, false, false, false, false, false, false, false, false, false] rfl (by kernel_rfl) (by kernel_rfl) (by kernel_rfl) (fun _ _ _ h => h) (gyes rfl) (Step.eql rfl rfl) rfl (fun _ h => h.sel [0, 0] rfl) (by kernel_rfl) ?_
                  rw [decide_eq_true (Eq.refl _)]
                  refine AV.take 7 #[true, true, true, true, true, true, true, true, false, false, false, false, false, false, false, false, false, false, false, false, false, false, false, false, false, false, false, false, false, false, false, false, false, false, false, false, false, false, false, false, false, false, false, false, false, false, false, false, false] rfl (by kernel_rfl) (by kernel_rfl) (by kernel_rfl) (fun _ _ _ h => h) gno (Step.pick_t rfl rfl) rfl (fun _ h => h.sel [0, 0] rfl) (by kernel_rfl) ?_
                  refine AV.take 8 #[true, true, true, true, true, true, true, true, true, false, false, false, false, false, false, false, false, false, false, false, false, false, false, false, false, false, false, false, false, false, false, false, false, false, false, false, false, false, false, false, false, false, false, false, false, false, false, false, false] rfl (by kernel_rfl) (by kernel_rfl) (by kernel_rfl) (fun _ _ _ h => h) gno (Step.move rfl) rfl (fun _ h => h.sel [0, 0] rfl) (by kernel_rfl) ?_
                  refine AV.take 9 #[true, true, true, true, true, true, true, true, true, true, false, false, false, false, false, false, false, false, false, false, false, false, false, false, false, false, false, false, false, false, false, false, false, false, false, false, false, false, false, false, false, false, false, false, false, false, false, false, false] rfl (by kernel_rfl) (by kernel_rfl) (by kernel_rfl) (fun _ _ _ h => h) (gyes rfl) (Step.move rfl) rfl (fun _ h => h.sel [0, 0] rfl) (by kernel_rfl) ?_
                  refine AV.take 10 #[true, true, true, true, true, true, true, true, true, true, true, false, false, false, false, false, false, false, false, false, false, false, false, false, false, false, false, false, false, false, false, false, false, false, false, false, false, false, false, false, false, false, false, false, false, false, false, false, false] rfl (by kernel_rfl) (by kernel_rfl) (by kernel_rfl) (fun _ _ _ h => h) (gyes rfl) (Step.move rfl) rfl (fun _ h => h.sel [0, 0] rfl) (by kernel_rfl) ?_
                  refine AV.take 11 #[true, true, true, true, true, true, true, true, true, true, true, true, false, false, false, false, false, false, false, false, false, false, false, false, false, false, false, false, false, false, false, false, false, false, false, false, false, false, false, false, false, false, false, false, false, false, false, false, false] rfl (by kernel_rfl) (by kernel_rfl) (by kernel_rfl) (fun _ _ _ h => h) (gyes rfl) (Step.eql rfl rfl) rfl (fun _ h => h.sel [0, 0] rfl) (by kernel_rfl) ?_
                  rw [decide_eq_true (Eq.refl _)]
                  refine AV.take 12 #[true, true, true, true, true, true, true, true, true, true, true, true, true, false, false, false, false, false, false, false, false, false, false, false, false, false, false, false, false, false, false, false, false, false, false, false, false, false, false, false, false, false, false, false, false, false, false, false, false] rfl (by kernel_rfl) (by kernel_rfl) (by kernel_rfl) (fun _ _ _ h => h) gno (Step.pick_t rfl rfl) rfl (fun _ h => h.sel [0, 0] rfl) (by kernel_rfl) ?_
                  refine AV.take 13 #[true, true, true, true, true, true, true, true, true, true, true, true, true, true, false, false, false, false, false, false, false, false, false, false, false, false, false, false, false, false, false, false, false, false, false, false, false, false, false, false, false, false, false, false, false, false, false, false, false] rfl (by kernel_rfl) (by kernel_rfl) (by kernel_rfl) (fun _ _ _ h => h) gno (Step.move rfl) rfl (fun _ h => h.sel [0, 0] rfl) (by kernel_rfl) ?_
                  refine AV.take 14 #[true, true, true, true, true, true, true, true, true, true, true, true, true, true, true, false, false, false, false, false, false, false, false, false, false, false, false, false, false, false, false, false, false, false, false, false, false, false, false, false, false, false, false, false, false, false, false, false, false] rfl (by kernel_rfl) (by kernel_rfl) (by kernel_rfl) (fun _ _ _ h => h) (gyes rfl) (Step.move rfl) rfl (fun _ h => h.sel [0, 0] rfl) (by kernel_rfl) ?_
                  refine AV.take 15 #[true, true, true, true, true, true, true, true, true, true, true, true, true, true, true, true, false, false, false, false, false, false, false, false, false, false, false, false, false, false, false, false, false, false, false, false, false, false, false, false, false, false, false, false, false, false, false, false, false] rfl (by kernel_rfl) (by kernel_rfl) (by kernel_rfl) (fun _ _ _ h => h) (gyes rfl) (Step.move rfl) rfl (fun _ h => h.sel [0, 0] rfl) (by kernel_rfl) ?_
                  refine AV.take 16 #[true, true, true, true, true, true, true, true, true, true, true, true, true, true, true, true, true, false, false, false, false, false, false, false, false, false, false, false, false, false, false, false, false, false, false, false, false, false, false, false, false, false, false, false, false, false, false, false, false] rfl (by kernel_rfl) (by kernel_rfl) (by kernel_rfl) (fun _ _ _ h => h) (gyes rfl) (Step.eqlBool Try.underlying4 rfl rfl) rfl (fun _ h => h.sel [0, 0] rfl) (by kernel_rfl) ?_
                  rw [decide_eq_true (Eq.refl _)]
                  refine AV.take 17 #[true, true, true, true, true, true, true, true, true, true, true, true, true, true, true, true, true, true, false, false, false, false, false, false, false, false, false, false, false, false, false, false, false, false, false, false, false, false, false, false, false, false, false, false, false, false, false, false, false] rfl (by kernel_rfl) (by kernel_rfl) (by kernel_rfl) (fun _ _ _ h => h) gno (Step.pick_t rfl rfl) rfl (fun _ h => h.sel [0, 0] rfl) (by kernel_rfl) ?_
                  refine AV.take 18 #[true, true, true, true, true, true, true, true, true, true, true, true, true, true, true, true, true, true, true, false, false, false, false, false, false, false, false, false, false, false, false, false, false, false, false, false, false, false, false, false, false, false, false, false, false, false, false, false, false] rfl (by kernel_rfl) (by kernel_rfl) (by kernel_rfl) (fun _ _ _ h => h) gno (Step.move rfl) rfl (fun _ h => h.sel [0, 0] rfl) (by kernel_rfl) ?_
                  refine AV.take 19 #[true, true, true, true, true, true, true, true, true, true, true, true, true, true, true, true, true, true, true, true, false, false, false, false, false, false, false, false, false, false, false, false, false, false, false, false, false, false, false, false, false, false, false, false, false, false, false, false, false] rfl (by kernel_rfl) (by kernel_rfl) (by kernel_rfl) (fun _ _ _ h => h) (gyes rfl) (Step.fieldAddr rfl (F58_0 _ _)) rfl (fun _ h => h.sel [0, 0] rfl) (by kernel_rfl) ?_
                  refine AV.take 20 #[true, true, true, true, true, true, true, true, true, true, true, true, true, true, true, true, true, true, true, true, true, false, false, false, false, false, false, false, false, false, false, false, false, false, false, false, false, false, false, false, false, false, false, false, false, false, false, false, false] rfl (by kernel_rfl) (by kernel_rfl) (by kernel_rfl) (fun _ _ _ h => h) (gyes rfl) (Step.load Try.underlying24 rfl rfl (fun w h => h.cell 0 rfl rfl)) rfl (fun _ h => h.sel [0, 0] rfl) (by kernel_rfl) ?_
                  refine AV.take 21 #[true, true, true, true, true, true, true, true, true, true, true, true, true, true, true, true, true, true, true, true, true, true, false, false, false, false, false, false, false, false, false, false, false, false, false, false, false, false, false, false, false, false, false, false, false, false, false, false, false] rfl (by kernel_rfl) (by kernel_rfl) (by kernel_rfl) (fun _ _ _ h => h) (gyes rfl) (Step.fieldAddr rfl (F43_1 _ _)) rfl (fun _ h => h.sel [0, 0] rfl) (by kernel_rfl) ?_
                  refine AV.take 22 #[true, true, true, true, true, true, true, true, true, true, true, true, true, true, true, true, true, true, true, true, true, true, true, false, false, false, false, false, false, false, false, false, false, false, false, false, false, false, false, false, false, false, false, false, false, false, false, false, false] rfl (by kernel_rfl) (by kernel_rfl) (by kernel_rfl) (fun _ _ _ h => h) (gyes rfl) (Step.load Try.underlying3 rfl rfl (fun w h => h.cell 1 rfl rfl)) rfl (fun _ h => h.sel [0, 0] rfl) (by kernel_rfl) ?_
                  refine AV.take 23 #[true, true, true, true, true, true, true, true, true, true, true, true, true, true, true, true, true, true, true, true, true, true, true, true, false, false, false, false, false, false, false, false, false, false, false, false, false, false, false, false, false, false, false, false, false, false, false, false, false] rfl (by kernel_rfl) (by kernel_rfl) (by kernel_rfl) (fun _ _ _ h => h) (gyes rfl) (Step.fieldAddr rfl (F43_2 _ _)) rfl (fun _ h => h.sel [0, 0] rfl) (by kernel_rfl) ?_
                  refine AV.take 24 #[true, true, true, true, true, true, true, true, true, true, true, true, true, true, true, true, true, true, true, true, true, true, true, true, true, false, false, false, false, false, false, false, false, false, false, false, false, false, false, false, false, false, false, false, false, false, false, false, false] rfl (by kernel_rfl) (by kernel_rfl) (by kernel_rfl) (fun _ _ _ h => h) (gyes rfl) (Step.load Try.underlying22 rfl rfl (fun w h => h.cell 1 rfl rfl)) rfl (fun _ h => h.sel [0, 0] rfl) (by kernel_rfl) ?_
                  refine AV.take 26 #[true, true, true, true, true, true, true, true, true, true, true, true, true, true, true, true, true, true, true, true, true, true, true, true, true, false, true, false, false, false, false, false, false, false, false, false, false, false, false, false, false, false, false, false, false, false, false, false, false] rfl (by kernel_rfl) (by kernel_rfl) (by kernel_rfl) (fun _ _ _ h => h) (gyes rfl) (Step.fieldAddr rfl (F58_1 _ _)) rfl (fun _ h => h.sel [0, 0] rfl) (by kernel_rfl) ?_
                  refine AV.take 27 #[true, true, true, true, true, true, true, true, true, true, true, true, true, true, true, true, true, true, true, true, true, true, true, true, true, false, true, true, false, false, false, false, false, false, false, false, false, false, false, false, false, false, false, false, false, false, false, false, false] rfl (by kernel_rfl) (by kernel_rfl) (by kernel_rfl) (fun _ _ _ h => h) (gyes rfl) (Step.load Try.underlying50 rfl rfl (fun w h => h.cell 0 rfl rfl)) rfl (fun _ h => h.sel [0, 0] rfl) (by kernel_rfl) ?_
                  refine AV.take 28 #[true, true, true, true, true, true, true, true, true, true, true, true, true, true, true, true, true, true, true, true, true, true, true, true, true, false, true, true, true, false, false, false, false, false, false, false, false, false, false, false, false, false, false, false, false, false, false, false, false] rfl (by kernel_rfl) (by kernel_rfl) (by kernel_rfl) (fun _ _ _ h => h) (gyes rfl) (Step.fieldAddr rfl (F43_1 _ _)) rfl (fun _ h => h.sel [0, 0] rfl) (by kernel_rfl) ?_
                  refine AV.take 29 #[true, true, true, true, true, true, true, true, true, true, true, true, true, true, true, true, true, true, true, true, true, true, true, true, true, false, true, true, true, true, false, false, false, false, false, false, false, false, false, false, false, false, false, false, false, false, false, false, false] rfl (by kernel_rfl) (by kernel_rfl) (by kernel_rfl) (fun _ _ _ h => h) (gyes rfl) (Step.load Try.underlying3 rfl rfl (fun w h => h.cell 1 rfl rfl)) rfl (fun _ h => h.sel [0, 0] rfl) (by kernel_rfl) ?_
                  refine AV.take 30 #[true, true, true, true, true, true, true, true, true, true, true, true, true, true, true, true, true, true, true, true, true, true, true, true, true, false, true, true, true, true, true, false, false, false, false, false, false, false, false, false, false, false, false, false, false, false, false, false, false] rfl (by kernel_rfl) (by kernel_rfl) (by kernel_rfl) (fun _ _ _ h => h) (gyes rfl) (Step.fieldAddr rfl (F43_2 _ _)) rfl (fun _ h => h.sel [0, 0] rfl) (by kernel_rfl) ?_
                  refine AV.take 31 #[true, true, true, true, true, true, true, true, true, true, true, true, true, true, true, true, true, true, true, true, true, true, true, true, true, false, true, true, true, true, true, true, false, false, false, false, false, false, false, false, false, false, false, false, false, false, false, false, false] rfl (by kernel_rfl) (by kernel_rfl) (by kernel_rfl) (fun _ _ _ h => h) (gyes rfl) (Step.load Try.underlying22 rfl rfl (fun w h => h.cell 1 rfl rfl)) rfl (fun _ h => h.sel [0, 0] rfl) (by kernel_rfl) ?_
                  refine AV.all [25] (by kernel_rfl) (by decide) ?_
                  refine ⟨⟨_, rfl, ?_⟩, trivial⟩
                  · -- 25 comes up
                    refine OV.call [2, 2, 2, 2] (F := [_, _, _, _, _, _, _]) Try.func15 B15 N15 rfl rfl (fun w h => owner_fn b s2 R2.sk o.space o.addr) (fun _ hb => hb.elim) (gyes rfl) rfl (fun v L' hp => ?_)
                    obtain ⟨rfl, rfl⟩ := hp
                    refine AV.next #[true, true, true, true, true, true, true, true, true, true, true, true, true, true, true, true, true, true, true, true, true, true, true, true, true, true, true, true, true, true, true, true, false, false, false, false, false, false, false, false, false, false, false, false, false, false, false, false, false] (by kernel_rfl) (fun _ h => h.sel [0, 0] rfl) ?_
                    refine AV.all [32] (by kernel_rfl) (by decide) ?_
                    refine ⟨⟨_, rfl, ?_⟩, trivial⟩
                    · -- 32 comes up
                      refine OV.call [2, 2, 2, 2, 2] (F := [_, _, _, _, _, _]) Try.func44 B44 N44 rfl rfl (fun w h => rowner_fn c r2 R2.rk o.space o.addr ho.1) (fun _ hb => hb.elim) (gyes rfl) rfl (fun v L' hp => ?_)
                      obtain ⟨rfl, rfl⟩ := hp
                      rw [← (R2.own o.space o.addr).1]
                      refine AV.next #[true, true, true, true, true, true, true, true, true, true, true, true, true, true, true, true, true, true, true, true, true, true, true, true, true, true, true, true, true, true, true, true, true, false, false, false, false, false, false, false, false, false, false, false, false, false, false, false, false] (by kernel_rfl) (fun _ h => h.sel [0, 0] rfl) ?_
                      refine AV.take 33 #[true, true, true, true, true, true, true, true, true, true, true, true, true, true, true, true, true, true, true, true, true, true, true, true, true, true, true, true, true, true, true, true, true, true, false, false, false, false, false, false, false, false, false, false, false, false, false, false, false] rfl (by kernel_rfl) (by kernel_rfl) (by kernel_rfl) (fun _ _ _ h => h) (gyes rfl) (Step.eql rfl rfl) rfl (fun _ h => h.sel [0, 0] rfl) (by kernel_rfl) ?_
                      rw [decide_eq_true (Eq.refl _)]
                      refine AV.take 34 #[true, true, true, true, true, true, true, true, true, true, true, true, true, true, true, true, true, true, true, true, true, true, true, true, true, true, true, true, true, true, true, true, true, true, true, false, false, false, false, false, false, false, false, false, false, false, false, false, false] rfl (by kernel_rfl) (by kernel_rfl) (by kernel_rfl) (fun _ _ _ h => h) gno (Step.pick_t rfl rfl) rfl (fun _ h => h.sel [0, 0] rfl) (by kernel_rfl) ?_
                      refine AV.take 35 #[true, true, true, true, true, true, true, true, true, true, true, true, true, true, true, true, true, true, true, true, true, true, true, true, true, true, true, true, true, true, true, true, true, true, true, true, false, false, false, false, false, false, false, false, false, false, false, false, false] rfl (by kernel_rfl) (by kernel_rfl) (by kernel_rfl) (fun _ _ _ h => h) gno (Step.move rfl) rfl (fun _ h => h.sel [0, 0] rfl) (by kernel_rfl) ?_
                      refine AV.take 36 #[true, true, true, true, true, true, true, true, true, true, true, true, true, true, true, true, true, true, true, true, true, true, true, true, true, true, true, true, true, true, true, true, true, true, true, true, true, false, false, false, false, false, false, false, false, false, false, false, false] rfl (by kernel_rfl) (by kernel_rfl) (by kernel_rfl) (fun _ _ _ h => h) (gyes rfl) (Step.fieldAddr rfl (F58_0 _ _)) rfl (fun _ h => h.sel [0, 0] rfl) (by kernel_rfl) ?_
                      refine AV.take 37 #[true, true, true, true, true, true, true, true, true, true, true, true, true, true, true, true, true, true, true, true, true, true, true, true, true, true, true, true, true, true, true, true, true, true, true, true, true, true, false, false, false, false, false, false, false, false, false, false, false] rfl (by kernel_rfl) (by kernel_rfl) (by kernel_rfl) (fun _ _ _ h => h) (gyes rfl) (Step.load Try.underlying24 rfl rfl (fun w h => h.cell 0 rfl rfl)) rfl (fun _ h => h.sel [0, 0] rfl) (by kernel_rfl) ?_
                      refine AV.take 38 #[true, true, true, true, true, true, true, true, true, true, true, true, true, true, true, true, true, true, true, true, true, true, true, true, true, true, true, true, true, true, true, true, true, true, true, true, true, true, true, false, false, false, false, false, false, false, false, false, false] rfl (by kernel_rfl) (by kernel_rfl) (by kernel_rfl) (fun _ _ _ h => h) (gyes rfl) (Step.fieldAddr rfl (F43_5 _ _)) rfl (fun _ h => h.sel [0, 0] rfl) (by kernel_rfl) ?_
                      refine AV.take 39 #[true, true, true, true, true, true, true, true, true, true, true, true, true, true, true, true, true, true, true, true, true, true, true, true, true, true, true, true, true, true, true, true, true, true, true, true, true, true, true, true, false, false, false, false, false, false, false, false, false] rfl (by kernel_rfl) (by kernel_rfl) (by kernel_rfl) (fun _ _ _ h => h) (gyes rfl) (Step.load Try.underlying3 rfl rfl (fun w h => h.cell 1 rfl rfl)) rfl (fun _ h => h.sel [0, 0] rfl) (by kernel_rfl) ?_
                      refine AV.take 41 #[true, true, true, true, true, true, true, true, true, true, true, true, true, true, true, true, true, true, true, true, true, true, true, true, true, true, true, true, true, true, true, true, true, true, true, true, true, true, true, true, false, true, false, false, false, false, false, false, false] rfl (by kernel_rfl) (by kernel_rfl) (by kernel_rfl) (fun _ _ _ h => h) (gyes rfl) (Step.fieldAddr rfl (F58_1 _ _)) rfl (fun _ h => h.sel [0, 0] rfl) (by kernel_rfl) ?_
                      refine AV.take 42 #[true, true, true, true, true, true, true, true, true, true, true, true, true, true, true, true, true, true, true, true, true, true, true, true, true, true, true, true, true, true, true, true, true, true, true, true, true, true, true, true, false, true, true, false, false, false, false, false, false] rfl (by kernel_rfl) (by kernel_rfl) (by kernel_rfl) (fun _ _ _ h => h) (gyes rfl) (Step.load Try.underlying50 rfl rfl (fun w h => h.cell 0 rfl rfl)) rfl (fun _ h => h.sel [0, 0] rfl) (by kernel_rfl) ?_
                      refine AV.take 43 #[true, true, true, true, true, true, true, true, true, true, true, true, true, true, true, true, true, true, true, true, true, true, true, true, true, true, true, true, true, true, true, true, true, true, true, true, true, true, true, true, false, true, true, true, false, false, false, false, false] rfl (by kernel_rfl) (by kernel_rfl) (by kernel_rfl) (fun _ _ _ h => h) (gyes rfl) (Step.fieldAddr rfl (F43_5 _ _)) rfl (fun _ h => h.sel [0, 0] rfl) (by kernel_rfl) ?_
                      refine AV.take 44 #[true, true, true, true, true, true, true, true, true, true, true, true, true, true, true, true, true, true, true, true, true, true, true, true, true, true, true, true, true, true, true, true, true, true, true, true, true, true, true, true, false, true, true, true, true, false, false, false, false] rfl (by kernel_rfl) (by kernel_rfl) (by kernel_rfl) (fun _ _ _ h => h) (gyes rfl) (Step.load Try.underlying3 rfl rfl (fun w h => h.cell 1 rfl rfl)) rfl (fun _ h => h.sel [0, 0] rfl) (by kernel_rfl) ?_
                      refine AV.all [40] (by kernel_rfl) (by decide) ?_
                      refine ⟨⟨_, rfl, ?_⟩, trivial⟩
                      · -- 40 comes up
                        refine OV.call [2, 2, 2, 2] (F := [_, _, _, _, _, _, _]) Try.func45 B45 N45 rfl rfl (fun w h => enabled_fn b s2 R2.sk o.own) (fun _ hb => hb.elim) (gyes rfl) rfl (fun v L' hp => ?_)
                        obtain ⟨rfl, rfl⟩ := hp
                        refine AV.next #[true, true, true, true, true, true, true, true, true, true, true, true, true, true, true, true, true, true, true, true, true, true, true, true, true, true, true, true, true, true, true, true, true, true, true, true, true, true, true, true, true, true, true, true, true, false, false, false, false] (by kernel_rfl) (fun _ h => h.sel [0, 0] rfl) ?_
                        refine AV.all [45] (by kernel_rfl) (by decide) ?_
                        refine ⟨⟨_, rfl, ?_⟩, trivial⟩
                        · -- 45 comes up
                          refine OV.call [2, 2, 2, 2, 2] (F := [_, _, _, _, _, _]) Try.func46 B46 N46 rfl rfl (fun w h => renabled_fn c r2 R2.rk o.own) (fun _ hb => hb.elim) (gyes rfl) rfl (fun v L' hp => ?_)
                          obtain ⟨rfl, rfl⟩ := hp
                          rw [← R2.en]
                          refine AV.next #[true, true, true, true, true, true, true, true, true, true, true, true, true, true, true, true, true, true, true, true, true, true, true, true, true, true, true, true, true, true, true, true, true, true, true, true, true, true, true, true, true, true, true, true, true, true, false, false, false] (by kernel_rfl) (fun _ h => h.sel [0, 0] rfl) ?_
                          refine AV.take 46 #[true, true, true, true, true, true, true, true, true, true, true, true, true, true, true, true, true, true, true, true, true, true, true, true, true, true, true, true, true, true, true, true, true, true, true, true, true, true, true, true, true, true, true, true, true, true, true, false, false] rfl (by kernel_rfl) (by kernel_rfl) (by kernel_rfl) (fun _ _ _ h => h) (gyes rfl) (Step.eqlBool Try.underlying4 rfl rfl) rfl (fun _ h => h.sel [0, 0] rfl) (by kernel_rfl) ?_
                          rw [decide_eq_true (Eq.refl _)]
                          refine AV.take 47 #[true, true, true, true, true, true, true, true, true, true, true, true, true, true, true, true, true, true, true, true, true, true, true, true, true, true, true, true, true, true, true, true, true, true, true, true, true, true, true, true, true, true, true, true, true, true, true, true, false] rfl (by kernel_rfl) (by kernel_rfl) (by kernel_rfl) (fun _ _ _ h => h) gno (Step.pick_t rfl rfl) rfl (fun _ h => h.sel [0, 0] rfl) (by kernel_rfl) ?_
                          refine AV.take 48 #[true, true, true, true, true, true, true, true, true, true, true, true, true, true, true, true, true, true, true, true, true, true, true, true, true, true, true, true, true, true, true, true, true, true, true, true, true, true, true, true, true, true, true, true, true, true, true, true, true] rfl (by kernel_rfl) (by kernel_rfl) (by kernel_rfl) (fun _ _ _ h => h) gno (Step.assign rfl) rfl (fun _ h => h.sel [0, 0] rfl) (by kernel_rfl) ?_
                          refine AV.done (by kernel_rfl) ?_
                          refine KV.then_n ?_
                          refine KV.env [(4, _)] ⟨rfl, trivial⟩ ?_
                          refine CV.ret ?_
                          -- return at r22
                          refine KV.sel [2, 2, 2, 2, 2, 2, 2, 2, 2] [_, _, _, _, _, _, _, _, _] rfl ?_
                          first | exact KV.ret1 rfl rfl _ (fun _ h => h) ⟨rfl, _, _, R2, rfl⟩ | exact KV.ret1 rfl rfl _ (fun _ h => h) ⟨rfl, _, _, R.take, rfl⟩
end Go.Proofs.Ythdpojggdodpfaa
