/-
  Walks, part 17.
-/
import Derived.Test.YthdpojggdodpfaaTabs
import Derived.Test.YthdpojggdodpfaaW16
set_option linter.unusedSimpArgs false
set_option linter.unusedVariables false
namespace Go.Proofs.Ythdpojggdodpfaa
open Go.Sv Go.Ios
set_option maxRecDepth 100000 in
set_option maxHeartbeats 4000000 in
theorem rfail_fn (b : Nat) (s : RB) {w : World} (hk : s.ok) (a : Acs) (ha : wfA a) (hu : isU a.addr) : Fx Try.prog 58 [.pointer (some ⟨b, 0, none⟩), .agg #[.int .i64 a.space, .int .u64 a.addr, .int .i64 a.width, .bool a.wr, .int .u64 a.val]] w (rbL b s) no (fun v L => (∃ j : Nat, j < s.fl.length ∧ hitG (s.fl.getD j fltK.d) a ∧ (∀ k, k < j → ¬ hitG (s.fl.getD k fltK.d) a) ∧ v = .bool true ∧ L = rbL b (decF s j)) ∨ ((∀ k, k < s.fl.length → ¬ hitG (s.fl.getD k fltK.d) a) ∧ v = .bool false ∧ L = rbL b s)) := by
  refine Sv.Fx.body Try.func58 rfl T58 rfl ?_
  intro I hro hI
  refine KV.env [(0, _), (1, _)] ⟨rfl, rfl, trivial⟩ ?_
  have hw := hk.en
  have hmx := hk.max
  have hfx := hk.fl
  have hW1 : 1 ≤ a.width ∧ a.width ≤ 8 := by have := ha.1; unfold isW at this; omega
  refine CV.seq ?_
  -- region 0 iospace.go:130
  refine CV.region ?_
  refine RV.op (OV.box (t := 37) #[_, _, _, _, _] rfl rfl gno rfl (fun bx => ?_))
  refine RV.op (OV.step gno (Step.assign rfl) rfl ?_)
  refine RV.nil ?_
  refine KV.then_n ?_
  refine KV.env [(0, _), (3, _)] ⟨rfl, rfl, trivial⟩ ?_
  refine CV.seq ?_
  refine CV.seq ?_
  -- region 1 iospace.go:131
  refine CV.region ?_
  refine RV.op (OV.step gno (Step.assign rfl) rfl ?_)
  refine RV.nil ?_
  refine KV.then_n ?_
  refine KV.env [(0, _), (3, _), (5, _)] ⟨rfl, rfl, rfl, trivial⟩ ?_
  refine CV.block ?_
  -- loop L2; live [0, 3, 5]
  refine KV.sel [0, 0, 0, 0, 0, 0] [_, _, _, _, _, _] rfl ?_
  refine CV.loopI (fun (j : Nat) => j ≤ s.fl.length ∧ ∀ k, k < j → ¬ hitG (s.fl.getD k fltK.d) a) (fun (j : Nat) => s.fl.length - j) (fun (j : Nat) => [(0, .pointer (some ⟨b, 0, none⟩)), (3, .pointer (some ⟨bx, 0, none⟩)), (5, .int .i64 j)]) (fun (j : Nat) => Hp I w (rbL b s ++ [Blk bx (.cells #[.int .i64 a.space, .int .u64 a.addr, .int .i64 a.width, .bool a.wr, .int .u64 a.val] 37 (0, 0))])) (0) ⟨Nat.zero_le _, fun i hi => by omega⟩ ⟨rfl, rfl, rfl, trivial⟩ (fun _ h => h) ?_
  intro j hinv
  refine CV.seq ?_
  refine CV.seq ?_
  -- region 2 iospace.go:131
  refine CV.region ?_
  refine RV.op (OV.step gno (Step.move rfl) rfl ?_)
  refine RV.op (OV.step gno (Step.move rfl) rfl ?_)
  refine RV.op (OV.step gno (Step.nilCheck rfl) rfl ?_)
  refine RV.op (OV.step gno (Step.fieldAddr rfl (F56_2 _ _)) rfl ?_)
  refine RV.op (OV.step gno (Step.load Try.underlying53 rfl rfl (fun w h => h.cell 0 rfl (rbC_f hw))) rfl ?_)
  refine RV.op (OV.step gno (Step.lenSl Try.underlying53 rfl) rfl ?_)
  refine RV.op (OV.split gno (Step.lss rfl rfl) rfl (fun hj => ?_) (fun hj => ?_))
  · -- True
    have hfr := hk.fr j (by omega)
    refine RV.nil ?_
    refine KV.then_n ?_
    refine KV.env [(0, _), (3, _), (5, _), (13, _)] ⟨rfl, rfl, rfl, rfl, trivial⟩ ?_
    refine CV.cond_t rfl ?_
    refine CV.skip ?_
    refine KV.then_n ?_
    refine KV.env [(0, _), (3, _), (5, _)] ⟨rfl, rfl, rfl, trivial⟩ ?_
    refine CV.seq ?_
    refine CV.block ?_
    refine CV.seq ?_
    -- region 4 iospace.go:132
    refine CV.region ?_
    refine RV.op (OV.step gno (Step.move rfl) rfl ?_)
    refine RV.op (OV.step gno (Step.nilCheck rfl) rfl ?_)
    refine RV.op (OV.step gno (Step.fieldAddr rfl (F56_2 _ _)) rfl ?_)
    refine RV.op (OV.step gno (Step.load Try.underlying53 rfl rfl (fun w h => h.cell 0 rfl (rbC_f hw))) rfl ?_)
    refine RV.op (OV.step gno (Step.move rfl) rfl ?_)
    refine RV.op (OV.step gno (Step.idx Try.underlying53 I97 (fun w h => h.os 3 rfl) rfl rfl (rfl) _ rfl (by omega)) rfl ?_)
    refine RV.op (OV.step gno (Step.assign rfl) rfl ?_)
    refine RV.nil ?_
    refine KV.then_n ?_
    refine KV.env [(0, _), (3, _), (5, _), (6, _)] ⟨rfl, rfl, rfl, rfl, trivial⟩ ?_
    refine CV.seq ?_
    -- region 5 iospace.go:133
    refine KV.sel [0, 0, 0, 0, 0, 0] [_, _, _, _, _, _] rfl ?_
    refine CV.any (Hp I w (rbL b s ++ [Blk bx (.cells #[.int .i64 a.space, .int .u64 a.addr, .int .i64 a.width, .bool a.wr, .int .u64 a.val] 37 (0, 0))])) (by kernel_rfl) (fun _ h => h.drew) 27 rfl ?_
    refine AV.take 0 #[true, false, false, false, false, false, false, false, false, false, false, false, false, false, false, false, false, false, false, false, false, false, false, false, false, false, false] rfl (by kernel_rfl) (by kernel_rfl) (by kernel_rfl) (fun _ _ _ h => h) gno (Step.move rfl) rfl (fun _ h => h.sel [0, 0, 0, 0, 0, 0] rfl) (by kernel_rfl) ?_
    refine AV.take 1 #[true, true, false, false, false, false, false, false, false, false, false, false, false, false, false, false, false, false, false, false, false, false, false, false, false, false, false] rfl (by kernel_rfl) (by kernel_rfl) (by kernel_rfl) (fun _ _ _ h => h) gno (Step.nilCheck rfl) rfl (fun _ h => h.sel [0, 0, 0, 0, 0, 0] rfl) (by kernel_rfl) ?_
    refine AV.take 2 #[true, true, true, false, false, false, false, false, false, false, false, false, false, false, false, false, false, false, false, false, false, false, false, false, false, false, false] rfl (by kernel_rfl) (by kernel_rfl) (by kernel_rfl) (fun _ _ _ h => h) gno (Step.fieldAddr rfl (F97_2 _ _)) rfl (fun _ h => h.sel [0, 0, 0, 0, 0, 0] rfl) (by kernel_rfl) ?_
    refine AV.take 3 #[true, true, true, true, false, false, false, false, false, false, false, false, false, false, false, false, false, false, false, false, false, false, false, false, false, false, false] rfl (by kernel_rfl) (by kernel_rfl) (by kernel_rfl) (fun _ _ _ h => h) gno (Step.load Try.underlying3 rfl rfl (fun w h => (h.os 3 rfl).cell (j := 3) (by omega) rfl)) rfl (fun _ h => h.sel [0, 0, 0, 0, 0, 0] rfl) (by kernel_rfl) ?_
    refine AV.take 4 #[true, true, true, true, true, false, false, false, false, false, false, false, false, false, false, false, false, false, false, false, false, false, false, false, false, false, false] rfl (by kernel_rfl) (by kernel_rfl) (by kernel_rfl) (fun _ _ _ h => h) gno (Step.gtr rfl rfl) rfl (fun _ h => h.sel [0, 0, 0, 0, 0, 0] rfl) (by kernel_rfl) ?_
    refine AV.take 5 #[true, true, true, true, true, true, false, false, false, false, false, false, false, false, false, false, false, false, false, false, false, false, false, false, false, false, false] rfl (by kernel_rfl) (by kernel_rfl) (by kernel_rfl) (fun _ _ _ h => h) gno (Step.move rfl) rfl (fun _ h => h.sel [0, 0, 0, 0, 0, 0] rfl) (by kernel_rfl) ?_
    refine KV.cases 27 rfl (fun cc1 => ?_) (fun cc1 => ?_)
    · -- True
      have e1 := of_decide_eq_true cc1
      refine AV.take 6 #[true, true, true, true, true, true, true, false, false, false, false, false, false, false, false, false, false, false, false, false, false, false, false, false, false, false, false] rfl (by kernel_rfl) (by kernel_rfl) (by kernel_rfl) (fun _ _ _ h => h) (gyes rfl) (Step.move rfl) rfl (fun _ h => h.sel [0, 0, 0, 0, 0, 0] rfl) (by kernel_rfl) ?_
      refine AV.take 7 #[true, true, true, true, true, true, true, true, false, false, false, false, false, false, false, false, false, false, false, false, false, false, false, false, false, false, false] rfl (by kernel_rfl) (by kernel_rfl) (by kernel_rfl) (fun _ _ _ h => h) (gyes rfl) (Step.nilCheck rfl) rfl (fun _ h => h.sel [0, 0, 0, 0, 0, 0] rfl) (by kernel_rfl) ?_
      refine AV.take 8 #[true, true, true, true, true, true, true, true, true, false, false, false, false, false, false, false, false, false, false, false, false, false, false, false, false, false, false] rfl (by kernel_rfl) (by kernel_rfl) (by kernel_rfl) (fun _ _ _ h => h) (gyes rfl) (Step.fieldAddr rfl (F97_0 _ _)) rfl (fun _ h => h.sel [0, 0, 0, 0, 0, 0] rfl) (by kernel_rfl) ?_
      refine AV.take 9 #[true, true, true, true, true, true, true, true, true, true, false, false, false, false, false, false, false, false, false, false, false, false, false, false, false, false, false] rfl (by kernel_rfl) (by kernel_rfl) (by kernel_rfl) (fun _ _ _ h => h) (gyes rfl) (Step.load Try.underlying3 rfl rfl (fun w h => (h.os 3 rfl).cell0 (by omega) rfl)) rfl (fun _ h => h.sel [0, 0, 0, 0, 0, 0] rfl) (by kernel_rfl) ?_
      refine AV.take 10 #[true, true, true, true, true, true, true, true, true, true, true, false, false, false, false, false, false, false, false, false, false, false, false, false, false, false, false] rfl (by kernel_rfl) (by kernel_rfl) (by kernel_rfl) (fun _ _ _ h => h) (gyes rfl) (Step.fieldAddr rfl (F37_0 _ _)) rfl (fun _ h => h.sel [0, 0, 0, 0, 0, 0] rfl) (by kernel_rfl) ?_
      refine AV.take 11 #[true, true, true, true, true, true, true, true, true, true, true, true, false, false, false, false, false, false, false, false, false, false, false, false, false, false, false] rfl (by kernel_rfl) (by kernel_rfl) (by kernel_rfl) (fun _ _ _ h => h) (gyes rfl) (Step.load Try.underlying3 rfl rfl (fun w h => h.cell 5 rfl rfl)) rfl (fun _ h => h.sel [0, 0, 0, 0, 0, 0] rfl) (by kernel_rfl) ?_
      refine AV.take 12 #[true, true, true, true, true, true, true, true, true, true, true, true, true, false, false, false, false, false, false, false, false, false, false, false, false, false, false] rfl (by kernel_rfl) (by kernel_rfl) (by kernel_rfl) (fun _ _ _ h => h) (gyes rfl) (Step.eql rfl rfl) rfl (fun _ h => h.sel [0, 0, 0, 0, 0, 0] rfl) (by kernel_rfl) ?_
      refine AV.take 13 #[true, true, true, true, true, true, true, true, true, true, true, true, true, true, false, false, false, false, false, false, false, false, false, false, false, false, false] rfl (by kernel_rfl) (by kernel_rfl) (by kernel_rfl) (fun _ _ _ h => h) gno (Step.pick_t rfl rfl) rfl (fun _ h => h.sel [0, 0, 0, 0, 0, 0] rfl) (by kernel_rfl) ?_
      refine AV.take 14 #[true, true, true, true, true, true, true, true, true, true, true, true, true, true, true, false, false, false, false, false, false, false, false, false, false, false, false] rfl (by kernel_rfl) (by kernel_rfl) (by kernel_rfl) (fun _ _ _ h => h) gno (Step.move rfl) rfl (fun _ h => h.sel [0, 0, 0, 0, 0, 0] rfl) (by kernel_rfl) ?_
      refine KV.cases 36 rfl (fun cc2 => ?_) (fun cc2 => ?_)
      · -- True
        have e2 := of_decide_eq_true cc2
        refine AV.take 15 #[true, true, true, true, true, true, true, true, true, true, true, true, true, true, true, true, false, false, false, false, false, false, false, false, false, false, false] rfl (by kernel_rfl) (by kernel_rfl) (by kernel_rfl) (fun _ _ _ h => h) (gyes rfl) (Step.move rfl) rfl (fun _ h => h.sel [0, 0, 0, 0, 0, 0] rfl) (by kernel_rfl) ?_
        refine AV.take 16 #[true, true, true, true, true, true, true, true, true, true, true, true, true, true, true, true, true, false, false, false, false, false, false, false, false, false, false] rfl (by kernel_rfl) (by kernel_rfl) (by kernel_rfl) (fun _ _ _ h => h) (gyes rfl) (Step.nilCheck rfl) rfl (fun _ h => h.sel [0, 0, 0, 0, 0, 0] rfl) (by kernel_rfl) ?_
        refine AV.take 17 #[true, true, true, true, true, true, true, true, true, true, true, true, true, true, true, true, true, true, false, false, false, false, false, false, false, false, false] rfl (by kernel_rfl) (by kernel_rfl) (by kernel_rfl) (fun _ _ _ h => h) (gyes rfl) (Step.fieldAddr rfl (F97_1 _ _)) rfl (fun _ h => h.sel [0, 0, 0, 0, 0, 0] rfl) (by kernel_rfl) ?_
        refine AV.take 18 #[true, true, true, true, true, true, true, true, true, true, true, true, true, true, true, true, true, true, true, false, false, false, false, false, false, false, false] rfl (by kernel_rfl) (by kernel_rfl) (by kernel_rfl) (fun _ _ _ h => h) (gyes rfl) (Step.loadN _ Try.underlying32 rfl I32 rfl rfl (fun w h => rngF (h.os 3 rfl) (i := j) (by omega))) rfl (fun _ h => h.sel [0, 0, 0, 0, 0, 0] rfl) (by kernel_rfl) ?_
        refine AV.take 19 #[true, true, true, true, true, true, true, true, true, true, true, true, true, true, true, true, true, true, true, true, false, false, false, false, false, false, false] rfl (by kernel_rfl) (by kernel_rfl) (by kernel_rfl) (fun _ _ _ h => h) (gyes rfl) (Step.fieldAddr rfl (F37_1 _ _)) rfl (fun _ h => h.sel [0, 0, 0, 0, 0, 0] rfl) (by kernel_rfl) ?_
        refine AV.take 20 #[true, true, true, true, true, true, true, true, true, true, true, true, true, true, true, true, true, true, true, true, true, false, false, false, false, false, false] rfl (by kernel_rfl) (by kernel_rfl) (by kernel_rfl) (fun _ _ _ h => h) (gyes rfl) (Step.load Try.underlying22 rfl rfl (fun w h => h.cell 5 rfl rfl)) rfl (fun _ h => h.sel [0, 0, 0, 0, 0, 0] rfl) (by kernel_rfl) ?_
        refine AV.take 21 #[true, true, true, true, true, true, true, true, true, true, true, true, true, true, true, true, true, true, true, true, true, true, false, false, false, false, false] rfl (by kernel_rfl) (by kernel_rfl) (by kernel_rfl) (fun _ _ _ h => h) (gyes rfl) (Step.fieldAddr rfl (F37_2 _ _)) rfl (fun _ h => h.sel [0, 0, 0, 0, 0, 0] rfl) (by kernel_rfl) ?_
        refine AV.take 22 #[true, true, true, true, true, true, true, true, true, true, true, true, true, true, true, true, true, true, true, true, true, true, true, false, false, false, false] rfl (by kernel_rfl) (by kernel_rfl) (by kernel_rfl) (fun _ _ _ h => h) (gyes rfl) (Step.load Try.underlying3 rfl rfl (fun w h => h.cell 5 rfl rfl)) rfl (fun _ h => h.sel [0, 0, 0, 0, 0, 0] rfl) (by kernel_rfl) ?_
        (first | refine AV.take 23 #[true, true, true, true, true, true, true, true, true, true, true, true, true, true, true, true, true, true, true, true, true, true, true, true, false, false, false] rfl (by kernel_rfl) (by kernel_rfl) (by kernel_rfl) (fun _ _ _ h => h) (gyes rfl) (Step.convI Try.underlying3 Try.underlying22 rfl (wU64 (by omega) (by omega))) rfl (fun _ h => h.sel [0, 0, 0, 0, 0, 0] rfl) (by kernel_rfl) ?_ | refine AV.take 23 #[true, true, true, true, true, true, true, true, true, true, true, true, true, true, true, true, true, true, true, true, true, true, true, true, false, false, false] rfl (by kernel_rfl) (by kernel_rfl) (by kernel_rfl) (fun _ _ _ h => h) (gyes rfl) (Step.convI Try.underlying3 Try.underlying22 rfl rfl) rfl (fun _ h => h.sel [0, 0, 0, 0, 0, 0] rfl) (by kernel_rfl) ?_)
        refine AV.take 24 #[true, true, true, true, true, true, true, true, true, true, true, true, true, true, true, true, true, true, true, true, true, true, true, true, true, false, false] rfl (by kernel_rfl) (by kernel_rfl) (by kernel_rfl) (fun _ _ _ h => h) (gyes rfl) (Step.build rfl (Bd32_0_1 _ _)) rfl (fun _ h => h.sel [0, 0, 0, 0, 0, 0] rfl) (by kernel_rfl) ?_
        refine AV.all [25] (by kernel_rfl) (by decide) ?_
        refine ⟨⟨_, rfl, ?_⟩, trivial⟩
        · -- 25 comes up
          refine OV.call [] (F := [_, _, _, _, _, _]) Try.func54 B54 N54 rfl rfl (fun w h => roverlap_fn (b := (s.fl.getD j fltK.d).base) (l := (s.fl.getD j fltK.d).len) (b2 := a.addr) (l2 := a.width) hfr.1 hu) (fun _ hb => hb.elim) (gyes rfl) rfl (fun v L' hp => ?_)
          obtain ⟨rfl, rfl⟩ := hp
          simp only [List.append_nil]
          refine AV.next #[true, true, true, true, true, true, true, true, true, true, true, true, true, true, true, true, true, true, true, true, true, true, true, true, true, true, false] (by kernel_rfl) (fun _ h => h.sel [0, 0, 0, 0, 0, 0] rfl) ?_
          refine AV.take 26 #[true, true, true, true, true, true, true, true, true, true, true, true, true, true, true, true, true, true, true, true, true, true, true, true, true, true, true] rfl (by kernel_rfl) (by kernel_rfl) (by kernel_rfl) (fun _ _ _ h => h) gno (Step.pick_t rfl rfl) rfl (fun _ h => h.sel [0, 0, 0, 0, 0, 0] rfl) (by kernel_rfl) ?_
          refine AV.done (by kernel_rfl) ?_
          refine KV.then_n ?_
          refine KV.env [(0, _), (3, _), (5, _), (6, _), (48, _)] ⟨rfl, rfl, rfl, rfl, rfl, trivial⟩ ?_
          refine KV.cases 48 rfl (fun cc3 => ?_) (fun cc3 => ?_)
          · -- True
            have e3 := of_decide_eq_true cc3
            refine CV.cond_t rfl ?_
            refine CV.seq ?_
            -- region 6 iospace.go:134
            refine CV.region ?_
            refine RV.op (OV.step gno (Step.move rfl) rfl ?_)
            refine RV.op (OV.step gno (Step.nilCheck rfl) rfl ?_)
            refine RV.op (OV.step gno (Step.fieldAddr rfl (F97_2 _ _)) rfl ?_)
            refine RV.op (OV.step gno (Step.load Try.underlying3 rfl rfl (fun w h => (h.os 3 rfl).cell (j := 3) (by omega) rfl)) rfl ?_)
            (first | refine RV.op (OV.step gno (Step.sub rfl rfl (wI64 (by omega) (by omega))) rfl ?_) | refine RV.op (OV.step gno (Step.sub rfl rfl rfl) rfl ?_))
            refine RV.op (OV.step gno (Step.nilCheck rfl) rfl ?_)
            refine RV.op (OV.step gno (Step.fieldAddr rfl (F97_2 _ _)) rfl ?_)
            refine RV.op (OV.storeE 3 (j) ({ (s.fl.getD j fltK.d) with cnt := (s.fl.getD j fltK.d).cnt - 1 }) (j := 3) [_] I3 rfl rfl rfl rfl rfl rfl (by omega) rfl (Nat.le_of_ble_eq_true rfl) gno ?_)
            refine RV.nil ?_
            refine KV.then_n ?_
            refine KV.env [] trivial ?_
            refine CV.seq ?_
            -- region 7 iospace.go:135
            refine CV.region ?_
            refine RV.op (OV.step gno (Step.assign rfl) rfl ?_)
            refine RV.nil ?_
            refine KV.then_n ?_
            refine KV.env [(4, _)] ⟨rfl, trivial⟩ ?_
            refine CV.ret ?_
            refine KV.block_ret ?_
            refine KV.then_ret ?_
            refine KV.then_ret ?_
            refine KV.block_ret ?_
            refine KV.then_ret ?_
            -- return at r7
            refine KV.sel [0, 0, 0, 0, 0] [_, _, _, _, _] rfl ?_
            exact KV.ret1 rfl rfl _ (fun _ h => h) (.inl ⟨j, by omega, ⟨e1, e2, e3⟩, hinv.2, rfl, (rbL_decF b s j).symm⟩)
          · -- False
            have e3 := of_decide_eq_false cc3
            refine CV.cond_f rfl ?_
            refine CV.skip ?_
            refine KV.block_n ?_
            refine KV.then_n ?_
            refine KV.env [(0, _), (3, _), (5, _)] ⟨rfl, rfl, rfl, trivial⟩ ?_
            -- region 3 iospace.go:131
            refine CV.region ?_
            refine RV.op (OV.step gno (Step.move rfl) rfl ?_)
            (first | refine RV.op (OV.step gno (Step.add rfl rfl (wI64 (by omega) (by omega))) rfl ?_) | refine RV.op (OV.step gno (Step.add rfl rfl rfl) rfl ?_))
            refine RV.op (OV.step gno (Step.assign rfl) rfl ?_)
            refine RV.nil ?_
            refine KV.then_n ?_
            refine KV.env [(0, _), (3, _), (5, _)] ⟨rfl, rfl, rfl, trivial⟩ ?_
            refine KV.sel [0, 0, 0, 0, 0, 0] [_, _, _, _, _, _] rfl ?_
            have hnh : ¬ hitG (s.fl.getD j fltK.d) a := fun k => by have k1 := k.1; have k2 := k.2.1; first | exact e3 k.2.2 | exact e2 k2 | omega
            exact KV.loopI (z := j) (j + 1) ⟨by omega, fun i hi => by by_cases e : i = j; (subst e; exact hnh); exact hinv.2 i (by omega)⟩ (by omega) ⟨rfl, rfl, rfl, trivial⟩ (fun _ h => h)
      · -- False
        have e2 := of_decide_eq_false cc2
        refine AV.takeSkip 15 #[true, true, true, true, true, true, true, true, true, true, true, true, true, true, true, true, false, false, false, false, false, false, false, false, false, false, false] rfl (by kernel_rfl) (by kernel_rfl) (by kernel_rfl) (fun _ _ _ h => h) rfl rfl (fun _ h => h.sel [0, 0, 0, 0, 0, 0] rfl) (by kernel_rfl) ?_
        refine AV.takeSkip 16 #[true, true, true, true, true, true, true, true, true, true, true, true, true, true, true, true, true, false, false, false, false, false, false, false, false, false, false] rfl (by kernel_rfl) (by kernel_rfl) (by kernel_rfl) (fun _ _ _ h => h) rfl rfl (fun _ h => h.sel [0, 0, 0, 0, 0, 0] rfl) (by kernel_rfl) ?_
        refine AV.takeSkip 17 #[true, true, true, true, true, true, true, true, true, true, true, true, true, true, true, true, true, true, false, false, false, false, false, false, false, false, false] rfl (by kernel_rfl) (by kernel_rfl) (by kernel_rfl) (fun _ _ _ h => h) rfl rfl (fun _ h => h.sel [0, 0, 0, 0, 0, 0] rfl) (by kernel_rfl) ?_
        refine AV.takeSkip 18 #[true, true, true, true, true, true, true, true, true, true, true, true, true, true, true, true, true, true, true, false, false, false, false, false, false, false, false] rfl (by kernel_rfl) (by kernel_rfl) (by kernel_rfl) (fun _ _ _ h => h) rfl rfl (fun _ h => h.sel [0, 0, 0, 0, 0, 0] rfl) (by kernel_rfl) ?_
        refine AV.takeSkip 19 #[true, true, true, true, true, true, true, true, true, true, true, true, true, true, true, true, true, true, true, true, false, false, false, false, false, false, false] rfl (by kernel_rfl) (by kernel_rfl) (by kernel_rfl) (fun _ _ _ h => h) rfl rfl (fun _ h => h.sel [0, 0, 0, 0, 0, 0] rfl) (by kernel_rfl) ?_
        refine AV.takeSkip 20 #[true, true, true, true, true, true, true, true, true, true, true, true, true, true, true, true, true, true, true, true, true, false, false, false, false, false, false] rfl (by kernel_rfl) (by kernel_rfl) (by kernel_rfl) (fun _ _ _ h => h) rfl rfl (fun _ h => h.sel [0, 0, 0, 0, 0, 0] rfl) (by kernel_rfl) ?_
        refine AV.takeSkip 21 #[true, true, true, true, true, true, true, true, true, true, true, true, true, true, true, true, true, true, true, true, true, true, false, false, false, false, false] rfl (by kernel_rfl) (by kernel_rfl) (by kernel_rfl) (fun _ _ _ h => h) rfl rfl (fun _ h => h.sel [0, 0, 0, 0, 0, 0] rfl) (by kernel_rfl) ?_
        refine AV.takeSkip 22 #[true, true, true, true, true, true, true, true, true, true, true, true, true, true, true, true, true, true, true, true, true, true, true, false, false, false, false] rfl (by kernel_rfl) (by kernel_rfl) (by kernel_rfl) (fun _ _ _ h => h) rfl rfl (fun _ h => h.sel [0, 0, 0, 0, 0, 0] rfl) (by kernel_rfl) ?_
        refine AV.takeSkip 23 #[true, true, true, true, true, true, true, true, true, true, true, true, true, true, true, true, true, true, true, true, true, true, true, true, false, false, false] rfl (by kernel_rfl) (by kernel_rfl) (by kernel_rfl) (fun _ _ _ h => h) rfl rfl (fun _ h => h.sel [0, 0, 0, 0, 0, 0] rfl) (by kernel_rfl) ?_
        refine AV.takeSkip 24 #[true, true, true, true, true, true, true, true, true, true, true, true, true, true, true, true, true, true, true, true, true, true, true, true, true, false, false] rfl (by kernel_rfl) (by kernel_rfl) (by kernel_rfl) (fun _ _ _ h => h) rfl rfl (fun _ h => h.sel [0, 0, 0, 0, 0, 0] rfl) (by kernel_rfl) ?_
        refine AV.takeSkip 25 #[true, true, true, true, true, true, true, true, true, true, true, true, true, true, true, true, true, true, true, true, true, true, true, true, true, true, false] rfl (by kernel_rfl) (by kernel_rfl) (by kernel_rfl) (fun _ _ _ h => h) rfl rfl (fun _ h => h.sel [0, 0, 0, 0, 0, 0] rfl) (by kernel_rfl) ?_
        refine AV.take 26 #[true, true, true, true, true, true, true, true, true, true, true, true, true, true, true, true, true, true, true, true, true, true, true, true, true, true, true] rfl (by kernel_rfl) (by kernel_rfl) (by kernel_rfl) (fun _ _ _ h => h) gno (Step.pick_f rfl rfl) rfl (fun _ h => h.sel [0, 0, 0, 0, 0, 0] rfl) (by kernel_rfl) ?_
        refine AV.done (by kernel_rfl) ?_
        refine KV.then_n ?_
        refine KV.env [(0, _), (3, _), (5, _), (6, _), (48, _)] ⟨rfl, rfl, rfl, rfl, rfl, trivial⟩ ?_
        refine CV.cond_f rfl ?_
        refine CV.skip ?_
        refine KV.block_n ?_
        refine KV.then_n ?_
        refine KV.env [(0, _), (3, _), (5, _)] ⟨rfl, rfl, rfl, trivial⟩ ?_
        -- region 3 iospace.go:131
        refine CV.region ?_
        refine RV.op (OV.step gno (Step.move rfl) rfl ?_)
        (first | refine RV.op (OV.step gno (Step.add rfl rfl (wI64 (by omega) (by omega))) rfl ?_) | refine RV.op (OV.step gno (Step.add rfl rfl rfl) rfl ?_))
        refine RV.op (OV.step gno (Step.assign rfl) rfl ?_)
        refine RV.nil ?_
        refine KV.then_n ?_
        refine KV.env [(0, _), (3, _), (5, _)] ⟨rfl, rfl, rfl, trivial⟩ ?_
        refine KV.sel [0, 0, 0, 0, 0, 0] [_, _, _, _, _, _] rfl ?_
        have hnh : ¬ hitG (s.fl.getD j fltK.d) a := fun k => by have k1 := k.1; have k2 := k.2.1; first | exact e3 k.2.2 | exact e2 k2 | omega
        exact KV.loopI (z := j) (j + 1) ⟨by omega, fun i hi => by by_cases e : i = j; (subst e; exact hnh); exact hinv.2 i (by omega)⟩ (by omega) ⟨rfl, rfl, rfl, trivial⟩ (fun _ h => h)
    · -- False
      have e1 := of_decide_eq_false cc1
      refine AV.takeSkip 6 #[true, true, true, true, true, true, true, false, false, false, false, false, false, false, false, false, false, false, false, false, false, false, false, false, false, false, false] rfl (by kernel_rfl) (by kernel_rfl) (by kernel_rfl) (fun _ _ _ h => h) rfl rfl (fun _ h => h.sel [0, 0, 0, 0, 0, 0] rfl) (by kernel_rfl) ?_
      refine AV.takeSkip 7 #[true, true, true, true, true, true, true, true, false, false, false, false, false, false, false, false, false, false, false, false, false, false, false, false, false, false, false] rfl (by kernel_rfl) (by kernel_rfl) (by kernel_rfl) (fun _ _ _ h => h) rfl rfl (fun _ h => h.sel [0, 0, 0, 0, 0, 0] rfl) (by kernel_rfl) ?_
      refine AV.takeSkip 8 #[true, true, true, true, true, true, true, true, true, false, false, false, false, false, false, false, false, false, false, false, false, false, false, false, false, false, false] rfl (by kernel_rfl) (by kernel_rfl) (by kernel_rfl) (fun _ _ _ h => h) rfl rfl (fun _ h => h.sel [0, 0, 0, 0, 0, 0] rfl) (by kernel_rfl) ?_
      refine AV.takeSkip 9 #[true, true, true, true, true, true, true, true, true, true, false, false, false, false, false, false, false, false, false, false, false, false, false, false, false, false, false] rfl (by kernel_rfl) (by kernel_rfl) (by kernel_rfl) (fun _ _ _ h => h) rfl rfl (fun _ h => h.sel [0, 0, 0, 0, 0, 0] rfl) (by kernel_rfl) ?_
      refine AV.takeSkip 10 #[true, true, true, true, true, true, true, true, true, true, true, false, false, false, false, false, false, false, false, false, false, false, false, false, false, false, false] rfl (by kernel_rfl) (by kernel_rfl) (by kernel_rfl) (fun _ _ _ h => h) rfl rfl (fun _ h => h.sel [0, 0, 0, 0, 0, 0] rfl) (by kernel_rfl) ?_
      refine AV.takeSkip 11 #[true, true, true, true, true, true, true, true, true, true, true, true, false, false, false, false, false, false, false, false, false, false, false, false, false, false, false] rfl (by kernel_rfl) (by kernel_rfl) (by kernel_rfl) (fun _ _ _ h => h) rfl rfl (fun _ h => h.sel [0, 0, 0, 0, 0, 0] rfl) (by kernel_rfl) ?_
      refine AV.takeSkip 12 #[true, true, true, true, true, true, true, true, true, true, true, true, true, false, false, false, false, false, false, false, false, false, false, false, false, false, false] rfl (by kernel_rfl) (by kernel_rfl) (by kernel_rfl) (fun _ _ _ h => h) rfl rfl (fun _ h => h.sel [0, 0, 0, 0, 0, 0] rfl) (by kernel_rfl) ?_
      refine AV.take 13 #[true, true, true, true, true, true, true, true, true, true, true, true, true, true, false, false, false, false, false, false, false, false, false, false, false, false, false] rfl (by kernel_rfl) (by kernel_rfl) (by kernel_rfl) (fun _ _ _ h => h) gno (Step.pick_f rfl rfl) rfl (fun _ h => h.sel [0, 0, 0, 0, 0, 0] rfl) (by kernel_rfl) ?_
      refine AV.take 14 #[true, true, true, true, true, true, true, true, true, true, true, true, true, true, true, false, false, false, false, false, false, false, false, false, false, false, false] rfl (by kernel_rfl) (by kernel_rfl) (by kernel_rfl) (fun _ _ _ h => h) gno (Step.move rfl) rfl (fun _ h => h.sel [0, 0, 0, 0, 0, 0] rfl) (by kernel_rfl) ?_
      refine AV.takeSkip 15 #[true, true, true, true, true, true, true, true, true, true, true, true, true, true, true, true, false, false, false, false, false, false, false, false, false, false, false] rfl (by kernel_rfl) (by kernel_rfl) (by kernel_rfl) (fun _ _ _ h => h) rfl rfl (fun _ h => h.sel [0, 0, 0, 0, 0, 0] rfl) (by kernel_rfl) ?_
      refine AV.takeSkip 16 #[true, true, true, true, true, true, true, true, true, true, true, true, true, true, true, true, true, false, false, false, false, false, false, false, false, false, false] rfl (by kernel_rfl) (by kernel_rfl) (by kernel_rfl) (fun _ _ _ h => h) rfl rfl (fun _ h => h.sel [0, 0, 0, 0, 0, 0] rfl) (by kernel_rfl) ?_
      refine AV.takeSkip 17 #[true, true, true, true, true, true, true, true, true, true, true, true, true, true, true, true, true, true, false, false, false, false, false, false, false, false, false] rfl (by kernel_rfl) (by kernel_rfl) (by kernel_rfl) (fun _ _ _ h => h) rfl rfl (fun _ h => h.sel [0, 0, 0, 0, 0, 0] rfl) (by kernel_rfl) ?_
      refine AV.takeSkip 18 #[true, true, true, true, true, true, true, true, true, true, true, true, true, true, true, true, true, true, true, false, false, false, false, false, false, false, false] rfl (by kernel_rfl) (by kernel_rfl) (by kernel_rfl) (fun _ _ _ h => h) rfl rfl (fun _ h => h.sel [0, 0, 0, 0, 0, 0] rfl) (by kernel_rfl) ?_
      refine AV.takeSkip 19 #[true, true, true, true, true, true, true, true, true, true, true, true, true, true, true, true, true, true, true, true, false, false, false, false, false, false, false] rfl (by kernel_rfl) (by kernel_rfl) (by kernel_rfl) (fun _ _ _ h => h) rfl rfl (fun _ h => h.sel [0, 0, 0, 0, 0, 0] rfl) (by kernel_rfl) ?_
      refine AV.takeSkip 20 #[true, true, true, true, true, true, true, true, true, true, true, true, true, true, true, true, true, true, true, true, true, false, false, false, false, false, false] rfl (by kernel_rfl) (by kernel_rfl) (by kernel_rfl) (fun _ _ _ h => h) rfl rfl (fun _ h => h.sel [0, 0, 0, 0, 0, 0] rfl) (by kernel_rfl) ?_
      refine AV.takeSkip 21 #[true, true, true, true, true, true, true, true, true, true, true, true, true, true, true, true, true, true, true, true, true, true, false, false, false, false, false] rfl (by kernel_rfl) (by kernel_rfl) (by kernel_rfl) (fun _ _ _ h => h) rfl rfl (fun _ h => h.sel [0, 0, 0, 0, 0, 0] rfl) (by kernel_rfl) ?_
      refine AV.takeSkip 22 #[true, true, true, true, true, true, true, true, true, true, true, true, true, true, true, true, true, true, true, true, true, true, true, false, false, false, false] rfl (by kernel_rfl) (by kernel_rfl) (by kernel_rfl) (fun _ _ _ h => h) rfl rfl (fun _ h => h.sel [0, 0, 0, 0, 0, 0] rfl) (by kernel_rfl) ?_
      refine AV.takeSkip 23 #[true, true, true, true, true, true, true, true, true, true, true, true, true, true, true, true, true, true, true, true, true, true, true, true, false, false, false] rfl (by kernel_rfl) (by kernel_rfl) (by kernel_rfl) (fun _ _ _ h => h) rfl rfl (fun _ h => h.sel [0, 0, 0, 0, 0, 0] rfl) (by kernel_rfl) ?_
      refine AV.takeSkip 24 #[true, true, true, true, true, true, true, true, true, true, true, true, true, true, true, true, true, true, true, true, true, true, true, true, true, false, false] rfl (by kernel_rfl) (by kernel_rfl) (by kernel_rfl) (fun _ _ _ h => h) rfl rfl (fun _ h => h.sel [0, 0, 0, 0, 0, 0] rfl) (by kernel_rfl) ?_
      refine AV.takeSkip 25 #[true, true, true, true, true, true, true, true, true, true, true, true, true, true, true, true, true, true, true, true, true, true, true, true, true, true, false] rfl (by kernel_rfl) (by kernel_rfl) (by kernel_rfl) (fun _ _ _ h => h) rfl rfl (fun _ h => h.sel [0, 0, 0, 0, 0, 0] rfl) (by kernel_rfl) ?_
      refine AV.take 26 #[true, true, true, true, true, true, true, true, true, true, true, true, true, true, true, true, true, true, true, true, true, true, true, true, true, true, true] rfl (by kernel_rfl) (by kernel_rfl) (by kernel_rfl) (fun _ _ _ h => h) gno (Step.pick_f rfl rfl) rfl (fun _ h => h.sel [0, 0, 0, 0, 0, 0] rfl) (by kernel_rfl) ?_
      refine AV.done (by kernel_rfl) ?_
      refine KV.then_n ?_
      refine KV.env [(0, _), (3, _), (5, _), (6, _), (48, _)] ⟨rfl, rfl, rfl, rfl, rfl, trivial⟩ ?_
      refine CV.cond_f rfl ?_
      refine CV.skip ?_
      refine KV.block_n ?_
      refine KV.then_n ?_
      refine KV.env [(0, _), (3, _), (5, _)] ⟨rfl, rfl, rfl, trivial⟩ ?_
      -- region 3 iospace.go:131
      refine CV.region ?_
      refine RV.op (OV.step gno (Step.move rfl) rfl ?_)
      (first | refine RV.op (OV.step gno (Step.add rfl rfl (wI64 (by omega) (by omega))) rfl ?_) | refine RV.op (OV.step gno (Step.add rfl rfl rfl) rfl ?_))
      refine RV.op (OV.step gno (Step.assign rfl) rfl ?_)
      refine RV.nil ?_
      refine KV.then_n ?_
      refine KV.env [(0, _), (3, _), (5, _)] ⟨rfl, rfl, rfl, trivial⟩ ?_
      refine KV.sel [0, 0, 0, 0, 0, 0] [_, _, _, _, _, _] rfl ?_
      have hnh : ¬ hitG (s.fl.getD j fltK.d) a := fun k => by have k1 := k.1; have k2 := k.2.1; first | exact e3 k.2.2 | exact e2 k2 | omega
      exact KV.loopI (z := j) (j + 1) ⟨by omega, fun i hi => by by_cases e : i = j; (subst e; exact hnh); exact hinv.2 i (by omega)⟩ (by omega) ⟨rfl, rfl, rfl, trivial⟩ (fun _ h => h)
  · -- False
    refine RV.nil ?_
    refine KV.then_n ?_
    refine KV.env [(0, _), (3, _), (5, _), (13, _)] ⟨rfl, rfl, rfl, rfl, trivial⟩ ?_
    refine CV.cond_f rfl ?_
    refine CV.exit ?_
    refine KV.then_exit ?_
    refine KV.then_exit ?_
    refine KV.block_hit ?_
    refine KV.then_n ?_
    refine KV.env [] trivial ?_
    refine CV.seq ?_
    -- region 8 iospace.go:138
    refine CV.region ?_
    refine RV.op (OV.step gno (Step.assign rfl) rfl ?_)
    refine RV.nil ?_
    refine KV.then_n ?_
    refine KV.env [(4, _)] ⟨rfl, trivial⟩ ?_
    refine CV.ret ?_
    -- return at r8
    refine KV.sel [0, 0, 0, 0, 0] [_, _, _, _, _] rfl ?_
    exact KV.ret1 rfl rfl _ (fun _ h => h) (.inr ⟨fun k hk => hinv.2 k (by omega), rfl, rfl⟩)
end Go.Proofs.Ythdpojggdodpfaa
