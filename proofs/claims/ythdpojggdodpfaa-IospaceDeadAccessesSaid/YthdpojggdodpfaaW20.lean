/-
  Walks, part 20.
-/
import Derived.Test.YthdpojggdodpfaaTabs
import Derived.Test.YthdpojggdodpfaaW17
import Derived.Test.YthdpojggdodpfaaW19
import Derived.Test.YthdpojggdodpfaaRmA
set_option linter.unusedSimpArgs false
set_option linter.unusedVariables false
namespace Go.Proofs.Ythdpojggdodpfaa
open Go.Sv Go.Ios
theorem rfail2_fn (b : Nat) (s : RB) {w : World} (hk : s.ok) (a : Acs) (ha : wfA a) (hu : isU a.addr) : Fx Try.prog 58 [.pointer (some ⟨b, 0, none⟩), .agg #[.int .i64 a.space, .int .u64 a.addr, .int .i64 a.width, .bool a.wr, .int .u64 a.val]] w (rbL b s) no (fun v L => ∃ f s2, v = .bool f ∧ L = rbL b s2 ∧ RFx s a f s2) :=
  (rfail_fn b s hk a ha hu).mono fun v L hp => by
    rcases hp with ⟨j, h1, h2, h3, h4, h5⟩ | ⟨h1, h2, h3⟩
    · exact ⟨true, _, h4, h5, ⟨fun _ => ⟨j, h1, h2, h3, rfl⟩, fun k => by cases k⟩⟩
    · exact ⟨false, _, h2, h3, ⟨fun k => (by cases k), fun _ => ⟨h1, rfl⟩⟩⟩

set_option maxRecDepth 100000 in
set_option maxHeartbeats 1000000 in
theorem rones_fn (x : Int) (h : isW x) : FxP Try.prog 14 [.int .i64 x] (.int .u64 (onesM x)) := by
  refine Sv.FxP.body Try.func14 rfl T14 rfl ?_
  intro wp
  refine KV.env [(0, _)] ⟨rfl, trivial⟩ ?_
  have h1 : 1 ≤ x ∧ x ≤ 8 := by unfold isW at h; omega
  refine CV.seq ?_
  -- region 0 iospace.go:122
  refine CV.region ?_
  refine RV.op (OV.step gno (Step.assign rfl) rfl ?_)
  refine RV.nil ?_
  refine KV.then_n ?_
  refine KV.env [(0, _)] ⟨rfl, trivial⟩ ?_
  refine CV.seq ?_
  -- region 1 iospace.go:122
  refine CV.region ?_
  refine RV.op (OV.step gno (Step.move rfl) rfl ?_)
  (first | refine RV.op (OV.step gno (Step.mul rfl rfl (wI64 (by omega) (by omega))) rfl ?_) | refine RV.op (OV.step gno (Step.mul rfl rfl rfl) rfl ?_))
  (first | refine RV.op (OV.step gno (Step.sub rfl rfl (wI64 (by omega) (by omega))) rfl ?_) | refine RV.op (OV.step gno (Step.sub rfl rfl rfl) rfl ?_))
  (first | refine RV.op (OV.step gno (Step.convI Try.underlying3 Try.underlying72 rfl (wU64 (by omega) (by omega))) rfl ?_) | refine RV.op (OV.step gno (Step.convI Try.underlying3 Try.underlying72 rfl rfl) rfl ?_))
  refine RV.op (OV.step gno (Step.shr rfl rfl (by omega) (onesB h)) rfl ?_)
  refine RV.op (OV.step gno (Step.assign rfl) rfl ?_)
  refine RV.nil ?_
  refine KV.then_n ?_
  refine KV.env [(2, _)] ⟨rfl, trivial⟩ ?_
  refine CV.ret ?_
  -- return at r1
  exact KV.retP1 rfl rfl rfl

set_option maxRecDepth 100000 in
set_option maxHeartbeats 8000000 in
theorem raccess_fn (b : Nat) (s : RB) {w : World} (hk : s.ok) (a : Acs) (hua : isU a.addr) (huv : isU a.val) : Fx Try.prog 42 [.pointer (some ⟨b, 0, none⟩), .agg #[.int .i64 a.space, .int .u64 a.addr, .int .i64 a.width, .bool a.wr, .int .u64 a.val]] w (rbL b s) no (fun v L => (¬ wfA a → v = .tuple #[.int .u64 0, .int .i64 1] ∧ L = rbL b s) ∧ (wfA a → (65536 ≤ s.tr.length → v = .tuple #[.int .u64 0, .int .i64 8] ∧ L = rbL b s) ∧ (¬ 65536 ≤ s.tr.length → ∃ s2 x lv fl A c, RAx s a s2 x lv fl ∧ v = .tuple #[.int .u64 (if fl = true then 0 else if a.wr = true then 0 else x), .int .i64 (if fl = true then 15 else 0)] ∧ L = rbL b (rtr s2 ⟨{ a with val := x }, ownR s.ms a.space a.addr, lv, fl⟩ A c)))) := by
  refine Sv.Fx.body Try.func42 rfl T42 rfl ?_
  intro I hro hI
  refine KV.env [(0, _), (1, _)] ⟨rfl, rfl, trivial⟩ ?_
  have hw := hk.en
  have hmx := hk.max
  have hfx := hk.fl
  refine CV.seq ?_
  -- region 0 iospace.go:142
  refine CV.region ?_
  refine RV.op (OV.box (t := 37) #[_, _, _, _, _] rfl rfl gno rfl (fun bx => ?_))
  refine RV.op (OV.step gno (Step.assign rfl) rfl ?_)
  refine RV.op (OV.step gno (Step.assign rfl) rfl ?_)
  refine RV.nil ?_
  refine KV.then_n ?_
  refine KV.env [(0, _), (3, _)] ⟨rfl, rfl, trivial⟩ ?_
  refine CV.seq ?_
  refine CV.seq ?_
  -- region 1 iospace.go:143
  refine CV.region ?_
  refine RV.op (OV.step gno (Step.loadN _ Try.underlying37 rfl I37 rfl rfl (fun w h => h.cells 5 rfl)) rfl ?_)
  refine RV.op (OV.call [] (F := [_, _, _, _, _, _]) Try.func57 B57 N57 rfl rfl (fun w h => rwell_fn a hua) (fun _ hb => hb.elim) gno rfl (fun v L' hp => ?_))
  obtain ⟨rfl, rfl⟩ := hp
  simp only [List.append_nil]
  by_cases hwf : wfA a
  · rw [decide_eq_true hwf]
    refine RV.op (OV.step gno (Step.not rfl) rfl ?_)
    refine RV.nil ?_
    refine KV.then_n ?_
    refine KV.env [(0, _), (3, _), (13, _)] ⟨rfl, rfl, rfl, trivial⟩ ?_
    refine CV.cond_f rfl ?_
    refine CV.skip ?_
    refine KV.then_n ?_
    refine KV.env [(0, _), (3, _)] ⟨rfl, rfl, trivial⟩ ?_
    refine CV.seq ?_
    refine CV.seq ?_
    -- region 3 iospace.go:146
    have hrg := wfA_rng hwf hua
    unfold okR at hrg
    have hW1 : 1 ≤ a.width ∧ a.width ≤ 8 := by have := hwf.1; unfold isW at this; omega
    have hua2 := hua
    unfold isU at hua2
    have hx2 : isU (a.addr + (a.width - 1)) := by unfold isU; omega
    refine CV.region ?_
    refine RV.op (OV.step gno (Step.move rfl) rfl ?_)
    refine RV.op (OV.step gno (Step.nilCheck rfl) rfl ?_)
    refine RV.op (OV.step gno (Step.fieldAddr rfl (F56_3 _ _)) rfl ?_)
    refine RV.op (OV.step gno (Step.load Try.underlying54 rfl rfl (fun w h => h.cell 0 rfl (rbC_t hw))) rfl ?_)
    refine RV.op (OV.step gno (Step.lenSl Try.underlying54 rfl) rfl ?_)
    refine RV.op (OV.split gno (Step.geq rfl rfl) rfl (fun hfull => ?_) (fun hfull => ?_))
    · -- True
      refine RV.nil ?_
      refine KV.then_n ?_
      refine KV.env [(0, _), (3, _), (19, _)] ⟨rfl, rfl, rfl, trivial⟩ ?_
      refine CV.cond_t rfl ?_
      refine CV.seq ?_
      -- region 4 iospace.go:147
      refine CV.region ?_
      refine RV.op (OV.step gno (Step.assign rfl) rfl ?_)
      refine RV.op (OV.step gno (Step.assign rfl) rfl ?_)
      refine RV.nil ?_
      refine KV.then_n ?_
      refine KV.env [(4, _), (5, _)] ⟨rfl, rfl, trivial⟩ ?_
      refine CV.ret ?_
      refine KV.then_ret ?_
      -- return at r4
      refine KV.sel [0, 0, 0, 0, 0] [_, _, _, _, _] rfl ?_
      exact KV.ret2 rfl rfl rfl _ (fun _ h => h) ⟨fun h => absurd hwf h, fun _ => ⟨fun _ => ⟨rfl, rfl⟩, fun h => absurd (by omega) h⟩⟩
    · -- False
      refine RV.nil ?_
      refine KV.then_n ?_
      refine KV.env [(0, _), (3, _), (19, _)] ⟨rfl, rfl, rfl, trivial⟩ ?_
      refine CV.cond_f rfl ?_
      refine CV.skip ?_
      refine KV.then_n ?_
      refine KV.env [(0, _), (3, _)] ⟨rfl, rfl, trivial⟩ ?_
      refine CV.seq ?_
      -- region 5 iospace.go:149
      refine CV.stillTail 7 (by kernel_rfl) (by kernel_rfl) (fun _ h => h.drew) ?_
      refine SV.step gno (Step.fieldAddr rfl (F37_4 _ _)) rfl ?_
      refine SV.step gno (Step.load Try.underlying22 rfl rfl (fun w h => h.cell 5 rfl rfl)) rfl ?_
      refine SV.step gno (Step.fieldAddr rfl (F37_2 _ _)) rfl ?_
      refine SV.step gno (Step.load Try.underlying3 rfl rfl (fun w h => h.cell 5 rfl rfl)) rfl ?_
      refine SV.call Try.func14 B14 N14 rfl (rones_fn a.width hwf.1) gno rfl ?_
      refine SV.step gno (Step.band rfl rfl (andOnes huv hwf.1)) rfl ?_
      refine SV.step gno (Step.fieldAddr rfl (F37_4 _ _)) rfl ?_
      refine SV.nil ?_
      show KV _ (wpList _ _ _ _) _ _
      refine RV.op (OV.store 5 [_] #[_, _, _, _, _] I22 rfl rfl rfl rfl rfl (Nat.le_of_ble_eq_true rfl) (by simp [Value.oneCell']) rfl gno ?_)
      refine RV.nil ?_
      refine KV.then_n ?_
      refine KV.env [(0, _), (3, _)] ⟨rfl, rfl, trivial⟩ ?_
      refine CV.seq ?_
      -- region 6 iospace.go:150
      refine KV.sel [0, 0, 0, 0, 0, 0] [_, _, _, _, _, _] rfl ?_
      refine CV.any (Hp I w (rbL b s ++ [Blk bx (.cells #[.int .i64 a.space, .int .u64 a.addr, .int .i64 a.width, .bool a.wr, .int .u64 (mskV a)] 37 (0, 0))])) (by kernel_rfl) (fun _ h => h.drew) 19 rfl ?_
      refine AV.take 0 #[true, false, false, false, false, false, false, false, false, false, false, false, false, false, false, false, false, false, false] rfl (by kernel_rfl) (by kernel_rfl) (by kernel_rfl) (fun _ _ _ h => h) gno (Step.move rfl) rfl (fun _ h => h) (by kernel_rfl) ?_
      refine AV.take 1 #[true, true, false, false, false, false, false, false, false, false, false, false, false, false, false, false, false, false, false] rfl (by kernel_rfl) (by kernel_rfl) (by kernel_rfl) (fun _ _ _ h => h) gno (Step.fieldAddr rfl (F37_0 _ _)) rfl (fun _ h => h) (by kernel_rfl) ?_
      refine AV.take 2 #[true, true, true, false, false, false, false, false, false, false, false, false, false, false, false, false, false, false, false] rfl (by kernel_rfl) (by kernel_rfl) (by kernel_rfl) (fun _ _ _ h => h) gno (Step.load Try.underlying3 rfl rfl (fun w h => h.cell 5 rfl rfl)) rfl (fun _ h => h) (by kernel_rfl) ?_
      refine AV.take 3 #[true, true, true, true, false, false, false, false, false, false, false, false, false, false, false, false, false, false, false] rfl (by kernel_rfl) (by kernel_rfl) (by kernel_rfl) (fun _ _ _ h => h) gno (Step.fieldAddr rfl (F37_1 _ _)) rfl (fun _ h => h) (by kernel_rfl) ?_
      refine AV.take 4 #[true, true, true, true, true, false, false, false, false, false, false, false, false, false, false, false, false, false, false] rfl (by kernel_rfl) (by kernel_rfl) (by kernel_rfl) (fun _ _ _ h => h) gno (Step.load Try.underlying22 rfl rfl (fun w h => h.cell 5 rfl rfl)) rfl (fun _ h => h) (by kernel_rfl) ?_
      refine AV.take 6 #[true, true, true, true, true, false, true, false, false, false, false, false, false, false, false, false, false, false, false] rfl (by kernel_rfl) (by kernel_rfl) (by kernel_rfl) (fun _ _ _ h => h) gno (Step.move rfl) rfl (fun _ h => h) (by kernel_rfl) ?_
      refine AV.take 7 #[true, true, true, true, true, false, true, true, false, false, false, false, false, false, false, false, false, false, false] rfl (by kernel_rfl) (by kernel_rfl) (by kernel_rfl) (fun _ _ _ h => h) gno (Step.fieldAddr rfl (F37_0 _ _)) rfl (fun _ h => h) (by kernel_rfl) ?_
      refine AV.take 8 #[true, true, true, true, true, false, true, true, true, false, false, false, false, false, false, false, false, false, false] rfl (by kernel_rfl) (by kernel_rfl) (by kernel_rfl) (fun _ _ _ h => h) gno (Step.load Try.underlying3 rfl rfl (fun w h => h.cell 5 rfl rfl)) rfl (fun _ h => h) (by kernel_rfl) ?_
      refine AV.take 9 #[true, true, true, true, true, false, true, true, true, true, false, false, false, false, false, false, false, false, false] rfl (by kernel_rfl) (by kernel_rfl) (by kernel_rfl) (fun _ _ _ h => h) gno (Step.fieldAddr rfl (F37_1 _ _)) rfl (fun _ h => h) (by kernel_rfl) ?_
      refine AV.take 10 #[true, true, true, true, true, false, true, true, true, true, true, false, false, false, false, false, false, false, false] rfl (by kernel_rfl) (by kernel_rfl) (by kernel_rfl) (fun _ _ _ h => h) gno (Step.load Try.underlying22 rfl rfl (fun w h => h.cell 5 rfl rfl)) rfl (fun _ h => h) (by kernel_rfl) ?_
      refine AV.take 11 #[true, true, true, true, true, false, true, true, true, true, true, true, false, false, false, false, false, false, false] rfl (by kernel_rfl) (by kernel_rfl) (by kernel_rfl) (fun _ _ _ h => h) gno (Step.fieldAddr rfl (F37_2 _ _)) rfl (fun _ h => h) (by kernel_rfl) ?_
      refine AV.take 12 #[true, true, true, true, true, false, true, true, true, true, true, true, true, false, false, false, false, false, false] rfl (by kernel_rfl) (by kernel_rfl) (by kernel_rfl) (fun _ _ _ h => h) gno (Step.load Try.underlying3 rfl rfl (fun w h => h.cell 5 rfl rfl)) rfl (fun _ h => h) (by kernel_rfl) ?_
      (first | refine AV.take 13 #[true, true, true, true, true, false, true, true, true, true, true, true, true, true, false, false, false, false, false] rfl (by kernel_rfl) (by kernel_rfl) (by kernel_rfl) (fun _ _ _ h => h) gno (Step.sub rfl rfl (wI64 (by omega) (by omega))) rfl (fun _ h => h) (by kernel_rfl) ?_ | refine AV.take 13 #[true, true, true, true, true, false, true, true, true, true, true, true, true, true, false, false, false, false, false] rfl (by kernel_rfl) (by kernel_rfl) (by kernel_rfl) (fun _ _ _ h => h) gno (Step.sub rfl rfl rfl) rfl (fun _ h => h) (by kernel_rfl) ?_)
      (first | refine AV.take 14 #[true, true, true, true, true, false, true, true, true, true, true, true, true, true, true, false, false, false, false] rfl (by kernel_rfl) (by kernel_rfl) (by kernel_rfl) (fun _ _ _ h => h) gno (Step.convI Try.underlying3 Try.underlying22 rfl (wU64 (by omega) (by omega))) rfl (fun _ h => h) (by kernel_rfl) ?_ | refine AV.take 14 #[true, true, true, true, true, false, true, true, true, true, true, true, true, true, true, false, false, false, false] rfl (by kernel_rfl) (by kernel_rfl) (by kernel_rfl) (fun _ _ _ h => h) gno (Step.convI Try.underlying3 Try.underlying22 rfl rfl) rfl (fun _ h => h) (by kernel_rfl) ?_)
      (first | refine AV.take 15 #[true, true, true, true, true, false, true, true, true, true, true, true, true, true, true, true, false, false, false] rfl (by kernel_rfl) (by kernel_rfl) (by kernel_rfl) (fun _ _ _ h => h) gno (Step.add rfl rfl (wU64 (by omega) (by omega))) rfl (fun _ h => h) (by kernel_rfl) ?_ | refine AV.take 15 #[true, true, true, true, true, false, true, true, true, true, true, true, true, true, true, true, false, false, false] rfl (by kernel_rfl) (by kernel_rfl) (by kernel_rfl) (fun _ _ _ h => h) gno (Step.add rfl rfl rfl) rfl (fun _ h => h) (by kernel_rfl) ?_)
      refine AV.all [5] (by kernel_rfl) (by decide) ?_
      refine ⟨⟨_, rfl, ?_⟩, trivial⟩
      · -- 5 comes up
        refine OV.call [0, 0, 0, 0, 0] (F := [_]) Try.func56 B56 N56 rfl rfl (fun w h => rfind_fn b s hk a.space a.addr hua) (fun _ hb => hb.elim) gno rfl (fun v L' hp => ?_)
        obtain ⟨rfl, rfl⟩ := hp
        refine KV.sel [1, 1, 1, 1, 1, 0] [_, _, _, _, _, _] rfl ?_
        refine AV.next #[true, true, true, true, true, true, true, true, true, true, true, true, true, true, true, true, false, false, false] (by kernel_rfl) (fun _ h => h) ?_
        refine AV.all [16] (by kernel_rfl) (by decide) ?_
        refine ⟨⟨_, rfl, ?_⟩, trivial⟩
        · -- 16 comes up
          refine OV.call [0, 0, 0, 0, 0] (F := [_]) Try.func56 B56 N56 rfl rfl (fun w h => rfind_fn b s hk a.space (a.addr + (a.width - 1)) hx2) (fun _ hb => hb.elim) gno rfl (fun v L' hp => ?_)
          obtain ⟨rfl, rfl⟩ := hp
          refine KV.sel [1, 1, 1, 1, 1, 0] [_, _, _, _, _, _] rfl ?_
          refine AV.next #[true, true, true, true, true, true, true, true, true, true, true, true, true, true, true, true, true, false, false] (by kernel_rfl) (fun _ h => h) ?_
          refine AV.take 17 #[true, true, true, true, true, true, true, true, true, true, true, true, true, true, true, true, true, true, false] rfl (by kernel_rfl) (by kernel_rfl) (by kernel_rfl) (fun _ _ _ h => h) gno (Step.assign rfl) rfl (fun _ h => h) (by kernel_rfl) ?_
          refine AV.take 18 #[true, true, true, true, true, true, true, true, true, true, true, true, true, true, true, true, true, true, true] rfl (by kernel_rfl) (by kernel_rfl) (by kernel_rfl) (fun _ _ _ h => h) gno (Step.assign rfl) rfl (fun _ h => h) (by kernel_rfl) ?_
          refine AV.done (by kernel_rfl) ?_
          refine KV.then_n ?_
          refine KV.env [(0, _), (3, _), (6, _), (7, _)] ⟨rfl, rfl, rfl, rfl, trivial⟩ ?_
          -- join; live [0, 3, 6, 8]
          refine CV.join (fun (br : Nat) => [(0, .pointer (some ⟨b, 0, none⟩)), (3, .pointer (some ⟨bx, 0, none⟩)), (6, .int .i64 (fR s.ms a.space a.addr)), (8, .pointer (some ⟨br, 0, none⟩))]) (fun (br : Nat) => Hp I w (rbL b s ++ [Blk bx (.cells #[.int .i64 a.space, .int .u64 a.addr, .int .i64 a.width, .bool a.wr, .int .u64 (mskV a)] 37 (0, 0)), Blk br (.cells #[.int .i64 a.space, .int .u64 a.addr, .int .i64 a.width, .bool a.wr, .int .u64 (mskV a), .int .i64 (ownR s.ms a.space a.addr), .bool (decide (rlv s a)), .bool (false)] 63 (0, 0))])) ?_ ?_
          · skip
            -- region 7 iospace.go:151
            refine KV.sel [0, 0, 0, 0, 0, 0] [_, _, _, _, _, _] rfl ?_
            refine CV.any (Hp I w (rbL b s ++ [Blk bx (.cells #[.int .i64 a.space, .int .u64 a.addr, .int .i64 a.width, .bool a.wr, .int .u64 (mskV a)] 37 (0, 0))])) (by kernel_rfl) (fun _ h => h.drew) 32 rfl ?_
            refine AV.take 0 #[true, false, false, false, false, false, false, false, false, false, false, false, false, false, false, false, false, false, false, false, false, false, false, false, false, false, false, false, false, false, false, false] rfl (by kernel_rfl) (by kernel_rfl) (by kernel_rfl) (fun _ _ _ h => h) gno (Step.loadN _ Try.underlying37 rfl I37 rfl rfl (fun w h => h.cells 5 rfl)) rfl (fun _ h => h.sel [0, 0, 0, 0, 0, 0] rfl) (by kernel_rfl) ?_
            refine AV.take 1 #[true, true, false, false, false, false, false, false, false, false, false, false, false, false, false, false, false, false, false, false, false, false, false, false, false, false, false, false, false, false, false, false] rfl (by kernel_rfl) (by kernel_rfl) (by kernel_rfl) (fun _ _ _ h => h) gno (Step.move rfl) rfl (fun _ h => h.sel [0, 0, 0, 0, 0, 0] rfl) (by kernel_rfl) ?_
            refine AV.take 2 #[true, true, true, false, false, false, false, false, false, false, false, false, false, false, false, false, false, false, false, false, false, false, false, false, false, false, false, false, false, false, false, false] rfl (by kernel_rfl) (by kernel_rfl) (by kernel_rfl) (fun _ _ _ h => h) gno (Step.fieldAddr rfl (F37_0 _ _)) rfl (fun _ h => h.sel [0, 0, 0, 0, 0, 0] rfl) (by kernel_rfl) ?_
            refine AV.take 3 #[true, true, true, true, false, false, false, false, false, false, false, false, false, false, false, false, false, false, false, false, false, false, false, false, false, false, false, false, false, false, false, false] rfl (by kernel_rfl) (by kernel_rfl) (by kernel_rfl) (fun _ _ _ h => h) gno (Step.load Try.underlying3 rfl rfl (fun w h => h.cell 5 rfl rfl)) rfl (fun _ h => h.sel [0, 0, 0, 0, 0, 0] rfl) (by kernel_rfl) ?_
            refine AV.take 4 #[true, true, true, true, true, false, false, false, false, false, false, false, false, false, false, false, false, false, false, false, false, false, false, false, false, false, false, false, false, false, false, false] rfl (by kernel_rfl) (by kernel_rfl) (by kernel_rfl) (fun _ _ _ h => h) gno (Step.fieldAddr rfl (F37_1 _ _)) rfl (fun _ h => h.sel [0, 0, 0, 0, 0, 0] rfl) (by kernel_rfl) ?_
            refine AV.take 5 #[true, true, true, true, true, true, false, false, false, false, false, false, false, false, false, false, false, false, false, false, false, false, false, false, false, false, false, false, false, false, false, false] rfl (by kernel_rfl) (by kernel_rfl) (by kernel_rfl) (fun _ _ _ h => h) gno (Step.load Try.underlying22 rfl rfl (fun w h => h.cell 5 rfl rfl)) rfl (fun _ h => h.sel [0, 0, 0, 0, 0, 0] rfl) (by kernel_rfl) ?_
            refine AV.take 7 #[true, true, true, true, true, true, false, true, false, false, false, false, false, false, false, false, false, false, false, false, false, false, false, false, false, false, false, false, false, false, false, false] rfl (by kernel_rfl) (by kernel_rfl) (by kernel_rfl) (fun _ _ _ h => h) gno (Step.move rfl) rfl (fun _ h => h.sel [0, 0, 0, 0, 0, 0] rfl) (by kernel_rfl) ?_
            refine AV.take 8 #[true, true, true, true, true, true, false, true, true, false, false, false, false, false, false, false, false, false, false, false, false, false, false, false, false, false, false, false, false, false, false, false] rfl (by kernel_rfl) (by kernel_rfl) (by kernel_rfl) (fun _ _ _ h => h) gno (Step.geq rfl rfl) rfl (fun _ h => h.sel [0, 0, 0, 0, 0, 0] rfl) (by kernel_rfl) ?_
            refine AV.all [6, 30] (by kernel_rfl) (by decide) ?_
            refine ⟨⟨_, rfl, ?_⟩, ⟨⟨_, rfl, ?_⟩, trivial⟩⟩
            · -- 6 comes up
              refine OV.call [0, 0, 0, 0, 0] (F := [_]) Try.func44 B44 N44 rfl rfl (fun w h => rowner_fn b s hk a.space a.addr hua) (fun _ hb => hb.elim) gno rfl (fun v L' hp => ?_)
              obtain ⟨rfl, rfl⟩ := hp
              refine KV.sel [1, 1, 1, 1, 1, 0] [_, _, _, _, _, _] rfl ?_
              refine AV.next #[true, true, true, true, true, true, true, true, true, false, false, false, false, false, false, false, false, false, false, false, false, false, false, false, false, false, false, false, false, false, false, false] (by kernel_rfl) (fun _ h => h.sel [0, 0, 0, 0, 0, 0] rfl) ?_
              refine AV.take 9 #[true, true, true, true, true, true, true, true, true, true, false, false, false, false, false, false, false, false, false, false, false, false, false, false, false, false, false, false, false, false, false, false] rfl (by kernel_rfl) (by kernel_rfl) (by kernel_rfl) (fun _ _ _ h => h) gno (Step.move rfl) rfl (fun _ h => h.sel [0, 0, 0, 0, 0, 0] rfl) (by kernel_rfl) ?_
              refine KV.cases 53 rfl (fun cc1 => ?_) (fun cc1 => ?_)
              · -- True
                have e1 := of_decide_eq_true cc1
                refine AV.take 10 #[true, true, true, true, true, true, true, true, true, true, true, false, false, false, false, false, false, false, false, false, false, false, false, false, false, false, false, false, false, false, false, false] rfl (by kernel_rfl) (by kernel_rfl) (by kernel_rfl) (fun _ _ _ h => h) (gyes rfl) (Step.move rfl) rfl (fun _ h => h.sel [0, 0, 0, 0, 0, 0] rfl) (by kernel_rfl) ?_
                refine AV.take 11 #[true, true, true, true, true, true, true, true, true, true, true, true, false, false, false, false, false, false, false, false, false, false, false, false, false, false, false, false, false, false, false, false] rfl (by kernel_rfl) (by kernel_rfl) (by kernel_rfl) (fun _ _ _ h => h) (gyes rfl) (Step.move rfl) rfl (fun _ h => h.sel [0, 0, 0, 0, 0, 0] rfl) (by kernel_rfl) ?_
                refine AV.take 12 #[true, true, true, true, true, true, true, true, true, true, true, true, true, false, false, false, false, false, false, false, false, false, false, false, false, false, false, false, false, false, false, false] rfl (by kernel_rfl) (by kernel_rfl) (by kernel_rfl) (fun _ _ _ h => h) (gyes rfl) (Step.eql rfl rfl) rfl (fun _ h => h.sel [0, 0, 0, 0, 0, 0] rfl) (by kernel_rfl) ?_
                refine AV.take 13 #[true, true, true, true, true, true, true, true, true, true, true, true, true, true, false, false, false, false, false, false, false, false, false, false, false, false, false, false, false, false, false, false] rfl (by kernel_rfl) (by kernel_rfl) (by kernel_rfl) (fun _ _ _ h => h) gno (Step.pick_t rfl rfl) rfl (fun _ h => h.sel [0, 0, 0, 0, 0, 0] rfl) (by kernel_rfl) ?_
                refine AV.take 14 #[true, true, true, true, true, true, true, true, true, true, true, true, true, true, true, false, false, false, false, false, false, false, false, false, false, false, false, false, false, false, false, false] rfl (by kernel_rfl) (by kernel_rfl) (by kernel_rfl) (fun _ _ _ h => h) gno (Step.move rfl) rfl (fun _ h => h.sel [0, 0, 0, 0, 0, 0] rfl) (by kernel_rfl) ?_
                refine KV.cases 58 rfl (fun cc2 => ?_) (fun cc2 => ?_)
                · -- True
                  have e2 := of_decide_eq_true cc2
                  obtain ⟨i, hfi, hi, hit, _⟩ := fR_pos e1
                  have ho1 : 0 ≤ (s.ms.getD i rhK.d).own := (hk.each i hi).o1
                  have ho2 : (s.ms.getD i rhK.d).own < 256 := (hk.each i hi).o2
                  refine AV.take 15 #[true, true, true, true, true, true, true, true, true, true, true, true, true, true, true, true, false, false, false, false, false, false, false, false, false, false, false, false, false, false, false, false] rfl (by kernel_rfl) (by kernel_rfl) (by kernel_rfl) (fun _ _ _ h => h) (gyes rfl) (Step.move rfl) rfl (fun _ h => h.sel [0, 0, 0, 0, 0, 0] rfl) (by kernel_rfl) ?_
                  refine AV.take 16 #[true, true, true, true, true, true, true, true, true, true, true, true, true, true, true, true, true, false, false, false, false, false, false, false, false, false, false, false, false, false, false, false] rfl (by kernel_rfl) (by kernel_rfl) (by kernel_rfl) (fun _ _ _ h => h) (gyes rfl) (Step.move rfl) rfl (fun _ h => h.sel [0, 0, 0, 0, 0, 0] rfl) (by kernel_rfl) ?_
                  refine AV.take 17 #[true, true, true, true, true, true, true, true, true, true, true, true, true, true, true, true, true, true, false, false, false, false, false, false, false, false, false, false, false, false, false, false] rfl (by kernel_rfl) (by kernel_rfl) (by kernel_rfl) (fun _ _ _ h => h) (gyes rfl) (Step.nilCheck rfl) rfl (fun _ h => h.sel [0, 0, 0, 0, 0, 0] rfl) (by kernel_rfl) ?_
                  refine AV.take 18 #[true, true, true, true, true, true, true, true, true, true, true, true, true, true, true, true, true, true, true, false, false, false, false, false, false, false, false, false, false, false, false, false] rfl (by kernel_rfl) (by kernel_rfl) (by kernel_rfl) (fun _ _ _ h => h) (gyes rfl) (Step.fieldAddr rfl (F56_0 _ _)) rfl (fun _ h => h.sel [0, 0, 0, 0, 0, 0] rfl) (by kernel_rfl) ?_
                  refine AV.take 19 #[true, true, true, true, true, true, true, true, true, true, true, true, true, true, true, true, true, true, true, true, false, false, false, false, false, false, false, false, false, false, false, false] rfl (by kernel_rfl) (by kernel_rfl) (by kernel_rfl) (fun _ _ _ h => h) (gyes rfl) (Step.load Try.underlying51 rfl rfl (fun w h => h.cell 0 rfl (rbC_m hw))) rfl (fun _ h => h.sel [0, 0, 0, 0, 0, 0] rfl) (by kernel_rfl) ?_
                  refine AV.take 20 #[true, true, true, true, true, true, true, true, true, true, true, true, true, true, true, true, true, true, true, true, true, false, false, false, false, false, false, false, false, false, false, false] rfl (by kernel_rfl) (by kernel_rfl) (by kernel_rfl) (fun _ _ _ h => h) (gyes rfl) (Step.move rfl) rfl (fun _ h => h.sel [0, 0, 0, 0, 0, 0] rfl) (by kernel_rfl) ?_
                  refine AV.take 21 #[true, true, true, true, true, true, true, true, true, true, true, true, true, true, true, true, true, true, true, true, true, true, false, false, false, false, false, false, false, false, false, false] rfl (by kernel_rfl) (by kernel_rfl) (by kernel_rfl) (fun _ _ _ h => h) (gyes rfl) (Step.idx Try.underlying51 I94 (fun w h => h.os 1 rfl) rfl rfl (by first | rfl | exact (LB_len s a i j).symm) _ (show fR s.ms a.space a.addr = ((i : Nat) : Int) from hfi) (by (first | omega | (rw [LB_len]; omega)))) rfl (fun _ h => h.sel [0, 0, 0, 0, 0, 0] rfl) (by kernel_rfl) ?_
                  refine AV.take 22 #[true, true, true, true, true, true, true, true, true, true, true, true, true, true, true, true, true, true, true, true, true, true, true, false, false, false, false, false, false, false, false, false] rfl (by kernel_rfl) (by kernel_rfl) (by kernel_rfl) (fun _ _ _ h => h) (gyes rfl) (Step.fieldAddr rfl (F94_2 _ _)) rfl (fun _ h => h.sel [0, 0, 0, 0, 0, 0] rfl) (by kernel_rfl) ?_
                  refine AV.take 23 #[true, true, true, true, true, true, true, true, true, true, true, true, true, true, true, true, true, true, true, true, true, true, true, true, false, false, false, false, false, false, false, false] rfl (by kernel_rfl) (by kernel_rfl) (by kernel_rfl) (fun _ _ _ h => h) (gyes rfl) (Step.load Try.underlying3 rfl rfl (fun w h => (h.os 1 rfl).cell (j := 3) (by omega) rfl)) rfl (fun _ h => h.sel [0, 0, 0, 0, 0, 0] rfl) (by kernel_rfl) ?_
                  refine AV.take 24 #[true, true, true, true, true, true, true, true, true, true, true, true, true, true, true, true, true, true, true, true, true, true, true, true, true, false, false, false, false, false, false, false] rfl (by kernel_rfl) (by kernel_rfl) (by kernel_rfl) (fun _ _ _ h => h) (gyes rfl) (Step.nilCheck rfl) rfl (fun _ h => h.sel [0, 0, 0, 0, 0, 0] rfl) (by kernel_rfl) ?_
                  refine AV.take 25 #[true, true, true, true, true, true, true, true, true, true, true, true, true, true, true, true, true, true, true, true, true, true, true, true, true, true, false, false, false, false, false, false] rfl (by kernel_rfl) (by kernel_rfl) (by kernel_rfl) (fun _ _ _ h => h) (gyes rfl) (Step.fieldAddr rfl (F56_1 _ _)) rfl (fun _ h => h.sel [0, 0, 0, 0, 0, 0] rfl) (by kernel_rfl) ?_
                  refine AV.take 26 #[true, true, true, true, true, true, true, true, true, true, true, true, true, true, true, true, true, true, true, true, true, true, true, true, true, true, true, false, false, false, false, false] rfl (by kernel_rfl) (by kernel_rfl) (by kernel_rfl) (fun _ _ _ h => h) (gyes rfl) (Step.idxArr Try.underlying52 I4 rfl rfl _ (show (s.ms.getD i rhK.d).own = (((s.ms.getD i rhK.d).own.toNat : Nat) : Int) by omega) (by (first | omega | (rw [LB_len]; omega)))) rfl (fun _ h => h.sel [0, 0, 0, 0, 0, 0] rfl) (by kernel_rfl) ?_
                  refine AV.take 27 #[true, true, true, true, true, true, true, true, true, true, true, true, true, true, true, true, true, true, true, true, true, true, true, true, true, true, true, true, false, false, false, false] rfl (by kernel_rfl) (by kernel_rfl) (by kernel_rfl) (fun _ _ _ h => h) (gyes rfl) (Step.load Try.underlying4 rfl rfl (fun w h => h.cell 0 rfl (rbC_en hw (by omega)))) rfl (fun _ h => h.sel [0, 0, 0, 0, 0, 0] rfl) (by kernel_rfl) ?_
                  refine AV.take 28 #[true, true, true, true, true, true, true, true, true, true, true, true, true, true, true, true, true, true, true, true, true, true, true, true, true, true, true, true, true, false, false, false] rfl (by kernel_rfl) (by kernel_rfl) (by kernel_rfl) (fun _ _ _ h => h) gno (Step.pick_t rfl rfl) rfl (fun _ h => h.sel [0, 0, 0, 0, 0, 0] rfl) (by kernel_rfl) ?_
                  refine AV.take 29 #[true, true, true, true, true, true, true, true, true, true, true, true, true, true, true, true, true, true, true, true, true, true, true, true, true, true, true, true, true, true, false, false] rfl (by kernel_rfl) (by kernel_rfl) (by kernel_rfl) (fun _ _ _ h => h) gno (Step.build rfl (Bd63_0_1_2 _ _ _ _ _ _ _)) rfl (fun _ h => h.sel [0, 0, 0, 0, 0, 0] rfl) (by kernel_rfl) ?_
                  refine AV.all [30] (by kernel_rfl) (by decide) ?_
                  refine ⟨⟨_, rfl, ?_⟩, trivial⟩
                  · -- 30 comes up
                    refine OV.alloc #[.int .i64 0, .int .u64 0, .int .i64 0, .bool false, .int .u64 0, .int .i64 0, .bool false, .bool false] I63 rfl gno rfl (fun br => ?_)
                    refine AV.next #[true, true, true, true, true, true, true, true, true, true, true, true, true, true, true, true, true, true, true, true, true, true, true, true, true, true, true, true, true, true, true, false] (by kernel_rfl) (fun _ h => h.sel [0, 0, 0, 0, 0, 0] rfl) ?_
                    refine AV.all [31] (by kernel_rfl) (by decide) ?_
                    refine ⟨⟨_, rfl, ?_⟩, trivial⟩
                    · -- 31 comes up
                      refine OV.store 6 [_, _, _, _, _, _, _, _] #[_, _, _, _, _, _, _, _] I63 rfl rfl rfl rfl rfl (Nat.le_of_ble_eq_true rfl) (by simp [Value.oneCell']) rfl gno ?_
                      refine AV.next #[true, true, true, true, true, true, true, true, true, true, true, true, true, true, true, true, true, true, true, true, true, true, true, true, true, true, true, true, true, true, true, true] (by kernel_rfl) (fun _ h => h.sel [0, 0, 0, 0, 0, 0] rfl) ?_
                      refine AV.done (by kernel_rfl) ?_
                      refine KV.then_n ?_
                      refine KV.env [(0, _), (3, _), (6, _), (8, _)] ⟨rfl, rfl, rfl, rfl, trivial⟩ ?_
                      refine KV.sel [0, 0, 0, 0, 0, 0, 0] [_, _, _, _, _, _, _] rfl ?_
                      (first | have hlv : decide (rlv s a) = s.en.getD (s.ms.getD i rhK.d).own.toNat false := rlv_t e1 e2 hfi | have hlv : decide (rlv s a) = false := decide_eq_false (fun k => e2 k.2.1) | have hlv : decide (rlv s a) = false := decide_eq_false (fun k => e1 k.1))
                      exact KV.join (br) ⟨rfl, rfl, rfl, rfl, trivial⟩ (fun _ h => by rw [hlv]; exact h)
                · -- False
                  have e2 := of_decide_eq_false cc2
                  refine AV.takeSkip 15 #[true, true, true, true, true, true, true, true, true, true, true, true, true, true, true, true, false, false, false, false, false, false, false, false, false, false, false, false, false, false, false, false] rfl (by kernel_rfl) (by kernel_rfl) (by kernel_rfl) (fun _ _ _ h => h) rfl rfl (fun _ h => h.sel [0, 0, 0, 0, 0, 0] rfl) (by kernel_rfl) ?_
                  refine AV.takeSkip 16 #[true, true, true, true, true, true, true, true, true, true, true, true, true, true, true, true, true, false, false, false, false, false, false, false, false, false, false, false, false, false, false, false] rfl (by kernel_rfl) (by kernel_rfl) (by kernel_rfl) (fun _ _ _ h => h) rfl rfl (fun _ h => h.sel [0, 0, 0, 0, 0, 0] rfl) (by kernel_rfl) ?_
                  refine AV.takeSkip 17 #[true, true, true, true, true, true, true, true, true, true, true, true, true, true, true, true, true, true, false, false, false, false, false, false, false, false, false, false, false, false, false, false] rfl (by kernel_rfl) (by kernel_rfl) (by kernel_rfl) (fun _ _ _ h => h) rfl rfl (fun _ h => h.sel [0, 0, 0, 0, 0, 0] rfl) (by kernel_rfl) ?_
                  refine AV.takeSkip 18 #[true, true, true, true, true, true, true, true, true, true, true, true, true, true, true, true, true, true, true, false, false, false, false, false, false, false, false, false, false, false, false, false] rfl (by kernel_rfl) (by kernel_rfl) (by kernel_rfl) (fun _ _ _ h => h) rfl rfl (fun _ h => h.sel [0, 0, 0, 0, 0, 0] rfl) (by kernel_rfl) ?_
                  refine AV.takeSkip 19 #[true, true, true, true, true, true, true, true, true, true, true, true, true, true, true, true, true, true, true, true, false, false, false, false, false, false, false, false, false, false, false, false] rfl (by kernel_rfl) (by kernel_rfl) (by kernel_rfl) (fun _ _ _ h => h) rfl rfl (fun _ h => h.sel [0, 0, 0, 0, 0, 0] rfl) (by kernel_rfl) ?_
                  refine AV.takeSkip 20 #[true, true, true, true, true, true, true, true, true, true, true, true, true, true, true, true, true, true, true, true, true, false, false, false, false, false, false, false, false, false, false, false] rfl (by kernel_rfl) (by kernel_rfl) (by kernel_rfl) (fun _ _ _ h => h) rfl rfl (fun _ h => h.sel [0, 0, 0, 0, 0, 0] rfl) (by kernel_rfl) ?_
                  refine AV.takeSkip 21 #[true, true, true, true, true, true, true, true, true, true, true, true, true, true, true, true, true, true, true, true, true, true, false, false, false, false, false, false, false, false, false, false] rfl (by kernel_rfl) (by kernel_rfl) (by kernel_rfl) (fun _ _ _ h => h) rfl rfl (fun _ h => h.sel [0, 0, 0, 0, 0, 0] rfl) (by kernel_rfl) ?_
                  refine AV.takeSkip 22 #[true, true, true, true, true, true, true, true, true, true, true, true, true, true, true, true, true, true, true, true, true, true, true, false, false, false, false, false, false, false, false, false] rfl (by kernel_rfl) (by kernel_rfl) (by kernel_rfl) (fun _ _ _ h => h) rfl rfl (fun _ h => h.sel [0, 0, 0, 0, 0, 0] rfl) (by kernel_rfl) ?_
                  refine AV.takeSkip 23 #[true, true, true, true, true, true, true, true, true, true, true, true, true, true, true, true, true, true, true, true, true, true, true, true, false, false, false, false, false, false, false, false] rfl (by kernel_rfl) (by kernel_rfl) (by kernel_rfl) (fun _ _ _ h => h) rfl rfl (fun _ h => h.sel [0, 0, 0, 0, 0, 0] rfl) (by kernel_rfl) ?_
                  refine AV.takeSkip 24 #[true, true, true, true, true, true, true, true, true, true, true, true, true, true, true, true, true, true, true, true, true, true, true, true, true, false, false, false, false, false, false, false] rfl (by kernel_rfl) (by kernel_rfl) (by kernel_rfl) (fun _ _ _ h => h) rfl rfl (fun _ h => h.sel [0, 0, 0, 0, 0, 0] rfl) (by kernel_rfl) ?_
                  refine AV.takeSkip 25 #[true, true, true, true, true, true, true, true, true, true, true, true, true, true, true, true, true, true, true, true, true, true, true, true, true, true, false, false, false, false, false, false] rfl (by kernel_rfl) (by kernel_rfl) (by kernel_rfl) (fun _ _ _ h => h) rfl rfl (fun _ h => h.sel [0, 0, 0, 0, 0, 0] rfl) (by kernel_rfl) ?_
                  refine AV.takeSkip 26 #[true, true, true, true, true, true, true, true, true, true, true, true, true, true, true, true, true, true, true, true, true, true, true, true, true, true, true, false, false, false, false, false] rfl (by kernel_rfl) (by kernel_rfl) (by kernel_rfl) (fun _ _ _ h => h) rfl rfl (fun _ h => h.sel [0, 0, 0, 0, 0, 0] rfl) (by kernel_rfl) ?_
                  refine AV.takeSkip 27 #[true, true, true, true, true, true, true, true, true, true, true, true, true, true, true, true, true, true, true, true, true, true, true, true, true, true, true, true, false, false, false, false] rfl (by kernel_rfl) (by kernel_rfl) (by kernel_rfl) (fun _ _ _ h => h) rfl rfl (fun _ h => h.sel [0, 0, 0, 0, 0, 0] rfl) (by kernel_rfl) ?_
                  refine AV.take 28 #[true, true, true, true, true, true, true, true, true, true, true, true, true, true, true, true, true, true, true, true, true, true, true, true, true, true, true, true, true, false, false, false] rfl (by kernel_rfl) (by kernel_rfl) (by kernel_rfl) (fun _ _ _ h => h) gno (Step.pick_f rfl rfl) rfl (fun _ h => h.sel [0, 0, 0, 0, 0, 0] rfl) (by kernel_rfl) ?_
                  refine AV.take 29 #[true, true, true, true, true, true, true, true, true, true, true, true, true, true, true, true, true, true, true, true, true, true, true, true, true, true, true, true, true, true, false, false] rfl (by kernel_rfl) (by kernel_rfl) (by kernel_rfl) (fun _ _ _ h => h) gno (Step.build rfl (Bd63_0_1_2 _ _ _ _ _ _ _)) rfl (fun _ h => h.sel [0, 0, 0, 0, 0, 0] rfl) (by kernel_rfl) ?_
                  refine AV.all [30] (by kernel_rfl) (by decide) ?_
                  refine ⟨⟨_, rfl, ?_⟩, trivial⟩
                  · -- 30 comes up
                    refine OV.alloc #[.int .i64 0, .int .u64 0, .int .i64 0, .bool false, .int .u64 0, .int .i64 0, .bool false, .bool false] I63 rfl gno rfl (fun br => ?_)
                    refine AV.next #[true, true, true, true, true, true, true, true, true, true, true, true, true, true, true, true, true, true, true, true, true, true, true, true, true, true, true, true, true, true, true, false] (by kernel_rfl) (fun _ h => h.sel [0, 0, 0, 0, 0, 0] rfl) ?_
                    refine AV.all [31] (by kernel_rfl) (by decide) ?_
                    refine ⟨⟨_, rfl, ?_⟩, trivial⟩
                    · -- 31 comes up
                      refine OV.store 6 [_, _, _, _, _, _, _, _] #[_, _, _, _, _, _, _, _] I63 rfl rfl rfl rfl rfl (Nat.le_of_ble_eq_true rfl) (by simp [Value.oneCell']) rfl gno ?_
                      refine AV.next #[true, true, true, true, true, true, true, true, true, true, true, true, true, true, true, true, true, true, true, true, true, true, true, true, true, true, true, true, true, true, true, true] (by kernel_rfl) (fun _ h => h.sel [0, 0, 0, 0, 0, 0] rfl) ?_
                      refine AV.done (by kernel_rfl) ?_
                      refine KV.then_n ?_
                      refine KV.env [(0, _), (3, _), (6, _), (8, _)] ⟨rfl, rfl, rfl, rfl, trivial⟩ ?_
                      refine KV.sel [0, 0, 0, 0, 0, 0, 0] [_, _, _, _, _, _, _] rfl ?_
                      (first | have hlv : decide (rlv s a) = s.en.getD (s.ms.getD i rhK.d).own.toNat false := rlv_t e1 e2 hfi | have hlv : decide (rlv s a) = false := decide_eq_false (fun k => e2 k.2.1) | have hlv : decide (rlv s a) = false := decide_eq_false (fun k => e1 k.1))
                      exact KV.join (br) ⟨rfl, rfl, rfl, rfl, trivial⟩ (fun _ h => by rw [hlv]; exact h)
              · -- False
                have e1 := of_decide_eq_false cc1
                refine AV.takeSkip 10 #[true, true, true, true, true, true, true, true, true, true, true, false, false, false, false, false, false, false, false, false, false, false, false, false, false, false, false, false, false, false, false, false] rfl (by kernel_rfl) (by kernel_rfl) (by kernel_rfl) (fun _ _ _ h => h) rfl rfl (fun _ h => h.sel [0, 0, 0, 0, 0, 0] rfl) (by kernel_rfl) ?_
                refine AV.takeSkip 11 #[true, true, true, true, true, true, true, true, true, true, true, true, false, false, false, false, false, false, false, false, false, false, false, false, false, false, false, false, false, false, false, false] rfl (by kernel_rfl) (by kernel_rfl) (by kernel_rfl) (fun _ _ _ h => h) rfl rfl (fun _ h => h.sel [0, 0, 0, 0, 0, 0] rfl) (by kernel_rfl) ?_
                refine AV.takeSkip 12 #[true, true, true, true, true, true, true, true, true, true, true, true, true, false, false, false, false, false, false, false, false, false, false, false, false, false, false, false, false, false, false, false] rfl (by kernel_rfl) (by kernel_rfl) (by kernel_rfl) (fun _ _ _ h => h) rfl rfl (fun _ h => h.sel [0, 0, 0, 0, 0, 0] rfl) (by kernel_rfl) ?_
                refine AV.take 13 #[true, true, true, true, true, true, true, true, true, true, true, true, true, true, false, false, false, false, false, false, false, false, false, false, false, false, false, false, false, false, false, false] rfl (by kernel_rfl) (by kernel_rfl) (by kernel_rfl) (fun _ _ _ h => h) gno (Step.pick_f rfl rfl) rfl (fun _ h => h.sel [0, 0, 0, 0, 0, 0] rfl) (by kernel_rfl) ?_
                refine AV.take 14 #[true, true, true, true, true, true, true, true, true, true, true, true, true, true, true, false, false, false, false, false, false, false, false, false, false, false, false, false, false, false, false, false] rfl (by kernel_rfl) (by kernel_rfl) (by kernel_rfl) (fun _ _ _ h => h) gno (Step.move rfl) rfl (fun _ h => h.sel [0, 0, 0, 0, 0, 0] rfl) (by kernel_rfl) ?_
                refine AV.takeSkip 15 #[true, true, true, true, true, true, true, true, true, true, true, true, true, true, true, true, false, false, false, false, false, false, false, false, false, false, false, false, false, false, false, false] rfl (by kernel_rfl) (by kernel_rfl) (by kernel_rfl) (fun _ _ _ h => h) rfl rfl (fun _ h => h.sel [0, 0, 0, 0, 0, 0] rfl) (by kernel_rfl) ?_
                refine AV.takeSkip 16 #[true, true, true, true, true, true, true, true, true, true, true, true, true, true, true, true, true, false, false, false, false, false, false, false, false, false, false, false, false, false, false, false] rfl (by kernel_rfl) (by kernel_rfl) (by kernel_rfl) (fun _ _ _ h => h) rfl rfl (fun _ h => h.sel [0, 0, 0, 0, 0, 0] rfl) (by kernel_rfl) ?_
                refine AV.takeSkip 17 #[true, true, true, true, true, true, true, true, true, true, true, true, true, true, true, true, true, true, false, false, false, false, false, false, false, false, false, false, false, false, false, false] rfl (by kernel_rfl) (by kernel_rfl) (by kernel_rfl) (fun _ _ _ h => h) rfl rfl (fun _ h => h.sel [0, 0, 0, 0, 0, 0] rfl) (by kernel_rfl) ?_
                refine AV.takeSkip 18 #[true, true, true, true, true, true, true, true, true, true, true, true, true, true, true, true, true, true, true, false, false, false, false, false, false, false, false, false, false, false, false, false] rfl (by kernel_rfl) (by kernel_rfl) (by kernel_rfl) (fun _ _ _ h => h) rfl rfl (fun _ h => h.sel [0, 0, 0, 0, 0, 0] rfl) (by kernel_rfl) ?_
                refine AV.takeSkip 19 #[true, true, true, true, true, true, true, true, true, true, true, true, true, true, true, true, true, true, true, true, false, false, false, false, false, false, false, false, false, false, false, false] rfl (by kernel_rfl) (by kernel_rfl) (by kernel_rfl) (fun _ _ _ h => h) rfl rfl (fun _ h => h.sel [0, 0, 0, 0, 0, 0] rfl) (by kernel_rfl) ?_
                refine AV.takeSkip 20 #[true, true, true, true, true, true, true, true, true, true, true, true, true, true, true, true, true, true, true, true, true, false, false, false, false, false, false, false, false, false, false, false] rfl (by kernel_rfl) (by kernel_rfl) (by kernel_rfl) (fun _ _ _ h => h) rfl rfl (fun _ h => h.sel [0, 0, 0, 0, 0, 0] rfl) (by kernel_rfl) ?_
                refine AV.takeSkip 21 #[true, true, true, true, true, true, true, true, true, true, true, true, true, true, true, true, true, true, true, true, true, true, false, false, false, false, false, false, false, false, false, false] rfl (by kernel_rfl) (by kernel_rfl) (by kernel_rfl) (fun _ _ _ h => h) rfl rfl (fun _ h => h.sel [0, 0, 0, 0, 0, 0] rfl) (by kernel_rfl) ?_
                refine AV.takeSkip 22 #[true, true, true, true, true, true, true, true, true, true, true, true, true, true, true, true, true, true, true, true, true, true, true, false, false, false, false, false, false, false, false, false] rfl (by kernel_rfl) (by kernel_rfl) (by kernel_rfl) (fun _ _ _ h => h) rfl rfl (fun _ h => h.sel [0, 0, 0, 0, 0, 0] rfl) (by kernel_rfl) ?_
                refine AV.takeSkip 23 #[true, true, true, true, true, true, true, true, true, true, true, true, true, true, true, true, true, true, true, true, true, true, true, true, false, false, false, false, false, false, false, false] rfl (by kernel_rfl) (by kernel_rfl) (by kernel_rfl) (fun _ _ _ h => h) rfl rfl (fun _ h => h.sel [0, 0, 0, 0, 0, 0] rfl) (by kernel_rfl) ?_
                refine AV.takeSkip 24 #[true, true, true, true, true, true, true, true, true, true, true, true, true, true, true, true, true, true, true, true, true, true, true, true, true, false, false, false, false, false, false, false] rfl (by kernel_rfl) (by kernel_rfl) (by kernel_rfl) (fun _ _ _ h => h) rfl rfl (fun _ h => h.sel [0, 0, 0, 0, 0, 0] rfl) (by kernel_rfl) ?_
                refine AV.takeSkip 25 #[true, true, true, true, true, true, true, true, true, true, true, true, true, true, true, true, true, true, true, true, true, true, true, true, true, true, false, false, false, false, false, false] rfl (by kernel_rfl) (by kernel_rfl) (by kernel_rfl) (fun _ _ _ h => h) rfl rfl (fun _ h => h.sel [0, 0, 0, 0, 0, 0] rfl) (by kernel_rfl) ?_
                refine AV.takeSkip 26 #[true, true, true, true, true, true, true, true, true, true, true, true, true, true, true, true, true, true, true, true, true, true, true, true, true, true, true, false, false, false, false, false] rfl (by kernel_rfl) (by kernel_rfl) (by kernel_rfl) (fun _ _ _ h => h) rfl rfl (fun _ h => h.sel [0, 0, 0, 0, 0, 0] rfl) (by kernel_rfl) ?_
                refine AV.takeSkip 27 #[true, true, true, true, true, true, true, true, true, true, true, true, true, true, true, true, true, true, true, true, true, true, true, true, true, true, true, true, false, false, false, false] rfl (by kernel_rfl) (by kernel_rfl) (by kernel_rfl) (fun _ _ _ h => h) rfl rfl (fun _ h => h.sel [0, 0, 0, 0, 0, 0] rfl) (by kernel_rfl) ?_
                refine AV.take 28 #[true, true, true, true, true, true, true, true, true, true, true, true, true, true, true, true, true, true, true, true, true, true, true, true, true, true, true, true, true, false, false, false] rfl (by kernel_rfl) (by kernel_rfl) (by kernel_rfl) (fun _ _ _ h => h) gno (Step.pick_f rfl rfl) rfl (fun _ h => h.sel [0, 0, 0, 0, 0, 0] rfl) (by kernel_rfl) ?_
                refine AV.take 29 #[true, true, true, true, true, true, true, true, true, true, true, true, true, true, true, true, true, true, true, true, true, true, true, true, true, true, true, true, true, true, false, false] rfl (by kernel_rfl) (by kernel_rfl) (by kernel_rfl) (fun _ _ _ h => h) gno (Step.build rfl (Bd63_0_1_2 _ _ _ _ _ _ _)) rfl (fun _ h => h.sel [0, 0, 0, 0, 0, 0] rfl) (by kernel_rfl) ?_
                refine AV.all [30] (by kernel_rfl) (by decide) ?_
                refine ⟨⟨_, rfl, ?_⟩, trivial⟩
                · -- 30 comes up
                  refine OV.alloc #[.int .i64 0, .int .u64 0, .int .i64 0, .bool false, .int .u64 0, .int .i64 0, .bool false, .bool false] I63 rfl gno rfl (fun br => ?_)
                  refine AV.next #[true, true, true, true, true, true, true, true, true, true, true, true, true, true, true, true, true, true, true, true, true, true, true, true, true, true, true, true, true, true, true, false] (by kernel_rfl) (fun _ h => h.sel [0, 0, 0, 0, 0, 0] rfl) ?_
                  refine AV.all [31] (by kernel_rfl) (by decide) ?_
                  refine ⟨⟨_, rfl, ?_⟩, trivial⟩
                  · -- 31 comes up
                    refine OV.store 6 [_, _, _, _, _, _, _, _] #[_, _, _, _, _, _, _, _] I63 rfl rfl rfl rfl rfl (Nat.le_of_ble_eq_true rfl) (by simp [Value.oneCell']) rfl gno ?_
                    refine AV.next #[true, true, true, true, true, true, true, true, true, true, true, true, true, true, true, true, true, true, true, true, true, true, true, true, true, true, true, true, true, true, true, true] (by kernel_rfl) (fun _ h => h.sel [0, 0, 0, 0, 0, 0] rfl) ?_
                    refine AV.done (by kernel_rfl) ?_
                    refine KV.then_n ?_
                    refine KV.env [(0, _), (3, _), (6, _), (8, _)] ⟨rfl, rfl, rfl, rfl, trivial⟩ ?_
                    refine KV.sel [0, 0, 0, 0, 0, 0, 0] [_, _, _, _, _, _, _] rfl ?_
                    (first | have hlv : decide (rlv s a) = s.en.getD (s.ms.getD i rhK.d).own.toNat false := rlv_t e1 e2 hfi | have hlv : decide (rlv s a) = false := decide_eq_false (fun k => e2 k.2.1) | have hlv : decide (rlv s a) = false := decide_eq_false (fun k => e1 k.1))
                    exact KV.join (br) ⟨rfl, rfl, rfl, rfl, trivial⟩ (fun _ h => by rw [hlv]; exact h)
            · -- 30 comes up
              refine OV.alloc #[.int .i64 0, .int .u64 0, .int .i64 0, .bool false, .int .u64 0, .int .i64 0, .bool false, .bool false] I63 rfl gno rfl (fun br => ?_)
              refine AV.next #[true, true, true, true, true, true, false, true, true, false, false, false, false, false, false, false, false, false, false, false, false, false, false, false, false, false, false, false, false, false, true, false] (by kernel_rfl) (fun _ h => h.sel [0, 0, 0, 0, 0, 0] rfl) ?_
              refine AV.all [6] (by kernel_rfl) (by decide) ?_
              refine ⟨⟨_, rfl, ?_⟩, trivial⟩
              · -- 6 comes up
                refine OV.call [0, 0, 0, 0, 0] (F := [_, _]) Try.func44 B44 N44 rfl rfl (fun w h => rowner_fn b s hk a.space a.addr hua) (fun _ hb => hb.elim) gno rfl (fun v L' hp => ?_)
                obtain ⟨rfl, rfl⟩ := hp
                refine KV.sel [2, 2, 2, 2, 2, 0, 0] [_, _, _, _, _, _, _] rfl ?_
                refine AV.next #[true, true, true, true, true, true, true, true, true, false, false, false, false, false, false, false, false, false, false, false, false, false, false, false, false, false, false, false, false, false, true, false] (by kernel_rfl) (fun _ h => h.sel [0, 0, 0, 0, 0, 0] rfl) ?_
                refine AV.take 9 #[true, true, true, true, true, true, true, true, true, true, false, false, false, false, false, false, false, false, false, false, false, false, false, false, false, false, false, false, false, false, true, false] rfl (by kernel_rfl) (by kernel_rfl) (by kernel_rfl) (fun _ _ _ h => h) gno (Step.move rfl) rfl (fun _ h => h.sel [0, 0, 0, 0, 0, 0] rfl) (by kernel_rfl) ?_
                refine KV.cases 53 rfl (fun cc3 => ?_) (fun cc3 => ?_)
                · -- True
                  have e1 := of_decide_eq_true cc3
                  refine AV.take 10 #[true, true, true, true, true, true, true, true, true, true, true, false, false, false, false, false, false, false, false, false, false, false, false, false, false, false, false, false, false, false, true, false] rfl (by kernel_rfl) (by kernel_rfl) (by kernel_rfl) (fun _ _ _ h => h) (gyes rfl) (Step.move rfl) rfl (fun _ h => h.sel [0, 0, 0, 0, 0, 0] rfl) (by kernel_rfl) ?_
                  refine AV.take 11 #[true, true, true, true, true, true, true, true, true, true, true, true, false, false, false, false, false, false, false, false, false, false, false, false, false, false, false, false, false, false, true, false] rfl (by kernel_rfl) (by kernel_rfl) (by kernel_rfl) (fun _ _ _ h => h) (gyes rfl) (Step.move rfl) rfl (fun _ h => h.sel [0, 0, 0, 0, 0, 0] rfl) (by kernel_rfl) ?_
                  refine AV.take 12 #[true, true, true, true, true, true, true, true, true, true, true, true, true, false, false, false, false, false, false, false, false, false, false, false, false, false, false, false, false, false, true, false] rfl (by kernel_rfl) (by kernel_rfl) (by kernel_rfl) (fun _ _ _ h => h) (gyes rfl) (Step.eql rfl rfl) rfl (fun _ h => h.sel [0, 0, 0, 0, 0, 0] rfl) (by kernel_rfl) ?_
                  refine AV.take 13 #[true, true, true, true, true, true, true, true, true, true, true, true, true, true, false, false, false, false, false, false, false, false, false, false, false, false, false, false, false, false, true, false] rfl (by kernel_rfl) (by kernel_rfl) (by kernel_rfl) (fun _ _ _ h => h) gno (Step.pick_t rfl rfl) rfl (fun _ h => h.sel [0, 0, 0, 0, 0, 0] rfl) (by kernel_rfl) ?_
                  refine AV.take 14 #[true, true, true, true, true, true, true, true, true, true, true, true, true, true, true, false, false, false, false, false, false, false, false, false, false, false, false, false, false, false, true, false] rfl (by kernel_rfl) (by kernel_rfl) (by kernel_rfl) (fun _ _ _ h => h) gno (Step.move rfl) rfl (fun _ h => h.sel [0, 0, 0, 0, 0, 0] rfl) (by kernel_rfl) ?_
                  refine KV.cases 58 rfl (fun cc4 => ?_) (fun cc4 => ?_)
                  · -- True
                    have e2 := of_decide_eq_true cc4
                    obtain ⟨i, hfi, hi, hit, _⟩ := fR_pos e1
                    have ho1 : 0 ≤ (s.ms.getD i rhK.d).own := (hk.each i hi).o1
                    have ho2 : (s.ms.getD i rhK.d).own < 256 := (hk.each i hi).o2
                    refine AV.take 15 #[true, true, true, true, true, true, true, true, true, true, true, true, true, true, true, true, false, false, false, false, false, false, false, false, false, false, false, false, false, false, true, false] rfl (by kernel_rfl) (by kernel_rfl) (by kernel_rfl) (fun _ _ _ h => h) (gyes rfl) (Step.move rfl) rfl (fun _ h => h.sel [0, 0, 0, 0, 0, 0] rfl) (by kernel_rfl) ?_
                    refine AV.take 16 #[true, true, true, true, true, true, true, true, true, true, true, true, true, true, true, true, true, false, false, false, false, false, false, false, false, false, false, false, false, false, true, false] rfl (by kernel_rfl) (by kernel_rfl) (by kernel_rfl) (fun _ _ _ h => h) (gyes rfl) (Step.move rfl) rfl (fun _ h => h.sel [0, 0, 0, 0, 0, 0] rfl) (by kernel_rfl) ?_
                    refine AV.take 17 #[true, true, true, true, true, true, true, true, true, true, true, true, true, true, true, true, true, true, false, false, false, false, false, false, false, false, false, false, false, false, true, false] rfl (by kernel_rfl) (by kernel_rfl) (by kernel_rfl) (fun _ _ _ h => h) (gyes rfl) (Step.nilCheck rfl) rfl (fun _ h => h.sel [0, 0, 0, 0, 0, 0] rfl) (by kernel_rfl) ?_
                    refine AV.take 18 #[true, true, true, true, true, true, true, true, true, true, true, true, true, true, true, true, true, true, true, false, false, false, false, false, false, false, false, false, false, false, true, false] rfl (by kernel_rfl) (by kernel_rfl) (by kernel_rfl) (fun _ _ _ h => h) (gyes rfl) (Step.fieldAddr rfl (F56_0 _ _)) rfl (fun _ h => h.sel [0, 0, 0, 0, 0, 0] rfl) (by kernel_rfl) ?_
                    refine AV.take 19 #[true, true, true, true, true, true, true, true, true, true, true, true, true, true, true, true, true, true, true, true, false, false, false, false, false, false, false, false, false, false, true, false] rfl (by kernel_rfl) (by kernel_rfl) (by kernel_rfl) (fun _ _ _ h => h) (gyes rfl) (Step.load Try.underlying51 rfl rfl (fun w h => h.cell 0 rfl (rbC_m hw))) rfl (fun _ h => h.sel [0, 0, 0, 0, 0, 0] rfl) (by kernel_rfl) ?_
                    refine AV.take 20 #[true, true, true, true, true, true, true, true, true, true, true, true, true, true, true, true, true, true, true, true, true, false, false, false, false, false, false, false, false, false, true, false] rfl (by kernel_rfl) (by kernel_rfl) (by kernel_rfl) (fun _ _ _ h => h) (gyes rfl) (Step.move rfl) rfl (fun _ h => h.sel [0, 0, 0, 0, 0, 0] rfl) (by kernel_rfl) ?_
                    refine AV.take 21 #[true, true, true, true, true, true, true, true, true, true, true, true, true, true, true, true, true, true, true, true, true, true, false, false, false, false, false, false, false, false, true, false] rfl (by kernel_rfl) (by kernel_rfl) (by kernel_rfl) (fun _ _ _ h => h) (gyes rfl) (Step.idx Try.underlying51 I94 (fun w h => h.os 1 rfl) rfl rfl (by first | rfl | exact (LB_len s a i j).symm) _ (show fR s.ms a.space a.addr = ((i : Nat) : Int) from hfi) (by (first | omega | (rw [LB_len]; omega)))) rfl (fun _ h => h.sel [0, 0, 0, 0, 0, 0] rfl) (by kernel_rfl) ?_
                    refine AV.take 22 #[true, true, true, true, true, true, true, true, true, true, true, true, true, true, true, true, true, true, true, true, true, true, true, false, false, false, false, false, false, false, true, false] rfl (by kernel_rfl) (by kernel_rfl) (by kernel_rfl) (fun _ _ _ h => h) (gyes rfl) (Step.fieldAddr rfl (F94_2 _ _)) rfl (fun _ h => h.sel [0, 0, 0, 0, 0, 0] rfl) (by kernel_rfl) ?_
                    refine AV.take 23 #[true, true, true, true, true, true, true, true, true, true, true, true, true, true, true, true, true, true, true, true, true, true, true, true, false, false, false, false, false, false, true, false] rfl (by kernel_rfl) (by kernel_rfl) (by kernel_rfl) (fun _ _ _ h => h) (gyes rfl) (Step.load Try.underlying3 rfl rfl (fun w h => (h.os 1 rfl).cell (j := 3) (by omega) rfl)) rfl (fun _ h => h.sel [0, 0, 0, 0, 0, 0] rfl) (by kernel_rfl) ?_
                    refine AV.take 24 #[true, true, true, true, true, true, true, true, true, true, true, true, true, true, true, true, true, true, true, true, true, true, true, true, true, false, false, false, false, false, true, false] rfl (by kernel_rfl) (by kernel_rfl) (by kernel_rfl) (fun _ _ _ h => h) (gyes rfl) (Step.nilCheck rfl) rfl (fun _ h => h.sel [0, 0, 0, 0, 0, 0] rfl) (by kernel_rfl) ?_
                    refine AV.take 25 #[true, true, true, true, true, true, true, true, true, true, true, true, true, true, true, true, true, true, true, true, true, true, true, true, true, true, false, false, false, false, true, false] rfl (by kernel_rfl) (by kernel_rfl) (by kernel_rfl) (fun _ _ _ h => h) (gyes rfl) (Step.fieldAddr rfl (F56_1 _ _)) rfl (fun _ h => h.sel [0, 0, 0, 0, 0, 0] rfl) (by kernel_rfl) ?_
                    refine AV.take 26 #[true, true, true, true, true, true, true, true, true, true, true, true, true, true, true, true, true, true, true, true, true, true, true, true, true, true, true, false, false, false, true, false] rfl (by kernel_rfl) (by kernel_rfl) (by kernel_rfl) (fun _ _ _ h => h) (gyes rfl) (Step.idxArr Try.underlying52 I4 rfl rfl _ (show (s.ms.getD i rhK.d).own = (((s.ms.getD i rhK.d).own.toNat : Nat) : Int) by omega) (by (first | omega | (rw [LB_len]; omega)))) rfl (fun _ h => h.sel [0, 0, 0, 0, 0, 0] rfl) (by kernel_rfl) ?_
                    refine AV.take 27 #[true, true, true, true, true, true, true, true, true, true, true, true, true, true, true, true, true, true, true, true, true, true, true, true, true, true, true, true, false, false, true, false] rfl (by kernel_rfl) (by kernel_rfl) (by kernel_rfl) (fun _ _ _ h => h) (gyes rfl) (Step.load Try.underlying4 rfl rfl (fun w h => h.cell 0 rfl (rbC_en hw (by omega)))) rfl (fun _ h => h.sel [0, 0, 0, 0, 0, 0] rfl) (by kernel_rfl) ?_
                    refine AV.take 28 #[true, true, true, true, true, true, true, true, true, true, true, true, true, true, true, true, true, true, true, true, true, true, true, true, true, true, true, true, true, false, true, false] rfl (by kernel_rfl) (by kernel_rfl) (by kernel_rfl) (fun _ _ _ h => h) gno (Step.pick_t rfl rfl) rfl (fun _ h => h.sel [0, 0, 0, 0, 0, 0] rfl) (by kernel_rfl) ?_
                    refine AV.take 29 #[true, true, true, true, true, true, true, true, true, true, true, true, true, true, true, true, true, true, true, true, true, true, true, true, true, true, true, true, true, true, true, false] rfl (by kernel_rfl) (by kernel_rfl) (by kernel_rfl) (fun _ _ _ h => h) gno (Step.build rfl (Bd63_0_1_2 _ _ _ _ _ _ _)) rfl (fun _ h => h.sel [0, 0, 0, 0, 0, 0] rfl) (by kernel_rfl) ?_
                    refine AV.all [31] (by kernel_rfl) (by decide) ?_
                    refine ⟨⟨_, rfl, ?_⟩, trivial⟩
                    · -- 31 comes up
                      refine OV.store 6 [_, _, _, _, _, _, _, _] #[_, _, _, _, _, _, _, _] I63 rfl rfl rfl rfl rfl (Nat.le_of_ble_eq_true rfl) (by simp [Value.oneCell']) rfl gno ?_
                      refine AV.next #[true, true, true, true, true, true, true, true, true, true, true, true, true, true, true, true, true, true, true, true, true, true, true, true, true, true, true, true, true, true, true, true] (by kernel_rfl) (fun _ h => h.sel [0, 0, 0, 0, 0, 0] rfl) ?_
                      refine AV.done (by kernel_rfl) ?_
                      refine KV.then_n ?_
                      refine KV.env [(0, _), (3, _), (6, _), (8, _)] ⟨rfl, rfl, rfl, rfl, trivial⟩ ?_
                      refine KV.sel [0, 0, 0, 0, 0, 0, 0] [_, _, _, _, _, _, _] rfl ?_
                      (first | have hlv : decide (rlv s a) = s.en.getD (s.ms.getD i rhK.d).own.toNat false := rlv_t e1 e2 hfi | have hlv : decide (rlv s a) = false := decide_eq_false (fun k => e2 k.2.1) | have hlv : decide (rlv s a) = false := decide_eq_false (fun k => e1 k.1))
                      exact KV.join (br) ⟨rfl, rfl, rfl, rfl, trivial⟩ (fun _ h => by rw [hlv]; exact h)
                  · -- False
                    have e2 := of_decide_eq_false cc4
                    refine AV.takeSkip 15 #[true, true, true, true, true, true, true, true, true, true, true, true, true, true, true, true, false, false, false, false, false, false, false, false, false, false, false, false, false, false, true, false] rfl (by kernel_rfl) (by kernel_rfl) (by kernel_rfl) (fun _ _ _ h => h) rfl rfl (fun _ h => h.sel [0, 0, 0, 0, 0, 0] rfl) (by kernel_rfl) ?_
                    refine AV.takeSkip 16 #[true, true, true, true, true, true, true, true, true, true, true, true, true, true, true, true, true, false, false, false, false, false, false, false, false, false, false, false, false, false, true, false] rfl (by kernel_rfl) (by kernel_rfl) (by kernel_rfl) (fun _ _ _ h => h) rfl rfl (fun _ h => h.sel [0, 0, 0, 0, 0, 0] rfl) (by kernel_rfl) ?_
                    refine AV.takeSkip 17 #[true, true, true, true, true, true, true, true, true, true, true, true, true, true, true, true, true, true, false, false, false, false, false, false, false, false, false, false, false, false, true, false] rfl (by kernel_rfl) (by kernel_rfl) (by kernel_rfl) (fun _ _ _ h => h) rfl rfl (fun _ h => h.sel [0, 0, 0, 0, 0, 0] rfl) (by kernel_rfl) ?_
                    refine AV.takeSkip 18 #[true, true, true, true, true, true, true, true, true, true, true, true, true, true, true, true, true, true, true, false, false, false, false, false, false, false, false, false, false, false, true, false] rfl (by kernel_rfl) (by kernel_rfl) (by kernel_rfl) (fun _ _ _ h => h) rfl rfl (fun _ h => h.sel [0, 0, 0, 0, 0, 0] rfl) (by kernel_rfl) ?_
                    refine AV.takeSkip 19 #[true, true, true, true, true, true, true, true, true, true, true, true, true, true, true, true, true, true, true, true, false, false, false, false, false, false, false, false, false, false, true, false] rfl (by kernel_rfl) (by kernel_rfl) (by kernel_rfl) (fun _ _ _ h => h) rfl rfl (fun _ h => h.sel [0, 0, 0, 0, 0, 0] rfl) (by kernel_rfl) ?_
                    refine AV.takeSkip 20 #[true, true, true, true, true, true, true, true, true, true, true, true, true, true, true, true, true, true, true, true, true, false, false, false, false, false, false, false, false, false, true, false] rfl (by kernel_rfl) (by kernel_rfl) (by kernel_rfl) (fun _ _ _ h => h) rfl rfl (fun _ h => h.sel [0, 0, 0, 0, 0, 0] rfl) (by kernel_rfl) ?_
                    refine AV.takeSkip 21 #[true, true, true, true, true, true, true, true, true, true, true, true, true, true, true, true, true, true, true, true, true, true, false, false, false, false, false, false, false, false, true, false] rfl (by kernel_rfl) (by kernel_rfl) (by kernel_rfl) (fun _ _ _ h => h) rfl rfl (fun _ h => h.sel [0, 0, 0, 0, 0, 0] rfl) (by kernel_rfl) ?_
                    refine AV.takeSkip 22 #[true, true, true, true, true, true, true, true, true, true, true, true, true, true, true, true, true, true, true, true, true, true, true, false, false, false, false, false, false, false, true, false] rfl (by kernel_rfl) (by kernel_rfl) (by kernel_rfl) (fun _ _ _ h => h) rfl rfl (fun _ h => h.sel [0, 0, 0, 0, 0, 0] rfl) (by kernel_rfl) ?_
                    refine AV.takeSkip 23 #[true, true, true, true, true, true, true, true, true, true, true, true, true, true, true, true, true, true, true, true, true, true, true, true, false, false, false, false, false, false, true, false] rfl (by kernel_rfl) (by kernel_rfl) (by kernel_rfl) (fun _ _ _ h => h) rfl rfl (fun _ h => h.sel [0, 0, 0, 0, 0, 0] rfl) (by kernel_rfl) ?_
                    refine AV.takeSkip 24 #[true, true, true, true, true, true, true, true, true, true, true, true, true, true, true, true, true, true, true, true, true, true, true, true, true, false, false, false, false, false, true, false] rfl (by kernel_rfl) (by kernel_rfl) (by kernel_rfl) (fun _ _ _ h => h) rfl rfl (fun _ h => h.sel [0, 0, 0, 0, 0, 0] rfl) (by kernel_rfl) ?_
                    refine AV.takeSkip 25 #[true, true, true, true, true, true, true, true, true, true, true, true, true, true, true, true, true, true, true, true, true, true, true, true, true, true, false, false, false, false, true, false] rfl (by kernel_rfl) (by kernel_rfl) (by kernel_rfl) (fun _ _ _ h => h) rfl rfl (fun _ h => h.sel [0, 0, 0, 0, 0, 0] rfl) (by kernel_rfl) ?_
                    refine AV.takeSkip 26 #[true, true, true, true, true, true, true, true, true, true, true, true, true, true, true, true, true, true, true, true, true, true, true, true, true, true, true, false, false, false, true, false] rfl (by kernel_rfl) (by kernel_rfl) (by kernel_rfl) (fun _ _ _ h => h) rfl rfl (fun _ h => h.sel [0, 0, 0, 0, 0, 0] rfl) (by kernel_rfl) ?_
                    refine AV.takeSkip 27 #[true, true, true, true, true, true, true, true, true, true, true, true, true, true, true, true, true, true, true, true, true, true, true, true, true, true, true, true, false, false, true, false] rfl (by kernel_rfl) (by kernel_rfl) (by kernel_rfl) (fun _ _ _ h => h) rfl rfl (fun _ h => h.sel [0, 0, 0, 0, 0, 0] rfl) (by kernel_rfl) ?_
                    refine AV.take 28 #[true, true, true, true, true, true, true, true, true, true, true, true, true, true, true, true, true, true, true, true, true, true, true, true, true, true, true, true, true, false, true, false] rfl (by kernel_rfl) (by kernel_rfl) (by kernel_rfl) (fun _ _ _ h => h) gno (Step.pick_f rfl rfl) rfl (fun _ h => h.sel [0, 0, 0, 0, 0, 0] rfl) (by kernel_rfl) ?_
                    refine AV.take 29 #[true, true, true, true, true, true, true, true, true, true, true, true, true, true, true, true, true, true, true, true, true, true, true, true, true, true, true, true, true, true, true, false] rfl (by kernel_rfl) (by kernel_rfl) (by kernel_rfl) (fun _ _ _ h => h) gno (Step.build rfl (Bd63_0_1_2 _ _ _ _ _ _ _)) rfl (fun _ h => h.sel [0, 0, 0, 0, 0, 0] rfl) (by kernel_rfl) ?_
                    refine AV.all [31] (by kernel_rfl) (by decide) ?_
                    refine ⟨⟨_, rfl, ?_⟩, trivial⟩
                    · -- 31 comes up
                      refine OV.store 6 [_, _, _, _, _, _, _, _] #[_, _, _, _, _, _, _, _] I63 rfl rfl rfl rfl rfl (Nat.le_of_ble_eq_true rfl) (by simp [Value.oneCell']) rfl gno ?_
                      refine AV.next #[true, true, true, true, true, true, true, true, true, true, true, true, true, true, true, true, true, true, true, true, true, true, true, true, true, true, true, true, true, true, true, true] (by kernel_rfl) (fun _ h => h.sel [0, 0, 0, 0, 0, 0] rfl) ?_
                      refine AV.done (by kernel_rfl) ?_
                      refine KV.then_n ?_
                      refine KV.env [(0, _), (3, _), (6, _), (8, _)] ⟨rfl, rfl, rfl, rfl, trivial⟩ ?_
                      refine KV.sel [0, 0, 0, 0, 0, 0, 0] [_, _, _, _, _, _, _] rfl ?_
                      (first | have hlv : decide (rlv s a) = s.en.getD (s.ms.getD i rhK.d).own.toNat false := rlv_t e1 e2 hfi | have hlv : decide (rlv s a) = false := decide_eq_false (fun k => e2 k.2.1) | have hlv : decide (rlv s a) = false := decide_eq_false (fun k => e1 k.1))
                      exact KV.join (br) ⟨rfl, rfl, rfl, rfl, trivial⟩ (fun _ h => by rw [hlv]; exact h)
                · -- False
                  have e1 := of_decide_eq_false cc3
                  refine AV.takeSkip 10 #[true, true, true, true, true, true, true, true, true, true, true, false, false, false, false, false, false, false, false, false, false, false, false, false, false, false, false, false, false, false, true, false] rfl (by kernel_rfl) (by kernel_rfl) (by kernel_rfl) (fun _ _ _ h => h) rfl rfl (fun _ h => h.sel [0, 0, 0, 0, 0, 0] rfl) (by kernel_rfl) ?_
                  refine AV.takeSkip 11 #[true, true, true, true, true, true, true, true, true, true, true, true, false, false, false, false, false, false, false, false, false, false, false, false, false, false, false, false, false, false, true, false] rfl (by kernel_rfl) (by kernel_rfl) (by kernel_rfl) (fun _ _ _ h => h) rfl rfl (fun _ h => h.sel [0, 0, 0, 0, 0, 0] rfl) (by kernel_rfl) ?_
                  refine AV.takeSkip 12 #[true, true, true, true, true, true, true, true, true, true, true, true, true, false, false, false, false, false, false, false, false, false, false, false, false, false, false, false, false, false, true, false] rfl (by kernel_rfl) (by kernel_rfl) (by kernel_rfl) (fun _ _ _ h => h) rfl rfl (fun _ h => h.sel [0, 0, 0, 0, 0, 0] rfl) (by kernel_rfl) ?_
                  refine AV.take 13 #[true, true, true, true, true, true, true, true, true, true, true, true, true, true, false, false, false, false, false, false, false, false, false, false, false, false, false, false, false, false, true, false] rfl (by kernel_rfl) (by kernel_rfl) (by kernel_rfl) (fun _ _ _ h => h) gno (Step.pick_f rfl rfl) rfl (fun _ h => h.sel [0, 0, 0, 0, 0, 0] rfl) (by kernel_rfl) ?_
                  refine AV.take 14 #[true, true, true, true, true, true, true, true, true, true, true, true, true, true, true, false, false, false, false, false, false, false, false, false, false, false, false, false, false, false, true, false] rfl (by kernel_rfl) (by kernel_rfl) (by kernel_rfl) (fun _ _ _ h => h) gno (Step.move rfl) rfl (fun _ h => h.sel [0, 0, 0, 0, 0, 0] rfl) (by kernel_rfl) ?_
                  refine AV.takeSkip 15 #[true, true, true, true, true, true, true, true, true, true, true, true, true, true, true, true, false, false, false, false, false, false, false, false, false, false, false, false, false, false, true, false] rfl (by kernel_rfl) (by kernel_rfl) (by kernel_rfl) (fun _ _ _ h => h) rfl rfl (fun _ h => h.sel [0, 0, 0, 0, 0, 0] rfl) (by kernel_rfl) ?_
                  refine AV.takeSkip 16 #[true, true, true, true, true, true, true, true, true, true, true, true, true, true, true, true, true, false, false, false, false, false, false, false, false, false, false, false, false, false, true, false] rfl (by kernel_rfl) (by kernel_rfl) (by kernel_rfl) (fun _ _ _ h => h) rfl rfl (fun _ h => h.sel [0, 0, 0, 0, 0, 0] rfl) (by kernel_rfl) ?_
                  refine AV.takeSkip 17 #[true, true, true, true, true, true, true, true, true, true, true, true, true, true, true, true, true, true, false, false, false, false, false, false, false, false, false, false, false, false, true, false] rfl (by kernel_rfl) (by kernel_rfl) (by kernel_rfl) (fun _ _ _ h => h) rfl rfl (fun _ h => h.sel [0, 0, 0, 0, 0, 0] rfl) (by kernel_rfl) ?_
                  refine AV.takeSkip 18 #[true, true, true, true, true, true, true, true, true, true, true, true, true, true, true, true, true, true, true, false, false, false, false, false, false, false, false, false, false, false, true, false] rfl (by kernel_rfl) (by kernel_rfl) (by kernel_rfl) (fun _ _ _ h => h) rfl rfl (fun _ h => h.sel [0, 0, 0, 0, 0, 0] rfl) (by kernel_rfl) ?_
                  refine AV.takeSkip 19 #[true, true, true, true, true, true, true, true, true, true, true, true, true, true, true, true, true, true, true, true, false, false, false, false, false, false, false, false, false, false, true, false] rfl (by kernel_rfl) (by kernel_rfl) (by kernel_rfl) (fun _ _ _ h => h) rfl rfl (fun _ h => h.sel [0, 0, 0, 0, 0, 0] rfl) (by kernel_rfl) ?_
                  refine AV.takeSkip 20 #[true, true, true, true, true, true, true, true, true, true, true, true, true, true, true, true, true, true, true, true, true, false, false, false, false, false, false, false, false, false, true, false] rfl (by kernel_rfl) (by kernel_rfl) (by kernel_rfl) (fun _ _ _ h => h) rfl rfl (fun _ h => h.sel [0, 0, 0, 0, 0, 0] rfl) (by kernel_rfl) ?_
                  refine AV.takeSkip 21 #[true, true, true, true, true, true, true, true, true, true, true, true, true, true, true, true, true, true, true, true, true, true, false, false, false, false, false, false, false, false, true, false] rfl (by kernel_rfl) (by kernel_rfl) (by kernel_rfl) (fun _ _ _ h => h) rfl rfl (fun _ h => h.sel [0, 0, 0, 0, 0, 0] rfl) (by kernel_rfl) ?_
                  refine AV.takeSkip 22 #[true, true, true, true, true, true, true, true, true, true, true, true, true, true, true, true, true, true, true, true, true, true, true, false, false, false, false, false, false, false, true, false] rfl (by kernel_rfl) (by kernel_rfl) (by kernel_rfl) (fun _ _ _ h => h) rfl rfl (fun _ h => h.sel [0, 0, 0, 0, 0, 0] rfl) (by kernel_rfl) ?_
                  refine AV.takeSkip 23 #[true, true, true, true, true, true, true, true, true, true, true, true, true, true, true, true, true, true, true, true, true, true, true, true, false, false, false, false, false, false, true, false] rfl (by kernel_rfl) (by kernel_rfl) (by kernel_rfl) (fun _ _ _ h => h) rfl rfl (fun _ h => h.sel [0, 0, 0, 0, 0, 0] rfl) (by kernel_rfl) ?_
                  refine AV.takeSkip 24 #[true, true, true, true, true, true, true, true, true, true, true, true, true, true, true, true, true, true, true, true, true, true, true, true, true, false, false, false, false, false, true, false] rfl (by kernel_rfl) (by kernel_rfl) (by kernel_rfl) (fun _ _ _ h => h) rfl rfl (fun _ h => h.sel [0, 0, 0, 0, 0, 0] rfl) (by kernel_rfl) ?_
                  refine AV.takeSkip 25 #[true, true, true, true, true, true, true, true, true, true, true, true, true, true, true, true, true, true, true, true, true, true, true, true, true, true, false, false, false, false, true, false] rfl (by kernel_rfl) (by kernel_rfl) (by kernel_rfl) (fun _ _ _ h => h) rfl rfl (fun _ h => h.sel [0, 0, 0, 0, 0, 0] rfl) (by kernel_rfl) ?_
                  refine AV.takeSkip 26 #[true, true, true, true, true, true, true, true, true, true, true, true, true, true, true, true, true, true, true, true, true, true, true, true, true, true, true, false, false, false, true, false] rfl (by kernel_rfl) (by kernel_rfl) (by kernel_rfl) (fun _ _ _ h => h) rfl rfl (fun _ h => h.sel [0, 0, 0, 0, 0, 0] rfl) (by kernel_rfl) ?_
                  refine AV.takeSkip 27 #[true, true, true, true, true, true, true, true, true, true, true, true, true, true, true, true, true, true, true, true, true, true, true, true, true, true, true, true, false, false, true, false] rfl (by kernel_rfl) (by kernel_rfl) (by kernel_rfl) (fun _ _ _ h => h) rfl rfl (fun _ h => h.sel [0, 0, 0, 0, 0, 0] rfl) (by kernel_rfl) ?_
                  refine AV.take 28 #[true, true, true, true, true, true, true, true, true, true, true, true, true, true, true, true, true, true, true, true, true, true, true, true, true, true, true, true, true, false, true, false] rfl (by kernel_rfl) (by kernel_rfl) (by kernel_rfl) (fun _ _ _ h => h) gno (Step.pick_f rfl rfl) rfl (fun _ h => h.sel [0, 0, 0, 0, 0, 0] rfl) (by kernel_rfl) ?_
                  refine AV.take 29 #[true, true, true, true, true, true, true, true, true, true, true, true, true, true, true, true, true, true, true, true, true, true, true, true, true, true, true, true, true, true, true, false] rfl (by kernel_rfl) (by kernel_rfl) (by kernel_rfl) (fun _ _ _ h => h) gno (Step.build rfl (Bd63_0_1_2 _ _ _ _ _ _ _)) rfl (fun _ h => h.sel [0, 0, 0, 0, 0, 0] rfl) (by kernel_rfl) ?_
                  refine AV.all [31] (by kernel_rfl) (by decide) ?_
                  refine ⟨⟨_, rfl, ?_⟩, trivial⟩
                  · -- 31 comes up
                    refine OV.store 6 [_, _, _, _, _, _, _, _] #[_, _, _, _, _, _, _, _] I63 rfl rfl rfl rfl rfl (Nat.le_of_ble_eq_true rfl) (by simp [Value.oneCell']) rfl gno ?_
                    refine AV.next #[true, true, true, true, true, true, true, true, true, true, true, true, true, true, true, true, true, true, true, true, true, true, true, true, true, true, true, true, true, true, true, true] (by kernel_rfl) (fun _ h => h.sel [0, 0, 0, 0, 0, 0] rfl) ?_
                    refine AV.done (by kernel_rfl) ?_
                    refine KV.then_n ?_
                    refine KV.env [(0, _), (3, _), (6, _), (8, _)] ⟨rfl, rfl, rfl, rfl, trivial⟩ ?_
                    refine KV.sel [0, 0, 0, 0, 0, 0, 0] [_, _, _, _, _, _, _] rfl ?_
                    (first | have hlv : decide (rlv s a) = s.en.getD (s.ms.getD i rhK.d).own.toNat false := rlv_t e1 e2 hfi | have hlv : decide (rlv s a) = false := decide_eq_false (fun k => e2 k.2.1) | have hlv : decide (rlv s a) = false := decide_eq_false (fun k => e1 k.1))
                    exact KV.join (br) ⟨rfl, rfl, rfl, rfl, trivial⟩ (fun _ h => by rw [hlv]; exact h)
          · intro br
            -- join; live [0, 3, 8]
            refine CV.join (fun (T : {q : RB × Int × Bool × Bool // RAx s a q.1 q.2.1 q.2.2.1 q.2.2.2}) => [(0, .pointer (some ⟨b, 0, none⟩)), (3, .pointer (some ⟨bx, 0, none⟩)), (8, .pointer (some ⟨br, 0, none⟩))]) (fun (T : {q : RB × Int × Bool × Bool // RAx s a q.1 q.2.1 q.2.2.1 q.2.2.2}) => Hp I w (rbL b T.1.1 ++ [Blk bx (.cells #[.int .i64 a.space, .int .u64 a.addr, .int .i64 a.width, .bool a.wr, .int .u64 (mskV a)] 37 (0, 0)), Blk br (.cells #[.int .i64 a.space, .int .u64 a.addr, .int .i64 a.width, .bool a.wr, .int .u64 (T.1.2.1), .int .i64 (ownR s.ms a.space a.addr), .bool (T.1.2.2.1), .bool (T.1.2.2.2)] 63 (0, 0))])) ?_ ?_
            · skip
              refine CV.block ?_
              refine CV.seq ?_
              -- region 17 iospace.go:153
              refine CV.region ?_
              refine RV.op (OV.step gno (Step.fieldAddr rfl (F63_2 _ _)) rfl ?_)
              refine RV.op (OV.step gno (Step.load Try.underlying4 rfl rfl (fun w h => h.cell 6 rfl rfl)) rfl ?_)
              refine RV.op (OV.step gno (Step.not rfl) rfl ?_)
              refine RV.op (OV.step gno (Step.assign rfl) rfl ?_)
              refine RV.nil ?_
              refine KV.then_n ?_
              refine KV.env [(0, _), (3, _), (6, _), (8, _), (142, _)] ⟨rfl, rfl, rfl, rfl, rfl, trivial⟩ ?_
              refine KV.cases 142 rfl (fun cc5 => ?_) (fun cc5 => ?_)
              · -- True
                have hlv := not_tru cc5
                refine CV.cond_t rfl ?_
                refine CV.seq ?_
                -- region 18 iospace.go:154
                refine CV.region ?_
                refine RV.op (OV.step gno (Step.fieldAddr rfl (F37_3 _ _)) rfl ?_)
                refine RV.op (OV.step gno (Step.load Try.underlying4 rfl rfl (fun w h => h.cell 5 rfl rfl)) rfl ?_)
                refine RV.op (OV.step gno (Step.not rfl) rfl ?_)
                refine RV.nil ?_
                refine KV.then_n ?_
                refine KV.env [(0, _), (3, _), (8, _), (148, _)] ⟨rfl, rfl, rfl, rfl, trivial⟩ ?_
                refine KV.cases 148 rfl (fun cc6 => ?_) (fun cc6 => ?_)
                · -- True
                  have hwr := not_tru cc6
                  have hwn : ¬ a.wr = true := by rw [hwr]; decide
                  refine CV.cond_t rfl ?_
                  -- region 19 iospace.go:155
                  refine CV.region ?_
                  refine RV.op (OV.step gno (Step.fieldAddr rfl (F37_2 _ _)) rfl ?_)
                  refine RV.op (OV.step gno (Step.load Try.underlying3 rfl rfl (fun w h => h.cell 5 rfl rfl)) rfl ?_)
                  refine RV.op (OV.call [] Try.func14 B14 N14 rfl rfl (fun w h => (rones_fn a.width hwf.1).fn w) (fun _ hb => hb.elim) gno rfl (fun v L' hp => ?_))
                  obtain ⟨rfl, rfl⟩ := hp
                  simp only [List.append_nil]
                  refine RV.op (OV.step gno (Step.fieldAddr rfl (F63_0 _ _)) rfl ?_)
                  refine RV.op (OV.step gno (Step.fieldAddr rfl (F37_4 _ _)) rfl ?_)
                  refine RV.op (OV.store 6 [_] #[_, _, _, _, _, _, _, _] I22 rfl rfl rfl rfl rfl (Nat.le_of_ble_eq_true rfl) (by simp [Value.oneCell']) rfl gno ?_)
                  refine RV.nil ?_
                  refine KV.block_n ?_
                  refine KV.then_n ?_
                  refine KV.env [(0, _), (3, _), (8, _)] ⟨rfl, rfl, rfl, trivial⟩ ?_
                  refine KV.sel [0, 0, 0, 0, 0, 0, 0] [_, _, _, _, _, _, _] rfl ?_
                  (first | exact KV.join (⟨(setB s i (LB s a i a.width.toNat), VB s a i a.width.toNat, decide (rlv s a), false), rax_good hlv hFn hfi hi⟩) ⟨rfl, rfl, rfl, trivial⟩ (fun _ h => h) | exact KV.join (⟨(s, onesM a.width, decide (rlv s a), false), rax_dead hlv (by rw [if_neg hwn])⟩) ⟨rfl, rfl, rfl, trivial⟩ (fun _ h => h) | exact KV.join (⟨(s, mskV a, decide (rlv s a), false), rax_dead hlv (by rw [if_pos hwr])⟩) ⟨rfl, rfl, rfl, trivial⟩ (fun _ h => h) | exact KV.join (⟨(s2, mskV a, decide (rlv s a), true), rax_fail hlv hFt (by rw [if_pos hwr])⟩) ⟨rfl, rfl, rfl, trivial⟩ (fun _ h => h) | exact KV.join (⟨(s2, 0, decide (rlv s a), true), rax_fail hlv hFt (by rw [if_neg hwn])⟩) ⟨rfl, rfl, rfl, trivial⟩ (fun _ h => h))
                · -- False
                  have hwr := not_fls cc6
                  refine CV.cond_f rfl ?_
                  refine CV.skip ?_
                  refine KV.block_n ?_
                  refine KV.then_n ?_
                  refine KV.env [(0, _), (3, _), (8, _)] ⟨rfl, rfl, rfl, trivial⟩ ?_
                  refine KV.sel [0, 0, 0, 0, 0, 0, 0] [_, _, _, _, _, _, _] rfl ?_
                  (first | exact KV.join (⟨(setB s i (LB s a i a.width.toNat), VB s a i a.width.toNat, decide (rlv s a), false), rax_good hlv hFn hfi hi⟩) ⟨rfl, rfl, rfl, trivial⟩ (fun _ h => h) | exact KV.join (⟨(s, onesM a.width, decide (rlv s a), false), rax_dead hlv (by rw [if_neg hwn])⟩) ⟨rfl, rfl, rfl, trivial⟩ (fun _ h => h) | exact KV.join (⟨(s, mskV a, decide (rlv s a), false), rax_dead hlv (by rw [if_pos hwr])⟩) ⟨rfl, rfl, rfl, trivial⟩ (fun _ h => h) | exact KV.join (⟨(s2, mskV a, decide (rlv s a), true), rax_fail hlv hFt (by rw [if_pos hwr])⟩) ⟨rfl, rfl, rfl, trivial⟩ (fun _ h => h) | exact KV.join (⟨(s2, 0, decide (rlv s a), true), rax_fail hlv hFt (by rw [if_neg hwn])⟩) ⟨rfl, rfl, rfl, trivial⟩ (fun _ h => h))
              · -- False
                have hlv := not_fls cc5
                refine CV.cond_f rfl ?_
                refine CV.seq ?_
                -- region 20 iospace.go:157
                refine CV.region ?_
                refine RV.op (OV.step gno (Step.move rfl) rfl ?_)
                refine RV.op (OV.step gno (Step.loadN _ Try.underlying37 rfl I37 rfl rfl (fun w h => h.cells 5 rfl)) rfl ?_)
                refine RV.op (OV.call [0, 0, 0, 0, 0] (F := [_, _]) Try.func58 B58 N58 rfl rfl (fun w h => rfail2_fn b s hk { a with val := mskV a } hwf hua) (fun _ hb => hb.elim) gno rfl (fun v L' hp => ?_))
                obtain ⟨f, s2, rfl, rfl, hF⟩ := hp
                replace hF := hF.at
                refine RV.op (OV.step gno (Step.assign rfl) rfl ?_)
                refine RV.nil ?_
                refine KV.then_n ?_
                refine KV.env [(0, _), (3, _), (6, _), (8, _), (154, _)] ⟨rfl, rfl, rfl, rfl, rfl, trivial⟩ ?_
                refine KV.cases 154 rfl (fun cc7 => ?_) (fun cc7 => ?_)
                · -- True
                  have hFt : RFx s a true s2 := cc7 ▸ hF
                  refine CV.cond_t rfl ?_
                  refine CV.seq ?_
                  -- region 21 iospace.go:158
                  refine CV.region ?_
                  refine RV.op (OV.step gno (Step.fieldAddr rfl (F63_3 _ _)) rfl ?_)
                  refine RV.op (OV.store 1 [_] #[_, _, _, _, _, _, _, _] I4 rfl rfl rfl rfl rfl (Nat.le_of_ble_eq_true rfl) (by simp [Value.oneCell']) rfl gno ?_)
                  refine RV.nil ?_
                  refine KV.then_n ?_
                  refine KV.env [(0, _), (3, _), (8, _)] ⟨rfl, rfl, rfl, trivial⟩ ?_
                  refine CV.seq ?_
                  -- region 22 iospace.go:159
                  refine CV.region ?_
                  refine RV.op (OV.step gno (Step.fieldAddr rfl (F37_3 _ _)) rfl ?_)
                  refine RV.op (OV.step gno (Step.load Try.underlying4 rfl rfl (fun w h => h.cell 0 rfl rfl)) rfl ?_)
                  refine RV.op (OV.step gno (Step.not rfl) rfl ?_)
                  refine RV.nil ?_
                  refine KV.then_n ?_
                  refine KV.env [(0, _), (3, _), (8, _), (161, _)] ⟨rfl, rfl, rfl, rfl, trivial⟩ ?_
                  refine KV.cases 161 rfl (fun cc8 => ?_) (fun cc8 => ?_)
                  · -- True
                    have hwr := not_tru cc8
                    have hwn : ¬ a.wr = true := by rw [hwr]; decide
                    refine CV.cond_t rfl ?_
                    -- region 23 iospace.go:160
                    refine CV.region ?_
                    refine RV.op (OV.step gno (Step.fieldAddr rfl (F63_0 _ _)) rfl ?_)
                    refine RV.op (OV.step gno (Step.fieldAddr rfl (F37_4 _ _)) rfl ?_)
                    refine RV.op (OV.store 1 [_] #[_, _, _, _, _, _, _, _] I22 rfl rfl rfl rfl rfl (Nat.le_of_ble_eq_true rfl) (by simp [Value.oneCell']) rfl gno ?_)
                    refine RV.nil ?_
                    refine KV.block_n ?_
                    refine KV.then_n ?_
                    refine KV.env [(0, _), (3, _), (8, _)] ⟨rfl, rfl, rfl, trivial⟩ ?_
                    refine KV.sel [2, 2, 2, 2, 2, 0, 0] [_, _, _, _, _, _, _] rfl ?_
                    (first | exact KV.join (⟨(setB s i (LB s a i a.width.toNat), VB s a i a.width.toNat, decide (rlv s a), false), rax_good hlv hFn hfi hi⟩) ⟨rfl, rfl, rfl, trivial⟩ (fun _ h => h) | exact KV.join (⟨(s, onesM a.width, decide (rlv s a), false), rax_dead hlv (by rw [if_neg hwn])⟩) ⟨rfl, rfl, rfl, trivial⟩ (fun _ h => h) | exact KV.join (⟨(s, mskV a, decide (rlv s a), false), rax_dead hlv (by rw [if_pos hwr])⟩) ⟨rfl, rfl, rfl, trivial⟩ (fun _ h => h) | exact KV.join (⟨(s2, mskV a, decide (rlv s a), true), rax_fail hlv hFt (by rw [if_pos hwr])⟩) ⟨rfl, rfl, rfl, trivial⟩ (fun _ h => h) | exact KV.join (⟨(s2, 0, decide (rlv s a), true), rax_fail hlv hFt (by rw [if_neg hwn])⟩) ⟨rfl, rfl, rfl, trivial⟩ (fun _ h => h))
                  · -- False
                    have hwr := not_fls cc8
                    refine CV.cond_f rfl ?_
                    refine CV.skip ?_
                    refine KV.block_n ?_
                    refine KV.then_n ?_
                    refine KV.env [(0, _), (3, _), (8, _)] ⟨rfl, rfl, rfl, trivial⟩ ?_
                    refine KV.sel [2, 2, 2, 2, 2, 0, 0] [_, _, _, _, _, _, _] rfl ?_
                    (first | exact KV.join (⟨(setB s i (LB s a i a.width.toNat), VB s a i a.width.toNat, decide (rlv s a), false), rax_good hlv hFn hfi hi⟩) ⟨rfl, rfl, rfl, trivial⟩ (fun _ h => h) | exact KV.join (⟨(s, onesM a.width, decide (rlv s a), false), rax_dead hlv (by rw [if_neg hwn])⟩) ⟨rfl, rfl, rfl, trivial⟩ (fun _ h => h) | exact KV.join (⟨(s, mskV a, decide (rlv s a), false), rax_dead hlv (by rw [if_pos hwr])⟩) ⟨rfl, rfl, rfl, trivial⟩ (fun _ h => h) | exact KV.join (⟨(s2, mskV a, decide (rlv s a), true), rax_fail hlv hFt (by rw [if_pos hwr])⟩) ⟨rfl, rfl, rfl, trivial⟩ (fun _ h => h) | exact KV.join (⟨(s2, 0, decide (rlv s a), true), rax_fail hlv hFt (by rw [if_neg hwn])⟩) ⟨rfl, rfl, rfl, trivial⟩ (fun _ h => h))
                · -- False
                  have hFn : RFx s a false s2 := cc7 ▸ hF
                  rw [(hFn.no rfl).2]
                  refine CV.cond_f rfl ?_
                  refine CV.seq ?_
                  -- region 8 iospace.go:163
                  have hlt := of_decide_eq_true hlv
                  obtain ⟨i, hfi, hi, hit, _⟩ := fR_pos hlt.1
                  obtain ⟨i2, hfi2, _, hit2, _⟩ := fR_pos (show 0 ≤ fR s.ms a.space (a.addr + (a.width - 1)) by rw [← hlt.2.1]; exact hlt.1)
                  obtain rfl : i = i2 := by have := hlt.2.1; omega
                  have hb1 : (s.ms.getD i rhK.d).base ≤ a.addr := hit.2.1
                  have hb2 : (a.addr + (a.width - 1)) - (s.ms.getD i rhK.d).base < (s.ms.getD i rhK.d).len := hit2.2.2
                  have hmb : isU (s.ms.getD i rhK.d).base := (hk.each i hi).b
                  unfold isU at hmb
                  have hml : (s.ms.getD i rhK.d).bs.length = (s.ms.getD i rhK.d).len.toNat := (hk.each i hi).l
                  have hyy : okB (s.ms.getD i rhK.d).bs := (hk.each i hi).y
                  refine CV.still (by kernel_rfl) (by kernel_rfl) (fun _ h => h.drew) ?_
                  refine SV.step gno (Step.fieldAddr rfl (F37_1 _ _)) rfl ?_
                  refine SV.step gno (Step.load Try.underlying22 rfl rfl (fun w h => h.cell 0 rfl rfl)) rfl ?_
                  refine SV.step gno (Step.move rfl) rfl ?_
                  refine SV.step gno (Step.nilCheck rfl) rfl ?_
                  refine SV.step gno (Step.fieldAddr rfl (F56_0 _ _)) rfl ?_
                  refine SV.step gno (Step.load Try.underlying51 rfl rfl (fun w h => h.cell 2 rfl (rbC_m hw))) rfl ?_
                  refine SV.step gno (Step.move rfl) rfl ?_
                  refine SV.step gno (Step.idx Try.underlying51 I94 (fun w h => h.os 3 rfl) rfl rfl (by first | rfl | exact (LB_len s a i j).symm) _ hfi (by (first | omega | (rw [LB_len]; omega)))) rfl ?_
                  refine SV.step gno (Step.fieldAddr rfl (F94_1 _ _)) rfl ?_
                  refine SV.step gno (Step.fieldAddr rfl (F32_0 _ _)) rfl ?_
                  refine SV.step gno (Step.load Try.underlying22 rfl rfl (fun w h => (h.os 3 rfl).cell (j := 1) (by omega) rfl)) rfl ?_
                  (first | refine SV.step gno (Step.sub rfl rfl (wU64 (by omega) (by omega))) rfl ?_ | refine SV.step gno (Step.sub rfl rfl rfl) rfl ?_)
                  refine SV.step gno (Step.assign rfl) rfl ?_
                  refine SV.nil ?_
                  refine KV.then_n ?_
                  refine KV.env [(0, _), (3, _), (6, _), (8, _), (9, _)] ⟨rfl, rfl, rfl, rfl, rfl, trivial⟩ ?_
                  -- join; live [0, 3, 6, 8, 9]
                  refine CV.join (α := Unit) (fun _ => [(0, .pointer (some ⟨b, 0, none⟩)), (3, .pointer (some ⟨bx, 0, none⟩)), (6, .int .i64 (fR s.ms a.space a.addr)), (8, .pointer (some ⟨br, 0, none⟩)), (9, .int .u64 (a.addr - (s.ms.getD i rhK.d).base))]) (fun _ => Hp I w (rbL b s ++ [Blk bx (.cells #[.int .i64 a.space, .int .u64 a.addr, .int .i64 a.width, .bool a.wr, .int .u64 (mskV a)] 37 (0, 0)), Blk br (.cells #[.int .i64 a.space, .int .u64 a.addr, .int .i64 a.width, .bool a.wr, .int .u64 (VB s a i 0), .int .i64 (ownR s.ms a.space a.addr), .bool (decide (rlv s a)), .bool (false)] 63 (0, 0))])) ?_ ?_
                  · skip
                    refine CV.seq ?_
                    -- region 9 iospace.go:164
                    refine CV.region ?_
                    refine RV.op (OV.step gno (Step.fieldAddr rfl (F37_3 _ _)) rfl ?_)
                    refine RV.op (OV.step gno (Step.load Try.underlying4 rfl rfl (fun w h => h.cell 0 rfl rfl)) rfl ?_)
                    refine RV.op (OV.step gno (Step.not rfl) rfl ?_)
                    refine RV.nil ?_
                    refine KV.then_n ?_
                    refine KV.env [(0, _), (3, _), (6, _), (8, _), (9, _), (88, _)] ⟨rfl, rfl, rfl, rfl, rfl, rfl, trivial⟩ ?_
                    refine KV.cases 88 rfl (fun cc9 => ?_) (fun cc9 => ?_)
                    · -- True
                      have hwr := not_tru cc9
                      have hwn : ¬ a.wr = true := by rw [hwr]; decide
                      refine CV.cond_t rfl ?_
                      -- region 10 iospace.go:165
                      refine CV.region ?_
                      refine RV.op (OV.step gno (Step.fieldAddr rfl (F63_0 _ _)) rfl ?_)
                      refine RV.op (OV.step gno (Step.fieldAddr rfl (F37_4 _ _)) rfl ?_)
                      refine RV.op (OV.store 1 [_] #[_, _, _, _, _, _, _, _] I22 rfl rfl rfl rfl rfl (Nat.le_of_ble_eq_true rfl) (by simp [Value.oneCell']) rfl gno ?_)
                      refine RV.nil ?_
                      refine KV.then_n ?_
                      refine KV.env [(0, _), (3, _), (6, _), (8, _), (9, _)] ⟨rfl, rfl, rfl, rfl, rfl, trivial⟩ ?_
                      refine KV.sel [2, 2, 2, 2, 2, 0, 0] [_, _, _, _, _, _, _] rfl ?_
                      exact KV.join () ⟨rfl, rfl, rfl, rfl, rfl, trivial⟩ (fun _ h => by rw [VB_0]; first | (rw [if_pos hwr]; exact h) | (rw [if_neg hwn]; exact h))
                    · -- False
                      have hwr := not_fls cc9
                      refine CV.cond_f rfl ?_
                      refine CV.skip ?_
                      refine KV.then_n ?_
                      refine KV.env [(0, _), (3, _), (6, _), (8, _), (9, _)] ⟨rfl, rfl, rfl, rfl, rfl, trivial⟩ ?_
                      refine KV.sel [2, 2, 2, 2, 2, 0, 0] [_, _, _, _, _, _, _] rfl ?_
                      exact KV.join () ⟨rfl, rfl, rfl, rfl, rfl, trivial⟩ (fun _ h => by rw [VB_0]; first | (rw [if_pos hwr]; exact h) | (rw [if_neg hwn]; exact h))
                  · intro _
                    refine CV.seq ?_
                    -- region 11 iospace.go:167
                    refine KV.sel [0, 0, 0, 0, 0, 0, 0] [_, _, _, _, _, _, _] rfl ?_
                    refine KV.heap (fun w h => openR2 h hi) ?_
                    refine CV.region ?_
                    refine RV.op (OV.step gno (Step.fieldAddr rfl (F37_2 _ _)) rfl ?_)
                    refine RV.op (OV.step gno (Step.load Try.underlying3 rfl rfl (fun w h => h.cell 5 rfl rfl)) rfl ?_)
                    (first | refine RV.op (OV.step gno (Step.sub rfl rfl (wI64 (by omega) (by omega))) rfl ?_) | refine RV.op (OV.step gno (Step.sub rfl rfl rfl) rfl ?_))
                    refine RV.op (OV.step gno (Step.assign rfl) rfl ?_)
                    refine RV.nil ?_
                    refine KV.then_n ?_
                    refine KV.env [(0, _), (3, _), (6, _), (8, _), (9, _), (10, _)] ⟨rfl, rfl, rfl, rfl, rfl, rfl, trivial⟩ ?_
                    refine CV.block ?_
                    -- loop L12; live [0, 3, 6, 8, 9, 10]
                    refine KV.sel [0, 0, 0, 0, 0, 0, 0, 0] [_, _, _, _, _, _, _, _] rfl ?_
                    refine CV.loopI (fun (j : Nat) => j ≤ a.width.toNat) (fun (j : Nat) => a.width.toNat - j) (fun (j : Nat) => [(0, .pointer (some ⟨b, 0, none⟩)), (3, .pointer (some ⟨bx, 0, none⟩)), (6, .int .i64 (fR s.ms a.space a.addr)), (8, .pointer (some ⟨br, 0, none⟩)), (9, .int .u64 (a.addr - (s.ms.getD i rhK.d).base)), (10, .int .i64 (a.width - 1 - j))]) (fun (j : Nat) => Hp I w [Blk b (.cells (rbC s).toArray 56 (0, 0)), OS 94 rhK s.mA s.mc s.ms, OS 5 (intK .u8) (s.ms.getD i rhK.d).A (s.ms.getD i rhK.d).c (LB s a i j), OS 97 fltK s.fA s.fc s.fl, OS 63 trcK s.tA s.tc s.tr, Blk bx (.cells #[.int .i64 a.space, .int .u64 a.addr, .int .i64 a.width, .bool a.wr, .int .u64 (mskV a)] 37 (0, 0)), Blk br (.cells #[.int .i64 a.space, .int .u64 a.addr, .int .i64 a.width, .bool a.wr, .int .u64 (VB s a i j), .int .i64 (ownR s.ms a.space a.addr), .bool (decide (rlv s a)), .bool (false)] 63 (0, 0)), Big rhA (s.ms.eraseIdx i)]) (0) (Nat.zero_le _) ⟨rfl, rfl, rfl, rfl, rfl, (by first | rfl | exact congrArg (fun x => some (Value.int .i64 x)) (show a.width - 1 = a.width - 1 - ((0 : Nat) : Int) by omega)), trivial⟩ (fun _ h => by rw [LB_0]; exact h) ?_
                    intro j hinv
                    refine CV.seq ?_
                    refine CV.seq ?_
                    -- region 12 iospace.go:167
                    refine CV.region ?_
                    refine RV.op (OV.step gno (Step.move rfl) rfl ?_)
                    refine RV.op (OV.split gno (Step.geq rfl rfl) rfl (fun hj => ?_) (fun hj => ?_))
                    · -- True
                      refine RV.nil ?_
                      refine KV.then_n ?_
                      refine KV.env [(0, _), (3, _), (6, _), (8, _), (9, _), (10, _), (95, _)] ⟨rfl, rfl, rfl, rfl, rfl, rfl, rfl, trivial⟩ ?_
                      refine CV.cond_t rfl ?_
                      refine CV.skip ?_
                      refine KV.then_n ?_
                      refine KV.env [(0, _), (3, _), (6, _), (8, _), (9, _), (10, _)] ⟨rfl, rfl, rfl, rfl, rfl, rfl, trivial⟩ ?_
                      refine CV.seq ?_
                      refine CV.block ?_
                      refine CV.seq ?_
                      -- region 14 iospace.go:168
                      refine CV.region ?_
                      refine RV.op (OV.step gno (Step.fieldAddr rfl (F37_3 _ _)) rfl ?_)
                      refine RV.op (OV.step gno (Step.load Try.underlying4 rfl rfl (fun w h => h.cell 5 rfl rfl)) rfl ?_)
                      refine RV.nil ?_
                      refine KV.then_n ?_
                      refine KV.env [(0, _), (3, _), (6, _), (8, _), (9, _), (10, _), (99, _)] ⟨rfl, rfl, rfl, rfl, rfl, rfl, rfl, trivial⟩ ?_
                      refine KV.cases 99 rfl (fun cc10 => ?_) (fun cc10 => ?_)
                      · -- True
                        have hwr : a.wr = true := cc10
                        refine CV.cond_t rfl ?_
                        -- region 15 iospace.go:169
                        refine CV.stillTail 20 (by kernel_rfl) (by kernel_rfl) (fun _ h => h.drew) ?_
                        refine SV.step gno (Step.move rfl) rfl ?_
                        refine SV.step gno (Step.nilCheck rfl) rfl ?_
                        refine SV.step gno (Step.fieldAddr rfl (F56_0 _ _)) rfl ?_
                        refine SV.step gno (Step.load Try.underlying51 rfl rfl (fun w h => h.cell 0 rfl (rbC_m hw))) rfl ?_
                        refine SV.step gno (Step.move rfl) rfl ?_
                        refine SV.step gno (Step.idx Try.underlying51 I94 (fun w h => h.os 1 rfl) rfl rfl (by first | rfl | exact (LB_len s a i j).symm) _ hfi (by (first | omega | (rw [LB_len]; omega)))) rfl ?_
                        refine SV.step gno (Step.fieldAddr rfl (F94_3 _ _)) rfl ?_
                        refine SV.step gno (Step.load Try.underlying23 rfl rfl (fun w h => (h.os 1 rfl).cell (j := 4) (by omega) rfl)) rfl ?_
                        refine SV.step gno (Step.move rfl) rfl ?_
                        refine SV.step gno (Step.move rfl) rfl ?_
                        (first | refine SV.step gno (Step.convI Try.underlying3 Try.underlying22 rfl (wU64 (by omega) (by omega))) rfl ?_ | refine SV.step gno (Step.convI Try.underlying3 Try.underlying22 rfl rfl) rfl ?_)
                        (first | refine SV.step gno (Step.add rfl rfl (wU64 (by omega) (by omega))) rfl ?_ | refine SV.step gno (Step.add rfl rfl rfl) rfl ?_)
                        refine SV.step gno (Step.fieldAddr rfl (F37_4 _ _)) rfl ?_
                        refine SV.step gno (Step.load Try.underlying22 rfl rfl (fun w h => h.cell 5 rfl rfl)) rfl ?_
                        refine SV.step gno (Step.move rfl) rfl ?_
                        (first | refine SV.step gno (Step.mul rfl rfl (wI64 (by omega) (by omega))) rfl ?_ | refine SV.step gno (Step.mul rfl rfl rfl) rfl ?_)
                        (first | refine SV.step gno (Step.convI Try.underlying3 Try.underlying72 rfl (wU64 (by omega) (by omega))) rfl ?_ | refine SV.step gno (Step.convI Try.underlying3 Try.underlying72 rfl rfl) rfl ?_)
                        refine SV.step gno (Step.shr rfl rfl (by omega) ((rfl : Int.fdiv (mskV a) (2 ^ min (8 * (a.width - 1 - (j : Int))).toNat IntKind.u64.bits) = _))) rfl ?_
                        refine SV.step gno (Step.convI Try.underlying22 Try.underlying5 rfl ((show IntKind.u8.wrap (Int.fdiv (mskV a) (2 ^ min (8 * (a.width - 1 - (j : Int))).toNat IntKind.u64.bits)) = byo (mskV a) (a.width.toNat - (j + 1)) by rw [show a.width - 1 - (j : Int) = ((a.width.toNat - (j + 1) : Nat) : Int) by omega]; exact u8B (v := mskV a) (by omega) (mskU huv).1))) rfl ?_
                        refine SV.step gno (Step.idx Try.underlying23 I5 (fun w h => h.os 2 rfl) rfl rfl (by first | rfl | exact (LB_len s a i j).symm) _ (show a.addr - (s.ms.getD i rhK.d).base + (a.width - 1 - (j : Int)) = ((((a.addr - (s.ms.getD i rhK.d).base).toNat + (a.width.toNat - (j + 1))) : Nat) : Int) by omega) (by (first | omega | (rw [LB_len]; omega)))) rfl ?_
                        refine SV.nil ?_
                        show KV _ (wpList _ _ _ _) _ _
                        refine RV.op (OV.storeE 2 (((a.addr - (s.ms.getD i rhK.d).base).toNat + (a.width.toNat - (j + 1)))) (byo (mskV a) (a.width.toNat - (j + 1))) (j := 0) [_] I5 rfl rfl rfl rfl rfl rfl (by rw [LB_len]; omega) rfl (Nat.le_of_ble_eq_true rfl) gno ?_)
                        refine RV.nil ?_
                        refine KV.block_n ?_
                        refine KV.then_n ?_
                        refine KV.env [(0, _), (3, _), (6, _), (8, _), (9, _), (10, _)] ⟨rfl, rfl, rfl, rfl, rfl, rfl, trivial⟩ ?_
                        -- region 13 iospace.go:167
                        refine CV.region ?_
                        refine RV.op (OV.step gno (Step.move rfl) rfl ?_)
                        (first | refine RV.op (OV.step gno (Step.sub rfl rfl (wI64 (by omega) (by omega))) rfl ?_) | refine RV.op (OV.step gno (Step.sub rfl rfl rfl) rfl ?_))
                        refine RV.op (OV.step gno (Step.assign rfl) rfl ?_)
                        refine RV.nil ?_
                        refine KV.then_n ?_
                        refine KV.env [(0, _), (3, _), (6, _), (8, _), (9, _), (10, _)] ⟨rfl, rfl, rfl, rfl, rfl, rfl, trivial⟩ ?_
                        refine KV.sel [0, 0, 0, 0, 0, 0, 0, 0] [_, _, _, _, _, _, _, _] rfl ?_
                        exact KV.loopI (z := j) (j + 1) (by omega) (by omega) ⟨rfl, rfl, rfl, rfl, rfl, (congrArg (fun x => some (Value.int .i64 x)) (show a.width - 1 - (j : Int) - 1 = a.width - 1 - ((j + 1 : Nat) : Int) by omega)), trivial⟩ (fun _ h => by first | (rw [LB_wr hwr, VB_wr hwr]; rw [VB_wr hwr] at h; exact h) | (rw [LB_rd hwr, VB_rd hwr (by omega)]; rw [hLB] at h; exact h))
                      · -- False
                        have hwr : a.wr = false := cc10
                        have hLB : LB s a i j = (s.ms.getD i rhK.d).bs := LB_rd hwr j
                        have hvb := fun j => VB_bd (s := s) (i := i) (j := j) hwr hyy
                        have hyb : 0 ≤ (byt (LB s a i j) ((a.addr - (s.ms.getD i rhK.d).base).toNat + (a.width.toNat - (j + 1)))) ∧ (byt (LB s a i j) ((a.addr - (s.ms.getD i rhK.d).base).toNat + (a.width.toNat - (j + 1)))) ≤ 255 := by rw [hLB]; exact hyy ((a.addr - (s.ms.getD i rhK.d).base).toNat + (a.width.toNat - (j + 1)))
                        refine CV.cond_f rfl ?_
                        -- region 16 iospace.go:171
                        refine CV.stillTail 22 (by kernel_rfl) (by kernel_rfl) (fun _ h => h.drew) ?_
                        refine SV.step gno (Step.fieldAddr rfl (F63_0 _ _)) rfl ?_
                        refine SV.step gno (Step.fieldAddr rfl (F37_4 _ _)) rfl ?_
                        refine SV.step gno (Step.load Try.underlying22 rfl rfl (fun w h => h.cell 6 rfl rfl)) rfl ?_
                        refine SV.step gno (Step.shl rfl rfl (by omega) (shl8 (hvb j).1 (hvb j).2 (by omega))) rfl ?_
                        refine SV.step gno (Step.move rfl) rfl ?_
                        refine SV.step gno (Step.nilCheck rfl) rfl ?_
                        refine SV.step gno (Step.fieldAddr rfl (F56_0 _ _)) rfl ?_
                        refine SV.step gno (Step.load Try.underlying51 rfl rfl (fun w h => h.cell 0 rfl (rbC_m hw))) rfl ?_
                        refine SV.step gno (Step.move rfl) rfl ?_
                        refine SV.step gno (Step.idx Try.underlying51 I94 (fun w h => h.os 1 rfl) rfl rfl (by first | rfl | exact (LB_len s a i j).symm) _ hfi (by (first | omega | (rw [LB_len]; omega)))) rfl ?_
                        refine SV.step gno (Step.fieldAddr rfl (F94_3 _ _)) rfl ?_
                        refine SV.step gno (Step.load Try.underlying23 rfl rfl (fun w h => (h.os 1 rfl).cell (j := 4) (by omega) rfl)) rfl ?_
                        refine SV.step gno (Step.move rfl) rfl ?_
                        refine SV.step gno (Step.move rfl) rfl ?_
                        (first | refine SV.step gno (Step.convI Try.underlying3 Try.underlying22 rfl (wU64 (by omega) (by omega))) rfl ?_ | refine SV.step gno (Step.convI Try.underlying3 Try.underlying22 rfl rfl) rfl ?_)
                        (first | refine SV.step gno (Step.add rfl rfl (wU64 (by omega) (by omega))) rfl ?_ | refine SV.step gno (Step.add rfl rfl rfl) rfl ?_)
                        refine SV.step gno (Step.idx Try.underlying23 I5 (fun w h => h.os 2 rfl) rfl rfl (by first | rfl | exact (LB_len s a i j).symm) _ (show a.addr - (s.ms.getD i rhK.d).base + (a.width - 1 - (j : Int)) = ((((a.addr - (s.ms.getD i rhK.d).base).toNat + (a.width.toNat - (j + 1))) : Nat) : Int) by omega) (by (first | omega | (rw [LB_len]; omega)))) rfl ?_
                        refine SV.step gno (Step.load Try.underlying5 rfl rfl (fun w h => (h.os 2 rfl).cell0 (by rw [LB_len]; omega) rfl)) rfl ?_
                        refine SV.step gno (Step.convI Try.underlying5 Try.underlying22 rfl ((show IntKind.u64.wrap (byt (LB s a i j) ((a.addr - (s.ms.getD i rhK.d).base).toNat + (a.width.toNat - (j + 1)))) = (byt (LB s a i j) ((a.addr - (s.ms.getD i rhK.d).base).toNat + (a.width.toNat - (j + 1)))) from wU64 hyb.1 (by omega)))) rfl ?_
                        refine SV.step gno (Step.bor rfl rfl (or8 (hvb j).1 (hvb j).2 (by omega) hyb.1 hyb.2)) rfl ?_
                        refine SV.step gno (Step.fieldAddr rfl (F63_0 _ _)) rfl ?_
                        refine SV.step gno (Step.fieldAddr rfl (F37_4 _ _)) rfl ?_
                        refine SV.nil ?_
                        show KV _ (wpList _ _ _ _) _ _
                        refine RV.op (OV.store 6 [_] #[_, _, _, _, _, _, _, _] I22 rfl rfl rfl rfl rfl (Nat.le_of_ble_eq_true rfl) (by simp [Value.oneCell']) rfl gno ?_)
                        refine RV.nil ?_
                        refine KV.block_n ?_
                        refine KV.then_n ?_
                        refine KV.env [(0, _), (3, _), (6, _), (8, _), (9, _), (10, _)] ⟨rfl, rfl, rfl, rfl, rfl, rfl, trivial⟩ ?_
                        -- region 13 iospace.go:167
                        refine CV.region ?_
                        refine RV.op (OV.step gno (Step.move rfl) rfl ?_)
                        (first | refine RV.op (OV.step gno (Step.sub rfl rfl (wI64 (by omega) (by omega))) rfl ?_) | refine RV.op (OV.step gno (Step.sub rfl rfl rfl) rfl ?_))
                        refine RV.op (OV.step gno (Step.assign rfl) rfl ?_)
                        refine RV.nil ?_
                        refine KV.then_n ?_
                        refine KV.env [(0, _), (3, _), (6, _), (8, _), (9, _), (10, _)] ⟨rfl, rfl, rfl, rfl, rfl, rfl, trivial⟩ ?_
                        refine KV.sel [0, 0, 0, 0, 0, 0, 0, 0] [_, _, _, _, _, _, _, _] rfl ?_
                        exact KV.loopI (z := j) (j + 1) (by omega) (by omega) ⟨rfl, rfl, rfl, rfl, rfl, (congrArg (fun x => some (Value.int .i64 x)) (show a.width - 1 - (j : Int) - 1 = a.width - 1 - ((j + 1 : Nat) : Int) by omega)), trivial⟩ (fun _ h => by first | (rw [LB_wr hwr, VB_wr hwr]; rw [VB_wr hwr] at h; exact h) | (rw [LB_rd hwr, VB_rd hwr (by omega)]; rw [hLB] at h; exact h))
                    · -- False
                      obtain rfl : j = a.width.toNat := by omega
                      refine KV.heap (fun w h => closeR2 h hi (LB_len s a i _)) ?_
                      refine RV.nil ?_
                      refine KV.then_n ?_
                      refine KV.env [(0, _), (3, _), (6, _), (8, _), (9, _), (10, _), (95, _)] ⟨rfl, rfl, rfl, rfl, rfl, rfl, rfl, trivial⟩ ?_
                      refine CV.cond_f rfl ?_
                      refine CV.exit ?_
                      refine KV.then_exit ?_
                      refine KV.then_exit ?_
                      refine KV.block_hit ?_
                      refine KV.block_n ?_
                      refine KV.then_n ?_
                      refine KV.env [(0, _), (3, _), (8, _)] ⟨rfl, rfl, rfl, trivial⟩ ?_
                      refine KV.sel [0, 0, 0, 0, 0, 0, 0] [_, _, _, _, _, _, _] rfl ?_
                      (first | exact KV.join (⟨(setB s i (LB s a i a.width.toNat), VB s a i a.width.toNat, decide (rlv s a), false), rax_good hlv hFn hfi hi⟩) ⟨rfl, rfl, rfl, trivial⟩ (fun _ h => h) | exact KV.join (⟨(s, onesM a.width, decide (rlv s a), false), rax_dead hlv (by rw [if_neg hwn])⟩) ⟨rfl, rfl, rfl, trivial⟩ (fun _ h => h) | exact KV.join (⟨(s, mskV a, decide (rlv s a), false), rax_dead hlv (by rw [if_pos hwr])⟩) ⟨rfl, rfl, rfl, trivial⟩ (fun _ h => h) | exact KV.join (⟨(s2, mskV a, decide (rlv s a), true), rax_fail hlv hFt (by rw [if_pos hwr])⟩) ⟨rfl, rfl, rfl, trivial⟩ (fun _ h => h) | exact KV.join (⟨(s2, 0, decide (rlv s a), true), rax_fail hlv hFt (by rw [if_neg hwn])⟩) ⟨rfl, rfl, rfl, trivial⟩ (fun _ h => h))
            · intro T
              have hwT : T.1.1.en.length = 256 := by rw [T.2.tr.2.2.2]; exact hw
              have htT : T.1.1.tr = s.tr := T.2.tr.1
              -- join; live [3, 8]
              refine CV.join2 (fun (tA : Option Addr) (tc : Nat) => [(3, .pointer (some ⟨bx, 0, none⟩)), (8, .pointer (some ⟨br, 0, none⟩))]) (fun (tA : Option Addr) (tc : Nat) => Hp I w (rbL b (rtr T.1.1 ⟨{ a with val := T.1.2.1 }, ownR s.ms a.space a.addr, T.1.2.2.1, T.1.2.2.2⟩ tA tc) ++ [Blk bx (.cells #[.int .i64 a.space, .int .u64 a.addr, .int .i64 a.width, .bool a.wr, .int .u64 (mskV a)] 37 (0, 0)), Blk br (.cells #[.int .i64 a.space, .int .u64 a.addr, .int .i64 a.width, .bool a.wr, .int .u64 (T.1.2.1), .int .i64 (ownR s.ms a.space a.addr), .bool (T.1.2.2.1), .bool (T.1.2.2.2)] 63 (0, 0))])) ?_ ?_
              · skip
                -- region 24 iospace.go:175
                refine CV.any (Hp I w [Blk br (.cells #[.int .i64 a.space, .int .u64 a.addr, .int .i64 a.width, .bool a.wr, .int .u64 (T.1.2.1), .int .i64 (ownR s.ms a.space a.addr), .bool (T.1.2.2.1), .bool (T.1.2.2.2)] 63 (0, 0))]) (by kernel_rfl) (fun _ h => h.drew) 11 rfl ?_
                refine AV.take 0 #[true, false, false, false, false, false, false, false, false, false, false] rfl (by kernel_rfl) (by kernel_rfl) (by kernel_rfl) (fun _ _ _ h => h) gno (Step.move rfl) rfl (fun _ h => h.sel [6] rfl) (by kernel_rfl) ?_
                refine AV.take 1 #[true, true, false, false, false, false, false, false, false, false, false] rfl (by kernel_rfl) (by kernel_rfl) (by kernel_rfl) (fun _ _ _ h => h) gno (Step.move rfl) rfl (fun _ h => h.sel [6] rfl) (by kernel_rfl) ?_
                refine AV.take 2 #[true, true, true, false, false, false, false, false, false, false, false] rfl (by kernel_rfl) (by kernel_rfl) (by kernel_rfl) (fun _ _ _ h => h) gno (Step.nilCheck rfl) rfl (fun _ h => h.sel [6] rfl) (by kernel_rfl) ?_
                refine AV.take 3 #[true, true, true, true, false, false, false, false, false, false, false] rfl (by kernel_rfl) (by kernel_rfl) (by kernel_rfl) (fun _ _ _ h => h) gno (Step.fieldAddr rfl (F56_3 _ _)) rfl (fun _ h => h.sel [6] rfl) (by kernel_rfl) ?_
                refine AV.take 5 #[true, true, true, true, false, true, false, false, false, false, false] rfl (by kernel_rfl) (by kernel_rfl) (by kernel_rfl) (fun _ _ _ h => h) gno (Step.loadN _ Try.underlying63 rfl I63 rfl rfl (fun w h => h.cells 0 rfl)) rfl (fun _ h => h.sel [6] rfl) (by kernel_rfl) ?_
                refine AV.all [4, 6] (by kernel_rfl) (by decide) ?_
                refine ⟨⟨_, rfl, ?_⟩, ⟨⟨_, rfl, ?_⟩, trivial⟩⟩
                · -- 4 comes up
                  refine OV.step gno (Step.load Try.underlying54 rfl rfl (fun w h => h.cell 0 rfl (rbC_t hwT))) rfl ?_
                  refine AV.next #[true, true, true, true, true, true, false, false, false, false, false] (by kernel_rfl) (fun _ h => h.sel [6] rfl) ?_
                  refine AV.all [6] (by kernel_rfl) (by decide) ?_
                  refine ⟨⟨_, rfl, ?_⟩, trivial⟩
                  · -- 6 comes up
                    refine OV.buildSlice (K := trcK) ([⟨{ a with val := T.1.2.1 }, ownR s.ms a.space a.addr, T.1.2.2.1, T.1.2.2.2⟩]) rfl (Bs54_1_0 _ _ _ _ _ _ _ _) rfl rfl (by omega) gno rfl (fun b24_6 => ?_)
                    refine AV.next #[true, true, true, true, true, true, true, false, false, false, false] (by kernel_rfl) (fun _ h => h.sel [6] rfl) ?_
                    refine AV.all [7] (by kernel_rfl) (by decide) ?_
                    refine ⟨⟨_, rfl, ?_⟩, trivial⟩
                    · -- 7 comes up
                      refine OV.append 4 Try.underlying54 I63 rfl rfl rfl rfl rfl rfl (fun w h => h.os 7 rfl) (by rw [htT]; simp only [List.length_cons, List.length_nil]; omega) (by rw [htT]; simp only [List.length_cons, List.length_nil]; omega) gno rfl (fun tA tc => ?_)
                      refine AV.next #[true, true, true, true, true, true, true, true, false, false, false] (by kernel_rfl) (fun _ h => h.sel [6] rfl) ?_
                      refine AV.take 8 #[true, true, true, true, true, true, true, true, true, false, false] rfl (by kernel_rfl) (by kernel_rfl) (by kernel_rfl) (fun _ _ _ h => h) gno (Step.nilCheck rfl) rfl (fun _ h => h.sel [6] rfl) (by kernel_rfl) ?_
                      refine AV.take 9 #[true, true, true, true, true, true, true, true, true, true, false] rfl (by kernel_rfl) (by kernel_rfl) (by kernel_rfl) (fun _ _ _ h => h) gno (Step.fieldAddr rfl (F56_3 _ _)) rfl (fun _ h => h.sel [6] rfl) (by kernel_rfl) ?_
                      refine AV.all [10] (by kernel_rfl) (by decide) ?_
                      refine ⟨⟨_, rfl, ?_⟩, trivial⟩
                      · -- 10 comes up
                        refine OV.store 0 [_] (rbC (rtr T.1.1 ⟨{ a with val := T.1.2.1 }, ownR s.ms a.space a.addr, T.1.2.2.1, T.1.2.2.2⟩ tA tc)).toArray I54 rfl rfl rfl rfl rfl (by show _ + 1 ≤ (rbC _).toArray.size; rw [List.size_toArray, rbC_len hwT]; omega) (by simp [Value.oneCell']) (rset_of hwT (by omega) (rset_t hwT tA tc (T.1.1.tr ++ [⟨{ a with val := T.1.2.1 }, ownR s.ms a.space a.addr, T.1.2.2.1, T.1.2.2.2⟩]))) gno ?_
                        refine AV.next #[true, true, true, true, true, true, true, true, true, true, true] (by kernel_rfl) (fun _ h => h.sel [6] rfl) ?_
                        refine AV.done (by kernel_rfl) ?_
                        refine KV.then_n ?_
                        refine KV.env [(3, _), (8, _)] ⟨rfl, rfl, trivial⟩ ?_
                        refine KV.sel [0, 0, 0, 0, 0, 0, 0] [_, _, _, _, _, _, _] rfl ?_
                        exact KV.join2 (tA) (tc) ⟨rfl, rfl, trivial⟩ (fun _ h => h)
                · -- 6 comes up
                  refine OV.buildSlice (K := trcK) ([⟨{ a with val := T.1.2.1 }, ownR s.ms a.space a.addr, T.1.2.2.1, T.1.2.2.2⟩]) rfl (Bs54_1_0 _ _ _ _ _ _ _ _) rfl rfl (by omega) gno rfl (fun b24_6 => ?_)
                  refine AV.next #[true, true, true, true, false, true, true, false, false, false, false] (by kernel_rfl) (fun _ h => h.sel [6] rfl) ?_
                  refine AV.all [4] (by kernel_rfl) (by decide) ?_
                  refine ⟨⟨_, rfl, ?_⟩, trivial⟩
                  · -- 4 comes up
                    refine OV.step gno (Step.load Try.underlying54 rfl rfl (fun w h => h.cell 0 rfl (rbC_t hwT))) rfl ?_
                    refine AV.next #[true, true, true, true, true, true, true, false, false, false, false] (by kernel_rfl) (fun _ h => h.sel [6] rfl) ?_
                    refine AV.all [7] (by kernel_rfl) (by decide) ?_
                    refine ⟨⟨_, rfl, ?_⟩, trivial⟩
                    · -- 7 comes up
                      refine OV.append 4 Try.underlying54 I63 rfl rfl rfl rfl rfl rfl (fun w h => h.os 7 rfl) (by rw [htT]; simp only [List.length_cons, List.length_nil]; omega) (by rw [htT]; simp only [List.length_cons, List.length_nil]; omega) gno rfl (fun tA tc => ?_)
                      refine AV.next #[true, true, true, true, true, true, true, true, false, false, false] (by kernel_rfl) (fun _ h => h.sel [6] rfl) ?_
                      refine AV.take 8 #[true, true, true, true, true, true, true, true, true, false, false] rfl (by kernel_rfl) (by kernel_rfl) (by kernel_rfl) (fun _ _ _ h => h) gno (Step.nilCheck rfl) rfl (fun _ h => h.sel [6] rfl) (by kernel_rfl) ?_
                      refine AV.take 9 #[true, true, true, true, true, true, true, true, true, true, false] rfl (by kernel_rfl) (by kernel_rfl) (by kernel_rfl) (fun _ _ _ h => h) gno (Step.fieldAddr rfl (F56_3 _ _)) rfl (fun _ h => h.sel [6] rfl) (by kernel_rfl) ?_
                      refine AV.all [10] (by kernel_rfl) (by decide) ?_
                      refine ⟨⟨_, rfl, ?_⟩, trivial⟩
                      · -- 10 comes up
                        refine OV.store 0 [_] (rbC (rtr T.1.1 ⟨{ a with val := T.1.2.1 }, ownR s.ms a.space a.addr, T.1.2.2.1, T.1.2.2.2⟩ tA tc)).toArray I54 rfl rfl rfl rfl rfl (by show _ + 1 ≤ (rbC _).toArray.size; rw [List.size_toArray, rbC_len hwT]; omega) (by simp [Value.oneCell']) (rset_of hwT (by omega) (rset_t hwT tA tc (T.1.1.tr ++ [⟨{ a with val := T.1.2.1 }, ownR s.ms a.space a.addr, T.1.2.2.1, T.1.2.2.2⟩]))) gno ?_
                        refine AV.next #[true, true, true, true, true, true, true, true, true, true, true] (by kernel_rfl) (fun _ h => h.sel [6] rfl) ?_
                        refine AV.done (by kernel_rfl) ?_
                        refine KV.then_n ?_
                        refine KV.env [(3, _), (8, _)] ⟨rfl, rfl, trivial⟩ ?_
                        refine KV.sel [0, 0, 0, 0, 0, 0, 0] [_, _, _, _, _, _, _] rfl ?_
                        exact KV.join2 (tA) (tc) ⟨rfl, rfl, trivial⟩ (fun _ h => h)
              · intro tA tc
                refine CV.seq ?_
                refine CV.block ?_
                refine CV.seq ?_
                -- region 25 iospace.go:177
                refine CV.region ?_
                refine RV.op (OV.step gno (Step.fieldAddr rfl (F63_3 _ _)) rfl ?_)
                refine RV.op (OV.step gno (Step.load Try.underlying4 rfl rfl (fun w h => h.cell 6 rfl rfl)) rfl ?_)
                refine RV.op (OV.step gno (Step.assign rfl) rfl ?_)
                refine RV.nil ?_
                refine KV.then_n ?_
                refine KV.env [(3, _), (8, _), (174, _)] ⟨rfl, rfl, rfl, trivial⟩ ?_
                refine KV.cases 174 rfl (fun cc11 => ?_) (fun cc11 => ?_)
                · -- True
                  have hff : T.1.2.2.2 = true := cc11
                  refine CV.cond_t rfl ?_
                  refine CV.seq ?_
                  -- region 26 iospace.go:178
                  refine CV.region ?_
                  refine RV.op (OV.step gno (Step.assign rfl) rfl ?_)
                  refine RV.op (OV.step gno (Step.assign rfl) rfl ?_)
                  refine RV.nil ?_
                  refine KV.then_n ?_
                  refine KV.env [(4, _), (5, _)] ⟨rfl, rfl, trivial⟩ ?_
                  refine CV.ret ?_
                  refine KV.block_ret ?_
                  refine KV.then_ret ?_
                  -- return at r26
                  refine KV.sel [0, 0, 0, 0, 0] [_, _, _, _, _] rfl ?_
                  exact KV.ret2 rfl rfl rfl _ (fun _ h => h) ⟨fun h => absurd hwf h, fun _ => ⟨fun h => absurd h (by omega), fun _ => ⟨T.1.1, T.1.2.1, T.1.2.2.1, T.1.2.2.2, tA, tc, T.2, by rw [if_pos hff, if_pos hff], rfl⟩⟩⟩
                · -- False
                  have hff : ¬ T.1.2.2.2 = true := by rw [cc11]; decide
                  refine CV.cond_f rfl ?_
                  refine CV.seq ?_
                  -- region 27 iospace.go:179
                  refine CV.region ?_
                  refine RV.op (OV.step gno (Step.fieldAddr rfl (F37_3 _ _)) rfl ?_)
                  refine RV.op (OV.step gno (Step.load Try.underlying4 rfl rfl (fun w h => h.cell 5 rfl rfl)) rfl ?_)
                  refine RV.op (OV.step gno (Step.assign rfl) rfl ?_)
                  refine RV.nil ?_
                  refine KV.then_n ?_
                  refine KV.env [(8, _), (177, _)] ⟨rfl, rfl, trivial⟩ ?_
                  refine KV.cases 177 rfl (fun cc12 => ?_) (fun cc12 => ?_)
                  · -- True
                    have hfw : a.wr = true := cc12
                    refine CV.cond_t rfl ?_
                    refine CV.seq ?_
                    -- region 28 iospace.go:180
                    refine CV.region ?_
                    refine RV.op (OV.step gno (Step.assign rfl) rfl ?_)
                    refine RV.op (OV.step gno (Step.assign rfl) rfl ?_)
                    refine RV.nil ?_
                    refine KV.then_n ?_
                    refine KV.env [(4, _), (5, _)] ⟨rfl, rfl, trivial⟩ ?_
                    refine CV.ret ?_
                    refine KV.block_ret ?_
                    refine KV.then_ret ?_
                    -- return at r28
                    refine KV.sel [0, 0, 0, 0, 0] [_, _, _, _, _] rfl ?_
                    exact KV.ret2 rfl rfl rfl _ (fun _ h => h) ⟨fun h => absurd hwf h, fun _ => ⟨fun h => absurd h (by omega), fun _ => ⟨T.1.1, T.1.2.1, T.1.2.2.1, T.1.2.2.2, tA, tc, T.2, by rw [if_neg hff, if_neg hff, if_pos hfw], rfl⟩⟩⟩
                  · -- False
                    have hfw : ¬ a.wr = true := by rw [cc12]; decide
                    refine CV.cond_f rfl ?_
                    refine CV.skip ?_
                    refine KV.block_n ?_
                    refine KV.then_n ?_
                    refine KV.env [(8, _)] ⟨rfl, trivial⟩ ?_
                    refine CV.seq ?_
                    -- region 29 iospace.go:182
                    refine CV.region ?_
                    refine RV.op (OV.step gno (Step.fieldAddr rfl (F63_0 _ _)) rfl ?_)
                    refine RV.op (OV.step gno (Step.fieldAddr rfl (F37_4 _ _)) rfl ?_)
                    refine RV.op (OV.step gno (Step.load Try.underlying22 rfl rfl (fun w h => h.cell 6 rfl rfl)) rfl ?_)
                    refine RV.op (OV.step gno (Step.assign rfl) rfl ?_)
                    refine RV.op (OV.step gno (Step.assign rfl) rfl ?_)
                    refine RV.nil ?_
                    refine KV.then_n ?_
                    refine KV.env [(4, _), (5, _)] ⟨rfl, rfl, trivial⟩ ?_
                    refine CV.ret ?_
                    -- return at r29
                    refine KV.sel [0, 0, 0, 0, 0] [_, _, _, _, _] rfl ?_
                    exact KV.ret2 rfl rfl rfl _ (fun _ h => h) ⟨fun h => absurd hwf h, fun _ => ⟨fun h => absurd h (by omega), fun _ => ⟨T.1.1, T.1.2.1, T.1.2.2.1, T.1.2.2.2, tA, tc, T.2, by rw [if_neg hff, if_neg hff, if_neg hfw], rfl⟩⟩⟩
  · rw [decide_eq_false hwf]
    refine RV.op (OV.step gno (Step.not rfl) rfl ?_)
    refine RV.nil ?_
    refine KV.then_n ?_
    refine KV.env [(0, _), (3, _), (13, _)] ⟨rfl, rfl, rfl, trivial⟩ ?_
    refine CV.cond_t rfl ?_
    refine CV.seq ?_
    -- region 2 iospace.go:144
    refine CV.region ?_
    refine RV.op (OV.step gno (Step.assign rfl) rfl ?_)
    refine RV.op (OV.step gno (Step.assign rfl) rfl ?_)
    refine RV.nil ?_
    refine KV.then_n ?_
    refine KV.env [(4, _), (5, _)] ⟨rfl, rfl, trivial⟩ ?_
    refine CV.ret ?_
    refine KV.then_ret ?_
    -- return at r2
    refine KV.sel [0, 0, 0, 0, 0] [_, _, _, _, _] rfl ?_
    exact KV.ret2 rfl rfl rfl _ (fun _ h => h) ⟨fun _ => ⟨rfl, rfl⟩, fun h => absurd h hwf⟩
end Go.Proofs.Ythdpojggdodpfaa
