/-
  Walks, part 8.
-/
import Derived.Test.YthdpojggdodpfaaTabs
import Derived.Test.YthdpojggdodpfaaW7
import Derived.Test.YthdpojggdodpfaaMdA
set_option linter.unusedSimpArgs false
set_option linter.unusedVariables false
namespace Go.Proofs.Ythdpojggdodpfaa
open Go.Sv Go.Ios
set_option maxRecDepth 100000 in
set_option maxHeartbeats 8000000 in
theorem access_fn (b : Nat) (s : BS) {w : World} (hk : s.ok) (a : Acs) (hua : isU a.addr) (huv : isU a.val) : Fx Try.prog 13 [.pointer (some ⟨b, 0, none⟩), .agg #[.int .i64 a.space, .int .u64 a.addr, .int .i64 a.width, .bool a.wr, .int .u64 a.val]] w (busL b s) no (fun v L => (¬ wfA a → v = .tuple #[.int .u64 0, .int .i64 1] ∧ L = busL b s) ∧ (wfA a → (s.tr.length = 65536 → v = .tuple #[.int .u64 0, .int .i64 8] ∧ L = busL b s) ∧ (s.tr.length ≠ 65536 → ∃ A c tA tc, (wrs s a → A ≠ none) ∧ v = .tuple #[.int .u64 (accV s a), .int .i64 (accE s a)] ∧ L = busL b (accS s a A c tA tc)))) := by
  refine Sv.Fx.body Try.func13 rfl T13 rfl ?_
  intro I hro hI
  refine KV.env [(0, _), (1, _)] ⟨rfl, rfl, trivial⟩ ?_
  have hw := hk.wf
  have hw3 := hw.sp
  have htr0 := hk.tr
  refine CV.seq ?_
  -- region 0 iospace.go:143
  refine CV.region ?_
  refine RV.op (OV.box (t := 37) #[_, _, _, _, _] rfl rfl gno rfl (fun bx => ?_))
  refine RV.op (OV.step gno (Step.assign rfl) rfl ?_)
  refine RV.op (OV.step gno (Step.assign rfl) rfl ?_)
  refine RV.nil ?_
  refine KV.then_n ?_
  refine KV.env [(0, _), (3, _)] ⟨rfl, rfl, trivial⟩ ?_
  refine CV.seq ?_
  refine CV.seq ?_
  -- region 1 iospace.go:144
  refine CV.region ?_
  refine RV.op (OV.step gno (Step.loadN _ Try.underlying37 rfl I37 rfl rfl (fun w h => h.cells 4 rfl)) rfl ?_)
  refine RV.op (OV.call [] (F := [_, _, _, _, _]) Try.func29 B29 N29 rfl rfl (fun w h => wellFormed_fn a) (fun _ hb => hb.elim) gno rfl (fun v L' hp => ?_))
  obtain ⟨rfl, rfl⟩ := hp
  simp only [List.append_nil]
  by_cases hwf : wfA a
  · rw [decide_eq_true hwf]
    refine RV.op (OV.step gno (Step.not rfl) rfl ?_)
    refine RV.nil ?_
    refine KV.then_n ?_
    refine KV.env [(0, _), (3, _), (11, _)] ⟨rfl, rfl, rfl, trivial⟩ ?_
    refine CV.cond_f rfl ?_
    refine CV.skip ?_
    refine KV.then_n ?_
    refine KV.env [(0, _), (3, _)] ⟨rfl, rfl, trivial⟩ ?_
    refine CV.seq ?_
    refine CV.seq ?_
    -- region 3 iospace.go:147
    refine CV.region ?_
    refine RV.op (OV.step gno (Step.move rfl) rfl ?_)
    refine RV.op (OV.step gno (Step.nilCheck rfl) rfl ?_)
    refine RV.op (OV.step gno (Step.fieldAddr rfl (F71_4 _ _)) rfl ?_)
    refine RV.op (OV.step gno (Step.load Try.underlying54 rfl rfl (fun w h => h.cell 0 rfl (busC_t hw))) rfl ?_)
    refine RV.op (OV.step gno (Step.lenSl Try.underlying54 rfl) rfl ?_)
    refine RV.op (OV.split gno (Step.eql rfl rfl) rfl (fun hfull => ?_) (fun hfull => ?_))
    · -- True
      refine RV.nil ?_
      refine KV.then_n ?_
      refine KV.env [(0, _), (3, _), (17, _)] ⟨rfl, rfl, rfl, trivial⟩ ?_
      refine CV.cond_t rfl ?_
      refine CV.seq ?_
      -- region 4 iospace.go:148
      refine CV.region ?_
      refine RV.op (OV.step gno (Step.assign rfl) rfl ?_)
      refine RV.op (OV.step gno (Step.assign rfl) rfl ?_)
      refine RV.nil ?_
      refine KV.then_n ?_
      refine KV.env [(4, _), (5, _)] ⟨rfl, rfl, trivial⟩ ?_
      refine CV.ret ?_
      refine KV.then_ret ?_
      -- return at r4
      refine KV.sel [0, 0, 0, 0] [_, _, _, _] rfl ?_
      exact KV.ret2 rfl rfl rfl _ (fun _ h => h) ⟨fun h => absurd hwf h, fun _ => ⟨fun _ => ⟨rfl, rfl⟩, fun h => absurd (by omega) h⟩⟩
    · -- False
      refine RV.nil ?_
      refine KV.then_n ?_
      refine KV.env [(0, _), (3, _), (17, _)] ⟨rfl, rfl, rfl, trivial⟩ ?_
      refine CV.cond_f rfl ?_
      refine CV.skip ?_
      refine KV.then_n ?_
      refine KV.env [(0, _), (3, _)] ⟨rfl, rfl, trivial⟩ ?_
      refine CV.seq ?_
      -- region 5 iospace.go:150
      have hW1 : 1 ≤ a.width ∧ a.width ≤ 8 := by have := hwf.1; unfold isW at this; omega
      refine CV.region ?_
      refine RV.op (OV.step gno (Step.fieldAddr rfl (F37_2 _ _)) rfl ?_)
      refine RV.op (OV.step gno (Step.load Try.underlying3 rfl rfl (fun w h => h.cell 4 rfl rfl)) rfl ?_)
      (first | refine RV.op (OV.step gno (Step.mul rfl rfl (wI64 (by omega) (by omega))) rfl ?_) | refine RV.op (OV.step gno (Step.mul rfl rfl rfl) rfl ?_))
      (first | refine RV.op (OV.step gno (Step.sub rfl rfl (wI64 (by omega) (by omega))) rfl ?_) | refine RV.op (OV.step gno (Step.sub rfl rfl rfl) rfl ?_))
      refine RV.op (OV.step gno (Step.shr rfl rfl (by omega) (onesB hwf.1)) rfl ?_)
      refine RV.op (OV.step gno (Step.assign rfl) rfl ?_)
      refine RV.nil ?_
      refine KV.then_n ?_
      refine KV.env [(0, _), (3, _), (6, _)] ⟨rfl, rfl, rfl, trivial⟩ ?_
      refine CV.seq ?_
      -- region 6 iospace.go:151
      refine CV.region ?_
      refine RV.op (OV.step gno (Step.move rfl) rfl ?_)
      refine RV.op (OV.step gno (Step.fieldAddr rfl (F37_0 _ _)) rfl ?_)
      refine RV.op (OV.step gno (Step.load Try.underlying3 rfl rfl (fun w h => h.cell 4 rfl rfl)) rfl ?_)
      refine RV.op (OV.step gno (Step.fieldAddr rfl (F37_1 _ _)) rfl ?_)
      refine RV.op (OV.step gno (Step.load Try.underlying22 rfl rfl (fun w h => h.cell 4 rfl rfl)) rfl ?_)
      refine RV.op (OV.call [0, 0, 0, 0] (F := [_]) Try.func30 B30 N30 rfl rfl (fun w h => find_fn b s hk a.space a.addr) (fun _ hb => hb.elim) gno rfl (fun v L' hp => ?_))
      obtain ⟨rfl, rfl⟩ := hp
      refine RV.op (OV.step gno (Step.assign rfl) rfl ?_)
      refine RV.nil ?_
      refine KV.then_n ?_
      refine KV.env [(0, _), (3, _), (6, _), (7, _)] ⟨rfl, rfl, rfl, rfl, trivial⟩ ?_
      refine CV.seq ?_
      -- region 7 iospace.go:152
      refine CV.region ?_
      refine RV.op (OV.step gno (Step.loadN _ Try.underlying37 rfl I37 rfl rfl (fun w h => h.cells 0 rfl)) rfl ?_)
      refine RV.op (OV.step gno (Step.build rfl (Bd63_0_1 _ _ _ _ _ _)) rfl ?_)
      refine RV.op (OV.alloc #[.int .i64 0, .int .u64 0, .int .i64 0, .bool false, .int .u64 0, .int .i64 0, .bool false, .bool false] I63 rfl gno rfl (fun br => ?_))
      refine RV.op (OV.store 5 [_, _, _, _, _, _, _, _] #[_, _, _, _, _, _, _, _] I63 rfl rfl rfl rfl rfl (Nat.le_of_ble_eq_true rfl) (by simp [Value.oneCell']) rfl gno ?_)
      refine RV.nil ?_
      refine KV.then_n ?_
      refine KV.env [(0, _), (3, _), (6, _), (7, _), (8, _)] ⟨rfl, rfl, rfl, rfl, rfl, trivial⟩ ?_
      -- join; live [0, 3, 6, 7, 8]
      refine CV.join (α := Unit) (fun _ => [(0, .pointer (some ⟨b, 0, none⟩)), (3, .pointer (some ⟨bx, 0, none⟩)), (6, .int .u64 (onesM a.width)), (7, .pointer (fptr s a.space a.addr)), (8, .pointer (some ⟨br, 0, none⟩))]) (fun _ => Hp I w (busL b s ++ [Blk bx (.cells #[.int .i64 a.space, .int .u64 a.addr, .int .i64 a.width, .bool a.wr, .int .u64 a.val] 37 (0, 0)), Blk br (.cells #[.int .i64 a.space, .int .u64 a.addr, .int .i64 a.width, .bool a.wr, .int .u64 (a.val), .int .i64 (ownM s a.space a.addr), .bool (lvM s a), .bool (false)] 63 (0, 0))])) ?_ ?_
      · skip
        refine CV.seq ?_
        -- region 8 iospace.go:153
        refine CV.region ?_
        refine RV.op (OV.step gno (Step.move rfl) rfl ?_)
        refine RV.op (OV.split gno (Step.neqP Try.underlying78 rfl rfl) rfl (fun hq => ?_) (fun hq => ?_))
        · -- True
          obtain ⟨m, i, hsm, hm, he, hi, hb1, hb2⟩ := fptr_cases hk hq
          have hfp : fptr s a.space a.addr = some ⟨(mh (s.sp m).hs i).p, 0, none⟩ := by rw [hsm]; exact fptr_some he
          rw [hfp]
          have hmo := (hk.sp m hm).each i hi
          have ho1 := hmo.o1
          have ho2 := hmo.o2
          have hR := hmo.r
          unfold okR at hR
          have hB := hmo.b
          unfold isU at hB
          have hb3 : a.addr ≤ (mh (s.sp m).hs i).base + ((mh (s.sp m).hs i).len - 1) := hb2
          have hown : ownM s a.space a.addr = (mh (s.sp m).hs i).own := by rw [ownM, hsm, he]; rfl
          refine RV.nil ?_
          refine KV.then_n ?_
          refine KV.env [(0, _), (3, _), (6, _), (7, _), (8, _), (32, _)] ⟨rfl, rfl, rfl, rfl, rfl, rfl, trivial⟩ ?_
          refine CV.cond_t rfl ?_
          refine CV.seq ?_
          -- region 9 iospace.go:154
          refine CV.region ?_
          refine RV.op (OV.step gno (Step.move rfl) rfl ?_)
          refine RV.op (OV.step gno (Step.nilCheck rfl) rfl ?_)
          refine RV.op (OV.step gno (Step.fieldAddr rfl (F77_1 _ _)) rfl ?_)
          refine RV.op (OV.step gno (Step.load Try.underlying3 rfl rfl (fun w h => ((show SpR w (s.sp m) from Hp.spr h (k := 2) rfl (m := m) (by omega)).2 i hi).cell rfl)) rfl ?_)
          refine RV.op (OV.step gno (Step.fieldAddr rfl (F63_1 _ _)) rfl ?_)
          refine RV.op (OV.store 5 [_] #[_, _, _, _, _, _, _, _] I3 rfl rfl rfl rfl rfl (Nat.le_of_ble_eq_true rfl) (by simp [Value.oneCell']) rfl gno ?_)
          refine RV.nil ?_
          refine KV.then_n ?_
          refine KV.env [(0, _), (3, _), (6, _), (7, _), (8, _)] ⟨rfl, rfl, rfl, rfl, rfl, trivial⟩ ?_
          -- region 10 iospace.go:155
          refine KV.sel [1, 1, 1, 1, 0, 0] [_, _, _, _, _, _] rfl ?_
          refine CV.any (Hp I w (busL b s ++ [Blk bx (.cells #[.int .i64 a.space, .int .u64 a.addr, .int .i64 a.width, .bool a.wr, .int .u64 a.val] 37 (0, 0))])) (by kernel_rfl) (fun _ h => h.drew) 26 rfl ?_
          refine AV.take 0 #[true, false, false, false, false, false, false, false, false, false, false, false, false, false, false, false, false, false, false, false, false, false, false, false, false, false] rfl (by kernel_rfl) (by kernel_rfl) (by kernel_rfl) (fun _ _ _ h => h) gno (Step.move rfl) rfl (fun _ h => h.sel [0, 0, 0, 0, 0] rfl) (by kernel_rfl) ?_
          refine AV.take 1 #[true, true, false, false, false, false, false, false, false, false, false, false, false, false, false, false, false, false, false, false, false, false, false, false, false, false] rfl (by kernel_rfl) (by kernel_rfl) (by kernel_rfl) (fun _ _ _ h => h) gno (Step.move rfl) rfl (fun _ h => h.sel [0, 0, 0, 0, 0] rfl) (by kernel_rfl) ?_
          refine AV.take 2 #[true, true, true, false, false, false, false, false, false, false, false, false, false, false, false, false, false, false, false, false, false, false, false, false, false, false] rfl (by kernel_rfl) (by kernel_rfl) (by kernel_rfl) (fun _ _ _ h => h) gno (Step.nilCheck rfl) rfl (fun _ h => h.sel [0, 0, 0, 0, 0] rfl) (by kernel_rfl) ?_
          refine AV.take 3 #[true, true, true, true, false, false, false, false, false, false, false, false, false, false, false, false, false, false, false, false, false, false, false, false, false, false] rfl (by kernel_rfl) (by kernel_rfl) (by kernel_rfl) (fun _ _ _ h => h) gno (Step.fieldAddr rfl (F77_1 _ _)) rfl (fun _ h => h.sel [0, 0, 0, 0, 0] rfl) (by kernel_rfl) ?_
          refine AV.take 4 #[true, true, true, true, true, false, false, false, false, false, false, false, false, false, false, false, false, false, false, false, false, false, false, false, false, false] rfl (by kernel_rfl) (by kernel_rfl) (by kernel_rfl) (fun _ _ _ h => h) gno (Step.load Try.underlying3 rfl rfl (fun w h => ((show SpR w (s.sp m) from Hp.spr h (k := 1) rfl (m := m) (by omega)).2 i hi).cell rfl)) rfl (fun _ h => h.sel [0, 0, 0, 0, 0] rfl) (by kernel_rfl) ?_
          refine AV.take 5 #[true, true, true, true, true, true, false, false, false, false, false, false, false, false, false, false, false, false, false, false, false, false, false, false, false, false] rfl (by kernel_rfl) (by kernel_rfl) (by kernel_rfl) (fun _ _ _ h => h) gno (Step.nilCheck rfl) rfl (fun _ h => h.sel [0, 0, 0, 0, 0] rfl) (by kernel_rfl) ?_
          refine AV.take 6 #[true, true, true, true, true, true, true, false, false, false, false, false, false, false, false, false, false, false, false, false, false, false, false, false, false, false] rfl (by kernel_rfl) (by kernel_rfl) (by kernel_rfl) (fun _ _ _ h => h) gno (Step.fieldAddr rfl (F71_2 _ _)) rfl (fun _ h => h.sel [0, 0, 0, 0, 0] rfl) (by kernel_rfl) ?_
          refine AV.take 7 #[true, true, true, true, true, true, true, true, false, false, false, false, false, false, false, false, false, false, false, false, false, false, false, false, false, false] rfl (by kernel_rfl) (by kernel_rfl) (by kernel_rfl) (fun _ _ _ h => h) gno (Step.idxArr Try.underlying52 I4 rfl rfl _ (show (mh (s.sp m).hs i).own = (((mh (s.sp m).hs i).own.toNat : Nat) : Int) by omega) (by omega)) rfl (fun _ h => h.sel [0, 0, 0, 0, 0] rfl) (by kernel_rfl) ?_
          refine AV.take 8 #[true, true, true, true, true, true, true, true, true, false, false, false, false, false, false, false, false, false, false, false, false, false, false, false, false, false] rfl (by kernel_rfl) (by kernel_rfl) (by kernel_rfl) (fun _ _ _ h => h) gno (Step.load Try.underlying4 rfl rfl (fun w h => h.cell 0 rfl (busC_en hw (by omega)))) rfl (fun _ h => h.sel [0, 0, 0, 0, 0] rfl) (by kernel_rfl) ?_
          refine AV.take 9 #[true, true, true, true, true, true, true, true, true, true, false, false, false, false, false, false, false, false, false, false, false, false, false, false, false, false] rfl (by kernel_rfl) (by kernel_rfl) (by kernel_rfl) (fun _ _ _ h => h) gno (Step.move rfl) rfl (fun _ h => h.sel [0, 0, 0, 0, 0] rfl) (by kernel_rfl) ?_
          refine KV.cases 47 rfl (fun cc1 => ?_) (fun cc1 => ?_)
          · -- True
            have hlv : lvM s a = decide (a.width - 1 ≤ (mh (s.sp m).hs i).base + ((mh (s.sp m).hs i).len - 1) - a.addr) := by rw [lv_some hsm he, cc1, Bool.true_and]; exact decide_eq_decide.2 (by show a.addr + a.width - 1 ≤ (mh (s.sp m).hs i).base + ((mh (s.sp m).hs i).len - 1) ↔ _; omega)
            refine AV.take 10 #[true, true, true, true, true, true, true, true, true, true, true, false, false, false, false, false, false, false, false, false, false, false, false, false, false, false] rfl (by kernel_rfl) (by kernel_rfl) (by kernel_rfl) (fun _ _ _ h => h) (gyes rfl) (Step.move rfl) rfl (fun _ h => h.sel [0, 0, 0, 0, 0] rfl) (by kernel_rfl) ?_
            refine AV.take 11 #[true, true, true, true, true, true, true, true, true, true, true, true, false, false, false, false, false, false, false, false, false, false, false, false, false, false] rfl (by kernel_rfl) (by kernel_rfl) (by kernel_rfl) (fun _ _ _ h => h) (gyes rfl) (Step.nilCheck rfl) rfl (fun _ h => h.sel [0, 0, 0, 0, 0] rfl) (by kernel_rfl) ?_
            refine AV.take 12 #[true, true, true, true, true, true, true, true, true, true, true, true, true, false, false, false, false, false, false, false, false, false, false, false, false, false] rfl (by kernel_rfl) (by kernel_rfl) (by kernel_rfl) (fun _ _ _ h => h) (gyes rfl) (Step.fieldAddr rfl (F77_0 _ _)) rfl (fun _ h => h.sel [0, 0, 0, 0, 0] rfl) (by kernel_rfl) ?_
            refine AV.take 13 #[true, true, true, true, true, true, true, true, true, true, true, true, true, true, false, false, false, false, false, false, false, false, false, false, false, false] rfl (by kernel_rfl) (by kernel_rfl) (by kernel_rfl) (fun _ _ _ h => h) (gyes rfl) (Step.loadN _ Try.underlying32 rfl I32 rfl rfl (fun w h => ((show SpR w (s.sp m) from Hp.spr h (k := 1) rfl (m := m) (by omega)).2 i hi).rng)) rfl (fun _ h => h.sel [0, 0, 0, 0, 0] rfl) (by kernel_rfl) ?_
            refine AV.take 15 #[true, true, true, true, true, true, true, true, true, true, true, true, true, true, false, true, false, false, false, false, false, false, false, false, false, false] rfl (by kernel_rfl) (by kernel_rfl) (by kernel_rfl) (fun _ _ _ h => h) (gyes rfl) (Step.fieldAddr rfl (F37_1 _ _)) rfl (fun _ h => h.sel [0, 0, 0, 0, 0] rfl) (by kernel_rfl) ?_
            refine AV.take 16 #[true, true, true, true, true, true, true, true, true, true, true, true, true, true, false, true, true, false, false, false, false, false, false, false, false, false] rfl (by kernel_rfl) (by kernel_rfl) (by kernel_rfl) (fun _ _ _ h => h) (gyes rfl) (Step.load Try.underlying22 rfl rfl (fun w h => h.cell 4 rfl rfl)) rfl (fun _ h => h.sel [0, 0, 0, 0, 0] rfl) (by kernel_rfl) ?_
            refine AV.take 18 #[true, true, true, true, true, true, true, true, true, true, true, true, true, true, false, true, true, false, true, false, false, false, false, false, false, false] rfl (by kernel_rfl) (by kernel_rfl) (by kernel_rfl) (fun _ _ _ h => h) (gyes rfl) (Step.fieldAddr rfl (F37_2 _ _)) rfl (fun _ h => h.sel [0, 0, 0, 0, 0] rfl) (by kernel_rfl) ?_
            refine AV.take 19 #[true, true, true, true, true, true, true, true, true, true, true, true, true, true, false, true, true, false, true, true, false, false, false, false, false, false] rfl (by kernel_rfl) (by kernel_rfl) (by kernel_rfl) (fun _ _ _ h => h) (gyes rfl) (Step.load Try.underlying3 rfl rfl (fun w h => h.cell 4 rfl rfl)) rfl (fun _ h => h.sel [0, 0, 0, 0, 0] rfl) (by kernel_rfl) ?_
            (first | refine AV.take 20 #[true, true, true, true, true, true, true, true, true, true, true, true, true, true, false, true, true, false, true, true, true, false, false, false, false, false] rfl (by kernel_rfl) (by kernel_rfl) (by kernel_rfl) (fun _ _ _ h => h) (gyes rfl) (Step.sub rfl rfl (wI64 (by omega) (by omega))) rfl (fun _ h => h.sel [0, 0, 0, 0, 0] rfl) (by kernel_rfl) ?_ | refine AV.take 20 #[true, true, true, true, true, true, true, true, true, true, true, true, true, true, false, true, true, false, true, true, true, false, false, false, false, false] rfl (by kernel_rfl) (by kernel_rfl) (by kernel_rfl) (fun _ _ _ h => h) (gyes rfl) (Step.sub rfl rfl rfl) rfl (fun _ h => h.sel [0, 0, 0, 0, 0] rfl) (by kernel_rfl) ?_)
            (first | refine AV.take 21 #[true, true, true, true, true, true, true, true, true, true, true, true, true, true, false, true, true, false, true, true, true, true, false, false, false, false] rfl (by kernel_rfl) (by kernel_rfl) (by kernel_rfl) (fun _ _ _ h => h) (gyes rfl) (Step.convI Try.underlying3 Try.underlying22 rfl (wU64 (by omega) (by omega))) rfl (fun _ h => h.sel [0, 0, 0, 0, 0] rfl) (by kernel_rfl) ?_ | refine AV.take 21 #[true, true, true, true, true, true, true, true, true, true, true, true, true, true, false, true, true, false, true, true, true, true, false, false, false, false] rfl (by kernel_rfl) (by kernel_rfl) (by kernel_rfl) (fun _ _ _ h => h) (gyes rfl) (Step.convI Try.underlying3 Try.underlying22 rfl rfl) rfl (fun _ h => h.sel [0, 0, 0, 0, 0] rfl) (by kernel_rfl) ?_)
            refine AV.all [14] (by kernel_rfl) (by decide) ?_
            refine ⟨⟨_, rfl, ?_⟩, trivial⟩
            · -- 14 comes up
              refine OV.call [] (F := [_, _, _, _, _, _]) Try.func31 B31 N31 rfl rfl (fun w h => last_fn (mh (s.sp m).hs i).base (mh (s.sp m).hs i).len) (fun _ hb => hb.elim) (gyes rfl) rfl (fun v L' hp => ?_)
              obtain ⟨rfl, rfl⟩ := hp
              simp only [List.append_nil]
              rw [lastW_eq hmo.b hmo.r]
              refine AV.next #[true, true, true, true, true, true, true, true, true, true, true, true, true, true, true, true, true, false, true, true, true, true, false, false, false, false] (by kernel_rfl) (fun _ h => h.sel [0, 0, 0, 0, 0] rfl) ?_
              (first | refine AV.take 17 #[true, true, true, true, true, true, true, true, true, true, true, true, true, true, true, true, true, true, true, true, true, true, false, false, false, false] rfl (by kernel_rfl) (by kernel_rfl) (by kernel_rfl) (fun _ _ _ h => h) (gyes rfl) (Step.sub rfl rfl (wU64 (by omega) (by omega))) rfl (fun _ h => h.sel [0, 0, 0, 0, 0] rfl) (by kernel_rfl) ?_ | refine AV.take 17 #[true, true, true, true, true, true, true, true, true, true, true, true, true, true, true, true, true, true, true, true, true, true, false, false, false, false] rfl (by kernel_rfl) (by kernel_rfl) (by kernel_rfl) (fun _ _ _ h => h) (gyes rfl) (Step.sub rfl rfl rfl) rfl (fun _ h => h.sel [0, 0, 0, 0, 0] rfl) (by kernel_rfl) ?_)
              refine AV.take 22 #[true, true, true, true, true, true, true, true, true, true, true, true, true, true, true, true, true, true, true, true, true, true, true, false, false, false] rfl (by kernel_rfl) (by kernel_rfl) (by kernel_rfl) (fun _ _ _ h => h) (gyes rfl) (Step.geq rfl rfl) rfl (fun _ h => h.sel [0, 0, 0, 0, 0] rfl) (by kernel_rfl) ?_
              refine AV.take 23 #[true, true, true, true, true, true, true, true, true, true, true, true, true, true, true, true, true, true, true, true, true, true, true, true, false, false] rfl (by kernel_rfl) (by kernel_rfl) (by kernel_rfl) (fun _ _ _ h => h) gno (Step.pick_t rfl rfl) rfl (fun _ h => h.sel [0, 0, 0, 0, 0] rfl) (by kernel_rfl) ?_
              refine AV.take 24 #[true, true, true, true, true, true, true, true, true, true, true, true, true, true, true, true, true, true, true, true, true, true, true, true, true, false] rfl (by kernel_rfl) (by kernel_rfl) (by kernel_rfl) (fun _ _ _ h => h) gno (Step.fieldAddr rfl (F63_2 _ _)) rfl (fun _ h => h.sel [0, 0, 0, 0, 0] rfl) (by kernel_rfl) ?_
              refine AV.all [25] (by kernel_rfl) (by decide) ?_
              refine ⟨⟨_, rfl, ?_⟩, trivial⟩
              · -- 25 comes up
                refine OV.store 5 [_] #[_, _, _, _, _, _, _, _] I4 rfl rfl rfl rfl rfl (Nat.le_of_ble_eq_true rfl) (by simp [Value.oneCell']) rfl gno ?_
                refine AV.next #[true, true, true, true, true, true, true, true, true, true, true, true, true, true, true, true, true, true, true, true, true, true, true, true, true, true] (by kernel_rfl) (fun _ h => h.sel [0, 0, 0, 0, 0] rfl) ?_
                refine AV.done (by kernel_rfl) ?_
                refine KV.then_n ?_
                refine KV.env [(0, _), (3, _), (6, _), (7, _), (8, _)] ⟨rfl, rfl, rfl, rfl, rfl, trivial⟩ ?_
                refine KV.sel [0, 0, 0, 0, 0, 0] [_, _, _, _, _, _] rfl ?_
                exact KV.join () ⟨rfl, rfl, rfl, (show some (Value.pointer _) = some (Value.pointer _) by first | rfl | rw [hfp]), rfl, trivial⟩ (fun _ h => by rw [hown, hlv]; exact h)
          · -- False
            have hlv : lvM s a = false := by rw [lv_some hsm he, cc1]; rfl
            refine AV.takeSkip 10 #[true, true, true, true, true, true, true, true, true, true, true, false, false, false, false, false, false, false, false, false, false, false, false, false, false, false] rfl (by kernel_rfl) (by kernel_rfl) (by kernel_rfl) (fun _ _ _ h => h) rfl rfl (fun _ h => h.sel [0, 0, 0, 0, 0] rfl) (by kernel_rfl) ?_
            refine AV.takeSkip 11 #[true, true, true, true, true, true, true, true, true, true, true, true, false, false, false, false, false, false, false, false, false, false, false, false, false, false] rfl (by kernel_rfl) (by kernel_rfl) (by kernel_rfl) (fun _ _ _ h => h) rfl rfl (fun _ h => h.sel [0, 0, 0, 0, 0] rfl) (by kernel_rfl) ?_
            refine AV.takeSkip 12 #[true, true, true, true, true, true, true, true, true, true, true, true, true, false, false, false, false, false, false, false, false, false, false, false, false, false] rfl (by kernel_rfl) (by kernel_rfl) (by kernel_rfl) (fun _ _ _ h => h) rfl rfl (fun _ h => h.sel [0, 0, 0, 0, 0] rfl) (by kernel_rfl) ?_
            refine AV.takeSkip 13 #[true, true, true, true, true, true, true, true, true, true, true, true, true, true, false, false, false, false, false, false, false, false, false, false, false, false] rfl (by kernel_rfl) (by kernel_rfl) (by kernel_rfl) (fun _ _ _ h => h) rfl rfl (fun _ h => h.sel [0, 0, 0, 0, 0] rfl) (by kernel_rfl) ?_
            refine AV.takeSkip 14 #[true, true, true, true, true, true, true, true, true, true, true, true, true, true, true, false, false, false, false, false, false, false, false, false, false, false] rfl (by kernel_rfl) (by kernel_rfl) (by kernel_rfl) (fun _ _ _ h => h) rfl rfl (fun _ h => h.sel [0, 0, 0, 0, 0] rfl) (by kernel_rfl) ?_
            refine AV.takeSkip 15 #[true, true, true, true, true, true, true, true, true, true, true, true, true, true, true, true, false, false, false, false, false, false, false, false, false, false] rfl (by kernel_rfl) (by kernel_rfl) (by kernel_rfl) (fun _ _ _ h => h) rfl rfl (fun _ h => h.sel [0, 0, 0, 0, 0] rfl) (by kernel_rfl) ?_
            refine AV.takeSkip 16 #[true, true, true, true, true, true, true, true, true, true, true, true, true, true, true, true, true, false, false, false, false, false, false, false, false, false] rfl (by kernel_rfl) (by kernel_rfl) (by kernel_rfl) (fun _ _ _ h => h) rfl rfl (fun _ h => h.sel [0, 0, 0, 0, 0] rfl) (by kernel_rfl) ?_
            refine AV.takeSkip 17 #[true, true, true, true, true, true, true, true, true, true, true, true, true, true, true, true, true, true, false, false, false, false, false, false, false, false] rfl (by kernel_rfl) (by kernel_rfl) (by kernel_rfl) (fun _ _ _ h => h) rfl rfl (fun _ h => h.sel [0, 0, 0, 0, 0] rfl) (by kernel_rfl) ?_
            refine AV.takeSkip 18 #[true, true, true, true, true, true, true, true, true, true, true, true, true, true, true, true, true, true, true, false, false, false, false, false, false, false] rfl (by kernel_rfl) (by kernel_rfl) (by kernel_rfl) (fun _ _ _ h => h) rfl rfl (fun _ h => h.sel [0, 0, 0, 0, 0] rfl) (by kernel_rfl) ?_
            refine AV.takeSkip 19 #[true, true, true, true, true, true, true, true, true, true, true, true, true, true, true, true, true, true, true, true, false, false, false, false, false, false] rfl (by kernel_rfl) (by kernel_rfl) (by kernel_rfl) (fun _ _ _ h => h) rfl rfl (fun _ h => h.sel [0, 0, 0, 0, 0] rfl) (by kernel_rfl) ?_
            refine AV.takeSkip 20 #[true, true, true, true, true, true, true, true, true, true, true, true, true, true, true, true, true, true, true, true, true, false, false, false, false, false] rfl (by kernel_rfl) (by kernel_rfl) (by kernel_rfl) (fun _ _ _ h => h) rfl rfl (fun _ h => h.sel [0, 0, 0, 0, 0] rfl) (by kernel_rfl) ?_
            refine AV.takeSkip 21 #[true, true, true, true, true, true, true, true, true, true, true, true, true, true, true, true, true, true, true, true, true, true, false, false, false, false] rfl (by kernel_rfl) (by kernel_rfl) (by kernel_rfl) (fun _ _ _ h => h) rfl rfl (fun _ h => h.sel [0, 0, 0, 0, 0] rfl) (by kernel_rfl) ?_
            refine AV.takeSkip 22 #[true, true, true, true, true, true, true, true, true, true, true, true, true, true, true, true, true, true, true, true, true, true, true, false, false, false] rfl (by kernel_rfl) (by kernel_rfl) (by kernel_rfl) (fun _ _ _ h => h) rfl rfl (fun _ h => h.sel [0, 0, 0, 0, 0] rfl) (by kernel_rfl) ?_
            refine AV.take 23 #[true, true, true, true, true, true, true, true, true, true, true, true, true, true, true, true, true, true, true, true, true, true, true, true, false, false] rfl (by kernel_rfl) (by kernel_rfl) (by kernel_rfl) (fun _ _ _ h => h) gno (Step.pick_f rfl rfl) rfl (fun _ h => h.sel [0, 0, 0, 0, 0] rfl) (by kernel_rfl) ?_
            refine AV.take 24 #[true, true, true, true, true, true, true, true, true, true, true, true, true, true, true, true, true, true, true, true, true, true, true, true, true, false] rfl (by kernel_rfl) (by kernel_rfl) (by kernel_rfl) (fun _ _ _ h => h) gno (Step.fieldAddr rfl (F63_2 _ _)) rfl (fun _ h => h.sel [0, 0, 0, 0, 0] rfl) (by kernel_rfl) ?_
            refine AV.all [25] (by kernel_rfl) (by decide) ?_
            refine ⟨⟨_, rfl, ?_⟩, trivial⟩
            · -- 25 comes up
              refine OV.store 5 [_] #[_, _, _, _, _, _, _, _] I4 rfl rfl rfl rfl rfl (Nat.le_of_ble_eq_true rfl) (by simp [Value.oneCell']) rfl gno ?_
              refine AV.next #[true, true, true, true, true, true, true, true, true, true, true, true, true, true, true, true, true, true, true, true, true, true, true, true, true, true] (by kernel_rfl) (fun _ h => h.sel [0, 0, 0, 0, 0] rfl) ?_
              refine AV.done (by kernel_rfl) ?_
              refine KV.then_n ?_
              refine KV.env [(0, _), (3, _), (6, _), (7, _), (8, _)] ⟨rfl, rfl, rfl, rfl, rfl, trivial⟩ ?_
              refine KV.sel [0, 0, 0, 0, 0, 0] [_, _, _, _, _, _] rfl ?_
              exact KV.join () ⟨rfl, rfl, rfl, (show some (Value.pointer _) = some (Value.pointer _) by first | rfl | rw [hfp]), rfl, trivial⟩ (fun _ h => by rw [hown, hlv]; exact h)
        · -- False
          have hnf := fptr_no (Decidable.not_not.1 hq)
          have hown : ownM s a.space a.addr = -1 := by rw [ownM, hnf]
          have hlv : lvM s a = false := lv_none hnf
          refine RV.nil ?_
          refine KV.then_n ?_
          refine KV.env [(0, _), (3, _), (6, _), (7, _), (8, _), (32, _)] ⟨rfl, rfl, rfl, rfl, rfl, rfl, trivial⟩ ?_
          refine CV.cond_f rfl ?_
          refine CV.skip ?_
          refine KV.then_n ?_
          refine KV.env [(0, _), (3, _), (6, _), (7, _), (8, _)] ⟨rfl, rfl, rfl, rfl, rfl, trivial⟩ ?_
          refine KV.sel [1, 1, 1, 1, 0, 0] [_, _, _, _, _, _] rfl ?_
          exact KV.join () ⟨rfl, rfl, rfl, (show some (Value.pointer _) = some (Value.pointer _) by first | rfl | rw [hfp]), rfl, trivial⟩ (fun _ h => by rw [hown, hlv]; exact h)
      · intro _
        -- join; live [0, 3, 6, 7, 8]
        refine CV.join (α := Unit) (fun _ => [(0, .pointer (some ⟨b, 0, none⟩)), (3, .pointer (some ⟨bx, 0, none⟩)), (6, .int .u64 (onesM a.width)), (7, .pointer (fptr s a.space a.addr)), (8, .pointer (some ⟨br, 0, none⟩))]) (fun _ => Hp I w (busL b (stF s a) ++ [Blk bx (.cells #[.int .i64 a.space, .int .u64 a.addr, .int .i64 a.width, .bool a.wr, .int .u64 a.val] 37 (0, 0)), Blk br (.cells #[.int .i64 a.space, .int .u64 a.addr, .int .i64 a.width, .bool a.wr, .int .u64 (a.val), .int .i64 (ownM s a.space a.addr), .bool (lvM s a), .bool (flM s a)] 63 (0, 0))])) ?_ ?_
        · skip
          refine CV.seq ?_
          -- region 11 iospace.go:157
          refine CV.region ?_
          refine RV.op (OV.step gno (Step.fieldAddr rfl (F63_2 _ _)) rfl ?_)
          refine RV.op (OV.step gno (Step.load Try.underlying4 rfl rfl (fun w h => h.cell 5 rfl rfl)) rfl ?_)
          refine RV.nil ?_
          refine KV.then_n ?_
          refine KV.env [(0, _), (3, _), (6, _), (7, _), (8, _), (64, _)] ⟨rfl, rfl, rfl, rfl, rfl, rfl, trivial⟩ ?_
          refine KV.cases 64 rfl (fun cc2 => ?_) (fun cc2 => ?_)
          · -- True
            have hlv : lvM s a = true := cc2
            have hfe : flM s a = decide (hitN s.fl a < s.fl.length) := by rw [flM, hlv, Bool.true_and]
            refine CV.cond_t rfl ?_
            -- region 12 iospace.go:158
            refine CV.region ?_
            refine RV.op (OV.step gno (Step.move rfl) rfl ?_)
            refine RV.op (OV.step gno (Step.loadN _ Try.underlying37 rfl I37 rfl rfl (fun w h => h.cells 4 rfl)) rfl ?_)
            refine RV.op (OV.call [0, 0, 0, 0] (F := [_, _]) Try.func32 B32 N32 rfl rfl (fun w h => useFault_fn b s hk a hwf hua) (fun _ hb => hb.elim) gno rfl (fun v L' hp => ?_))
            obtain ⟨rfl, rfl⟩ := hp
            refine RV.op (OV.step gno (Step.fieldAddr rfl (F63_3 _ _)) rfl ?_)
            refine RV.op (OV.store 1 [_] #[_, _, _, _, _, _, _, _] I4 rfl rfl rfl rfl rfl (Nat.le_of_ble_eq_true rfl) (by simp [Value.oneCell']) rfl gno ?_)
            refine RV.nil ?_
            refine KV.then_n ?_
            refine KV.env [(0, _), (3, _), (6, _), (7, _), (8, _)] ⟨rfl, rfl, rfl, rfl, rfl, trivial⟩ ?_
            refine KV.sel [2, 2, 2, 2, 0, 0] [_, _, _, _, _, _] rfl ?_
            exact KV.join () ⟨rfl, rfl, rfl, rfl, rfl, trivial⟩ (fun _ h => by first | (rw [stF_t hlv, hfe]; exact h) | (rw [stF_f hlv, hfe]; exact h))
          · -- False
            have hlv : lvM s a = false := cc2
            have hfe : flM s a = false := by rw [flM, hlv]; rfl
            refine CV.cond_f rfl ?_
            refine CV.skip ?_
            refine KV.then_n ?_
            refine KV.env [(0, _), (3, _), (6, _), (7, _), (8, _)] ⟨rfl, rfl, rfl, rfl, rfl, trivial⟩ ?_
            refine KV.sel [0, 0, 0, 0, 0, 0] [_, _, _, _, _, _] rfl ?_
            exact KV.join () ⟨rfl, rfl, rfl, rfl, rfl, trivial⟩ (fun _ h => by first | (rw [stF_t hlv, hfe]; exact h) | (rw [stF_f hlv, hfe]; exact h))
        · intro _
          -- join; live [0, 3, 8]
          refine CV.join2 (fun (A : {A : Option Addr // wrs s a → A ≠ none}) (c : Nat) => [(0, .pointer (some ⟨b, 0, none⟩)), (3, .pointer (some ⟨bx, 0, none⟩)), (8, .pointer (some ⟨br, 0, none⟩))]) (fun (A : {A : Option Addr // wrs s a → A ≠ none}) (c : Nat) => Hp I w (busL b (stW s a A.1 c) ++ [Blk bx (.cells #[.int .i64 a.space, .int .u64 a.addr, .int .i64 a.width, .bool a.wr, .int .u64 a.val] 37 (0, 0)), Blk br (.cells #[.int .i64 a.space, .int .u64 a.addr, .int .i64 a.width, .bool a.wr, .int .u64 (vlM s a), .int .i64 (ownM s a.space a.addr), .bool (lvM s a), .bool (flM s a)] 63 (0, 0))])) ?_ ?_
          · skip
            refine CV.block ?_
            refine CV.seq ?_
            -- region 14 iospace.go:161
            refine CV.region ?_
            refine RV.op (OV.step gno (Step.fieldAddr rfl (F37_3 _ _)) rfl ?_)
            refine RV.op (OV.step gno (Step.load Try.underlying4 rfl rfl (fun w h => h.cell 4 rfl rfl)) rfl ?_)
            refine RV.op (OV.step gno (Step.assign rfl) rfl ?_)
            refine RV.nil ?_
            refine KV.then_n ?_
            refine KV.env [(0, _), (3, _), (6, _), (7, _), (8, _), (77, _)] ⟨rfl, rfl, rfl, rfl, rfl, rfl, trivial⟩ ?_
            refine KV.cases 77 rfl (fun cc3 => ?_) (fun cc3 => ?_)
            · -- True
              have hwr : a.wr = true := cc3
              refine CV.cond_t rfl ?_
              refine CV.seq ?_
              -- region 15 iospace.go:162
              refine CV.region ?_
              refine RV.op (OV.step gno (Step.fieldAddr rfl (F37_4 _ _)) rfl ?_)
              refine RV.op (OV.step gno (Step.load Try.underlying22 rfl rfl (fun w h => h.cell 4 rfl rfl)) rfl ?_)
              refine RV.op (OV.step gno (Step.move rfl) rfl ?_)
              refine RV.op (OV.step gno (Step.band rfl rfl (andOnes huv hwf.1)) rfl ?_)
              refine RV.op (OV.step gno (Step.fieldAddr rfl (F63_0 _ _)) rfl ?_)
              refine RV.op (OV.step gno (Step.fieldAddr rfl (F37_4 _ _)) rfl ?_)
              refine RV.op (OV.store 5 [_] #[_, _, _, _, _, _, _, _] I22 rfl rfl rfl rfl rfl (Nat.le_of_ble_eq_true rfl) (by simp [Value.oneCell']) rfl gno ?_)
              have hvl := vl_w (s := s) hwr
              refine RV.nil ?_
              refine KV.then_n ?_
              refine KV.env [(0, _), (3, _), (7, _), (8, _)] ⟨rfl, rfl, rfl, rfl, trivial⟩ ?_
              refine CV.seq ?_
              -- region 16 iospace.go:163
              refine CV.region ?_
              refine RV.op (OV.step gno (Step.fieldAddr rfl (F63_2 _ _)) rfl ?_)
              refine RV.op (OV.step gno (Step.load Try.underlying4 rfl rfl (fun w h => h.cell 5 rfl rfl)) rfl ?_)
              refine RV.op (OV.step gno (Step.move rfl) rfl ?_)
              refine KV.cases 88 rfl (fun cc4 => ?_) (fun cc4 => ?_)
              · -- True
                have hlv : lvM s a = true := cc4
                refine RV.op (OV.step (gyes rfl) (Step.fieldAddr rfl (F63_3 _ _)) rfl ?_)
                refine RV.op (OV.step (gyes rfl) (Step.load Try.underlying4 rfl rfl (fun w h => h.cell 5 rfl rfl)) rfl ?_)
                refine RV.op (OV.step (gyes rfl) (Step.not rfl) rfl ?_)
                refine RV.op (OV.step gno (Step.pick_t rfl rfl) rfl ?_)
                refine RV.nil ?_
                refine KV.then_n ?_
                refine KV.env [(0, _), (3, _), (7, _), (8, _), (92, _)] ⟨rfl, rfl, rfl, rfl, rfl, trivial⟩ ?_
                refine KV.cases 92 rfl (fun cc5 => ?_) (fun cc5 => ?_)
                · -- True
                  have hfl := not_tru cc5
                  refine CV.cond_t rfl ?_
                  -- region 17 iospace.go:164
                  obtain ⟨m, i, hsm, hm, he, hi, hb1, hb2, hen, hfh, hfi⟩ := lv_fnd hk hlv
                  have hmo := (hk.sp m hm).each i hi
                  have hb3 : a.addr + a.width - 1 ≤ (mh (s.sp m).hs i).base + ((mh (s.sp m).hs i).len - 1) := hb2
                  have hfp : fptr s a.space a.addr = some ⟨(mh (s.sp m).hs i).p, 0, none⟩ := by rw [hsm]; exact fptr_some he
                  rw [hfp]
                  rw [stF_t hlv]
                  refine KV.sel [0, 0, 0, 0, 0, 0] [_, _, _, _, _, _] rfl ?_
                  refine KV.heap (fun w h => openM h (m := m) (i := i) (by show m < s.sps.length; omega) rfl hi rfl) ?_
                  refine CV.region ?_
                  refine RV.op (OV.step gno (Step.move rfl) rfl ?_)
                  refine RV.op (OV.step gno (Step.fieldAddr rfl (F37_1 _ _)) rfl ?_)
                  refine RV.op (OV.step gno (Step.load Try.underlying22 rfl rfl (fun w h => h.cell 8 rfl rfl)) rfl ?_)
                  refine RV.op (OV.step gno (Step.fieldAddr rfl (F37_2 _ _)) rfl ?_)
                  refine RV.op (OV.step gno (Step.load Try.underlying3 rfl rfl (fun w h => h.cell 8 rfl rfl)) rfl ?_)
                  refine RV.op (OV.step gno (Step.fieldAddr rfl (F37_4 _ _)) rfl ?_)
                  refine RV.op (OV.step gno (Step.load Try.underlying22 rfl rfl (fun w h => h.cell 8 rfl rfl)) rfl ?_)
                  refine RV.op (OV.call [0, 0] (F := [_, _, _, _, _, _, _, _]) Try.func33 B33 N33 rfl rfl (fun w h => write_fn (h0 := (mh (s.sp m).hs i)) (n := a.width.toNat) hmo (by omega) hb1 (by omega) (by unfold isU at hua; omega) (by omega) huv) (fun _ hb => hb.elim) gno rfl (fun v L' hp => ?_))
                  obtain ⟨rfl, A2, c2, hA2, rfl⟩ := hp
                  refine KV.sel [8, 8, 0, 0, 0, 0, 0, 0, 0, 0] [_, _, _, _, _, _, _, _, _, _] rfl ?_
                  refine KV.heap (fun w h => closeM (m := m) (i := i) (q := s.sp m) (h0 := (mh (s.sp m).hs i)) (h' := wrH (mh (s.sp m).hs i) a A2 c2) h (by show m < s.sps.length; omega) hi rfl) ?_
                  have hst := (congrArg (busL b) (stW_yes (s := s) (a := a) ⟨hwr, hlv, hfl⟩ hsm hfi hfh A2 c2)).trans (busL_setM b { s with fl := useL s.fl a } i (wrH (mh (s.sp m).hs i) a A2 c2) (by show m < s.sps.length; omega))
                  refine RV.nil ?_
                  refine KV.block_n ?_
                  refine KV.then_n ?_
                  refine KV.env [(0, _), (3, _), (8, _)] ⟨rfl, rfl, rfl, trivial⟩ ?_
                  refine KV.sel [0, 0, 0, 0, 0, 0] [_, _, _, _, _, _] rfl ?_
                  (first | exact KV.join2 (⟨A2, fun _ => hA2⟩) (c2) ⟨rfl, rfl, rfl, trivial⟩ (fun _ h => by rw [hst, hvl]; exact h) | exact KV.join2 (⟨none, fun k => absurd k hnw⟩) (0) ⟨rfl, rfl, rfl, trivial⟩ (fun _ h => by rw [hst, hvl]; exact h))
                · -- False
                  have hfl := not_fls cc5
                  have hnw : ¬ wrs s a := fun k => by have k1 := k.2.2; rw [hfl] at k1; cases k1
                  have hst : busL b (stW s a none 0) = busL b (stF s a) := by rw [stW_no hnw]
                  refine CV.cond_f rfl ?_
                  refine CV.skip ?_
                  refine KV.block_n ?_
                  refine KV.then_n ?_
                  refine KV.env [(0, _), (3, _), (8, _)] ⟨rfl, rfl, rfl, trivial⟩ ?_
                  refine KV.sel [0, 0, 0, 0, 0, 0] [_, _, _, _, _, _] rfl ?_
                  (first | exact KV.join2 (⟨A2, fun _ => hA2⟩) (c2) ⟨rfl, rfl, rfl, trivial⟩ (fun _ h => by rw [hst, hvl]; exact h) | exact KV.join2 (⟨none, fun k => absurd k hnw⟩) (0) ⟨rfl, rfl, rfl, trivial⟩ (fun _ h => by rw [hst, hvl]; exact h))
              · -- False
                have hlv : lvM s a = false := cc4
                have hnw : ¬ wrs s a := fun k => by have k1 := k.2.1; rw [hlv] at k1; cases k1
                have hst : busL b (stW s a none 0) = busL b (stF s a) := by rw [stW_no hnw]
                refine RV.op (OV.skip rfl rfl ?_)
                refine RV.op (OV.skip rfl rfl ?_)
                refine RV.op (OV.skip rfl rfl ?_)
                refine RV.op (OV.step gno (Step.pick_f rfl rfl) rfl ?_)
                refine RV.nil ?_
                refine KV.then_n ?_
                refine KV.env [(0, _), (3, _), (7, _), (8, _), (92, _)] ⟨rfl, rfl, rfl, rfl, rfl, trivial⟩ ?_
                refine CV.cond_f rfl ?_
                refine CV.skip ?_
                refine KV.block_n ?_
                refine KV.then_n ?_
                refine KV.env [(0, _), (3, _), (8, _)] ⟨rfl, rfl, rfl, trivial⟩ ?_
                refine KV.sel [0, 0, 0, 0, 0, 0] [_, _, _, _, _, _] rfl ?_
                (first | exact KV.join2 (⟨A2, fun _ => hA2⟩) (c2) ⟨rfl, rfl, rfl, trivial⟩ (fun _ h => by rw [hst, hvl]; exact h) | exact KV.join2 (⟨none, fun k => absurd k hnw⟩) (0) ⟨rfl, rfl, rfl, trivial⟩ (fun _ h => by rw [hst, hvl]; exact h))
            · -- False
              have hwr : a.wr = false := cc3
              refine CV.cond_f rfl ?_
              refine CV.seq ?_
              -- region 18 iospace.go:166
              refine CV.region ?_
              refine RV.op (OV.step gno (Step.fieldAddr rfl (F63_2 _ _)) rfl ?_)
              refine RV.op (OV.step gno (Step.load Try.underlying4 rfl rfl (fun w h => h.cell 5 rfl rfl)) rfl ?_)
              refine RV.op (OV.step gno (Step.not rfl) rfl ?_)
              refine RV.op (OV.step gno (Step.assign rfl) rfl ?_)
              refine RV.nil ?_
              refine KV.then_n ?_
              refine KV.env [(0, _), (3, _), (6, _), (7, _), (8, _), (101, _)] ⟨rfl, rfl, rfl, rfl, rfl, rfl, trivial⟩ ?_
              refine KV.cases 101 rfl (fun cc6 => ?_) (fun cc6 => ?_)
              · -- True
                have hnl := cc6
                refine CV.cond_t rfl ?_
                -- region 19 iospace.go:167
                refine CV.region ?_
                refine RV.op (OV.step gno (Step.move rfl) rfl ?_)
                refine RV.op (OV.step gno (Step.fieldAddr rfl (F63_0 _ _)) rfl ?_)
                refine RV.op (OV.step gno (Step.fieldAddr rfl (F37_4 _ _)) rfl ?_)
                refine RV.op (OV.store 5 [_] #[_, _, _, _, _, _, _, _] I22 rfl rfl rfl rfl rfl (Nat.le_of_ble_eq_true rfl) (by simp [Value.oneCell']) rfl gno ?_)
                have hlv := not_tru hnl
                have hvl := vl_dead hwr hlv
                have hnw : ¬ wrs s a := fun k => by have k1 := k.1; rw [hwr] at k1; cases k1
                have hst : busL b (stW s a none 0) = busL b (stF s a) := by rw [stW_no hnw]
                refine RV.nil ?_
                refine KV.block_n ?_
                refine KV.then_n ?_
                refine KV.env [(0, _), (3, _), (8, _)] ⟨rfl, rfl, rfl, trivial⟩ ?_
                refine KV.sel [0, 0, 0, 0, 0, 0] [_, _, _, _, _, _] rfl ?_
                (first | exact KV.join2 (⟨A2, fun _ => hA2⟩) (c2) ⟨rfl, rfl, rfl, trivial⟩ (fun _ h => by rw [hst, hvl]; exact h) | exact KV.join2 (⟨none, fun k => absurd k hnw⟩) (0) ⟨rfl, rfl, rfl, trivial⟩ (fun _ h => by rw [hst, hvl]; exact h))
              · -- False
                have hnl := cc6
                have hlv := not_fls cc6
                refine CV.cond_f rfl ?_
                refine CV.seq ?_
                -- region 20 iospace.go:168
                refine CV.region ?_
                refine RV.op (OV.step gno (Step.fieldAddr rfl (F63_3 _ _)) rfl ?_)
                refine RV.op (OV.step gno (Step.load Try.underlying4 rfl rfl (fun w h => h.cell 5 rfl rfl)) rfl ?_)
                refine RV.op (OV.step gno (Step.assign rfl) rfl ?_)
                refine RV.nil ?_
                refine KV.then_n ?_
                refine KV.env [(0, _), (3, _), (7, _), (8, _), (108, _)] ⟨rfl, rfl, rfl, rfl, rfl, trivial⟩ ?_
                refine KV.cases 108 rfl (fun cc7 => ?_) (fun cc7 => ?_)
                · -- True
                  have hfl : flM s a = true := cc7
                  refine CV.cond_t rfl ?_
                  -- region 21 iospace.go:169
                  refine CV.region ?_
                  refine RV.op (OV.step gno (Step.fieldAddr rfl (F63_0 _ _)) rfl ?_)
                  refine RV.op (OV.step gno (Step.fieldAddr rfl (F37_4 _ _)) rfl ?_)
                  refine RV.op (OV.store 5 [_] #[_, _, _, _, _, _, _, _] I22 rfl rfl rfl rfl rfl (Nat.le_of_ble_eq_true rfl) (by simp [Value.oneCell']) rfl gno ?_)
                  have hvl := vl_fail hwr (not_fls hnl) hfl
                  have hnw : ¬ wrs s a := fun k => by have k1 := k.1; rw [hwr] at k1; cases k1
                  have hst : busL b (stW s a none 0) = busL b (stF s a) := by rw [stW_no hnw]
                  refine RV.nil ?_
                  refine KV.block_n ?_
                  refine KV.then_n ?_
                  refine KV.env [(0, _), (3, _), (8, _)] ⟨rfl, rfl, rfl, trivial⟩ ?_
                  refine KV.sel [0, 0, 0, 0, 0, 0] [_, _, _, _, _, _] rfl ?_
                  (first | exact KV.join2 (⟨A2, fun _ => hA2⟩) (c2) ⟨rfl, rfl, rfl, trivial⟩ (fun _ h => by rw [hst, hvl]; exact h) | exact KV.join2 (⟨none, fun k => absurd k hnw⟩) (0) ⟨rfl, rfl, rfl, trivial⟩ (fun _ h => by rw [hst, hvl]; exact h))
                · -- False
                  have hfl : flM s a = false := cc7
                  refine CV.cond_f rfl ?_
                  -- region 13 iospace.go:171
                  obtain ⟨m, i, hsm, hm, he, hi, hb1, hb2, hen, hfh, hfi⟩ := lv_fnd hk hlv
                  have hmo := (hk.sp m hm).each i hi
                  have hb3 : a.addr + a.width - 1 ≤ (mh (s.sp m).hs i).base + ((mh (s.sp m).hs i).len - 1) := hb2
                  have hfp : fptr s a.space a.addr = some ⟨(mh (s.sp m).hs i).p, 0, none⟩ := by rw [hsm]; exact fptr_some he
                  rw [hfp]
                  rw [stF_t hlv]
                  have hnw : ¬ wrs s a := fun k => by have k1 := k.1; rw [hwr] at k1; cases k1
                  have hst : busL b (stW s a none 0) = busL b { s with fl := useL s.fl a } := by rw [stW_no hnw, stF_t hlv]
                  refine CV.region ?_
                  refine RV.op (OV.step gno (Step.move rfl) rfl ?_)
                  refine RV.op (OV.step gno (Step.fieldAddr rfl (F37_1 _ _)) rfl ?_)
                  refine RV.op (OV.step gno (Step.load Try.underlying22 rfl rfl (fun w h => h.cell 4 rfl rfl)) rfl ?_)
                  refine RV.op (OV.step gno (Step.fieldAddr rfl (F37_2 _ _)) rfl ?_)
                  refine RV.op (OV.step gno (Step.load Try.underlying3 rfl rfl (fun w h => h.cell 4 rfl rfl)) rfl ?_)
                  refine RV.op (OV.call [] (F := [_, _, _, _, _, _]) Try.func34 B34 N34 rfl rfl (fun w h => read_fn (h0 := (mh (s.sp m).hs i)) (n := a.width.toNat) ((show SpR w (s.sp m) from Hp.spr h (k := 1) rfl (m := m) (by show m < s.sps.length; omega)).2 i hi) hmo (by omega) hb1 (by omega) (by unfold isU at hua; omega) (by omega)) (fun _ hb => hb.elim) gno rfl (fun v L' hp => ?_))
                  obtain ⟨rfl, rfl⟩ := hp
                  simp only [List.append_nil]
                  refine RV.op (OV.step gno (Step.fieldAddr rfl (F63_0 _ _)) rfl ?_)
                  refine RV.op (OV.step gno (Step.fieldAddr rfl (F37_4 _ _)) rfl ?_)
                  refine RV.op (OV.store 5 [_] #[_, _, _, _, _, _, _, _] I22 rfl rfl rfl rfl rfl (Nat.le_of_ble_eq_true rfl) (by simp [Value.oneCell']) rfl gno ?_)
                  have hvl := vl_read hwr hlv hfl hfh
                  refine RV.nil ?_
                  refine KV.block_n ?_
                  refine KV.then_n ?_
                  refine KV.env [(0, _), (3, _), (8, _)] ⟨rfl, rfl, rfl, trivial⟩ ?_
                  refine KV.sel [0, 0, 0, 0, 0, 0] [_, _, _, _, _, _] rfl ?_
                  (first | exact KV.join2 (⟨A2, fun _ => hA2⟩) (c2) ⟨rfl, rfl, rfl, trivial⟩ (fun _ h => by rw [hst, hvl]; exact h) | exact KV.join2 (⟨none, fun k => absurd k hnw⟩) (0) ⟨rfl, rfl, rfl, trivial⟩ (fun _ h => by rw [hst, hvl]; exact h))
          · intro A c
            have hwW := stW_wf (a := a) (A := A.1) (c := c) hw
            have htW := (stW_tr s a A.1 c).1
            -- join; live [3, 8]
            refine CV.join2 (fun (tA : Option Addr) (tc : Nat) => [(3, .pointer (some ⟨bx, 0, none⟩)), (8, .pointer (some ⟨br, 0, none⟩))]) (fun (tA : Option Addr) (tc : Nat) => Hp I w (busL b (accS s a A.1 c tA tc) ++ [Blk bx (.cells #[.int .i64 a.space, .int .u64 a.addr, .int .i64 a.width, .bool a.wr, .int .u64 a.val] 37 (0, 0)), Blk br (.cells #[.int .i64 a.space, .int .u64 a.addr, .int .i64 a.width, .bool a.wr, .int .u64 (vlM s a), .int .i64 (ownM s a.space a.addr), .bool (lvM s a), .bool (flM s a)] 63 (0, 0))])) ?_ ?_
            · skip
              -- region 22 iospace.go:173
              refine CV.any (Hp I w [Blk br (.cells #[.int .i64 a.space, .int .u64 a.addr, .int .i64 a.width, .bool a.wr, .int .u64 (vlM s a), .int .i64 (ownM s a.space a.addr), .bool (lvM s a), .bool (flM s a)] 63 (0, 0))]) (by kernel_rfl) (fun _ h => h.drew) 11 rfl ?_
              refine AV.take 0 #[true, false, false, false, false, false, false, false, false, false, false] rfl (by kernel_rfl) (by kernel_rfl) (by kernel_rfl) (fun _ _ _ h => h) gno (Step.move rfl) rfl (fun _ h => h.sel [5] rfl) (by kernel_rfl) ?_
              refine AV.take 1 #[true, true, false, false, false, false, false, false, false, false, false] rfl (by kernel_rfl) (by kernel_rfl) (by kernel_rfl) (fun _ _ _ h => h) gno (Step.move rfl) rfl (fun _ h => h.sel [5] rfl) (by kernel_rfl) ?_
              refine AV.take 2 #[true, true, true, false, false, false, false, false, false, false, false] rfl (by kernel_rfl) (by kernel_rfl) (by kernel_rfl) (fun _ _ _ h => h) gno (Step.nilCheck rfl) rfl (fun _ h => h.sel [5] rfl) (by kernel_rfl) ?_
              refine AV.take 3 #[true, true, true, true, false, false, false, false, false, false, false] rfl (by kernel_rfl) (by kernel_rfl) (by kernel_rfl) (fun _ _ _ h => h) gno (Step.fieldAddr rfl (F71_4 _ _)) rfl (fun _ h => h.sel [5] rfl) (by kernel_rfl) ?_
              refine AV.take 5 #[true, true, true, true, false, true, false, false, false, false, false] rfl (by kernel_rfl) (by kernel_rfl) (by kernel_rfl) (fun _ _ _ h => h) gno (Step.loadN _ Try.underlying63 rfl I63 rfl rfl (fun w h => h.cells 0 rfl)) rfl (fun _ h => h.sel [5] rfl) (by kernel_rfl) ?_
              refine AV.all [4, 6] (by kernel_rfl) (by decide) ?_
              refine ⟨⟨_, rfl, ?_⟩, ⟨⟨_, rfl, ?_⟩, trivial⟩⟩
              · -- 4 comes up
                refine OV.step gno (Step.load Try.underlying54 rfl rfl (fun w h => h.cell 0 rfl (busC_t hwW))) rfl ?_
                refine AV.next #[true, true, true, true, true, true, false, false, false, false, false] (by kernel_rfl) (fun _ h => h.sel [5] rfl) ?_
                refine AV.all [6] (by kernel_rfl) (by decide) ?_
                refine ⟨⟨_, rfl, ?_⟩, trivial⟩
                · -- 6 comes up
                  refine OV.buildSlice (K := trcK) ([rec s a]) rfl (Bs54_1_0 _ _ _ _ _ _ _ _) rfl rfl (by omega) gno rfl (fun b22_6 => ?_)
                  refine AV.next #[true, true, true, true, true, true, true, false, false, false, false] (by kernel_rfl) (fun _ h => h.sel [5] rfl) ?_
                  refine AV.all [7] (by kernel_rfl) (by decide) ?_
                  refine ⟨⟨_, rfl, ?_⟩, trivial⟩
                  · -- 7 comes up
                    refine OV.append 3 Try.underlying54 I63 rfl rfl rfl rfl rfl rfl (fun w h => h.os 6 rfl) (by rw [htW]; simp only [List.length_cons, List.length_nil]; omega) (by rw [htW]; simp only [List.length_cons, List.length_nil]; omega) gno rfl (fun tA tc => ?_)
                    refine AV.next #[true, true, true, true, true, true, true, true, false, false, false] (by kernel_rfl) (fun _ h => h.sel [5] rfl) ?_
                    refine AV.take 8 #[true, true, true, true, true, true, true, true, true, false, false] rfl (by kernel_rfl) (by kernel_rfl) (by kernel_rfl) (fun _ _ _ h => h) gno (Step.nilCheck rfl) rfl (fun _ h => h.sel [5] rfl) (by kernel_rfl) ?_
                    refine AV.take 9 #[true, true, true, true, true, true, true, true, true, true, false] rfl (by kernel_rfl) (by kernel_rfl) (by kernel_rfl) (fun _ _ _ h => h) gno (Step.fieldAddr rfl (F71_4 _ _)) rfl (fun _ h => h.sel [5] rfl) (by kernel_rfl) ?_
                    refine AV.all [10] (by kernel_rfl) (by decide) ?_
                    refine ⟨⟨_, rfl, ?_⟩, trivial⟩
                    · -- 10 comes up
                      refine OV.store 0 [_] (busC { stW s a A.1 c with tA := tA, tc := tc, tr := (stW s a A.1 c).tr ++ [rec s a] }).toArray I54 rfl rfl rfl rfl rfl (by show _ + 1 ≤ (busC _).toArray.size; rw [List.size_toArray, busC_len hwW]; omega) (by simp [Value.oneCell']) (set_of hwW (by omega) (set_t hwW tA tc ((stW s a A.1 c).tr ++ [rec s a]))) gno ?_
                      refine AV.next #[true, true, true, true, true, true, true, true, true, true, true] (by kernel_rfl) (fun _ h => h.sel [5] rfl) ?_
                      refine AV.done (by kernel_rfl) ?_
                      refine KV.then_n ?_
                      refine KV.env [(3, _), (8, _)] ⟨rfl, rfl, trivial⟩ ?_
                      refine KV.sel [0, 0, 0, 0, 0, 0] [_, _, _, _, _, _] rfl ?_
                      exact KV.join2 (tA) (tc) ⟨rfl, rfl, trivial⟩ (fun _ h => by rw [accS, ← htW]; exact h)
              · -- 6 comes up
                refine OV.buildSlice (K := trcK) ([rec s a]) rfl (Bs54_1_0 _ _ _ _ _ _ _ _) rfl rfl (by omega) gno rfl (fun b22_6 => ?_)
                refine AV.next #[true, true, true, true, false, true, true, false, false, false, false] (by kernel_rfl) (fun _ h => h.sel [5] rfl) ?_
                refine AV.all [4] (by kernel_rfl) (by decide) ?_
                refine ⟨⟨_, rfl, ?_⟩, trivial⟩
                · -- 4 comes up
                  refine OV.step gno (Step.load Try.underlying54 rfl rfl (fun w h => h.cell 0 rfl (busC_t hwW))) rfl ?_
                  refine AV.next #[true, true, true, true, true, true, true, false, false, false, false] (by kernel_rfl) (fun _ h => h.sel [5] rfl) ?_
                  refine AV.all [7] (by kernel_rfl) (by decide) ?_
                  refine ⟨⟨_, rfl, ?_⟩, trivial⟩
                  · -- 7 comes up
                    refine OV.append 3 Try.underlying54 I63 rfl rfl rfl rfl rfl rfl (fun w h => h.os 6 rfl) (by rw [htW]; simp only [List.length_cons, List.length_nil]; omega) (by rw [htW]; simp only [List.length_cons, List.length_nil]; omega) gno rfl (fun tA tc => ?_)
                    refine AV.next #[true, true, true, true, true, true, true, true, false, false, false] (by kernel_rfl) (fun _ h => h.sel [5] rfl) ?_
                    refine AV.take 8 #[true, true, true, true, true, true, true, true, true, false, false] rfl (by kernel_rfl) (by kernel_rfl) (by kernel_rfl) (fun _ _ _ h => h) gno (Step.nilCheck rfl) rfl (fun _ h => h.sel [5] rfl) (by kernel_rfl) ?_
                    refine AV.take 9 #[true, true, true, true, true, true, true, true, true, true, false] rfl (by kernel_rfl) (by kernel_rfl) (by kernel_rfl) (fun _ _ _ h => h) gno (Step.fieldAddr rfl (F71_4 _ _)) rfl (fun _ h => h.sel [5] rfl) (by kernel_rfl) ?_
                    refine AV.all [10] (by kernel_rfl) (by decide) ?_
                    refine ⟨⟨_, rfl, ?_⟩, trivial⟩
                    · -- 10 comes up
                      refine OV.store 0 [_] (busC { stW s a A.1 c with tA := tA, tc := tc, tr := (stW s a A.1 c).tr ++ [rec s a] }).toArray I54 rfl rfl rfl rfl rfl (by show _ + 1 ≤ (busC _).toArray.size; rw [List.size_toArray, busC_len hwW]; omega) (by simp [Value.oneCell']) (set_of hwW (by omega) (set_t hwW tA tc ((stW s a A.1 c).tr ++ [rec s a]))) gno ?_
                      refine AV.next #[true, true, true, true, true, true, true, true, true, true, true] (by kernel_rfl) (fun _ h => h.sel [5] rfl) ?_
                      refine AV.done (by kernel_rfl) ?_
                      refine KV.then_n ?_
                      refine KV.env [(3, _), (8, _)] ⟨rfl, rfl, trivial⟩ ?_
                      refine KV.sel [0, 0, 0, 0, 0, 0] [_, _, _, _, _, _] rfl ?_
                      exact KV.join2 (tA) (tc) ⟨rfl, rfl, trivial⟩ (fun _ h => by rw [accS, ← htW]; exact h)
            · intro tA tc
              refine CV.seq ?_
              refine CV.seq ?_
              -- region 23 iospace.go:174
              refine CV.region ?_
              refine RV.op (OV.step gno (Step.fieldAddr rfl (F63_3 _ _)) rfl ?_)
              refine RV.op (OV.step gno (Step.load Try.underlying4 rfl rfl (fun w h => h.cell 5 rfl rfl)) rfl ?_)
              refine RV.nil ?_
              refine KV.then_n ?_
              refine KV.env [(3, _), (8, _), (124, _)] ⟨rfl, rfl, rfl, trivial⟩ ?_
              refine KV.cases 124 rfl (fun cc8 => ?_) (fun cc8 => ?_)
              · -- True
                have hff : flM s a = true := cc8
                refine CV.cond_t rfl ?_
                refine CV.seq ?_
                -- region 24 iospace.go:175
                refine CV.region ?_
                refine RV.op (OV.step gno (Step.assign rfl) rfl ?_)
                refine RV.op (OV.step gno (Step.assign rfl) rfl ?_)
                refine RV.nil ?_
                refine KV.then_n ?_
                refine KV.env [(4, _), (5, _)] ⟨rfl, rfl, trivial⟩ ?_
                refine CV.ret ?_
                refine KV.then_ret ?_
                -- return at r24
                refine KV.sel [0, 0, 0, 0] [_, _, _, _] rfl ?_
                exact KV.ret2 rfl rfl rfl _ (fun _ h => h) ⟨fun h => absurd hwf h, fun _ => ⟨fun h => absurd h (by omega), fun _ => ⟨_, _, _, _, A.2, by rw [accV, accE, if_pos hff, if_pos hff], rfl⟩⟩⟩
              · -- False
                have hff : flM s a = false := cc8
                refine CV.cond_f rfl ?_
                refine CV.skip ?_
                refine KV.then_n ?_
                refine KV.env [(3, _), (8, _)] ⟨rfl, rfl, trivial⟩ ?_
                refine CV.seq ?_
                refine CV.seq ?_
                -- region 25 iospace.go:177
                refine CV.region ?_
                refine RV.op (OV.step gno (Step.fieldAddr rfl (F37_3 _ _)) rfl ?_)
                refine RV.op (OV.step gno (Step.load Try.underlying4 rfl rfl (fun w h => h.cell 4 rfl rfl)) rfl ?_)
                refine RV.nil ?_
                refine KV.then_n ?_
                refine KV.env [(8, _), (126, _)] ⟨rfl, rfl, trivial⟩ ?_
                refine KV.cases 126 rfl (fun cc9 => ?_) (fun cc9 => ?_)
                · -- True
                  have hfw : a.wr = true := cc9
                  refine CV.cond_t rfl ?_
                  refine CV.seq ?_
                  -- region 26 iospace.go:178
                  refine CV.region ?_
                  refine RV.op (OV.step gno (Step.assign rfl) rfl ?_)
                  refine RV.op (OV.step gno (Step.assign rfl) rfl ?_)
                  refine RV.nil ?_
                  refine KV.then_n ?_
                  refine KV.env [(4, _), (5, _)] ⟨rfl, rfl, trivial⟩ ?_
                  refine CV.ret ?_
                  refine KV.then_ret ?_
                  -- return at r26
                  refine KV.sel [0, 0, 0, 0] [_, _, _, _] rfl ?_
                  exact KV.ret2 rfl rfl rfl _ (fun _ h => h) ⟨fun h => absurd hwf h, fun _ => ⟨fun h => absurd h (by omega), fun _ => ⟨_, _, _, _, A.2, by rw [accV, accE, if_neg (show ¬ flM s a = true by rw [hff]; decide), if_neg (show ¬ flM s a = true by rw [hff]; decide), if_pos hfw], rfl⟩⟩⟩
                · -- False
                  have hfw : a.wr = false := cc9
                  refine CV.cond_f rfl ?_
                  refine CV.skip ?_
                  refine KV.then_n ?_
                  refine KV.env [(8, _)] ⟨rfl, trivial⟩ ?_
                  refine CV.seq ?_
                  -- region 27 iospace.go:180
                  refine CV.region ?_
                  refine RV.op (OV.step gno (Step.fieldAddr rfl (F63_0 _ _)) rfl ?_)
                  refine RV.op (OV.step gno (Step.fieldAddr rfl (F37_4 _ _)) rfl ?_)
                  refine RV.op (OV.step gno (Step.load Try.underlying22 rfl rfl (fun w h => h.cell 5 rfl rfl)) rfl ?_)
                  refine RV.op (OV.step gno (Step.assign rfl) rfl ?_)
                  refine RV.op (OV.step gno (Step.assign rfl) rfl ?_)
                  refine RV.nil ?_
                  refine KV.then_n ?_
                  refine KV.env [(4, _), (5, _)] ⟨rfl, rfl, trivial⟩ ?_
                  refine CV.ret ?_
                  -- return at r27
                  refine KV.sel [0, 0, 0, 0] [_, _, _, _] rfl ?_
                  exact KV.ret2 rfl rfl rfl _ (fun _ h => h) ⟨fun h => absurd hwf h, fun _ => ⟨fun h => absurd h (by omega), fun _ => ⟨_, _, _, _, A.2, by rw [accV, accE, if_neg (show ¬ flM s a = true by rw [hff]; decide), if_neg (show ¬ flM s a = true by rw [hff]; decide), if_neg (show ¬ a.wr = true by rw [hfw]; decide)], rfl⟩⟩⟩
  · rw [decide_eq_false hwf]
    refine RV.op (OV.step gno (Step.not rfl) rfl ?_)
    refine RV.nil ?_
    refine KV.then_n ?_
    refine KV.env [(0, _), (3, _), (11, _)] ⟨rfl, rfl, rfl, trivial⟩ ?_
    refine CV.cond_t rfl ?_
    refine CV.seq ?_
    -- region 2 iospace.go:145
    refine CV.region ?_
    refine RV.op (OV.step gno (Step.assign rfl) rfl ?_)
    refine RV.op (OV.step gno (Step.assign rfl) rfl ?_)
    refine RV.nil ?_
    refine KV.then_n ?_
    refine KV.env [(4, _), (5, _)] ⟨rfl, rfl, trivial⟩ ?_
    refine CV.ret ?_
    refine KV.then_ret ?_
    -- return at r2
    refine KV.sel [0, 0, 0, 0] [_, _, _, _] rfl ?_
    exact KV.ret2 rfl rfl rfl _ (fun _ h => h) ⟨fun _ => ⟨rfl, rfl⟩, fun h => absurd h hwf⟩
end Go.Proofs.Ythdpojggdodpfaa
