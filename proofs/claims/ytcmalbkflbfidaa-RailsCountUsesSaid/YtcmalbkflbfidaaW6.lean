/-
  Walks, part 6.
-/
import Derived.Test.YtcmalbkflbfidaaTab6
import Derived.Test.YtcmalbkflbfidaaW2
import Derived.Test.YtcmalbkflbfidaaMdl3
set_option linter.unusedSimpArgs false
set_option linter.unusedVariables false
namespace Go.Proofs.Ytcmalbkflbfidaa
open Go.Sv Go.Rails
set_option maxRecDepth 100000 in
set_option maxHeartbeats 1000000 in
theorem mod_fn (v : Int) (n : Nat) (hn : 0 < n) (hn2 : n ≤ 1000000) : FxP Try.prog 16 [.int .i64 v, .int .i64 n] (.int .i64 (modM v n)) := by
  refine Sv.FxP.body Try.func16 rfl T16 rfl ?_
  intro wp
  refine KV.env [(0, _), (1, _)] ⟨rfl, rfl, trivial⟩ ?_
  refine CV.seq ?_
  -- region 0 help.go:60
  refine CV.region ?_
  refine RV.op (OV.step gno (Step.assign rfl) rfl ?_)
  refine RV.nil ?_
  refine KV.then_n ?_
  refine KV.env [(0, _), (1, _)] ⟨rfl, rfl, trivial⟩ ?_
  refine CV.seq ?_
  -- region 1 help.go:60
  refine CV.region ?_
  refine RV.op (OV.step gno (Step.move rfl) rfl ?_)
  refine RV.op (OV.step gno (Step.convI Try.underlying3 Try.underlying74 rfl (rfl)) rfl ?_)
  refine RV.op (OV.step gno (Step.move rfl) rfl ?_)
  (first | refine RV.op (OV.step gno (Step.convI Try.underlying3 Try.underlying74 rfl (wU64 (by omega) (by omega))) rfl ?_) | refine RV.op (OV.step gno (Step.convI Try.underlying3 Try.underlying74 rfl rfl) rfl ?_))
  refine RV.op (OV.step gno (Step.rem rfl rfl (by omega) (Int.tmod_eq_emod_of_nonneg (wrap_u64_nonneg v))) rfl ?_)
  refine RV.op (OV.step gno (Step.convI Try.underlying74 Try.underlying3 rfl (wI64 (Int.le_trans (by decide) (modM_lt v hn).1) (by have := (modM_lt v hn).2; unfold modM at this; omega))) rfl ?_)
  refine RV.op (OV.step gno (Step.assign rfl) rfl ?_)
  refine RV.nil ?_
  refine KV.then_n ?_
  refine KV.env [(4, _)] ⟨rfl, trivial⟩ ?_
  refine CV.ret ?_
  -- return at r1
  exact KV.retP1 rfl rfl rfl

set_option maxRecDepth 100000 in
set_option maxHeartbeats 1000000 in
theorem at_fn (c : RCall) (n : Nat) (now : Int) {w : World} (hn2 : n ≤ 1000000) : Fx Try.prog 19 [callV c, .int .i64 n, .int .u64 now] w [] no (fun v L => v = .tuple #[.int .i64 (atM c n now).1, .int .u64 (atM c n now).2] ∧ L = []) := by
  refine Sv.Fx.body Try.func19 rfl T19 rfl ?_
  intro I hro hI
  refine KV.env [(0, _), (1, _), (2, _)] ⟨rfl, rfl, rfl, trivial⟩ ?_
  refine CV.seq ?_
  -- region 0 law.go:53
  refine CV.region ?_
  refine RV.op (OV.box (t := 48) #[_, _, _, _] rfl rfl gno rfl (fun b0_0 => ?_))
  refine RV.op (OV.step gno (Step.assign rfl) rfl ?_)
  refine RV.op (OV.step gno (Step.assign rfl) rfl ?_)
  refine RV.nil ?_
  refine KV.then_n ?_
  refine KV.env [(1, _), (2, _), (3, _)] ⟨rfl, rfl, rfl, trivial⟩ ?_
  refine CV.seq ?_
  refine CV.seq ?_
  -- region 1 law.go:54
  refine CV.region ?_
  refine RV.op (OV.step gno (Step.fieldAddr rfl (F48_3 _ _)) rfl ?_)
  refine RV.op (OV.step gno (Step.load Try.underlying4 rfl rfl (fun w h => h.cell 0 rfl rfl)) rfl ?_)
  refine RV.nil ?_
  refine KV.then_n ?_
  refine KV.env [(1, _), (2, _), (3, _), (9, _)] ⟨rfl, rfl, rfl, rfl, trivial⟩ ?_
  refine KV.cases 9 rfl (fun cc1 => ?_) (fun cc1 => ?_)
  · -- True
    refine CV.cond_t rfl ?_
    refine CV.seq ?_
    -- region 2 law.go:55
    refine CV.still (by kernel_rfl) (by kernel_rfl) (fun _ h => h.drew) ?_
    refine SV.step gno (Step.fieldAddr rfl (F48_1 _ _)) rfl ?_
    refine SV.step gno (Step.load Try.underlying3 rfl rfl (fun w h => h.cell 0 rfl rfl)) rfl ?_
    refine SV.step gno (Step.fieldAddr rfl (F48_2 _ _)) rfl ?_
    refine SV.step gno (Step.load Try.underlying33 rfl rfl (fun w h => h.cell 0 rfl rfl)) rfl ?_
    refine SV.step gno (Step.assign rfl) rfl ?_
    refine SV.step gno (Step.assign rfl) rfl ?_
    refine SV.nil ?_
    refine KV.then_n ?_
    refine KV.env [(6, _), (7, _)] ⟨rfl, rfl, trivial⟩ ?_
    refine CV.ret ?_
    refine KV.then_ret ?_
    -- return at r2
    refine KV.sel [] [] rfl ?_
    exact KV.ret2 rfl rfl rfl _ (fun _ h => h) ⟨by rw [atM, if_pos cc1], rfl⟩
  · -- False
    refine CV.cond_f rfl ?_
    refine CV.skip ?_
    refine KV.then_n ?_
    refine KV.env [(1, _), (2, _), (3, _)] ⟨rfl, rfl, rfl, trivial⟩ ?_
    refine CV.seq ?_
    refine CV.seq ?_
    -- region 3 law.go:57
    refine CV.region ?_
    refine RV.op (OV.step gno (Step.move rfl) rfl ?_)
    refine RV.op (OV.split gno (Step.eql rfl rfl) rfl (fun h0 => ?_) (fun h0 => ?_))
    · -- True
      refine RV.nil ?_
      refine KV.then_n ?_
      refine KV.env [(1, _), (2, _), (3, _), (15, _)] ⟨rfl, rfl, rfl, rfl, trivial⟩ ?_
      refine CV.cond_t rfl ?_
      refine CV.seq ?_
      -- region 4 law.go:58
      refine CV.still (by kernel_rfl) (by kernel_rfl) (fun _ h => h.drew) ?_
      refine SV.step gno (Step.move rfl) rfl ?_
      refine SV.step gno (Step.fieldAddr rfl (F48_2 _ _)) rfl ?_
      refine SV.step gno (Step.load Try.underlying33 rfl rfl (fun w h => h.cell 0 rfl rfl)) rfl ?_
      refine SV.step gno (Step.rem rfl rfl (by omega) (rfl)) rfl ?_
      refine SV.step gno (Step.add rfl rfl (rfl)) rfl ?_
      refine SV.step gno (Step.assign rfl) rfl ?_
      refine SV.step gno (Step.assign rfl) rfl ?_
      refine SV.nil ?_
      refine KV.then_n ?_
      refine KV.env [(6, _), (7, _)] ⟨rfl, rfl, trivial⟩ ?_
      refine CV.ret ?_
      refine KV.then_ret ?_
      -- return at r4
      refine KV.sel [] [] rfl ?_
      exact KV.ret2 rfl rfl rfl _ (fun _ h => h) ⟨by rw [atM, if_neg (by rw [cc1]; decide), if_pos (by omega)], rfl⟩
    · -- False
      refine RV.nil ?_
      refine KV.then_n ?_
      refine KV.env [(1, _), (2, _), (3, _), (15, _)] ⟨rfl, rfl, rfl, rfl, trivial⟩ ?_
      refine CV.cond_f rfl ?_
      refine CV.skip ?_
      refine KV.then_n ?_
      refine KV.env [(1, _), (2, _), (3, _)] ⟨rfl, rfl, rfl, trivial⟩ ?_
      refine CV.seq ?_
      -- region 5 law.go:60
      refine CV.still (by kernel_rfl) (by kernel_rfl) (fun _ h => h.drew) ?_
      refine SV.step gno (Step.fieldAddr rfl (F48_1 _ _)) rfl ?_
      refine SV.step gno (Step.load Try.underlying3 rfl rfl (fun w h => h.cell 0 rfl rfl)) rfl ?_
      refine SV.step gno (Step.move rfl) rfl ?_
      refine SV.call Try.func16 B16 N16 rfl (mod_fn c.rail n (by omega) hn2) gno rfl ?_
      refine SV.step gno (Step.move rfl) rfl ?_
      refine SV.step gno (Step.fieldAddr rfl (F48_2 _ _)) rfl ?_
      refine SV.step gno (Step.load Try.underlying33 rfl rfl (fun w h => h.cell 0 rfl rfl)) rfl ?_
      refine SV.step gno (Step.rem rfl rfl (by omega) (rfl)) rfl ?_
      refine SV.step gno (Step.add rfl rfl (rfl)) rfl ?_
      refine SV.step gno (Step.assign rfl) rfl ?_
      refine SV.step gno (Step.assign rfl) rfl ?_
      refine SV.nil ?_
      refine KV.then_n ?_
      refine KV.env [(6, _), (7, _)] ⟨rfl, rfl, trivial⟩ ?_
      refine CV.ret ?_
      -- return at r5
      refine KV.sel [] [] rfl ?_
      exact KV.ret2 rfl rfl rfl _ (fun _ h => h) ⟨by rw [atM, if_neg (by rw [cc1]; decide), if_neg (by omega)], rfl⟩

set_option maxRecDepth 100000 in
set_option maxHeartbeats 1000000 in
theorem do_fn (b : Nat) (a : RA) (st : St) (c : RCall) (n : Nat) (now : Int) {w : World} (hn2 : n ≤ 1000000) (f : Nat) (rk : Nat → Nat) (wf : st.wf) (hg : Acy st.rails rk) (hf : ∀ i, i < st.rails.length → rk i < f) (hf2 : f ≤ 1000000) : Fx Try.prog 20 [.pointer (some ⟨b, 0, none⟩), callV c, .int .i64 n, .int .u64 now] w (robj 73 b a st) no (fun v L => ∃ A c2, v = .tuple #[.slice A (doM f st c n now).ops.length c2, .int .i64 (doM f st c n now).err] ∧ L = robj 73 b a (doM f st c n now).st ++ [OS 45 opK A c2 (doM f st c n now).ops]) := by
  refine Sv.Fx.body Try.func20 rfl T20 rfl ?_
  intro I hro hI
  refine KV.env [(0, _), (1, _), (2, _), (3, _)] ⟨rfl, rfl, rfl, rfl, trivial⟩ ?_
  refine CV.seq ?_
  -- region 0 law.go:64
  refine CV.region ?_
  refine RV.op (OV.box (t := 48) #[_, _, _, _] rfl rfl gno rfl (fun b0_0 => ?_))
  refine RV.op (OV.step gno (Step.assign rfl) rfl ?_)
  refine RV.op (OV.step gno (Step.assign rfl) rfl ?_)
  refine RV.nil ?_
  refine KV.then_n ?_
  refine KV.env [(0, _), (2, _), (3, _), (5, _)] ⟨rfl, rfl, rfl, rfl, trivial⟩ ?_
  refine CV.seq ?_
  -- region 1 law.go:65
  refine CV.region ?_
  refine RV.op (OV.step gno (Step.loadN _ Try.underlying48 rfl I48 rfl rfl (fun w h => h.cells 4 rfl)) rfl ?_)
  refine RV.op (OV.step gno (Step.move rfl) rfl ?_)
  refine RV.op (OV.step gno (Step.move rfl) rfl ?_)
  refine RV.op (OV.call [] (F := [_, _, _, _, _]) Try.func19 B19 N19 rfl rfl (fun w h => at_fn c n now hn2) (fun _ hb => hb.elim) gno rfl (fun v L' hp => ?_))
  obtain ⟨rfl, rfl⟩ := hp
  simp only [List.append_nil]
  refine RV.op (OV.step gno (Step.move rfl) rfl ?_)
  refine RV.op (OV.step gno (Step.extract0 rfl rfl) rfl ?_)
  refine RV.op (OV.step gno (Step.extract0 rfl rfl) rfl ?_)
  refine RV.op (OV.step gno (Step.assign rfl) rfl ?_)
  refine RV.op (OV.step gno (Step.assign rfl) rfl ?_)
  refine RV.nil ?_
  refine KV.then_n ?_
  refine KV.env [(0, _), (5, _), (10, _), (11, _)] ⟨rfl, rfl, rfl, rfl, trivial⟩ ?_
  refine CV.seq ?_
  refine CV.seq ?_
  -- region 2 law.go:66
  refine CV.region ?_
  refine RV.op (OV.step gno (Step.fieldAddr rfl (F48_0 _ _)) rfl ?_)
  refine RV.op (OV.step gno (Step.load Try.underlying4 rfl rfl (fun w h => h.cell 4 rfl rfl)) rfl ?_)
  refine RV.nil ?_
  refine KV.then_n ?_
  refine KV.env [(0, _), (10, _), (11, _), (20, _)] ⟨rfl, rfl, rfl, rfl, trivial⟩ ?_
  refine KV.cases 20 rfl (fun cc1 => ?_) (fun cc1 => ?_)
  · -- True
    refine CV.cond_t rfl ?_
    refine CV.seq ?_
    -- region 3 law.go:67
    refine CV.region ?_
    refine RV.op (OV.step gno (Step.move rfl) rfl ?_)
    refine RV.op (OV.step gno (Step.move rfl) rfl ?_)
    refine RV.op (OV.step gno (Step.move rfl) rfl ?_)
    refine RV.op (OV.call [0, 0, 0, 0] (F := [_]) Try.func32 B32 N32 rfl rfl (fun w h => release_fn b a st _ _ w f rk wf hg hf hf2) (fun _ hb => hb.elim) gno rfl (fun v L' hp => ?_))
    obtain ⟨A, c2, rfl, rfl⟩ := hp
    refine RV.op (OV.step gno (Step.extract0 rfl rfl) rfl ?_)
    refine RV.op (OV.step gno (Step.extract0 rfl rfl) rfl ?_)
    refine RV.op (OV.step gno (Step.assign rfl) rfl ?_)
    refine RV.op (OV.step gno (Step.assign rfl) rfl ?_)
    refine RV.nil ?_
    refine KV.then_n ?_
    refine KV.env [(8, _), (9, _)] ⟨rfl, rfl, trivial⟩ ?_
    refine CV.ret ?_
    refine KV.then_ret ?_
    -- return at r3
    refine KV.sel [1, 1, 1, 1, 1] [_, _, _, _, _] rfl ?_
    rw [doM, if_pos cc1]
    exact KV.ret2 rfl rfl rfl _ (fun _ h => h) ⟨_, _, rfl, rfl⟩
  · -- False
    refine CV.cond_f rfl ?_
    refine CV.skip ?_
    refine KV.then_n ?_
    refine KV.env [(0, _), (10, _), (11, _)] ⟨rfl, rfl, rfl, trivial⟩ ?_
    refine CV.seq ?_
    -- region 4 law.go:69
    refine CV.region ?_
    refine RV.op (OV.step gno (Step.move rfl) rfl ?_)
    refine RV.op (OV.step gno (Step.move rfl) rfl ?_)
    refine RV.op (OV.step gno (Step.move rfl) rfl ?_)
    refine RV.op (OV.call [0, 0, 0, 0] (F := [_]) Try.func31 B31 N31 rfl rfl (fun w h => acquire_fn b a st _ _ w f rk wf hg hf hf2) (fun _ hb => hb.elim) gno rfl (fun v L' hp => ?_))
    obtain ⟨A, c2, rfl, rfl⟩ := hp
    refine RV.op (OV.step gno (Step.extract0 rfl rfl) rfl ?_)
    refine RV.op (OV.step gno (Step.extract0 rfl rfl) rfl ?_)
    refine RV.op (OV.step gno (Step.assign rfl) rfl ?_)
    refine RV.op (OV.step gno (Step.assign rfl) rfl ?_)
    refine RV.nil ?_
    refine KV.then_n ?_
    refine KV.env [(8, _), (9, _)] ⟨rfl, rfl, trivial⟩ ?_
    refine CV.ret ?_
    -- return at r4
    refine KV.sel [1, 1, 1, 1, 1] [_, _, _, _, _] rfl ?_
    rw [doM, if_neg (by rw [cc1]; decide)]
    exact KV.ret2 rfl rfl rfl _ (fun _ h => h) ⟨_, _, rfl, rfl⟩

set_option maxRecDepth 100000 in
set_option maxHeartbeats 1000000 in
theorem want_fn (b : Nat) (a : RA) (st : St) (c : RCall) (n : Nat) (now : Int) {w : World} (hn2 : n ≤ 1000000) (f : Nat) (rk : Nat → Nat) (wf : st.wf) (hg : Acy st.rails rk) (hf : ∀ i, i < st.rails.length → rk i < f) (hf2 : f ≤ 1000000) : Fx Try.prog 23 [.pointer (some ⟨b, 0, none⟩), callV c, .int .i64 n, .int .u64 now] w (robj 59 b a st) no (fun v L => ∃ A c2, v = .tuple #[.slice A (doR f st c n now).ops.length c2, .int .i64 (doR f st c n now).err] ∧ L = robj 59 b a (doR f st c n now).st ++ [OS 45 opK A c2 (doR f st c n now).ops]) := by
  refine Sv.Fx.body Try.func23 rfl T23 rfl ?_
  intro I hro hI
  refine KV.env [(0, _), (1, _), (2, _), (3, _)] ⟨rfl, rfl, rfl, rfl, trivial⟩ ?_
  refine CV.seq ?_
  -- region 0 law.go:73
  refine CV.region ?_
  refine RV.op (OV.box (t := 48) #[_, _, _, _] rfl rfl gno rfl (fun b0_0 => ?_))
  refine RV.op (OV.step gno (Step.assign rfl) rfl ?_)
  refine RV.op (OV.step gno (Step.assign rfl) rfl ?_)
  refine RV.nil ?_
  refine KV.then_n ?_
  refine KV.env [(0, _), (2, _), (3, _), (5, _)] ⟨rfl, rfl, rfl, rfl, trivial⟩ ?_
  refine CV.seq ?_
  -- region 1 law.go:74
  refine CV.region ?_
  refine RV.op (OV.step gno (Step.loadN _ Try.underlying48 rfl I48 rfl rfl (fun w h => h.cells 4 rfl)) rfl ?_)
  refine RV.op (OV.step gno (Step.move rfl) rfl ?_)
  refine RV.op (OV.step gno (Step.move rfl) rfl ?_)
  refine RV.op (OV.call [] (F := [_, _, _, _, _]) Try.func19 B19 N19 rfl rfl (fun w h => at_fn c n now hn2) (fun _ hb => hb.elim) gno rfl (fun v L' hp => ?_))
  obtain ⟨rfl, rfl⟩ := hp
  simp only [List.append_nil]
  refine RV.op (OV.step gno (Step.move rfl) rfl ?_)
  refine RV.op (OV.step gno (Step.extract0 rfl rfl) rfl ?_)
  refine RV.op (OV.step gno (Step.extract0 rfl rfl) rfl ?_)
  refine RV.op (OV.step gno (Step.assign rfl) rfl ?_)
  refine RV.op (OV.step gno (Step.assign rfl) rfl ?_)
  refine RV.nil ?_
  refine KV.then_n ?_
  refine KV.env [(0, _), (5, _), (10, _), (11, _)] ⟨rfl, rfl, rfl, rfl, trivial⟩ ?_
  refine CV.seq ?_
  refine CV.seq ?_
  -- region 2 law.go:75
  refine CV.region ?_
  refine RV.op (OV.step gno (Step.fieldAddr rfl (F48_0 _ _)) rfl ?_)
  refine RV.op (OV.step gno (Step.load Try.underlying4 rfl rfl (fun w h => h.cell 4 rfl rfl)) rfl ?_)
  refine RV.nil ?_
  refine KV.then_n ?_
  refine KV.env [(0, _), (10, _), (11, _), (20, _)] ⟨rfl, rfl, rfl, rfl, trivial⟩ ?_
  refine KV.cases 20 rfl (fun cc1 => ?_) (fun cc1 => ?_)
  · -- True
    refine CV.cond_t rfl ?_
    refine CV.seq ?_
    -- region 3 law.go:76
    refine CV.region ?_
    refine RV.op (OV.step gno (Step.move rfl) rfl ?_)
    refine RV.op (OV.step gno (Step.move rfl) rfl ?_)
    refine RV.op (OV.step gno (Step.move rfl) rfl ?_)
    refine RV.op (OV.call [0, 0, 0, 0] (F := [_]) Try.func36 B36 N36 rfl rfl (fun w h => releaseR_fn b a st _ _ w f rk wf hg hf hf2) (fun _ hb => hb.elim) gno rfl (fun v L' hp => ?_))
    obtain ⟨A, c2, rfl, rfl⟩ := hp
    refine RV.op (OV.step gno (Step.extract0 rfl rfl) rfl ?_)
    refine RV.op (OV.step gno (Step.extract0 rfl rfl) rfl ?_)
    refine RV.op (OV.step gno (Step.assign rfl) rfl ?_)
    refine RV.op (OV.step gno (Step.assign rfl) rfl ?_)
    refine RV.nil ?_
    refine KV.then_n ?_
    refine KV.env [(8, _), (9, _)] ⟨rfl, rfl, trivial⟩ ?_
    refine CV.ret ?_
    refine KV.then_ret ?_
    -- return at r3
    refine KV.sel [1, 1, 1, 1, 1] [_, _, _, _, _] rfl ?_
    rw [doR, if_pos cc1]
    exact KV.ret2 rfl rfl rfl _ (fun _ h => h) ⟨_, _, rfl, rfl⟩
  · -- False
    refine CV.cond_f rfl ?_
    refine CV.skip ?_
    refine KV.then_n ?_
    refine KV.env [(0, _), (10, _), (11, _)] ⟨rfl, rfl, rfl, trivial⟩ ?_
    refine CV.seq ?_
    -- region 4 law.go:78
    refine CV.region ?_
    refine RV.op (OV.step gno (Step.move rfl) rfl ?_)
    refine RV.op (OV.step gno (Step.move rfl) rfl ?_)
    refine RV.op (OV.step gno (Step.move rfl) rfl ?_)
    refine RV.op (OV.call [0, 0, 0, 0] (F := [_]) Try.func37 B37 N37 rfl rfl (fun w h => acquireR_fn b a st _ _ w f rk wf hg hf hf2) (fun _ hb => hb.elim) gno rfl (fun v L' hp => ?_))
    obtain ⟨A, c2, rfl, rfl⟩ := hp
    refine RV.op (OV.step gno (Step.extract0 rfl rfl) rfl ?_)
    refine RV.op (OV.step gno (Step.extract0 rfl rfl) rfl ?_)
    refine RV.op (OV.step gno (Step.assign rfl) rfl ?_)
    refine RV.op (OV.step gno (Step.assign rfl) rfl ?_)
    refine RV.nil ?_
    refine KV.then_n ?_
    refine KV.env [(8, _), (9, _)] ⟨rfl, rfl, trivial⟩ ?_
    refine CV.ret ?_
    -- return at r4
    refine KV.sel [1, 1, 1, 1, 1] [_, _, _, _, _] rfl ?_
    rw [doR, if_neg (by rw [cc1]; decide)]
    exact KV.ret2 rfl rfl rfl _ (fun _ h => h) ⟨_, _, rfl, rfl⟩

set_option maxRecDepth 100000 in
set_option maxHeartbeats 1000000 in
theorem equal_fn {A B : Option Addr} {c d : Nat} {xs ys : List ROp} {w : World} (hx : RS w opK A xs) (hy : RS w opK B ys) (hl : xs.length ≤ 1000000) (hl2 : ys.length ≤ 1000000) : Fx Try.prog 24 [.slice A xs.length c, .slice B ys.length d] w [] no (fun v L => v = .bool (decide (xs = ys)) ∧ L = []) := by
  refine Sv.Fx.body Try.func24 rfl T24 rfl ?_
  intro I hro hI
  refine KV.env [(0, _), (1, _)] ⟨rfl, rfl, trivial⟩ ?_
  refine CV.seq ?_
  -- region 0 help.go:18
  refine CV.region ?_
  refine RV.op (OV.step gno (Step.assign rfl) rfl ?_)
  refine RV.nil ?_
  refine KV.then_n ?_
  refine KV.env [(0, _), (1, _)] ⟨rfl, rfl, trivial⟩ ?_
  refine CV.seq ?_
  refine CV.seq ?_
  -- region 1 help.go:19
  refine CV.region ?_
  refine RV.op (OV.step gno (Step.move rfl) rfl ?_)
  refine RV.op (OV.step gno (Step.lenSl Try.underlying38 rfl) rfl ?_)
  refine RV.op (OV.step gno (Step.move rfl) rfl ?_)
  refine RV.op (OV.step gno (Step.lenSl Try.underlying38 rfl) rfl ?_)
  refine RV.op (OV.split gno (Step.neq rfl rfl) rfl (fun hne => ?_) (fun hne => ?_))
  · -- True
    refine RV.nil ?_
    refine KV.then_n ?_
    refine KV.env [(0, _), (1, _), (10, _)] ⟨rfl, rfl, rfl, trivial⟩ ?_
    refine CV.cond_t rfl ?_
    refine CV.seq ?_
    -- region 2 help.go:20
    refine CV.region ?_
    refine RV.op (OV.step gno (Step.assign rfl) rfl ?_)
    refine RV.nil ?_
    refine KV.then_n ?_
    refine KV.env [(4, _)] ⟨rfl, trivial⟩ ?_
    refine CV.ret ?_
    refine KV.then_ret ?_
    -- return at r2
    refine KV.sel [] [] rfl ?_
    exact KV.ret1 rfl rfl _ (fun _ h => h) ⟨by rw [decide_eq_false]; rintro rfl; exact hne rfl, rfl⟩
  · -- False
    refine RV.nil ?_
    refine KV.then_n ?_
    refine KV.env [(0, _), (1, _), (10, _)] ⟨rfl, rfl, rfl, trivial⟩ ?_
    refine CV.cond_f rfl ?_
    refine CV.skip ?_
    refine KV.then_n ?_
    refine KV.env [(0, _), (1, _)] ⟨rfl, rfl, trivial⟩ ?_
    refine CV.seq ?_
    refine CV.seq ?_
    -- region 3 help.go:22
    refine CV.region ?_
    refine RV.op (OV.step gno (Step.assign rfl) rfl ?_)
    refine RV.nil ?_
    refine KV.then_n ?_
    refine KV.env [(0, _), (1, _), (5, _)] ⟨rfl, rfl, rfl, trivial⟩ ?_
    refine CV.block ?_
    -- loop L4; live [0, 1, 5]
    refine KV.sel [] [] rfl ?_
    refine CV.loopI (α := Nat) (fun j => j ≤ xs.length ∧ ∀ i, i < j → xs.getD i opK.d = ys.getD i opK.d) (fun j => xs.length - j) (fun j => [(0, .slice A xs.length c), (1, .slice B ys.length d), (5, .int .i64 j)]) (fun _ => Hp I w []) 0 ⟨Nat.zero_le _, fun _ h => by omega⟩ ⟨rfl, rfl, rfl, trivial⟩ (fun _ h => h) ?_
    intro j hj
    refine CV.seq ?_
    refine CV.seq ?_
    -- region 4 help.go:22
    refine CV.region ?_
    refine RV.op (OV.step gno (Step.move rfl) rfl ?_)
    refine RV.op (OV.step gno (Step.move rfl) rfl ?_)
    refine RV.op (OV.step gno (Step.lenSl Try.underlying38 rfl) rfl ?_)
    refine RV.op (OV.split gno (Step.lss rfl rfl) rfl (fun hlt2 => ?_) (fun hlt2 => ?_))
    · -- True
      refine RV.nil ?_
      refine KV.then_n ?_
      refine KV.env [(0, _), (1, _), (5, _), (14, _)] ⟨rfl, rfl, rfl, rfl, trivial⟩ ?_
      refine CV.cond_t rfl ?_
      refine CV.skip ?_
      refine KV.then_n ?_
      refine KV.env [(0, _), (1, _), (5, _)] ⟨rfl, rfl, rfl, trivial⟩ ?_
      refine CV.seq ?_
      refine CV.block ?_
      refine CV.seq ?_
      -- region 6 help.go:23
      refine CV.still (by kernel_rfl) (by kernel_rfl) (fun _ h => h.drew) ?_
      refine SV.step gno (Step.move rfl) rfl ?_
      refine SV.step gno (Step.move rfl) rfl ?_
      refine SV.step gno (Step.idx Try.underlying38 I45 (fun w h => h.rs hx (fun _ => hI _)) rfl rfl (rfl) _ rfl (by omega)) rfl ?_
      refine SV.step gno (Step.loadN _ Try.underlying45 rfl I45 rfl rfl (fun w h => (h.rs hx (fun _ => hI _)).cells (by omega))) rfl ?_
      refine SV.step gno (Step.move rfl) rfl ?_
      refine SV.step gno (Step.move rfl) rfl ?_
      refine SV.step gno (Step.idx Try.underlying38 I45 (fun w h => h.rs hy (fun _ => hI _)) rfl rfl (rfl) _ rfl (by omega)) rfl ?_
      refine SV.step gno (Step.loadN _ Try.underlying45 rfl I45 rfl rfl (fun w h => (h.rs hy (fun _ => hI _)).cells (by omega))) rfl ?_
      refine SV.split gno (Step.binR rfl rfl (EG45neq _ _ _ _) (EQ45neq _ _ _ _ _ _ _ _)) rfl (fun hq => ?_) (fun hq => ?_)
      · -- True
        refine SV.nil ?_
        refine KV.then_n ?_
        refine KV.env [(0, _), (1, _), (5, _), (25, _)] ⟨rfl, rfl, rfl, rfl, trivial⟩ ?_
        refine CV.cond_t rfl ?_
        refine CV.seq ?_
        -- region 7 help.go:24
        refine CV.region ?_
        refine RV.op (OV.step gno (Step.assign rfl) rfl ?_)
        refine RV.nil ?_
        refine KV.then_n ?_
        refine KV.env [(4, _)] ⟨rfl, trivial⟩ ?_
        refine CV.ret ?_
        refine KV.block_ret ?_
        refine KV.then_ret ?_
        refine KV.then_ret ?_
        refine KV.block_ret ?_
        refine KV.then_ret ?_
        -- return at r7
        refine KV.sel [] [] rfl ?_
        exact KV.ret1 rfl rfl _ (fun _ h => h) ⟨by rw [decide_eq_false]; rintro rfl; exact hq ⟨rfl, rfl, rfl, rfl⟩, rfl⟩
      · -- False
        refine SV.nil ?_
        refine KV.then_n ?_
        refine KV.env [(0, _), (1, _), (5, _), (25, _)] ⟨rfl, rfl, rfl, rfl, trivial⟩ ?_
        refine CV.cond_f rfl ?_
        refine CV.skip ?_
        refine KV.block_n ?_
        refine KV.then_n ?_
        refine KV.env [(0, _), (1, _), (5, _)] ⟨rfl, rfl, rfl, trivial⟩ ?_
        -- region 5 help.go:22
        refine CV.region ?_
        refine RV.op (OV.step gno (Step.move rfl) rfl ?_)
        (first | refine RV.op (OV.step gno (Step.add rfl rfl (wI64 (by omega) (by omega))) rfl ?_) | refine RV.op (OV.step gno (Step.add rfl rfl rfl) rfl ?_))
        refine RV.op (OV.step gno (Step.assign rfl) rfl ?_)
        refine RV.nil ?_
        refine KV.then_n ?_
        refine KV.env [(0, _), (1, _), (5, _)] ⟨rfl, rfl, rfl, trivial⟩ ?_
        refine KV.sel [] [] rfl ?_
        refine KV.loopI (j + 1) ⟨by omega, fun i hi => by by_cases e : i = j; (subst e; exact op_eq (Decidable.not_not.1 hq)); exact hj.2 i (by omega)⟩ (by omega) ⟨rfl, rfl, rfl, trivial⟩ (fun _ h => h)
    · -- False
      refine RV.nil ?_
      refine KV.then_n ?_
      refine KV.env [(0, _), (1, _), (5, _), (14, _)] ⟨rfl, rfl, rfl, rfl, trivial⟩ ?_
      refine CV.cond_f rfl ?_
      refine CV.exit ?_
      refine KV.then_exit ?_
      refine KV.then_exit ?_
      refine KV.block_hit ?_
      refine KV.then_n ?_
      refine KV.env [] trivial ?_
      refine CV.seq ?_
      -- region 8 help.go:27
      refine CV.region ?_
      refine RV.op (OV.step gno (Step.assign rfl) rfl ?_)
      refine RV.nil ?_
      refine KV.then_n ?_
      refine KV.env [(4, _)] ⟨rfl, trivial⟩ ?_
      refine CV.ret ?_
      -- return at r8
      refine KV.sel [] [] rfl ?_
      exact KV.ret1 rfl rfl _ (fun _ h => h) ⟨by rw [decide_eq_true (op_ext (by omega) fun i hi => hj.2 i (by omega))], rfl⟩

set_option maxRecDepth 100000 in
set_option maxHeartbeats 1000000 in
theorem named_fn {A : Option Addr} {c : Nat} {ys : List ROp} (n : Int) {w : World} (hr : RS w opK A ys) (hl : ys.length ≤ 1000000) : Fx Try.prog 18 [.slice A ys.length c, .int .i64 n] w [] no (fun v L => ∃ r : Bool, v = .bool r ∧ L = [] ∧ (r = true ↔ namedM ys n)) := by
  refine Sv.Fx.body Try.func18 rfl T18 rfl ?_
  intro I hro hI
  refine KV.env [(0, _), (1, _)] ⟨rfl, rfl, trivial⟩ ?_
  refine CV.seq ?_
  -- region 0 law.go:151
  refine CV.region ?_
  refine RV.op (OV.step gno (Step.assign rfl) rfl ?_)
  refine RV.nil ?_
  refine KV.then_n ?_
  refine KV.env [(0, _), (1, _)] ⟨rfl, rfl, trivial⟩ ?_
  refine CV.seq ?_
  refine CV.seq ?_
  -- region 1 law.go:152
  refine CV.region ?_
  refine RV.op (OV.step gno (Step.assign rfl) rfl ?_)
  refine RV.nil ?_
  refine KV.then_n ?_
  refine KV.env [(0, _), (1, _), (5, _)] ⟨rfl, rfl, rfl, trivial⟩ ?_
  refine CV.block ?_
  -- loop L2; live [0, 1, 5]
  refine KV.sel [] [] rfl ?_
  refine CV.loopI (α := Nat) (fun j => j ≤ ys.length ∧ ∀ i, i < j → 0 ≤ (ys.getD i opK.d).rail ∧ (ys.getD i opK.d).rail < n) (fun j => ys.length - j) (fun j => [(0, .slice A ys.length c), (1, .int .i64 n), (5, .int .i64 j)]) (fun _ => Hp I w []) 0 ⟨Nat.zero_le _, fun _ h => by omega⟩ ⟨rfl, rfl, rfl, trivial⟩ (fun _ h => h) ?_
  intro j hj
  refine CV.seq ?_
  refine CV.seq ?_
  -- region 2 law.go:152
  refine CV.region ?_
  refine RV.op (OV.step gno (Step.move rfl) rfl ?_)
  refine RV.op (OV.step gno (Step.move rfl) rfl ?_)
  refine RV.op (OV.step gno (Step.lenSl Try.underlying38 rfl) rfl ?_)
  refine RV.op (OV.split gno (Step.lss rfl rfl) rfl (fun hlt2 => ?_) (fun hlt2 => ?_))
  · -- True
    refine RV.nil ?_
    refine KV.then_n ?_
    refine KV.env [(0, _), (1, _), (5, _), (9, _)] ⟨rfl, rfl, rfl, rfl, trivial⟩ ?_
    refine CV.cond_t rfl ?_
    refine CV.skip ?_
    refine KV.then_n ?_
    refine KV.env [(0, _), (1, _), (5, _)] ⟨rfl, rfl, rfl, trivial⟩ ?_
    refine CV.seq ?_
    refine CV.block ?_
    refine CV.seq ?_
    -- region 4 law.go:153
    refine CV.region ?_
    refine RV.op (OV.step gno (Step.move rfl) rfl ?_)
    refine RV.op (OV.step gno (Step.move rfl) rfl ?_)
    refine RV.op (OV.step gno (Step.idx Try.underlying38 I45 (fun w h => h.rs hr (fun _ => hI _)) rfl rfl (rfl) _ rfl (by omega)) rfl ?_)
    refine RV.op (OV.step gno (Step.fieldAddr rfl (F45_0 _ _)) rfl ?_)
    (first | refine RV.op (OV.step gno (Step.load Try.underlying3 rfl rfl (fun w h => (h.rs hr (fun _ => hI _)).cell (by omega) rfl)) rfl ?_) | refine RV.op (OV.step gno (Step.load Try.underlying3 rfl rfl (fun w h => (h.rs hr (fun _ => hI _)).cell0 (by omega) rfl)) rfl ?_))
    refine RV.op (OV.split gno (Step.lss rfl rfl) rfl (fun cc1 => ?_) (fun cc1 => ?_))
    · -- True
      refine RV.op (OV.step gno (Step.move rfl) rfl ?_)
      refine RV.op (OV.skip rfl rfl ?_)
      refine RV.op (OV.skip rfl rfl ?_)
      refine RV.op (OV.skip rfl rfl ?_)
      refine RV.op (OV.skip rfl rfl ?_)
      refine RV.op (OV.skip rfl rfl ?_)
      refine RV.op (OV.skip rfl rfl ?_)
      refine RV.op (OV.skip rfl rfl ?_)
      refine RV.op (OV.step gno (Step.pick_t rfl rfl) rfl ?_)
      refine RV.nil ?_
      refine KV.then_n ?_
      refine KV.env [(0, _), (1, _), (5, _), (26, _)] ⟨rfl, rfl, rfl, rfl, trivial⟩ ?_
      refine CV.cond_t rfl ?_
      refine CV.seq ?_
      -- region 5 law.go:154
      refine CV.region ?_
      refine RV.op (OV.step gno (Step.assign rfl) rfl ?_)
      refine RV.nil ?_
      refine KV.then_n ?_
      refine KV.env [(4, _)] ⟨rfl, trivial⟩ ?_
      refine CV.ret ?_
      refine KV.block_ret ?_
      refine KV.then_ret ?_
      refine KV.then_ret ?_
      refine KV.block_ret ?_
      refine KV.then_ret ?_
      -- return at r5
      refine KV.sel [] [] rfl ?_
      exact KV.ret1 rfl rfl _ (fun _ h => h) ⟨_, rfl, rfl, ⟨fun h => (by cases h), fun h => (by have := h j (by omega); omega)⟩⟩
    · -- False
      refine RV.op (OV.step gno (Step.move rfl) rfl ?_)
      refine RV.op (OV.step (gyes rfl) (Step.move rfl) rfl ?_)
      refine RV.op (OV.step (gyes rfl) (Step.move rfl) rfl ?_)
      refine RV.op (OV.step (gyes rfl) (Step.idx Try.underlying38 I45 (fun w h => h.rs hr (fun _ => hI _)) rfl rfl (rfl) _ rfl (by omega)) rfl ?_)
      refine RV.op (OV.step (gyes rfl) (Step.fieldAddr rfl (F45_0 _ _)) rfl ?_)
      (first | refine RV.op (OV.step (gyes rfl) (Step.load Try.underlying3 rfl rfl (fun w h => (h.rs hr (fun _ => hI _)).cell (by omega) rfl)) rfl ?_) | refine RV.op (OV.step (gyes rfl) (Step.load Try.underlying3 rfl rfl (fun w h => (h.rs hr (fun _ => hI _)).cell0 (by omega) rfl)) rfl ?_))
      refine RV.op (OV.step (gyes rfl) (Step.move rfl) rfl ?_)
      refine RV.op (OV.split (gyes rfl) (Step.geq rfl rfl) rfl (fun cc2 => ?_) (fun cc2 => ?_))
      · -- True
        refine RV.op (OV.step gno (Step.pick_f rfl rfl) rfl ?_)
        refine RV.nil ?_
        refine KV.then_n ?_
        refine KV.env [(0, _), (1, _), (5, _), (26, _)] ⟨rfl, rfl, rfl, rfl, trivial⟩ ?_
        refine CV.cond_t rfl ?_
        refine CV.seq ?_
        -- region 5 law.go:154
        refine CV.region ?_
        refine RV.op (OV.step gno (Step.assign rfl) rfl ?_)
        refine RV.nil ?_
        refine KV.then_n ?_
        refine KV.env [(4, _)] ⟨rfl, trivial⟩ ?_
        refine CV.ret ?_
        refine KV.block_ret ?_
        refine KV.then_ret ?_
        refine KV.then_ret ?_
        refine KV.block_ret ?_
        refine KV.then_ret ?_
        -- return at r5
        refine KV.sel [] [] rfl ?_
        exact KV.ret1 rfl rfl _ (fun _ h => h) ⟨_, rfl, rfl, ⟨fun h => (by cases h), fun h => (by have := h j (by omega); omega)⟩⟩
      · -- False
        refine RV.op (OV.step gno (Step.pick_f rfl rfl) rfl ?_)
        refine RV.nil ?_
        refine KV.then_n ?_
        refine KV.env [(0, _), (1, _), (5, _), (26, _)] ⟨rfl, rfl, rfl, rfl, trivial⟩ ?_
        refine CV.cond_f rfl ?_
        refine CV.skip ?_
        refine KV.block_n ?_
        refine KV.then_n ?_
        refine KV.env [(0, _), (1, _), (5, _)] ⟨rfl, rfl, rfl, trivial⟩ ?_
        -- region 3 law.go:152
        refine CV.region ?_
        refine RV.op (OV.step gno (Step.move rfl) rfl ?_)
        (first | refine RV.op (OV.step gno (Step.add rfl rfl (wI64 (by omega) (by omega))) rfl ?_) | refine RV.op (OV.step gno (Step.add rfl rfl rfl) rfl ?_))
        refine RV.op (OV.step gno (Step.assign rfl) rfl ?_)
        refine RV.nil ?_
        refine KV.then_n ?_
        refine KV.env [(0, _), (1, _), (5, _)] ⟨rfl, rfl, rfl, trivial⟩ ?_
        refine KV.sel [] [] rfl ?_
        refine KV.loopI (j + 1) ⟨by omega, fun i hi => by by_cases e : i = j; (subst e; omega); exact hj.2 i (by omega)⟩ (by omega) ⟨rfl, rfl, rfl, trivial⟩ (fun _ h => h)
  · -- False
    refine RV.nil ?_
    refine KV.then_n ?_
    refine KV.env [(0, _), (1, _), (5, _), (9, _)] ⟨rfl, rfl, rfl, rfl, trivial⟩ ?_
    refine CV.cond_f rfl ?_
    refine CV.exit ?_
    refine KV.then_exit ?_
    refine KV.then_exit ?_
    refine KV.block_hit ?_
    refine KV.then_n ?_
    refine KV.env [] trivial ?_
    refine CV.seq ?_
    -- region 6 law.go:157
    refine CV.region ?_
    refine RV.op (OV.step gno (Step.assign rfl) rfl ?_)
    refine RV.nil ?_
    refine KV.then_n ?_
    refine KV.env [(4, _)] ⟨rfl, trivial⟩ ?_
    refine CV.ret ?_
    -- return at r6
    refine KV.sel [] [] rfl ?_
    exact KV.ret1 rfl rfl _ (fun _ h => h) ⟨_, rfl, rfl, ⟨fun _ i hi => hj.2 i (by omega), fun _ => rfl⟩⟩

set_option maxRecDepth 100000 in
set_option maxHeartbeats 1000000 in
theorem some_fn {A : Option Addr} {c : Nat} {raw : List Rail} {w : World} (hr : RS w railK A raw) : Fx Try.prog 15 [.slice A raw.length c] w [] no (fun v L => ∃ A2 c2, v = .slice A2 (someM raw).length c2 ∧ L = [OS 35 railK A2 c2 (someM raw)]) := by
  refine Sv.Fx.body Try.func15 rfl T15 rfl ?_
  intro I hro hI
  refine KV.env [(0, _)] ⟨rfl, trivial⟩ ?_
  refine CV.seq ?_
  -- region 0 law.go:32
  refine CV.region ?_
  refine RV.op (OV.step gno (Step.assign rfl) rfl ?_)
  refine RV.nil ?_
  refine KV.then_n ?_
  refine KV.env [(0, _)] ⟨rfl, trivial⟩ ?_
  refine CV.seq ?_
  -- region 1 law.go:33
  refine CV.region ?_
  refine RV.op (OV.step gno (Step.assign rfl) rfl ?_)
  refine RV.nil ?_
  refine KV.then_n ?_
  refine KV.env [(0, _), (3, _)] ⟨rfl, rfl, trivial⟩ ?_
  refine CV.seq ?_
  refine CV.seq ?_
  -- region 2 law.go:34
  refine KV.heap (fun w h => h.nilOS (e := 35) (K := railK)) ?_
  refine CV.region ?_
  refine RV.op (OV.step gno (Step.assign rfl) rfl ?_)
  refine RV.nil ?_
  refine KV.then_n ?_
  refine KV.env [(0, _), (3, _), (4, _)] ⟨rfl, rfl, rfl, trivial⟩ ?_
  refine CV.block ?_
  -- loop L3; live [0, 3, 4]
  refine KV.sel [0] [_] rfl ?_
  refine CV.loop3 (fun j (_ : Option Addr) (_ : Nat) => j ≤ raw.length ∧ j ≤ 8) (fun j _ _ => 8 - j) (fun j A1 c1 => [(0, .slice A raw.length c), (3, .slice A1 (sm1 raw j).length c1), (4, .int .i64 j)]) (fun j A1 c1 => Hp I w [OS 35 railK A1 c1 (sm1 raw j)]) 0 none 0 ⟨Nat.zero_le _, by omega⟩ ⟨rfl, rfl, rfl, trivial⟩ (fun _ h => h) ?_
  intro i A1 c1 hi
  have hll := sm1_length raw i
  refine CV.seq ?_
  refine CV.seq ?_
  -- region 3 law.go:34
  refine CV.region ?_
  refine RV.op (OV.step gno (Step.move rfl) rfl ?_)
  refine RV.op (OV.step gno (Step.move rfl) rfl ?_)
  refine RV.op (OV.step gno (Step.lenSl Try.underlying22 rfl) rfl ?_)
  refine RV.op (OV.split gno (Step.lss rfl rfl) rfl (fun hl1 => ?_) (fun hl1 => ?_))
  · -- True
    refine RV.op (OV.step gno (Step.move rfl) rfl ?_)
    refine RV.op (OV.step (gyes rfl) (Step.move rfl) rfl ?_)
    refine RV.op (OV.split (gyes rfl) (Step.lss rfl rfl) rfl (fun hl2 => ?_) (fun hl2 => ?_))
    · -- True
      refine RV.op (OV.step gno (Step.pick_t rfl rfl) rfl ?_)
      refine RV.nil ?_
      refine KV.then_n ?_
      refine KV.env [(0, _), (3, _), (4, _), (16, _)] ⟨rfl, rfl, rfl, rfl, trivial⟩ ?_
      refine CV.cond_t rfl ?_
      refine CV.skip ?_
      refine KV.then_n ?_
      refine KV.env [(0, _), (3, _), (4, _)] ⟨rfl, rfl, rfl, trivial⟩ ?_
      refine CV.seq ?_
      refine CV.block ?_
      -- region 5 law.go:35
      refine CV.any (Hp I w []) (by kernel_rfl) (fun _ h => h.drew) 26 rfl ?_
      refine AV.take 0 #[true, false, false, false, false, false, false, false, false, false, false, false, false, false, false, false, false, false, false, false, false, false, false, false, false, false] rfl (by kernel_rfl) (by kernel_rfl) (by kernel_rfl) (fun _ _ _ h => h) gno (Step.move rfl) rfl (fun _ h => h.sel [] rfl) (by kernel_rfl) ?_
      refine AV.take 1 #[true, true, false, false, false, false, false, false, false, false, false, false, false, false, false, false, false, false, false, false, false, false, false, false, false, false] rfl (by kernel_rfl) (by kernel_rfl) (by kernel_rfl) (fun _ _ _ h => h) gno (Step.move rfl) rfl (fun _ h => h.sel [] rfl) (by kernel_rfl) ?_
      refine AV.take 2 #[true, true, true, false, false, false, false, false, false, false, false, false, false, false, false, false, false, false, false, false, false, false, false, false, false, false] rfl (by kernel_rfl) (by kernel_rfl) (by kernel_rfl) (fun _ _ _ h => h) gno (Step.move rfl) rfl (fun _ h => h.sel [] rfl) (by kernel_rfl) ?_
      refine AV.take 3 #[true, true, true, true, false, false, false, false, false, false, false, false, false, false, false, false, false, false, false, false, false, false, false, false, false, false] rfl (by kernel_rfl) (by kernel_rfl) (by kernel_rfl) (fun _ _ _ h => h) gno (Step.idx Try.underlying22 I35 (fun w h => h.rs hr (fun _ => hI _)) rfl rfl (by first | rfl | (rw [sm1_length]) | omega) _ rfl (by first | omega | (rw [sm1_length]; omega))) rfl (fun _ h => h.sel [] rfl) (by kernel_rfl) ?_
      refine AV.take 4 #[true, true, true, true, true, false, false, false, false, false, false, false, false, false, false, false, false, false, false, false, false, false, false, false, false, false] rfl (by kernel_rfl) (by kernel_rfl) (by kernel_rfl) (fun _ _ _ h => h) gno (Step.fieldAddr rfl (F35_0 _ _)) rfl (fun _ h => h.sel [] rfl) (by kernel_rfl) ?_
      refine AV.take 5 #[true, true, true, true, true, true, false, false, false, false, false, false, false, false, false, false, false, false, false, false, false, false, false, false, false, false] rfl (by kernel_rfl) (by kernel_rfl) (by kernel_rfl) (fun _ _ _ h => h) gno (Step.load Try.underlying3 rfl rfl (fun w h => (h.rs hr (fun _ => hI _)).cell0 (by omega) rfl)) rfl (fun _ h => h.sel [] rfl) (by kernel_rfl) ?_
      refine AV.take 6 #[true, true, true, true, true, true, true, false, false, false, false, false, false, false, false, false, false, false, false, false, false, false, false, false, false, false] rfl (by kernel_rfl) (by kernel_rfl) (by kernel_rfl) (fun _ _ _ h => h) gno (Step.move rfl) rfl (fun _ h => h.sel [] rfl) (by kernel_rfl) ?_
      refine AV.take 7 #[true, true, true, true, true, true, true, true, false, false, false, false, false, false, false, false, false, false, false, false, false, false, false, false, false, false] rfl (by kernel_rfl) (by kernel_rfl) (by kernel_rfl) (fun _ _ _ h => h) gno (Step.add rfl rfl (wI64 (by omega) (by omega))) rfl (fun _ h => h.sel [] rfl) (by kernel_rfl) ?_
      refine AV.take 10 #[true, true, true, true, true, true, true, true, false, false, true, false, false, false, false, false, false, false, false, false, false, false, false, false, false, false] rfl (by kernel_rfl) (by kernel_rfl) (by kernel_rfl) (fun _ _ _ h => h) gno (Step.move rfl) rfl (fun _ h => h.sel [] rfl) (by kernel_rfl) ?_
      refine AV.take 11 #[true, true, true, true, true, true, true, true, false, false, true, true, false, false, false, false, false, false, false, false, false, false, false, false, false, false] rfl (by kernel_rfl) (by kernel_rfl) (by kernel_rfl) (fun _ _ _ h => h) gno (Step.move rfl) rfl (fun _ h => h.sel [] rfl) (by kernel_rfl) ?_
      refine AV.take 12 #[true, true, true, true, true, true, true, true, false, false, true, true, true, false, false, false, false, false, false, false, false, false, false, false, false, false] rfl (by kernel_rfl) (by kernel_rfl) (by kernel_rfl) (fun _ _ _ h => h) gno (Step.idx Try.underlying22 I35 (fun w h => h.rs hr (fun _ => hI _)) rfl rfl (by first | rfl | (rw [sm1_length]) | omega) _ rfl (by first | omega | (rw [sm1_length]; omega))) rfl (fun _ h => h.sel [] rfl) (by kernel_rfl) ?_
      refine AV.take 13 #[true, true, true, true, true, true, true, true, false, false, true, true, true, true, false, false, false, false, false, false, false, false, false, false, false, false] rfl (by kernel_rfl) (by kernel_rfl) (by kernel_rfl) (fun _ _ _ h => h) gno (Step.fieldAddr rfl (F35_1 _ _)) rfl (fun _ h => h.sel [] rfl) (by kernel_rfl) ?_
      refine AV.take 14 #[true, true, true, true, true, true, true, true, false, false, true, true, true, true, true, false, false, false, false, false, false, false, false, false, false, false] rfl (by kernel_rfl) (by kernel_rfl) (by kernel_rfl) (fun _ _ _ h => h) gno (Step.load Try.underlying33 rfl rfl (fun w h => (h.rs hr (fun _ => hI _)).cell (by omega) rfl)) rfl (fun _ h => h.sel [] rfl) (by kernel_rfl) ?_
      refine AV.take 15 #[true, true, true, true, true, true, true, true, false, false, true, true, true, true, true, true, false, false, false, false, false, false, false, false, false, false] rfl (by kernel_rfl) (by kernel_rfl) (by kernel_rfl) (fun _ _ _ h => h) gno (Step.rem rfl rfl (by omega) (rfl)) rfl (fun _ h => h.sel [] rfl) (by kernel_rfl) ?_
      refine AV.take 16 #[true, true, true, true, true, true, true, true, false, false, true, true, true, true, true, true, true, false, false, false, false, false, false, false, false, false] rfl (by kernel_rfl) (by kernel_rfl) (by kernel_rfl) (fun _ _ _ h => h) gno (Step.move rfl) rfl (fun _ h => h.sel [] rfl) (by kernel_rfl) ?_
      refine AV.take 17 #[true, true, true, true, true, true, true, true, false, false, true, true, true, true, true, true, true, true, false, false, false, false, false, false, false, false] rfl (by kernel_rfl) (by kernel_rfl) (by kernel_rfl) (fun _ _ _ h => h) gno (Step.move rfl) rfl (fun _ h => h.sel [] rfl) (by kernel_rfl) ?_
      refine AV.take 18 #[true, true, true, true, true, true, true, true, false, false, true, true, true, true, true, true, true, true, true, false, false, false, false, false, false, false] rfl (by kernel_rfl) (by kernel_rfl) (by kernel_rfl) (fun _ _ _ h => h) gno (Step.idx Try.underlying22 I35 (fun w h => h.rs hr (fun _ => hI _)) rfl rfl (by first | rfl | (rw [sm1_length]) | omega) _ rfl (by first | omega | (rw [sm1_length]; omega))) rfl (fun _ h => h.sel [] rfl) (by kernel_rfl) ?_
      refine AV.take 19 #[true, true, true, true, true, true, true, true, false, false, true, true, true, true, true, true, true, true, true, true, false, false, false, false, false, false] rfl (by kernel_rfl) (by kernel_rfl) (by kernel_rfl) (fun _ _ _ h => h) gno (Step.fieldAddr rfl (F35_2 _ _)) rfl (fun _ h => h.sel [] rfl) (by kernel_rfl) ?_
      refine AV.take 20 #[true, true, true, true, true, true, true, true, false, false, true, true, true, true, true, true, true, true, true, true, true, false, false, false, false, false] rfl (by kernel_rfl) (by kernel_rfl) (by kernel_rfl) (fun _ _ _ h => h) gno (Step.load Try.underlying33 rfl rfl (fun w h => (h.rs hr (fun _ => hI _)).cell (by omega) rfl)) rfl (fun _ h => h.sel [] rfl) (by kernel_rfl) ?_
      refine AV.take 21 #[true, true, true, true, true, true, true, true, false, false, true, true, true, true, true, true, true, true, true, true, true, true, false, false, false, false] rfl (by kernel_rfl) (by kernel_rfl) (by kernel_rfl) (fun _ _ _ h => h) gno (Step.rem rfl rfl (by omega) (rfl)) rfl (fun _ h => h.sel [] rfl) (by kernel_rfl) ?_
      refine AV.all [8] (by kernel_rfl) (by decide) ?_
      refine ⟨⟨_, rfl, ?_⟩, trivial⟩
      · -- 8 comes up
        refine OV.call [] Try.func16 B16 N16 rfl rfl (fun w h => (mod_fn _ (i + 1) (by omega) (by omega)).fn w) (fun _ hb => hb.elim) gno rfl (fun v L' hp => ?_)
        obtain ⟨rfl, rfl⟩ := hp
        simp only [List.append_nil]
        refine AV.next #[true, true, true, true, true, true, true, true, true, false, true, true, true, true, true, true, true, true, true, true, true, true, false, false, false, false] (by kernel_rfl) (fun _ h => h.sel [] rfl) ?_
        refine AV.take 9 #[true, true, true, true, true, true, true, true, true, true, true, true, true, true, true, true, true, true, true, true, true, true, false, false, false, false] rfl (by kernel_rfl) (by kernel_rfl) (by kernel_rfl) (fun _ _ _ h => h) gno (Step.sub rfl rfl (wI64 (by have := modM_lt (raw.getD i railK.d).supply (n := i + 1) (by omega); omega) (by have := modM_lt (raw.getD i railK.d).supply (n := i + 1) (by omega); omega))) rfl (fun _ h => h.sel [] rfl) (by kernel_rfl) ?_
        refine AV.take 22 #[true, true, true, true, true, true, true, true, true, true, true, true, true, true, true, true, true, true, true, true, true, true, true, false, false, false] rfl (by kernel_rfl) (by kernel_rfl) (by kernel_rfl) (fun _ _ _ h => h) gno (Step.build rfl (Bd35_0_1_2 _ _ _)) rfl (fun _ h => h.sel [] rfl) (by kernel_rfl) ?_
        refine AV.all [23] (by kernel_rfl) (by decide) ?_
        refine ⟨⟨_, rfl, ?_⟩, trivial⟩
        · -- 23 comes up
          refine OV.buildSlice (K := railK) ([⟨_, _, _⟩]) rfl (Bs22_1_0 _ _ _) rfl rfl (by omega) gno rfl (fun b5_23 => ?_)
          refine AV.next #[true, true, true, true, true, true, true, true, true, true, true, true, true, true, true, true, true, true, true, true, true, true, true, true, false, false] (by kernel_rfl) (fun _ h => h.sel [] rfl) ?_
          refine AV.all [24] (by kernel_rfl) (by decide) ?_
          refine ⟨⟨_, rfl, ?_⟩, trivial⟩
          · -- 24 comes up
            refine OV.append 0 Try.underlying22 I35 rfl rfl rfl rfl rfl rfl (fun w h => h.os 1 rfl) (by simp only [List.length_cons, List.length_nil]; omega) (by simp only [List.length_cons, List.length_nil]; omega) gno rfl (fun b5_24a b5_24c => ?_)
            refine AV.next #[true, true, true, true, true, true, true, true, true, true, true, true, true, true, true, true, true, true, true, true, true, true, true, true, true, false] (by kernel_rfl) (fun _ h => h.sel [] rfl) ?_
            refine AV.take 25 #[true, true, true, true, true, true, true, true, true, true, true, true, true, true, true, true, true, true, true, true, true, true, true, true, true, true] rfl (by kernel_rfl) (by kernel_rfl) (by kernel_rfl) (fun _ _ _ h => h) gno (Step.assign rfl) rfl (fun _ h => h.sel [] rfl) (by kernel_rfl) ?_
            refine AV.done (by kernel_rfl) ?_
            refine KV.block_n ?_
            refine KV.then_n ?_
            refine KV.env [(0, _), (3, _), (4, _)] ⟨rfl, rfl, rfl, trivial⟩ ?_
            -- region 4 law.go:34
            refine CV.region ?_
            refine RV.op (OV.step gno (Step.move rfl) rfl ?_)
            (first | refine RV.op (OV.step gno (Step.add rfl rfl (wI64 (by omega) (by omega))) rfl ?_) | refine RV.op (OV.step gno (Step.add rfl rfl rfl) rfl ?_))
            refine RV.op (OV.step gno (Step.assign rfl) rfl ?_)
            refine RV.nil ?_
            refine KV.then_n ?_
            refine KV.env [(0, _), (3, _), (4, _)] ⟨rfl, rfl, rfl, trivial⟩ ?_
            refine KV.sel [0] [_] rfl ?_
            refine KV.loop3 (y := A1) (z := c1) (i + 1) b5_24a b5_24c ⟨by omega, by omega⟩ (by omega) ⟨rfl, rfl, rfl, trivial⟩ (fun _ h => h)
    · -- False
      have hi8 : i = min raw.length 8 := by omega
      refine RV.op (OV.step gno (Step.pick_t rfl rfl) rfl ?_)
      refine RV.nil ?_
      refine KV.then_n ?_
      refine KV.env [(0, _), (3, _), (4, _), (16, _)] ⟨rfl, rfl, rfl, rfl, trivial⟩ ?_
      refine CV.cond_f rfl ?_
      refine CV.exit ?_
      refine KV.then_exit ?_
      refine KV.then_exit ?_
      refine KV.block_hit ?_
      refine KV.then_n ?_
      refine KV.env [(3, _)] ⟨rfl, trivial⟩ ?_
      refine CV.seq ?_
      refine CV.seq ?_
      -- region 6 law.go:37
      refine CV.region ?_
      refine RV.op (OV.step gno (Step.move rfl) rfl ?_)
      refine RV.op (OV.step gno (Step.lenSl Try.underlying22 rfl) rfl ?_)
      refine RV.op (OV.step gno (Step.rem rfl rfl (by omega) (Int.tmod_eq_emod_of_nonneg (by omega))) rfl ?_)
      refine RV.op (OV.split gno (Step.eql rfl rfl) rfl (fun hodd => ?_) (fun hodd => ?_))
      · -- True
        refine RV.nil ?_
        refine KV.then_n ?_
        refine KV.env [(3, _), (47, _)] ⟨rfl, rfl, trivial⟩ ?_
        refine CV.cond_t rfl ?_
        refine CV.seq ?_
        -- region 7 law.go:38
        refine CV.region ?_
        refine RV.op (OV.step gno (Step.move rfl) rfl ?_)
        refine RV.op (OV.step gno (Step.lenSl Try.underlying22 rfl) rfl ?_)
        refine RV.op (OV.step gno (Step.assign rfl) rfl ?_)
        rw [sm1_length]
        obtain ⟨n, hn8⟩ : ∃ n, n = i := ⟨_, rfl⟩
        subst hn8
        refine RV.nil ?_
        refine KV.then_n ?_
        refine KV.env [(3, _), (5, _)] ⟨rfl, rfl, trivial⟩ ?_
        refine CV.seq ?_
        -- region 8 law.go:39
        refine CV.region ?_
        refine RV.op (OV.step gno (Step.move rfl) rfl ?_)
        refine RV.op (OV.make (K := railK) (n) (n) (railK.d) Try.underlying22 I35 rfl rfl rfl rfl rfl (by omega) (by omega) (by omega) gno rfl (fun A2 => ?_))
        refine RV.op (OV.step gno (Step.assign rfl) rfl ?_)
        refine RV.nil ?_
        refine KV.then_n ?_
        refine KV.env [(3, _), (5, _), (6, _)] ⟨rfl, rfl, rfl, trivial⟩ ?_
        refine CV.seq ?_
        refine CV.seq ?_
        -- region 9 law.go:40
        refine CV.region ?_
        refine RV.op (OV.step gno (Step.assign rfl) rfl ?_)
        refine RV.nil ?_
        refine KV.then_n ?_
        refine KV.env [(3, _), (5, _), (6, _), (7, _)] ⟨rfl, rfl, rfl, rfl, trivial⟩ ?_
        refine CV.block ?_
        -- loop L10; live [3, 5, 6, 7]
        refine KV.sel [0, 0] [_, _] rfl ?_
        refine CV.loop2 (fun j (z : List Rail) => j ≤ n ∧ z.length = n ∧ ∀ i, i < j → z.getD (n - 1 - i) railK.d = turn n ((sm1 raw n).getD i railK.d)) (fun j _ => n - j) (fun j _ => [(3, .slice A1 n c1), (5, .int .i64 n), (6, .slice A2 n n), (7, .int .i64 j)]) (fun _ z => Hp I w [OS 35 railK A1 c1 (sm1 raw n), OS 35 railK A2 n z]) 0 (List.replicate n railK.d) ⟨Nat.zero_le _, by simp, fun _ h => by omega⟩ ⟨rfl, rfl, rfl, rfl, trivial⟩ (fun _ h => h) ?_
        intro j z hj
        refine CV.seq ?_
        refine CV.seq ?_
        -- region 10 law.go:40
        refine CV.region ?_
        refine RV.op (OV.step gno (Step.move rfl) rfl ?_)
        refine RV.op (OV.step gno (Step.move rfl) rfl ?_)
        refine RV.op (OV.split gno (Step.lss rfl rfl) rfl (fun hl3 => ?_) (fun hl3 => ?_))
        · -- True
          refine RV.nil ?_
          refine KV.then_n ?_
          refine KV.env [(3, _), (5, _), (6, _), (7, _), (54, _)] ⟨rfl, rfl, rfl, rfl, rfl, trivial⟩ ?_
          refine CV.cond_t rfl ?_
          refine CV.skip ?_
          refine KV.then_n ?_
          refine KV.env [(3, _), (5, _), (6, _), (7, _)] ⟨rfl, rfl, rfl, rfl, trivial⟩ ?_
          refine CV.seq ?_
          refine CV.block ?_
          refine CV.seq ?_
          -- region 12 law.go:41
          refine CV.region ?_
          refine RV.op (OV.step gno (Step.move rfl) rfl ?_)
          refine RV.op (OV.step gno (Step.move rfl) rfl ?_)
          refine RV.op (OV.step gno (Step.idx Try.underlying22 I35 (fun w h => h.os 0 rfl) rfl rfl (by first | rfl | (rw [sm1_length]) | omega) _ rfl (by first | omega | (rw [sm1_length]; omega))) rfl ?_)
          refine RV.op (OV.step gno (Step.loadN _ Try.underlying35 rfl I35 rfl rfl (fun w h => (h.os 0 rfl).cells (by rw [sm1_length]; omega))) rfl ?_)
          refine RV.op (OV.alloc #[.int .i64 0, .int .u64 0, .int .u64 0] I35 rfl gno rfl (fun b12_4 => ?_))
          refine RV.op (OV.store 2 [_, _, _] #[_, _, _] I35 rfl rfl rfl rfl rfl (Nat.le_of_ble_eq_true rfl) (by simp [Value.oneCell']) rfl gno ?_)
          refine RV.nil ?_
          refine KV.then_n ?_
          refine KV.env [(3, _), (5, _), (6, _), (7, _), (8, _)] ⟨rfl, rfl, rfl, rfl, rfl, trivial⟩ ?_
          refine CV.seq ?_
          refine CV.seq ?_
          -- region 13 law.go:42
          have hsb := sm1_sup raw (k := n) (i := j) (by omega)
          refine CV.region ?_
          refine RV.op (OV.step gno (Step.fieldAddr rfl (F35_0 _ _)) rfl ?_)
          refine RV.op (OV.step gno (Step.load Try.underlying3 rfl rfl (fun w h => h.cell 2 rfl rfl)) rfl ?_)
          refine RV.op (OV.split gno (Step.geq rfl rfl) rfl (fun hsp => ?_) (fun hsp => ?_))
          · -- True
            refine RV.nil ?_
            refine KV.then_n ?_
            refine KV.env [(3, _), (5, _), (6, _), (7, _), (8, _), (63, _)] ⟨rfl, rfl, rfl, rfl, rfl, rfl, trivial⟩ ?_
            refine CV.cond_t rfl ?_
            -- region 14 law.go:43
            refine CV.region ?_
            refine RV.op (OV.step gno (Step.move rfl) rfl ?_)
            (first | refine RV.op (OV.step gno (Step.sub rfl rfl (wI64 (by omega) (by omega))) rfl ?_) | refine RV.op (OV.step gno (Step.sub rfl rfl rfl) rfl ?_))
            refine RV.op (OV.step gno (Step.fieldAddr rfl (F35_0 _ _)) rfl ?_)
            refine RV.op (OV.step gno (Step.load Try.underlying3 rfl rfl (fun w h => h.cell 2 rfl rfl)) rfl ?_)
            (first | refine RV.op (OV.step gno (Step.sub rfl rfl (wI64 (by omega) (by omega))) rfl ?_) | refine RV.op (OV.step gno (Step.sub rfl rfl rfl) rfl ?_))
            refine RV.op (OV.step gno (Step.fieldAddr rfl (F35_0 _ _)) rfl ?_)
            refine RV.op (OV.store 2 [_] #[_, _, _] I3 rfl rfl rfl rfl rfl (Nat.le_of_ble_eq_true rfl) (by simp [Value.oneCell']) rfl gno ?_)
            refine RV.nil ?_
            refine KV.then_n ?_
            refine KV.env [(3, _), (5, _), (6, _), (7, _), (8, _)] ⟨rfl, rfl, rfl, rfl, rfl, trivial⟩ ?_
            -- region 15 law.go:45
            refine CV.region ?_
            refine RV.op (OV.step gno (Step.move rfl) rfl ?_)
            refine RV.op (OV.step gno (Step.move rfl) rfl ?_)
            (first | refine RV.op (OV.step gno (Step.sub rfl rfl (wI64 (by omega) (by omega))) rfl ?_) | refine RV.op (OV.step gno (Step.sub rfl rfl rfl) rfl ?_))
            refine RV.op (OV.step gno (Step.move rfl) rfl ?_)
            (first | refine RV.op (OV.step gno (Step.sub rfl rfl (wI64 (by omega) (by omega))) rfl ?_) | refine RV.op (OV.step gno (Step.sub rfl rfl rfl) rfl ?_))
            refine RV.op (OV.step gno (Step.loadN _ Try.underlying35 rfl I35 rfl rfl (fun w h => h.cells 2 rfl)) rfl ?_)
            refine RV.op (OV.step gno (Step.idx Try.underlying22 I35 (fun w h => h.os 1 rfl) rfl rfl (by first | rfl | (rw [sm1_length]) | omega) _ (show ((n : Int) - 1 - j) = ((n - 1 - j : Nat) : Int) by omega) (by first | omega | (rw [sm1_length]; omega))) rfl ?_)
            refine RV.op (OV.storeE 1 (n - 1 - j) (⟨_, _, _⟩) (j := 0) [_, _, _] I35 rfl rfl rfl rfl rfl rfl (by omega) rfl (Nat.le_of_ble_eq_true rfl) gno ?_)
            refine RV.nil ?_
            refine KV.block_n ?_
            refine KV.then_n ?_
            refine KV.env [(3, _), (5, _), (6, _), (7, _)] ⟨rfl, rfl, rfl, rfl, trivial⟩ ?_
            -- region 11 law.go:40
            refine CV.region ?_
            refine RV.op (OV.step gno (Step.move rfl) rfl ?_)
            (first | refine RV.op (OV.step gno (Step.add rfl rfl (wI64 (by omega) (by omega))) rfl ?_) | refine RV.op (OV.step gno (Step.add rfl rfl rfl) rfl ?_))
            refine RV.op (OV.step gno (Step.assign rfl) rfl ?_)
            refine RV.nil ?_
            refine KV.then_n ?_
            refine KV.env [(3, _), (5, _), (6, _), (7, _)] ⟨rfl, rfl, rfl, rfl, trivial⟩ ?_
            refine KV.sel [0, 0] [_, _] rfl ?_
            refine KV.loop2 (y := z) (j + 1) (z.set (n - 1 - j) (turn n ((sm1 raw n).getD j railK.d))) ⟨by omega, by rw [List.length_set]; exact hj.2.1, fun i hi => by by_cases e : i = j; (subst e; exact getD_set_self _ _ _ _ (by omega)); rw [getD_set_other _ _ _ (by omega)]; exact hj.2.2 i (by omega)⟩ (by omega) ⟨rfl, rfl, rfl, rfl, trivial⟩ (fun _ h => by first | (rw [turn, if_pos hsp]; exact h) | (rw [turn, if_neg hsp]; exact h))
          · -- False
            refine RV.nil ?_
            refine KV.then_n ?_
            refine KV.env [(3, _), (5, _), (6, _), (7, _), (8, _), (63, _)] ⟨rfl, rfl, rfl, rfl, rfl, rfl, trivial⟩ ?_
            refine CV.cond_f rfl ?_
            refine CV.skip ?_
            refine KV.then_n ?_
            refine KV.env [(3, _), (5, _), (6, _), (7, _), (8, _)] ⟨rfl, rfl, rfl, rfl, rfl, trivial⟩ ?_
            -- region 15 law.go:45
            refine CV.region ?_
            refine RV.op (OV.step gno (Step.move rfl) rfl ?_)
            refine RV.op (OV.step gno (Step.move rfl) rfl ?_)
            (first | refine RV.op (OV.step gno (Step.sub rfl rfl (wI64 (by omega) (by omega))) rfl ?_) | refine RV.op (OV.step gno (Step.sub rfl rfl rfl) rfl ?_))
            refine RV.op (OV.step gno (Step.move rfl) rfl ?_)
            (first | refine RV.op (OV.step gno (Step.sub rfl rfl (wI64 (by omega) (by omega))) rfl ?_) | refine RV.op (OV.step gno (Step.sub rfl rfl rfl) rfl ?_))
            refine RV.op (OV.step gno (Step.loadN _ Try.underlying35 rfl I35 rfl rfl (fun w h => h.cells 2 rfl)) rfl ?_)
            refine RV.op (OV.step gno (Step.idx Try.underlying22 I35 (fun w h => h.os 1 rfl) rfl rfl (by first | rfl | (rw [sm1_length]) | omega) _ (show ((n : Int) - 1 - j) = ((n - 1 - j : Nat) : Int) by omega) (by first | omega | (rw [sm1_length]; omega))) rfl ?_)
            refine RV.op (OV.storeE 1 (n - 1 - j) (⟨_, _, _⟩) (j := 0) [_, _, _] I35 rfl rfl rfl rfl rfl rfl (by omega) rfl (Nat.le_of_ble_eq_true rfl) gno ?_)
            refine RV.nil ?_
            refine KV.block_n ?_
            refine KV.then_n ?_
            refine KV.env [(3, _), (5, _), (6, _), (7, _)] ⟨rfl, rfl, rfl, rfl, trivial⟩ ?_
            -- region 11 law.go:40
            refine CV.region ?_
            refine RV.op (OV.step gno (Step.move rfl) rfl ?_)
            (first | refine RV.op (OV.step gno (Step.add rfl rfl (wI64 (by omega) (by omega))) rfl ?_) | refine RV.op (OV.step gno (Step.add rfl rfl rfl) rfl ?_))
            refine RV.op (OV.step gno (Step.assign rfl) rfl ?_)
            refine RV.nil ?_
            refine KV.then_n ?_
            refine KV.env [(3, _), (5, _), (6, _), (7, _)] ⟨rfl, rfl, rfl, rfl, trivial⟩ ?_
            refine KV.sel [0, 0] [_, _] rfl ?_
            refine KV.loop2 (y := z) (j + 1) (z.set (n - 1 - j) (turn n ((sm1 raw n).getD j railK.d))) ⟨by omega, by rw [List.length_set]; exact hj.2.1, fun i hi => by by_cases e : i = j; (subst e; exact getD_set_self _ _ _ _ (by omega)); rw [getD_set_other _ _ _ (by omega)]; exact hj.2.2 i (by omega)⟩ (by omega) ⟨rfl, rfl, rfl, rfl, trivial⟩ (fun _ h => by first | (rw [turn, if_pos hsp]; exact h) | (rw [turn, if_neg hsp]; exact h))
        · -- False
          obtain rfl : j = n := by omega
          refine RV.nil ?_
          refine KV.then_n ?_
          refine KV.env [(3, _), (5, _), (6, _), (7, _), (54, _)] ⟨rfl, rfl, rfl, rfl, rfl, trivial⟩ ?_
          refine CV.cond_f rfl ?_
          refine CV.exit ?_
          refine KV.then_exit ?_
          refine KV.then_exit ?_
          refine KV.block_hit ?_
          refine KV.then_n ?_
          refine KV.env [(6, _)] ⟨rfl, trivial⟩ ?_
          refine CV.seq ?_
          -- region 16 law.go:47
          refine CV.region ?_
          refine RV.op (OV.step gno (Step.move rfl) rfl ?_)
          refine RV.op (OV.step gno (Step.assign rfl) rfl ?_)
          refine RV.nil ?_
          refine KV.then_n ?_
          refine KV.env [(2, _)] ⟨rfl, trivial⟩ ?_
          refine CV.ret ?_
          refine KV.then_ret ?_
          -- return at r16
          refine KV.sel [1] [_] rfl ?_
          obtain rfl := back_ext hj.2.1 hj.2.2
          have hsm : someM raw = (List.range j).map fun p => turn j ((sm1 raw j).getD (j - 1 - p) railK.d) := by simp only [someM]; rw [← hi8, if_pos (by omega)]
          rw [hsm]
          simp only [List.length_map, List.length_range]
          exact KV.ret1 rfl rfl _ (fun _ h => h) ⟨_, _, rfl, rfl⟩
      · -- False
        refine RV.nil ?_
        refine KV.then_n ?_
        refine KV.env [(3, _), (47, _)] ⟨rfl, rfl, trivial⟩ ?_
        refine CV.cond_f rfl ?_
        refine CV.skip ?_
        refine KV.then_n ?_
        refine KV.env [(3, _)] ⟨rfl, trivial⟩ ?_
        refine CV.seq ?_
        -- region 17 law.go:49
        refine CV.region ?_
        refine RV.op (OV.step gno (Step.move rfl) rfl ?_)
        refine RV.op (OV.step gno (Step.assign rfl) rfl ?_)
        refine RV.nil ?_
        refine KV.then_n ?_
        refine KV.env [(2, _)] ⟨rfl, trivial⟩ ?_
        refine CV.ret ?_
        -- return at r17
        refine KV.sel [0] [_] rfl ?_
        have hsm : someM raw = sm1 raw i := by simp only [someM]; rw [← hi8, if_neg (by omega)]
        rw [hsm]
        exact KV.ret1 rfl rfl _ (fun _ h => h) ⟨_, _, rfl, rfl⟩
  · -- False
    have hi8 : i = min raw.length 8 := by omega
    refine RV.op (OV.step gno (Step.move rfl) rfl ?_)
    refine RV.op (OV.skip rfl rfl ?_)
    refine RV.op (OV.skip rfl rfl ?_)
    refine RV.op (OV.step gno (Step.pick_f rfl rfl) rfl ?_)
    refine RV.nil ?_
    refine KV.then_n ?_
    refine KV.env [(0, _), (3, _), (4, _), (16, _)] ⟨rfl, rfl, rfl, rfl, trivial⟩ ?_
    refine CV.cond_f rfl ?_
    refine CV.exit ?_
    refine KV.then_exit ?_
    refine KV.then_exit ?_
    refine KV.block_hit ?_
    refine KV.then_n ?_
    refine KV.env [(3, _)] ⟨rfl, trivial⟩ ?_
    refine CV.seq ?_
    refine CV.seq ?_
    -- region 6 law.go:37
    refine CV.region ?_
    refine RV.op (OV.step gno (Step.move rfl) rfl ?_)
    refine RV.op (OV.step gno (Step.lenSl Try.underlying22 rfl) rfl ?_)
    refine RV.op (OV.step gno (Step.rem rfl rfl (by omega) (Int.tmod_eq_emod_of_nonneg (by omega))) rfl ?_)
    refine RV.op (OV.split gno (Step.eql rfl rfl) rfl (fun hodd => ?_) (fun hodd => ?_))
    · -- True
      refine RV.nil ?_
      refine KV.then_n ?_
      refine KV.env [(3, _), (47, _)] ⟨rfl, rfl, trivial⟩ ?_
      refine CV.cond_t rfl ?_
      refine CV.seq ?_
      -- region 7 law.go:38
      refine CV.region ?_
      refine RV.op (OV.step gno (Step.move rfl) rfl ?_)
      refine RV.op (OV.step gno (Step.lenSl Try.underlying22 rfl) rfl ?_)
      refine RV.op (OV.step gno (Step.assign rfl) rfl ?_)
      rw [sm1_length]
      obtain ⟨n, hn8⟩ : ∃ n, n = i := ⟨_, rfl⟩
      subst hn8
      refine RV.nil ?_
      refine KV.then_n ?_
      refine KV.env [(3, _), (5, _)] ⟨rfl, rfl, trivial⟩ ?_
      refine CV.seq ?_
      -- region 8 law.go:39
      refine CV.region ?_
      refine RV.op (OV.step gno (Step.move rfl) rfl ?_)
      refine RV.op (OV.make (K := railK) (n) (n) (railK.d) Try.underlying22 I35 rfl rfl rfl rfl rfl (by omega) (by omega) (by omega) gno rfl (fun A2 => ?_))
      refine RV.op (OV.step gno (Step.assign rfl) rfl ?_)
      refine RV.nil ?_
      refine KV.then_n ?_
      refine KV.env [(3, _), (5, _), (6, _)] ⟨rfl, rfl, rfl, trivial⟩ ?_
      refine CV.seq ?_
      refine CV.seq ?_
      -- region 9 law.go:40
      refine CV.region ?_
      refine RV.op (OV.step gno (Step.assign rfl) rfl ?_)
      refine RV.nil ?_
      refine KV.then_n ?_
      refine KV.env [(3, _), (5, _), (6, _), (7, _)] ⟨rfl, rfl, rfl, rfl, trivial⟩ ?_
      refine CV.block ?_
      -- loop L10; live [3, 5, 6, 7]
      refine KV.sel [0, 0] [_, _] rfl ?_
      refine CV.loop2 (fun j (z : List Rail) => j ≤ n ∧ z.length = n ∧ ∀ i, i < j → z.getD (n - 1 - i) railK.d = turn n ((sm1 raw n).getD i railK.d)) (fun j _ => n - j) (fun j _ => [(3, .slice A1 n c1), (5, .int .i64 n), (6, .slice A2 n n), (7, .int .i64 j)]) (fun _ z => Hp I w [OS 35 railK A1 c1 (sm1 raw n), OS 35 railK A2 n z]) 0 (List.replicate n railK.d) ⟨Nat.zero_le _, by simp, fun _ h => by omega⟩ ⟨rfl, rfl, rfl, rfl, trivial⟩ (fun _ h => h) ?_
      intro j z hj
      refine CV.seq ?_
      refine CV.seq ?_
      -- region 10 law.go:40
      refine CV.region ?_
      refine RV.op (OV.step gno (Step.move rfl) rfl ?_)
      refine RV.op (OV.step gno (Step.move rfl) rfl ?_)
      refine RV.op (OV.split gno (Step.lss rfl rfl) rfl (fun hl3 => ?_) (fun hl3 => ?_))
      · -- True
        refine RV.nil ?_
        refine KV.then_n ?_
        refine KV.env [(3, _), (5, _), (6, _), (7, _), (54, _)] ⟨rfl, rfl, rfl, rfl, rfl, trivial⟩ ?_
        refine CV.cond_t rfl ?_
        refine CV.skip ?_
        refine KV.then_n ?_
        refine KV.env [(3, _), (5, _), (6, _), (7, _)] ⟨rfl, rfl, rfl, rfl, trivial⟩ ?_
        refine CV.seq ?_
        refine CV.block ?_
        refine CV.seq ?_
        -- region 12 law.go:41
        refine CV.region ?_
        refine RV.op (OV.step gno (Step.move rfl) rfl ?_)
        refine RV.op (OV.step gno (Step.move rfl) rfl ?_)
        refine RV.op (OV.step gno (Step.idx Try.underlying22 I35 (fun w h => h.os 0 rfl) rfl rfl (by first | rfl | (rw [sm1_length]) | omega) _ rfl (by first | omega | (rw [sm1_length]; omega))) rfl ?_)
        refine RV.op (OV.step gno (Step.loadN _ Try.underlying35 rfl I35 rfl rfl (fun w h => (h.os 0 rfl).cells (by rw [sm1_length]; omega))) rfl ?_)
        refine RV.op (OV.alloc #[.int .i64 0, .int .u64 0, .int .u64 0] I35 rfl gno rfl (fun b12_4 => ?_))
        refine RV.op (OV.store 2 [_, _, _] #[_, _, _] I35 rfl rfl rfl rfl rfl (Nat.le_of_ble_eq_true rfl) (by simp [Value.oneCell']) rfl gno ?_)
        refine RV.nil ?_
        refine KV.then_n ?_
        refine KV.env [(3, _), (5, _), (6, _), (7, _), (8, _)] ⟨rfl, rfl, rfl, rfl, rfl, trivial⟩ ?_
        refine CV.seq ?_
        refine CV.seq ?_
        -- region 13 law.go:42
        have hsb := sm1_sup raw (k := n) (i := j) (by omega)
        refine CV.region ?_
        refine RV.op (OV.step gno (Step.fieldAddr rfl (F35_0 _ _)) rfl ?_)
        refine RV.op (OV.step gno (Step.load Try.underlying3 rfl rfl (fun w h => h.cell 2 rfl rfl)) rfl ?_)
        refine RV.op (OV.split gno (Step.geq rfl rfl) rfl (fun hsp => ?_) (fun hsp => ?_))
        · -- True
          refine RV.nil ?_
          refine KV.then_n ?_
          refine KV.env [(3, _), (5, _), (6, _), (7, _), (8, _), (63, _)] ⟨rfl, rfl, rfl, rfl, rfl, rfl, trivial⟩ ?_
          refine CV.cond_t rfl ?_
          -- region 14 law.go:43
          refine CV.region ?_
          refine RV.op (OV.step gno (Step.move rfl) rfl ?_)
          (first | refine RV.op (OV.step gno (Step.sub rfl rfl (wI64 (by omega) (by omega))) rfl ?_) | refine RV.op (OV.step gno (Step.sub rfl rfl rfl) rfl ?_))
          refine RV.op (OV.step gno (Step.fieldAddr rfl (F35_0 _ _)) rfl ?_)
          refine RV.op (OV.step gno (Step.load Try.underlying3 rfl rfl (fun w h => h.cell 2 rfl rfl)) rfl ?_)
          (first | refine RV.op (OV.step gno (Step.sub rfl rfl (wI64 (by omega) (by omega))) rfl ?_) | refine RV.op (OV.step gno (Step.sub rfl rfl rfl) rfl ?_))
          refine RV.op (OV.step gno (Step.fieldAddr rfl (F35_0 _ _)) rfl ?_)
          refine RV.op (OV.store 2 [_] #[_, _, _] I3 rfl rfl rfl rfl rfl (Nat.le_of_ble_eq_true rfl) (by simp [Value.oneCell']) rfl gno ?_)
          refine RV.nil ?_
          refine KV.then_n ?_
          refine KV.env [(3, _), (5, _), (6, _), (7, _), (8, _)] ⟨rfl, rfl, rfl, rfl, rfl, trivial⟩ ?_
          -- region 15 law.go:45
          refine CV.region ?_
          refine RV.op (OV.step gno (Step.move rfl) rfl ?_)
          refine RV.op (OV.step gno (Step.move rfl) rfl ?_)
          (first | refine RV.op (OV.step gno (Step.sub rfl rfl (wI64 (by omega) (by omega))) rfl ?_) | refine RV.op (OV.step gno (Step.sub rfl rfl rfl) rfl ?_))
          refine RV.op (OV.step gno (Step.move rfl) rfl ?_)
          (first | refine RV.op (OV.step gno (Step.sub rfl rfl (wI64 (by omega) (by omega))) rfl ?_) | refine RV.op (OV.step gno (Step.sub rfl rfl rfl) rfl ?_))
          refine RV.op (OV.step gno (Step.loadN _ Try.underlying35 rfl I35 rfl rfl (fun w h => h.cells 2 rfl)) rfl ?_)
          refine RV.op (OV.step gno (Step.idx Try.underlying22 I35 (fun w h => h.os 1 rfl) rfl rfl (by first | rfl | (rw [sm1_length]) | omega) _ (show ((n : Int) - 1 - j) = ((n - 1 - j : Nat) : Int) by omega) (by first | omega | (rw [sm1_length]; omega))) rfl ?_)
          refine RV.op (OV.storeE 1 (n - 1 - j) (⟨_, _, _⟩) (j := 0) [_, _, _] I35 rfl rfl rfl rfl rfl rfl (by omega) rfl (Nat.le_of_ble_eq_true rfl) gno ?_)
          refine RV.nil ?_
          refine KV.block_n ?_
          refine KV.then_n ?_
          refine KV.env [(3, _), (5, _), (6, _), (7, _)] ⟨rfl, rfl, rfl, rfl, trivial⟩ ?_
          -- region 11 law.go:40
          refine CV.region ?_
          refine RV.op (OV.step gno (Step.move rfl) rfl ?_)
          (first | refine RV.op (OV.step gno (Step.add rfl rfl (wI64 (by omega) (by omega))) rfl ?_) | refine RV.op (OV.step gno (Step.add rfl rfl rfl) rfl ?_))
          refine RV.op (OV.step gno (Step.assign rfl) rfl ?_)
          refine RV.nil ?_
          refine KV.then_n ?_
          refine KV.env [(3, _), (5, _), (6, _), (7, _)] ⟨rfl, rfl, rfl, rfl, trivial⟩ ?_
          refine KV.sel [0, 0] [_, _] rfl ?_
          refine KV.loop2 (y := z) (j + 1) (z.set (n - 1 - j) (turn n ((sm1 raw n).getD j railK.d))) ⟨by omega, by rw [List.length_set]; exact hj.2.1, fun i hi => by by_cases e : i = j; (subst e; exact getD_set_self _ _ _ _ (by omega)); rw [getD_set_other _ _ _ (by omega)]; exact hj.2.2 i (by omega)⟩ (by omega) ⟨rfl, rfl, rfl, rfl, trivial⟩ (fun _ h => by first | (rw [turn, if_pos hsp]; exact h) | (rw [turn, if_neg hsp]; exact h))
        · -- False
          refine RV.nil ?_
          refine KV.then_n ?_
          refine KV.env [(3, _), (5, _), (6, _), (7, _), (8, _), (63, _)] ⟨rfl, rfl, rfl, rfl, rfl, rfl, trivial⟩ ?_
          refine CV.cond_f rfl ?_
          refine CV.skip ?_
          refine KV.then_n ?_
          refine KV.env [(3, _), (5, _), (6, _), (7, _), (8, _)] ⟨rfl, rfl, rfl, rfl, rfl, trivial⟩ ?_
          -- region 15 law.go:45
          refine CV.region ?_
          refine RV.op (OV.step gno (Step.move rfl) rfl ?_)
          refine RV.op (OV.step gno (Step.move rfl) rfl ?_)
          (first | refine RV.op (OV.step gno (Step.sub rfl rfl (wI64 (by omega) (by omega))) rfl ?_) | refine RV.op (OV.step gno (Step.sub rfl rfl rfl) rfl ?_))
          refine RV.op (OV.step gno (Step.move rfl) rfl ?_)
          (first | refine RV.op (OV.step gno (Step.sub rfl rfl (wI64 (by omega) (by omega))) rfl ?_) | refine RV.op (OV.step gno (Step.sub rfl rfl rfl) rfl ?_))
          refine RV.op (OV.step gno (Step.loadN _ Try.underlying35 rfl I35 rfl rfl (fun w h => h.cells 2 rfl)) rfl ?_)
          refine RV.op (OV.step gno (Step.idx Try.underlying22 I35 (fun w h => h.os 1 rfl) rfl rfl (by first | rfl | (rw [sm1_length]) | omega) _ (show ((n : Int) - 1 - j) = ((n - 1 - j : Nat) : Int) by omega) (by first | omega | (rw [sm1_length]; omega))) rfl ?_)
          refine RV.op (OV.storeE 1 (n - 1 - j) (⟨_, _, _⟩) (j := 0) [_, _, _] I35 rfl rfl rfl rfl rfl rfl (by omega) rfl (Nat.le_of_ble_eq_true rfl) gno ?_)
          refine RV.nil ?_
          refine KV.block_n ?_
          refine KV.then_n ?_
          refine KV.env [(3, _), (5, _), (6, _), (7, _)] ⟨rfl, rfl, rfl, rfl, trivial⟩ ?_
          -- region 11 law.go:40
          refine CV.region ?_
          refine RV.op (OV.step gno (Step.move rfl) rfl ?_)
          (first | refine RV.op (OV.step gno (Step.add rfl rfl (wI64 (by omega) (by omega))) rfl ?_) | refine RV.op (OV.step gno (Step.add rfl rfl rfl) rfl ?_))
          refine RV.op (OV.step gno (Step.assign rfl) rfl ?_)
          refine RV.nil ?_
          refine KV.then_n ?_
          refine KV.env [(3, _), (5, _), (6, _), (7, _)] ⟨rfl, rfl, rfl, rfl, trivial⟩ ?_
          refine KV.sel [0, 0] [_, _] rfl ?_
          refine KV.loop2 (y := z) (j + 1) (z.set (n - 1 - j) (turn n ((sm1 raw n).getD j railK.d))) ⟨by omega, by rw [List.length_set]; exact hj.2.1, fun i hi => by by_cases e : i = j; (subst e; exact getD_set_self _ _ _ _ (by omega)); rw [getD_set_other _ _ _ (by omega)]; exact hj.2.2 i (by omega)⟩ (by omega) ⟨rfl, rfl, rfl, rfl, trivial⟩ (fun _ h => by first | (rw [turn, if_pos hsp]; exact h) | (rw [turn, if_neg hsp]; exact h))
      · -- False
        obtain rfl : j = n := by omega
        refine RV.nil ?_
        refine KV.then_n ?_
        refine KV.env [(3, _), (5, _), (6, _), (7, _), (54, _)] ⟨rfl, rfl, rfl, rfl, rfl, trivial⟩ ?_
        refine CV.cond_f rfl ?_
        refine CV.exit ?_
        refine KV.then_exit ?_
        refine KV.then_exit ?_
        refine KV.block_hit ?_
        refine KV.then_n ?_
        refine KV.env [(6, _)] ⟨rfl, trivial⟩ ?_
        refine CV.seq ?_
        -- region 16 law.go:47
        refine CV.region ?_
        refine RV.op (OV.step gno (Step.move rfl) rfl ?_)
        refine RV.op (OV.step gno (Step.assign rfl) rfl ?_)
        refine RV.nil ?_
        refine KV.then_n ?_
        refine KV.env [(2, _)] ⟨rfl, trivial⟩ ?_
        refine CV.ret ?_
        refine KV.then_ret ?_
        -- return at r16
        refine KV.sel [1] [_] rfl ?_
        obtain rfl := back_ext hj.2.1 hj.2.2
        have hsm : someM raw = (List.range j).map fun p => turn j ((sm1 raw j).getD (j - 1 - p) railK.d) := by simp only [someM]; rw [← hi8, if_pos (by omega)]
        rw [hsm]
        simp only [List.length_map, List.length_range]
        exact KV.ret1 rfl rfl _ (fun _ h => h) ⟨_, _, rfl, rfl⟩
    · -- False
      refine RV.nil ?_
      refine KV.then_n ?_
      refine KV.env [(3, _), (47, _)] ⟨rfl, rfl, trivial⟩ ?_
      refine CV.cond_f rfl ?_
      refine CV.skip ?_
      refine KV.then_n ?_
      refine KV.env [(3, _)] ⟨rfl, trivial⟩ ?_
      refine CV.seq ?_
      -- region 17 law.go:49
      refine CV.region ?_
      refine RV.op (OV.step gno (Step.move rfl) rfl ?_)
      refine RV.op (OV.step gno (Step.assign rfl) rfl ?_)
      refine RV.nil ?_
      refine KV.then_n ?_
      refine KV.env [(2, _)] ⟨rfl, trivial⟩ ?_
      refine CV.ret ?_
      -- return at r17
      refine KV.sel [0] [_] rfl ?_
      have hsm : someM raw = sm1 raw i := by simp only [someM]; rw [← hi8, if_neg (by omega)]
      rw [hsm]
      exact KV.ret1 rfl rfl _ (fun _ h => h) ⟨_, _, rfl, rfl⟩
end Go.Proofs.Ytcmalbkflbfidaa
