/-
  Walks, part 1.
-/
import Derived.Test.YtcmalbkflbfidaaTab1
import Derived.Test.YtcmalbkflbfidaaMdl
set_option linter.unusedSimpArgs false
set_option linter.unusedVariables false
namespace Go.Proofs.Ytcmalbkflbfidaa
open Go.Sv Go.Rails
set_option maxRecDepth 100000 in
set_option maxHeartbeats 1000000 in
theorem exists_fn (b : Nat) (a : RA) (st : St) (x : Int) (w : World) : Fx Try.prog 35 [.pointer (some ⟨b, 0, none⟩), .int .i64 x] w (robj 73 b a st) no (fun v L => v = .bool (decide (0 ≤ x ∧ x < st.rails.length)) ∧ L = robj 73 b a st) := by
  refine Sv.Fx.body Try.func35 rfl T35 rfl ?_
  intro I hro hI
  refine KV.env [(0, _), (1, _)] ⟨rfl, rfl, trivial⟩ ?_
  refine CV.seq ?_
  -- region 0 rails.go:94
  refine CV.region ?_
  refine RV.op (OV.step gno (Step.assign rfl) rfl ?_)
  refine RV.nil ?_
  refine KV.then_n ?_
  refine KV.env [(0, _), (1, _)] ⟨rfl, rfl, trivial⟩ ?_
  refine CV.seq ?_
  -- region 1 rails.go:94
  refine CV.region ?_
  refine RV.op (OV.step gno (Step.move rfl) rfl ?_)
  refine RV.op (OV.split gno (Step.geq rfl rfl) rfl (fun cc1 => ?_) (fun cc1 => ?_))
  · -- True
    refine RV.op (OV.step gno (Step.move rfl) rfl ?_)
    refine RV.op (OV.step (gyes rfl) (Step.move rfl) rfl ?_)
    refine RV.op (OV.step (gyes rfl) (Step.move rfl) rfl ?_)
    refine RV.op (OV.step (gyes rfl) (Step.nilCheck rfl) rfl ?_)
    refine RV.op (OV.step (gyes rfl) (Step.fieldAddr rfl (F73_0 _ _)) rfl ?_)
    refine RV.op (OV.step (gyes rfl) (Step.load Try.underlying22 rfl rfl (fun w h => h.cell 0 rfl rfl)) rfl ?_)
    refine RV.op (OV.step (gyes rfl) (Step.lenSl Try.underlying22 rfl) rfl ?_)
    refine RV.op (OV.split (gyes rfl) (Step.lss rfl rfl) rfl (fun cc2 => ?_) (fun cc2 => ?_))
    · -- True
      refine RV.op (OV.step gno (Step.pick_t rfl rfl) rfl ?_)
      refine RV.op (OV.step gno (Step.assign rfl) rfl ?_)
      refine RV.nil ?_
      refine KV.then_n ?_
      refine KV.env [(4, _)] ⟨rfl, trivial⟩ ?_
      refine CV.ret ?_
      -- return at r1
      exact KV.ret1 rfl rfl _ (fun _ h => h) ⟨by simp; omega, rfl⟩
    · -- False
      refine RV.op (OV.step gno (Step.pick_t rfl rfl) rfl ?_)
      refine RV.op (OV.step gno (Step.assign rfl) rfl ?_)
      refine RV.nil ?_
      refine KV.then_n ?_
      refine KV.env [(4, _)] ⟨rfl, trivial⟩ ?_
      refine CV.ret ?_
      -- return at r1
      exact KV.ret1 rfl rfl _ (fun _ h => h) ⟨by simp; omega, rfl⟩
  · -- False
    refine RV.op (OV.step gno (Step.move rfl) rfl ?_)
    refine RV.op (OV.skip rfl rfl ?_)
    refine RV.op (OV.skip rfl rfl ?_)
    refine RV.op (OV.skip rfl rfl ?_)
    refine RV.op (OV.skip rfl rfl ?_)
    refine RV.op (OV.skip rfl rfl ?_)
    refine RV.op (OV.skip rfl rfl ?_)
    refine RV.op (OV.skip rfl rfl ?_)
    refine RV.op (OV.step gno (Step.pick_f rfl rfl) rfl ?_)
    refine RV.op (OV.step gno (Step.assign rfl) rfl ?_)
    refine RV.nil ?_
    refine KV.then_n ?_
    refine KV.env [(4, _)] ⟨rfl, trivial⟩ ?_
    refine CV.ret ?_
    -- return at r1
    exact KV.ret1 rfl rfl _ (fun _ h => h) ⟨by simp; omega, rfl⟩

set_option maxRecDepth 100000 in
set_option maxHeartbeats 1000000 in
theorem count_fn (b : Nat) (a : RA) (st : St) (x : Int) (w : World) (wf : st.wf) : Fx Try.prog 26 [.pointer (some ⟨b, 0, none⟩), .int .i64 x] w (robj 73 b a st) no (fun v L => v = .int .i64 (if 0 ≤ x ∧ x < st.rails.length then st.c x.toNat else 0) ∧ L = robj 73 b a st) := by
  refine Sv.Fx.body Try.func26 rfl T26 rfl ?_
  intro I hro hI
  refine KV.env [(0, _), (1, _)] ⟨rfl, rfl, trivial⟩ ?_
  refine CV.seq ?_
  -- region 0 rails.go:67
  refine CV.region ?_
  refine RV.op (OV.step gno (Step.assign rfl) rfl ?_)
  refine RV.nil ?_
  refine KV.then_n ?_
  refine KV.env [(0, _), (1, _)] ⟨rfl, rfl, trivial⟩ ?_
  refine CV.seq ?_
  refine CV.seq ?_
  -- region 1 rails.go:68
  refine CV.region ?_
  refine RV.op (OV.step gno (Step.move rfl) rfl ?_)
  refine RV.op (OV.step gno (Step.move rfl) rfl ?_)
  refine RV.op (OV.call [0, 0, 0, 0] (F := []) Try.func35 B35 N35 rfl rfl (fun w h => exists_fn b a st x w) (fun _ hb => hb.elim) gno rfl (fun v L' hp => ?_))
  obtain ⟨rfl, rfl⟩ := hp
  by_cases hx : 0 ≤ x ∧ x < st.rails.length
  · rw [decide_eq_true hx]
    obtain ⟨k, rfl⟩ := Int.eq_ofNat_of_zero_le hx.1
    refine RV.op (OV.step gno (Step.not rfl) rfl ?_)
    refine RV.nil ?_
    refine KV.then_n ?_
    refine KV.env [(0, _), (1, _), (8, _)] ⟨rfl, rfl, rfl, trivial⟩ ?_
    refine CV.cond_f rfl ?_
    refine CV.skip ?_
    refine KV.then_n ?_
    refine KV.env [(0, _), (1, _)] ⟨rfl, rfl, trivial⟩ ?_
    refine CV.seq ?_
    -- region 3 rails.go:71
    refine CV.region ?_
    refine RV.op (OV.step gno (Step.move rfl) rfl ?_)
    refine RV.op (OV.step gno (Step.nilCheck rfl) rfl ?_)
    refine RV.op (OV.step gno (Step.fieldAddr rfl (F73_1 _ _)) rfl ?_)
    (first | refine RV.op (OV.step gno (Step.load Try.underlying57 rfl rfl (fun w h => h.cell 0 rfl rfl)) rfl ?_) | refine RV.op (OV.step gno (Step.load Try.underlying57 rfl rfl (fun w h => (h.os 1 rfl).cell (by first | omega | (simp only [List.length_set, wf.count, wf.done]; omega)) rfl)) rfl ?_) | refine RV.op (OV.step gno (Step.load Try.underlying57 rfl rfl (fun w h => (h.os 1 rfl).cell0 (by first | omega | (simp only [List.length_set, wf.count, wf.done]; omega)) rfl)) rfl ?_) | refine RV.op (OV.step gno (Step.load Try.underlying57 rfl rfl (fun w h => (h.os 2 rfl).cell (by first | omega | (simp only [List.length_set, wf.count, wf.done]; omega)) rfl)) rfl ?_) | refine RV.op (OV.step gno (Step.load Try.underlying57 rfl rfl (fun w h => (h.os 2 rfl).cell0 (by first | omega | (simp only [List.length_set, wf.count, wf.done]; omega)) rfl)) rfl ?_) | refine RV.op (OV.step gno (Step.load Try.underlying57 rfl rfl (fun w h => (h.os 3 rfl).cell (by first | omega | (simp only [List.length_set, wf.count, wf.done]; omega)) rfl)) rfl ?_) | refine RV.op (OV.step gno (Step.load Try.underlying57 rfl rfl (fun w h => (h.os 3 rfl).cell0 (by first | omega | (simp only [List.length_set, wf.count, wf.done]; omega)) rfl)) rfl ?_))
    refine RV.op (OV.step gno (Step.move rfl) rfl ?_)
    (first | refine RV.op (OV.step gno (Step.idx Try.underlying57 I3 (fun w h => h.os 1 rfl) rfl rfl (by first | rfl | simp only [List.length_set, wf.count, wf.done]) _ rfl (by first | omega | (simp only [List.length_set, wf.count, wf.done]; omega))) rfl ?_) | refine RV.op (OV.step gno (Step.idx Try.underlying57 I3 (fun w h => h.os 2 rfl) rfl rfl (by first | rfl | simp only [List.length_set, wf.count, wf.done]) _ rfl (by first | omega | (simp only [List.length_set, wf.count, wf.done]; omega))) rfl ?_) | refine RV.op (OV.step gno (Step.idx Try.underlying57 I3 (fun w h => h.os 3 rfl) rfl rfl (by first | rfl | simp only [List.length_set, wf.count, wf.done]) _ rfl (by first | omega | (simp only [List.length_set, wf.count, wf.done]; omega))) rfl ?_))
    (first | refine RV.op (OV.step gno (Step.load Try.underlying3 rfl rfl (fun w h => h.cell 0 rfl rfl)) rfl ?_) | refine RV.op (OV.step gno (Step.load Try.underlying3 rfl rfl (fun w h => (h.os 1 rfl).cell (by first | omega | (simp only [List.length_set, wf.count, wf.done]; omega)) rfl)) rfl ?_) | refine RV.op (OV.step gno (Step.load Try.underlying3 rfl rfl (fun w h => (h.os 1 rfl).cell0 (by first | omega | (simp only [List.length_set, wf.count, wf.done]; omega)) rfl)) rfl ?_) | refine RV.op (OV.step gno (Step.load Try.underlying3 rfl rfl (fun w h => (h.os 2 rfl).cell (by first | omega | (simp only [List.length_set, wf.count, wf.done]; omega)) rfl)) rfl ?_) | refine RV.op (OV.step gno (Step.load Try.underlying3 rfl rfl (fun w h => (h.os 2 rfl).cell0 (by first | omega | (simp only [List.length_set, wf.count, wf.done]; omega)) rfl)) rfl ?_) | refine RV.op (OV.step gno (Step.load Try.underlying3 rfl rfl (fun w h => (h.os 3 rfl).cell (by first | omega | (simp only [List.length_set, wf.count, wf.done]; omega)) rfl)) rfl ?_) | refine RV.op (OV.step gno (Step.load Try.underlying3 rfl rfl (fun w h => (h.os 3 rfl).cell0 (by first | omega | (simp only [List.length_set, wf.count, wf.done]; omega)) rfl)) rfl ?_))
    refine RV.op (OV.step gno (Step.assign rfl) rfl ?_)
    refine RV.nil ?_
    refine KV.then_n ?_
    refine KV.env [(4, _)] ⟨rfl, trivial⟩ ?_
    refine CV.ret ?_
    -- return at r3
    exact KV.ret1 rfl rfl _ (fun _ h => h) ⟨by rw [if_pos hx]; rfl, rfl⟩
  · rw [decide_eq_false hx]
    refine RV.op (OV.step gno (Step.not rfl) rfl ?_)
    refine RV.nil ?_
    refine KV.then_n ?_
    refine KV.env [(0, _), (1, _), (8, _)] ⟨rfl, rfl, rfl, trivial⟩ ?_
    refine CV.cond_t rfl ?_
    refine CV.seq ?_
    -- region 2 rails.go:69
    refine CV.region ?_
    refine RV.op (OV.step gno (Step.assign rfl) rfl ?_)
    refine RV.nil ?_
    refine KV.then_n ?_
    refine KV.env [(4, _)] ⟨rfl, trivial⟩ ?_
    refine CV.ret ?_
    refine KV.then_ret ?_
    -- return at r2
    exact KV.ret1 rfl rfl _ (fun _ h => h) ⟨by rw [if_neg hx], rfl⟩

set_option maxRecDepth 100000 in
set_option maxHeartbeats 1000000 in
theorem permitted_fn (b : Nat) (a : RA) (st : St) (x now : Int) (w : World) : Fx Try.prog 40 [.pointer (some ⟨b, 0, none⟩), .int .i64 x, .int .u64 now] w (robj 73 b a st) no (fun v L => v = .bool (decide ((0 ≤ x ∧ x < st.rails.length) ∧ st.clock ≤ now ∧ now ≤ 1152921504606846976)) ∧ L = robj 73 b a st) := by
  refine Sv.Fx.body Try.func40 rfl T40 rfl ?_
  intro I hro hI
  refine KV.env [(0, _), (1, _), (2, _)] ⟨rfl, rfl, rfl, trivial⟩ ?_
  refine CV.seq ?_
  -- region 0 rails.go:97
  refine CV.region ?_
  refine RV.op (OV.step gno (Step.assign rfl) rfl ?_)
  refine RV.nil ?_
  refine KV.then_n ?_
  refine KV.env [(0, _), (1, _), (2, _)] ⟨rfl, rfl, rfl, trivial⟩ ?_
  refine CV.seq ?_
  -- region 1 rails.go:98
  refine CV.region ?_
  refine RV.op (OV.step gno (Step.move rfl) rfl ?_)
  refine RV.op (OV.step gno (Step.move rfl) rfl ?_)
  refine RV.op (OV.call [0, 0, 0, 0] (F := []) Try.func35 B35 N35 rfl rfl (fun w h => exists_fn b a st x w) (fun _ hb => hb.elim) gno rfl (fun v L' hp => ?_))
  obtain ⟨rfl, rfl⟩ := hp
  by_cases hx : 0 ≤ x ∧ x < st.rails.length
  · rw [decide_eq_true hx]
    refine RV.op (OV.step gno (Step.move rfl) rfl ?_)
    refine RV.op (OV.step (gyes rfl) (Step.move rfl) rfl ?_)
    refine RV.op (OV.step (gyes rfl) (Step.move rfl) rfl ?_)
    refine RV.op (OV.step (gyes rfl) (Step.nilCheck rfl) rfl ?_)
    refine RV.op (OV.step (gyes rfl) (Step.fieldAddr rfl (F73_3 _ _)) rfl ?_)
    (first | refine RV.op (OV.step (gyes rfl) (Step.load Try.underlying33 rfl rfl (fun w h => h.cell 0 rfl rfl)) rfl ?_) | refine RV.op (OV.step (gyes rfl) (Step.load Try.underlying33 rfl rfl (fun w h => (h.os 1 rfl).cell (by omega) rfl)) rfl ?_) | refine RV.op (OV.step (gyes rfl) (Step.load Try.underlying33 rfl rfl (fun w h => (h.os 1 rfl).cell0 (by omega) rfl)) rfl ?_) | refine RV.op (OV.step (gyes rfl) (Step.load Try.underlying33 rfl rfl (fun w h => (h.os 2 rfl).cell (by omega) rfl)) rfl ?_) | refine RV.op (OV.step (gyes rfl) (Step.load Try.underlying33 rfl rfl (fun w h => (h.os 2 rfl).cell0 (by omega) rfl)) rfl ?_) | refine RV.op (OV.step (gyes rfl) (Step.load Try.underlying33 rfl rfl (fun w h => (h.os 3 rfl).cell (by omega) rfl)) rfl ?_) | refine RV.op (OV.step (gyes rfl) (Step.load Try.underlying33 rfl rfl (fun w h => (h.os 3 rfl).cell0 (by omega) rfl)) rfl ?_))
    refine RV.op (OV.split (gyes rfl) (Step.geq rfl rfl) rfl (fun cc1 => ?_) (fun cc1 => ?_))
    · -- True
      refine RV.op (OV.step gno (Step.pick_t rfl rfl) rfl ?_)
      refine RV.op (OV.step gno (Step.move rfl) rfl ?_)
      refine RV.op (OV.step (gyes rfl) (Step.move rfl) rfl ?_)
      refine RV.op (OV.split (gyes rfl) (Step.leq rfl rfl) rfl (fun cc2 => ?_) (fun cc2 => ?_))
      · -- True
        refine RV.op (OV.step gno (Step.pick_t rfl rfl) rfl ?_)
        refine RV.op (OV.step gno (Step.assign rfl) rfl ?_)
        refine RV.nil ?_
        refine KV.then_n ?_
        refine KV.env [(6, _)] ⟨rfl, trivial⟩ ?_
        refine CV.ret ?_
        -- return at r1
        exact KV.ret1 rfl rfl _ (fun _ h => h) ⟨by simp; omega, rfl⟩
      · -- False
        refine RV.op (OV.step gno (Step.pick_t rfl rfl) rfl ?_)
        refine RV.op (OV.step gno (Step.assign rfl) rfl ?_)
        refine RV.nil ?_
        refine KV.then_n ?_
        refine KV.env [(6, _)] ⟨rfl, trivial⟩ ?_
        refine CV.ret ?_
        -- return at r1
        exact KV.ret1 rfl rfl _ (fun _ h => h) ⟨by simp; omega, rfl⟩
    · -- False
      refine RV.op (OV.step gno (Step.pick_t rfl rfl) rfl ?_)
      refine RV.op (OV.step gno (Step.move rfl) rfl ?_)
      refine RV.op (OV.skip rfl rfl ?_)
      refine RV.op (OV.skip rfl rfl ?_)
      refine RV.op (OV.step gno (Step.pick_f rfl rfl) rfl ?_)
      refine RV.op (OV.step gno (Step.assign rfl) rfl ?_)
      refine RV.nil ?_
      refine KV.then_n ?_
      refine KV.env [(6, _)] ⟨rfl, trivial⟩ ?_
      refine CV.ret ?_
      -- return at r1
      exact KV.ret1 rfl rfl _ (fun _ h => h) ⟨by simp; omega, rfl⟩
  · rw [decide_eq_false hx]
    refine RV.op (OV.step gno (Step.move rfl) rfl ?_)
    refine RV.op (OV.skip rfl rfl ?_)
    refine RV.op (OV.skip rfl rfl ?_)
    refine RV.op (OV.skip rfl rfl ?_)
    refine RV.op (OV.skip rfl rfl ?_)
    refine RV.op (OV.skip rfl rfl ?_)
    refine RV.op (OV.skip rfl rfl ?_)
    refine RV.op (OV.step gno (Step.pick_f rfl rfl) rfl ?_)
    refine RV.op (OV.step gno (Step.move rfl) rfl ?_)
    refine RV.op (OV.skip rfl rfl ?_)
    refine RV.op (OV.skip rfl rfl ?_)
    refine RV.op (OV.step gno (Step.pick_f rfl rfl) rfl ?_)
    refine RV.op (OV.step gno (Step.assign rfl) rfl ?_)
    refine RV.nil ?_
    refine KV.then_n ?_
    refine KV.env [(6, _)] ⟨rfl, trivial⟩ ?_
    refine CV.ret ?_
    -- return at r1
    exact KV.ret1 rfl rfl _ (fun _ h => h) ⟨by simp; omega, rfl⟩

set_option maxRecDepth 100000 in
set_option maxHeartbeats 1000000 in
theorem readyAt_fn (b : Nat) (a : RA) (st : St) (x : Int) (w : World) (wf : st.wf) : Fx Try.prog 21 [.pointer (some ⟨b, 0, none⟩), .int .i64 x] w (robj 73 b a st) no (fun v L => v = .tuple #[.int .u64 (if ((0 ≤ x ∧ x < st.rails.length) ∧ ¬ st.c x.toNat = 0) then st.t x.toNat else 0), .bool (decide ((0 ≤ x ∧ x < st.rails.length) ∧ ¬ st.c x.toNat = 0))] ∧ L = robj 73 b a st) := by
  refine Sv.Fx.body Try.func21 rfl T21 rfl ?_
  intro I hro hI
  refine KV.env [(0, _), (1, _)] ⟨rfl, rfl, trivial⟩ ?_
  refine CV.seq ?_
  -- region 0 rails.go:75
  refine CV.region ?_
  refine RV.op (OV.step gno (Step.assign rfl) rfl ?_)
  refine RV.op (OV.step gno (Step.assign rfl) rfl ?_)
  refine RV.nil ?_
  refine KV.then_n ?_
  refine KV.env [(0, _), (1, _)] ⟨rfl, rfl, trivial⟩ ?_
  refine CV.seq ?_
  refine CV.seq ?_
  -- region 1 rails.go:76
  refine CV.region ?_
  refine RV.op (OV.step gno (Step.move rfl) rfl ?_)
  refine RV.op (OV.step gno (Step.move rfl) rfl ?_)
  refine RV.op (OV.call [0, 0, 0, 0] (F := []) Try.func35 B35 N35 rfl rfl (fun w h => exists_fn b a st x w) (fun _ hb => hb.elim) gno rfl (fun v L' hp => ?_))
  obtain ⟨rfl, rfl⟩ := hp
  by_cases hx : 0 ≤ x ∧ x < st.rails.length
  · rw [decide_eq_true hx]
    obtain ⟨k, rfl⟩ := Int.eq_ofNat_of_zero_le hx.1
    refine RV.op (OV.step gno (Step.not rfl) rfl ?_)
    refine RV.op (OV.step gno (Step.move rfl) rfl ?_)
    refine RV.op (OV.step (gyes rfl) (Step.move rfl) rfl ?_)
    refine RV.op (OV.step (gyes rfl) (Step.nilCheck rfl) rfl ?_)
    refine RV.op (OV.step (gyes rfl) (Step.fieldAddr rfl (F73_1 _ _)) rfl ?_)
    (first | refine RV.op (OV.step (gyes rfl) (Step.load Try.underlying57 rfl rfl (fun w h => h.cell 0 rfl rfl)) rfl ?_) | refine RV.op (OV.step (gyes rfl) (Step.load Try.underlying57 rfl rfl (fun w h => (h.os 1 rfl).cell (by first | omega | (simp only [List.length_set, wf.count, wf.done]; omega)) rfl)) rfl ?_) | refine RV.op (OV.step (gyes rfl) (Step.load Try.underlying57 rfl rfl (fun w h => (h.os 1 rfl).cell0 (by first | omega | (simp only [List.length_set, wf.count, wf.done]; omega)) rfl)) rfl ?_) | refine RV.op (OV.step (gyes rfl) (Step.load Try.underlying57 rfl rfl (fun w h => (h.os 2 rfl).cell (by first | omega | (simp only [List.length_set, wf.count, wf.done]; omega)) rfl)) rfl ?_) | refine RV.op (OV.step (gyes rfl) (Step.load Try.underlying57 rfl rfl (fun w h => (h.os 2 rfl).cell0 (by first | omega | (simp only [List.length_set, wf.count, wf.done]; omega)) rfl)) rfl ?_) | refine RV.op (OV.step (gyes rfl) (Step.load Try.underlying57 rfl rfl (fun w h => (h.os 3 rfl).cell (by first | omega | (simp only [List.length_set, wf.count, wf.done]; omega)) rfl)) rfl ?_) | refine RV.op (OV.step (gyes rfl) (Step.load Try.underlying57 rfl rfl (fun w h => (h.os 3 rfl).cell0 (by first | omega | (simp only [List.length_set, wf.count, wf.done]; omega)) rfl)) rfl ?_))
    refine RV.op (OV.step (gyes rfl) (Step.move rfl) rfl ?_)
    (first | refine RV.op (OV.step (gyes rfl) (Step.idx Try.underlying57 I3 (fun w h => h.os 1 rfl) rfl rfl (by first | rfl | simp only [List.length_set, wf.count, wf.done]) _ rfl (by first | omega | (simp only [List.length_set, wf.count, wf.done]; omega))) rfl ?_) | refine RV.op (OV.step (gyes rfl) (Step.idx Try.underlying57 I3 (fun w h => h.os 2 rfl) rfl rfl (by first | rfl | simp only [List.length_set, wf.count, wf.done]) _ rfl (by first | omega | (simp only [List.length_set, wf.count, wf.done]; omega))) rfl ?_) | refine RV.op (OV.step (gyes rfl) (Step.idx Try.underlying57 I3 (fun w h => h.os 3 rfl) rfl rfl (by first | rfl | simp only [List.length_set, wf.count, wf.done]) _ rfl (by first | omega | (simp only [List.length_set, wf.count, wf.done]; omega))) rfl ?_))
    (first | refine RV.op (OV.step (gyes rfl) (Step.load Try.underlying3 rfl rfl (fun w h => h.cell 0 rfl rfl)) rfl ?_) | refine RV.op (OV.step (gyes rfl) (Step.load Try.underlying3 rfl rfl (fun w h => (h.os 1 rfl).cell (by first | omega | (simp only [List.length_set, wf.count, wf.done]; omega)) rfl)) rfl ?_) | refine RV.op (OV.step (gyes rfl) (Step.load Try.underlying3 rfl rfl (fun w h => (h.os 1 rfl).cell0 (by first | omega | (simp only [List.length_set, wf.count, wf.done]; omega)) rfl)) rfl ?_) | refine RV.op (OV.step (gyes rfl) (Step.load Try.underlying3 rfl rfl (fun w h => (h.os 2 rfl).cell (by first | omega | (simp only [List.length_set, wf.count, wf.done]; omega)) rfl)) rfl ?_) | refine RV.op (OV.step (gyes rfl) (Step.load Try.underlying3 rfl rfl (fun w h => (h.os 2 rfl).cell0 (by first | omega | (simp only [List.length_set, wf.count, wf.done]; omega)) rfl)) rfl ?_) | refine RV.op (OV.step (gyes rfl) (Step.load Try.underlying3 rfl rfl (fun w h => (h.os 3 rfl).cell (by first | omega | (simp only [List.length_set, wf.count, wf.done]; omega)) rfl)) rfl ?_) | refine RV.op (OV.step (gyes rfl) (Step.load Try.underlying3 rfl rfl (fun w h => (h.os 3 rfl).cell0 (by first | omega | (simp only [List.length_set, wf.count, wf.done]; omega)) rfl)) rfl ?_))
    refine RV.op (OV.split (gyes rfl) (Step.eql rfl rfl) rfl (fun hc => ?_) (fun hc => ?_))
    · -- True
      refine RV.op (OV.step gno (Step.pick_f rfl rfl) rfl ?_)
      refine RV.nil ?_
      refine KV.then_n ?_
      refine KV.env [(0, _), (1, _), (19, _)] ⟨rfl, rfl, rfl, trivial⟩ ?_
      refine CV.cond_t rfl ?_
      refine CV.seq ?_
      -- region 2 rails.go:77
      refine CV.region ?_
      refine RV.op (OV.step gno (Step.assign rfl) rfl ?_)
      refine RV.op (OV.step gno (Step.assign rfl) rfl ?_)
      refine RV.nil ?_
      refine KV.then_n ?_
      refine KV.env [(4, _), (5, _)] ⟨rfl, rfl, trivial⟩ ?_
      refine CV.ret ?_
      refine KV.then_ret ?_
      -- return at r2
      refine KV.ret2 rfl rfl rfl _ (fun _ h => h) ⟨?_, rfl⟩
      first | rw [if_neg (fun h => hx h.1), decide_eq_false (fun h => hx h.1)] | rw [if_neg (fun h => h.2 hc), decide_eq_false (fun h => h.2 hc)]
    · -- False
      refine RV.op (OV.step gno (Step.pick_f rfl rfl) rfl ?_)
      refine RV.nil ?_
      refine KV.then_n ?_
      refine KV.env [(0, _), (1, _), (19, _)] ⟨rfl, rfl, rfl, trivial⟩ ?_
      refine CV.cond_f rfl ?_
      refine CV.skip ?_
      refine KV.then_n ?_
      refine KV.env [(0, _), (1, _)] ⟨rfl, rfl, trivial⟩ ?_
      refine CV.seq ?_
      -- region 3 rails.go:79
      refine CV.region ?_
      refine RV.op (OV.step gno (Step.move rfl) rfl ?_)
      refine RV.op (OV.step gno (Step.nilCheck rfl) rfl ?_)
      refine RV.op (OV.step gno (Step.fieldAddr rfl (F73_2 _ _)) rfl ?_)
      (first | refine RV.op (OV.step gno (Step.load Try.underlying43 rfl rfl (fun w h => h.cell 0 rfl rfl)) rfl ?_) | refine RV.op (OV.step gno (Step.load Try.underlying43 rfl rfl (fun w h => (h.os 1 rfl).cell (by first | omega | (simp only [List.length_set, wf.count, wf.done]; omega)) rfl)) rfl ?_) | refine RV.op (OV.step gno (Step.load Try.underlying43 rfl rfl (fun w h => (h.os 1 rfl).cell0 (by first | omega | (simp only [List.length_set, wf.count, wf.done]; omega)) rfl)) rfl ?_) | refine RV.op (OV.step gno (Step.load Try.underlying43 rfl rfl (fun w h => (h.os 2 rfl).cell (by first | omega | (simp only [List.length_set, wf.count, wf.done]; omega)) rfl)) rfl ?_) | refine RV.op (OV.step gno (Step.load Try.underlying43 rfl rfl (fun w h => (h.os 2 rfl).cell0 (by first | omega | (simp only [List.length_set, wf.count, wf.done]; omega)) rfl)) rfl ?_) | refine RV.op (OV.step gno (Step.load Try.underlying43 rfl rfl (fun w h => (h.os 3 rfl).cell (by first | omega | (simp only [List.length_set, wf.count, wf.done]; omega)) rfl)) rfl ?_) | refine RV.op (OV.step gno (Step.load Try.underlying43 rfl rfl (fun w h => (h.os 3 rfl).cell0 (by first | omega | (simp only [List.length_set, wf.count, wf.done]; omega)) rfl)) rfl ?_))
      refine RV.op (OV.step gno (Step.move rfl) rfl ?_)
      (first | refine RV.op (OV.step gno (Step.idx Try.underlying43 I33 (fun w h => h.os 1 rfl) rfl rfl (by first | rfl | simp only [List.length_set, wf.count, wf.done]) _ rfl (by first | omega | (simp only [List.length_set, wf.count, wf.done]; omega))) rfl ?_) | refine RV.op (OV.step gno (Step.idx Try.underlying43 I33 (fun w h => h.os 2 rfl) rfl rfl (by first | rfl | simp only [List.length_set, wf.count, wf.done]) _ rfl (by first | omega | (simp only [List.length_set, wf.count, wf.done]; omega))) rfl ?_) | refine RV.op (OV.step gno (Step.idx Try.underlying43 I33 (fun w h => h.os 3 rfl) rfl rfl (by first | rfl | simp only [List.length_set, wf.count, wf.done]) _ rfl (by first | omega | (simp only [List.length_set, wf.count, wf.done]; omega))) rfl ?_))
      (first | refine RV.op (OV.step gno (Step.load Try.underlying33 rfl rfl (fun w h => h.cell 0 rfl rfl)) rfl ?_) | refine RV.op (OV.step gno (Step.load Try.underlying33 rfl rfl (fun w h => (h.os 1 rfl).cell (by first | omega | (simp only [List.length_set, wf.count, wf.done]; omega)) rfl)) rfl ?_) | refine RV.op (OV.step gno (Step.load Try.underlying33 rfl rfl (fun w h => (h.os 1 rfl).cell0 (by first | omega | (simp only [List.length_set, wf.count, wf.done]; omega)) rfl)) rfl ?_) | refine RV.op (OV.step gno (Step.load Try.underlying33 rfl rfl (fun w h => (h.os 2 rfl).cell (by first | omega | (simp only [List.length_set, wf.count, wf.done]; omega)) rfl)) rfl ?_) | refine RV.op (OV.step gno (Step.load Try.underlying33 rfl rfl (fun w h => (h.os 2 rfl).cell0 (by first | omega | (simp only [List.length_set, wf.count, wf.done]; omega)) rfl)) rfl ?_) | refine RV.op (OV.step gno (Step.load Try.underlying33 rfl rfl (fun w h => (h.os 3 rfl).cell (by first | omega | (simp only [List.length_set, wf.count, wf.done]; omega)) rfl)) rfl ?_) | refine RV.op (OV.step gno (Step.load Try.underlying33 rfl rfl (fun w h => (h.os 3 rfl).cell0 (by first | omega | (simp only [List.length_set, wf.count, wf.done]; omega)) rfl)) rfl ?_))
      refine RV.op (OV.step gno (Step.assign rfl) rfl ?_)
      refine RV.op (OV.step gno (Step.assign rfl) rfl ?_)
      refine RV.nil ?_
      refine KV.then_n ?_
      refine KV.env [(4, _), (5, _)] ⟨rfl, rfl, trivial⟩ ?_
      refine CV.ret ?_
      -- return at r3
      exact KV.ret2 rfl rfl rfl _ (fun _ h => h) ⟨by have hc2 : ¬ st.c k = 0 := hc; rw [if_pos ⟨hx, hc⟩]; simp only [Int.toNat_natCast, hx, hc2, and_self, not_false_eq_true, decide_true]; rfl, rfl⟩
  · rw [decide_eq_false hx]
    refine RV.op (OV.step gno (Step.not rfl) rfl ?_)
    refine RV.op (OV.step gno (Step.move rfl) rfl ?_)
    refine RV.op (OV.skip rfl rfl ?_)
    refine RV.op (OV.skip rfl rfl ?_)
    refine RV.op (OV.skip rfl rfl ?_)
    refine RV.op (OV.skip rfl rfl ?_)
    refine RV.op (OV.skip rfl rfl ?_)
    refine RV.op (OV.skip rfl rfl ?_)
    refine RV.op (OV.skip rfl rfl ?_)
    refine RV.op (OV.skip rfl rfl ?_)
    refine RV.op (OV.step gno (Step.pick_t rfl rfl) rfl ?_)
    refine RV.nil ?_
    refine KV.then_n ?_
    refine KV.env [(0, _), (1, _), (19, _)] ⟨rfl, rfl, rfl, trivial⟩ ?_
    refine CV.cond_t rfl ?_
    refine CV.seq ?_
    -- region 2 rails.go:77
    refine CV.region ?_
    refine RV.op (OV.step gno (Step.assign rfl) rfl ?_)
    refine RV.op (OV.step gno (Step.assign rfl) rfl ?_)
    refine RV.nil ?_
    refine KV.then_n ?_
    refine KV.env [(4, _), (5, _)] ⟨rfl, rfl, trivial⟩ ?_
    refine CV.ret ?_
    refine KV.then_ret ?_
    -- return at r2
    refine KV.ret2 rfl rfl rfl _ (fun _ h => h) ⟨?_, rfl⟩
    first | rw [if_neg (fun h => hx h.1), decide_eq_false (fun h => hx h.1)] | rw [if_neg (fun h => h.2 hc), decide_eq_false (fun h => h.2 hc)]

set_option maxRecDepth 100000 in
set_option maxHeartbeats 1000000 in
theorem powered_fn (b : Nat) (a : RA) (st : St) (x now : Int) (w : World) (wf : st.wf) : Fx Try.prog 22 [.pointer (some ⟨b, 0, none⟩), .int .i64 x, .int .u64 now] w (robj 73 b a st) no (fun v L => v = .bool (decide (((0 ≤ x ∧ x < st.rails.length) ∧ ¬ st.c x.toNat = 0) ∧ st.t x.toNat ≤ now)) ∧ L = robj 73 b a st) := by
  refine Sv.Fx.body Try.func22 rfl T22 rfl ?_
  intro I hro hI
  refine KV.env [(0, _), (1, _), (2, _)] ⟨rfl, rfl, rfl, trivial⟩ ?_
  refine CV.seq ?_
  -- region 0 rails.go:83
  refine CV.region ?_
  refine RV.op (OV.step gno (Step.assign rfl) rfl ?_)
  refine RV.nil ?_
  refine KV.then_n ?_
  refine KV.env [(0, _), (1, _), (2, _)] ⟨rfl, rfl, rfl, trivial⟩ ?_
  refine CV.seq ?_
  -- region 1 rails.go:84
  refine CV.region ?_
  refine RV.op (OV.step gno (Step.move rfl) rfl ?_)
  refine RV.op (OV.step gno (Step.move rfl) rfl ?_)
  refine RV.op (OV.call [0, 0, 0, 0] (F := []) Try.func21 B21 N21 rfl rfl (fun w h => readyAt_fn b a st x w wf) (fun _ hb => hb.elim) gno rfl (fun v L' hp => ?_))
  obtain ⟨rfl, rfl⟩ := hp
  refine RV.op (OV.step gno (Step.move rfl) rfl ?_)
  refine RV.op (OV.step gno (Step.extract0 rfl rfl) rfl ?_)
  refine RV.op (OV.step gno (Step.extract0 rfl rfl) rfl ?_)
  refine RV.op (OV.step gno (Step.assign rfl) rfl ?_)
  refine RV.op (OV.step gno (Step.assign rfl) rfl ?_)
  refine RV.nil ?_
  refine KV.then_n ?_
  refine KV.env [(2, _), (7, _), (8, _)] ⟨rfl, rfl, rfl, trivial⟩ ?_
  refine CV.seq ?_
  -- region 2 rails.go:85
  refine CV.region ?_
  refine RV.op (OV.step gno (Step.move rfl) rfl ?_)
  refine RV.op (OV.step gno (Step.move rfl) rfl ?_)
  refine KV.cases 16 rfl (fun cc1 => ?_) (fun cc1 => ?_)
  · -- True
    refine RV.op (OV.step (gyes rfl) (Step.move rfl) rfl ?_)
    refine RV.op (OV.step (gyes rfl) (Step.move rfl) rfl ?_)
    refine RV.op (OV.split (gyes rfl) (Step.leq rfl rfl) rfl (fun cc2 => ?_) (fun cc2 => ?_))
    · -- True
      refine RV.op (OV.step gno (Step.pick_t rfl rfl) rfl ?_)
      refine RV.op (OV.step gno (Step.assign rfl) rfl ?_)
      refine RV.nil ?_
      refine KV.then_n ?_
      refine KV.env [(6, _)] ⟨rfl, trivial⟩ ?_
      refine CV.ret ?_
      -- return at r2
      exact KV.ret1 rfl rfl _ (fun _ h => h) ⟨by simp_all, rfl⟩
    · -- False
      refine RV.op (OV.step gno (Step.pick_t rfl rfl) rfl ?_)
      refine RV.op (OV.step gno (Step.assign rfl) rfl ?_)
      refine RV.nil ?_
      refine KV.then_n ?_
      refine KV.env [(6, _)] ⟨rfl, trivial⟩ ?_
      refine CV.ret ?_
      -- return at r2
      exact KV.ret1 rfl rfl _ (fun _ h => h) ⟨by simp_all, rfl⟩
  · -- False
    refine RV.op (OV.skip rfl rfl ?_)
    refine RV.op (OV.skip rfl rfl ?_)
    refine RV.op (OV.skip rfl rfl ?_)
    refine RV.op (OV.step gno (Step.pick_f rfl rfl) rfl ?_)
    refine RV.op (OV.step gno (Step.assign rfl) rfl ?_)
    refine RV.nil ?_
    refine KV.then_n ?_
    refine KV.env [(6, _)] ⟨rfl, trivial⟩ ?_
    refine CV.ret ?_
    -- return at r2
    exact KV.ret1 rfl rfl _ (fun _ h => h) ⟨by simp_all, rfl⟩

set_option maxRecDepth 100000 in
set_option maxHeartbeats 1000000 in
theorem add_fn (b : Nat) (a : RA) (rk : Nat → Nat) (now : Int) (f : Nat) : ∀ (i : Nat) (st : St) (ops : List ROp) (A : Option Addr) (c : Nat) (w : World), st.wf → Acy st.rails rk → i < st.rails.length → rk i < f → ops.length + f ≤ 1000000 → Fx Try.prog 41 [.pointer (some ⟨b, 0, none⟩), .int .i64 i, .int .u64 now, .slice A ops.length c] w (robj 73 b a st ++ [OS 45 opK A c ops]) no (fun v L => ∃ A2 c2, v = .slice A2 (addP f st i now ops).2.length c2 ∧ L = robj 73 b a (addP f st i now ops).1 ++ [OS 45 opK A2 c2 (addP f st i now ops).2]) := by
  induction f with
  | zero => intro i st ops A c w _ _ _ hf; omega
  | succ f ih =>
    intro i st ops A c w wf hg hi hf hops
    have wc := wf.count
    have wd := wf.done
    refine Sv.Fx.body Try.func41 rfl T41 rfl ?_
    intro I hro hI
    refine KV.env [(0, _), (1, _), (2, _), (3, _)] ⟨rfl, rfl, rfl, rfl, trivial⟩ ?_
    refine CV.seq ?_
    -- region 0 rails.go:102
    refine CV.region ?_
    refine RV.op (OV.step gno (Step.assign rfl) rfl ?_)
    refine RV.nil ?_
    refine KV.then_n ?_
    refine KV.env [(0, _), (1, _), (2, _), (3, _)] ⟨rfl, rfl, rfl, rfl, trivial⟩ ?_
    refine CV.seq ?_
    refine CV.seq ?_
    -- region 1 rails.go:103
    refine CV.region ?_
    refine RV.op (OV.step gno (Step.move rfl) rfl ?_)
    refine RV.op (OV.step gno (Step.nilCheck rfl) rfl ?_)
    refine RV.op (OV.step gno (Step.fieldAddr rfl (F73_1 _ _)) rfl ?_)
    (first | refine RV.op (OV.step gno (Step.load Try.underlying57 rfl rfl (fun w h => h.cell 0 rfl rfl)) rfl ?_) | refine RV.op (OV.step gno (Step.load Try.underlying57 rfl rfl (fun w h => (h.os 1 rfl).cell (by first | omega | (simp only [List.length_set]; omega)) rfl)) rfl ?_) | refine RV.op (OV.step gno (Step.load Try.underlying57 rfl rfl (fun w h => (h.os 1 rfl).cell0 (by first | omega | (simp only [List.length_set]; omega)) rfl)) rfl ?_) | refine RV.op (OV.step gno (Step.load Try.underlying57 rfl rfl (fun w h => (h.os 2 rfl).cell (by first | omega | (simp only [List.length_set]; omega)) rfl)) rfl ?_) | refine RV.op (OV.step gno (Step.load Try.underlying57 rfl rfl (fun w h => (h.os 2 rfl).cell0 (by first | omega | (simp only [List.length_set]; omega)) rfl)) rfl ?_) | refine RV.op (OV.step gno (Step.load Try.underlying57 rfl rfl (fun w h => (h.os 3 rfl).cell (by first | omega | (simp only [List.length_set]; omega)) rfl)) rfl ?_) | refine RV.op (OV.step gno (Step.load Try.underlying57 rfl rfl (fun w h => (h.os 3 rfl).cell0 (by first | omega | (simp only [List.length_set]; omega)) rfl)) rfl ?_))
    refine RV.op (OV.step gno (Step.move rfl) rfl ?_)
    (first | refine RV.op (OV.step gno (Step.idx Try.underlying57 I3 (fun w h => h.os 1 rfl) rfl rfl (by first | rfl | omega | (simp only [List.length_set]; omega)) _ rfl (by first | omega | (simp only [List.length_set]; omega))) rfl ?_) | refine RV.op (OV.step gno (Step.idx Try.underlying57 I3 (fun w h => h.os 2 rfl) rfl rfl (by first | rfl | omega | (simp only [List.length_set]; omega)) _ rfl (by first | omega | (simp only [List.length_set]; omega))) rfl ?_) | refine RV.op (OV.step gno (Step.idx Try.underlying57 I3 (fun w h => h.os 3 rfl) rfl rfl (by first | rfl | omega | (simp only [List.length_set]; omega)) _ rfl (by first | omega | (simp only [List.length_set]; omega))) rfl ?_))
    (first | refine RV.op (OV.step gno (Step.load Try.underlying3 rfl rfl (fun w h => h.cell 0 rfl rfl)) rfl ?_) | refine RV.op (OV.step gno (Step.load Try.underlying3 rfl rfl (fun w h => (h.os 1 rfl).cell (by first | omega | (simp only [List.length_set]; omega)) rfl)) rfl ?_) | refine RV.op (OV.step gno (Step.load Try.underlying3 rfl rfl (fun w h => (h.os 1 rfl).cell0 (by first | omega | (simp only [List.length_set]; omega)) rfl)) rfl ?_) | refine RV.op (OV.step gno (Step.load Try.underlying3 rfl rfl (fun w h => (h.os 2 rfl).cell (by first | omega | (simp only [List.length_set]; omega)) rfl)) rfl ?_) | refine RV.op (OV.step gno (Step.load Try.underlying3 rfl rfl (fun w h => (h.os 2 rfl).cell0 (by first | omega | (simp only [List.length_set]; omega)) rfl)) rfl ?_) | refine RV.op (OV.step gno (Step.load Try.underlying3 rfl rfl (fun w h => (h.os 3 rfl).cell (by first | omega | (simp only [List.length_set]; omega)) rfl)) rfl ?_) | refine RV.op (OV.step gno (Step.load Try.underlying3 rfl rfl (fun w h => (h.os 3 rfl).cell0 (by first | omega | (simp only [List.length_set]; omega)) rfl)) rfl ?_))
    refine RV.op (OV.split gno (Step.eql rfl rfl) rfl (fun hc => ?_) (fun hc => ?_))
    · -- True
      refine RV.nil ?_
      refine KV.then_n ?_
      refine KV.env [(0, _), (1, _), (2, _), (3, _), (18, _)] ⟨rfl, rfl, rfl, rfl, rfl, trivial⟩ ?_
      refine CV.cond_t rfl ?_
      refine CV.seq ?_
      -- region 2 rails.go:104
      refine CV.region ?_
      refine RV.op (OV.step gno (Step.move rfl) rfl ?_)
      refine RV.op (OV.step gno (Step.move rfl) rfl ?_)
      refine RV.op (OV.step gno (Step.nilCheck rfl) rfl ?_)
      refine RV.op (OV.step gno (Step.fieldAddr rfl (F73_2 _ _)) rfl ?_)
      (first | refine RV.op (OV.step gno (Step.load Try.underlying43 rfl rfl (fun w h => h.cell 0 rfl rfl)) rfl ?_) | refine RV.op (OV.step gno (Step.load Try.underlying43 rfl rfl (fun w h => (h.os 1 rfl).cell (by first | omega | (simp only [List.length_set]; omega)) rfl)) rfl ?_) | refine RV.op (OV.step gno (Step.load Try.underlying43 rfl rfl (fun w h => (h.os 1 rfl).cell0 (by first | omega | (simp only [List.length_set]; omega)) rfl)) rfl ?_) | refine RV.op (OV.step gno (Step.load Try.underlying43 rfl rfl (fun w h => (h.os 2 rfl).cell (by first | omega | (simp only [List.length_set]; omega)) rfl)) rfl ?_) | refine RV.op (OV.step gno (Step.load Try.underlying43 rfl rfl (fun w h => (h.os 2 rfl).cell0 (by first | omega | (simp only [List.length_set]; omega)) rfl)) rfl ?_) | refine RV.op (OV.step gno (Step.load Try.underlying43 rfl rfl (fun w h => (h.os 3 rfl).cell (by first | omega | (simp only [List.length_set]; omega)) rfl)) rfl ?_) | refine RV.op (OV.step gno (Step.load Try.underlying43 rfl rfl (fun w h => (h.os 3 rfl).cell0 (by first | omega | (simp only [List.length_set]; omega)) rfl)) rfl ?_))
      refine RV.op (OV.step gno (Step.move rfl) rfl ?_)
      (first | refine RV.op (OV.step gno (Step.idx Try.underlying43 I33 (fun w h => h.os 1 rfl) rfl rfl (by first | rfl | omega | (simp only [List.length_set]; omega)) _ rfl (by first | omega | (simp only [List.length_set]; omega))) rfl ?_) | refine RV.op (OV.step gno (Step.idx Try.underlying43 I33 (fun w h => h.os 2 rfl) rfl rfl (by first | rfl | omega | (simp only [List.length_set]; omega)) _ rfl (by first | omega | (simp only [List.length_set]; omega))) rfl ?_) | refine RV.op (OV.step gno (Step.idx Try.underlying43 I33 (fun w h => h.os 3 rfl) rfl rfl (by first | rfl | omega | (simp only [List.length_set]; omega)) _ rfl (by first | omega | (simp only [List.length_set]; omega))) rfl ?_))
      (first | refine RV.op (OV.step gno (Step.load Try.underlying33 rfl rfl (fun w h => h.cell 0 rfl rfl)) rfl ?_) | refine RV.op (OV.step gno (Step.load Try.underlying33 rfl rfl (fun w h => (h.os 1 rfl).cell (by first | omega | (simp only [List.length_set]; omega)) rfl)) rfl ?_) | refine RV.op (OV.step gno (Step.load Try.underlying33 rfl rfl (fun w h => (h.os 1 rfl).cell0 (by first | omega | (simp only [List.length_set]; omega)) rfl)) rfl ?_) | refine RV.op (OV.step gno (Step.load Try.underlying33 rfl rfl (fun w h => (h.os 2 rfl).cell (by first | omega | (simp only [List.length_set]; omega)) rfl)) rfl ?_) | refine RV.op (OV.step gno (Step.load Try.underlying33 rfl rfl (fun w h => (h.os 2 rfl).cell0 (by first | omega | (simp only [List.length_set]; omega)) rfl)) rfl ?_) | refine RV.op (OV.step gno (Step.load Try.underlying33 rfl rfl (fun w h => (h.os 3 rfl).cell (by first | omega | (simp only [List.length_set]; omega)) rfl)) rfl ?_) | refine RV.op (OV.step gno (Step.load Try.underlying33 rfl rfl (fun w h => (h.os 3 rfl).cell0 (by first | omega | (simp only [List.length_set]; omega)) rfl)) rfl ?_))
      refine RV.op (OV.step gno (Step.max2 rfl rfl) rfl ?_)
      refine RV.op (OV.step gno (Step.assign rfl) rfl ?_)
      refine RV.nil ?_
      refine KV.then_n ?_
      refine KV.env [(0, _), (1, _), (2, _), (3, _), (9, _)] ⟨rfl, rfl, rfl, rfl, rfl, trivial⟩ ?_
      refine CV.seq ?_
      refine CV.seq ?_
      -- region 3 rails.go:105
      refine CV.region ?_
      refine RV.op (OV.step gno (Step.move rfl) rfl ?_)
      refine RV.op (OV.step gno (Step.nilCheck rfl) rfl ?_)
      refine RV.op (OV.step gno (Step.fieldAddr rfl (F73_0 _ _)) rfl ?_)
      (first | refine RV.op (OV.step gno (Step.load Try.underlying22 rfl rfl (fun w h => h.cell 0 rfl rfl)) rfl ?_) | refine RV.op (OV.step gno (Step.load Try.underlying22 rfl rfl (fun w h => (h.os 1 rfl).cell (by first | omega | (simp only [List.length_set]; omega)) rfl)) rfl ?_) | refine RV.op (OV.step gno (Step.load Try.underlying22 rfl rfl (fun w h => (h.os 1 rfl).cell0 (by first | omega | (simp only [List.length_set]; omega)) rfl)) rfl ?_) | refine RV.op (OV.step gno (Step.load Try.underlying22 rfl rfl (fun w h => (h.os 2 rfl).cell (by first | omega | (simp only [List.length_set]; omega)) rfl)) rfl ?_) | refine RV.op (OV.step gno (Step.load Try.underlying22 rfl rfl (fun w h => (h.os 2 rfl).cell0 (by first | omega | (simp only [List.length_set]; omega)) rfl)) rfl ?_) | refine RV.op (OV.step gno (Step.load Try.underlying22 rfl rfl (fun w h => (h.os 3 rfl).cell (by first | omega | (simp only [List.length_set]; omega)) rfl)) rfl ?_) | refine RV.op (OV.step gno (Step.load Try.underlying22 rfl rfl (fun w h => (h.os 3 rfl).cell0 (by first | omega | (simp only [List.length_set]; omega)) rfl)) rfl ?_))
      refine RV.op (OV.step gno (Step.move rfl) rfl ?_)
      (first | refine RV.op (OV.step gno (Step.idx Try.underlying22 I35 (fun w h => h.os 1 rfl) rfl rfl (by first | rfl | omega | (simp only [List.length_set]; omega)) _ rfl (by first | omega | (simp only [List.length_set]; omega))) rfl ?_) | refine RV.op (OV.step gno (Step.idx Try.underlying22 I35 (fun w h => h.os 2 rfl) rfl rfl (by first | rfl | omega | (simp only [List.length_set]; omega)) _ rfl (by first | omega | (simp only [List.length_set]; omega))) rfl ?_) | refine RV.op (OV.step gno (Step.idx Try.underlying22 I35 (fun w h => h.os 3 rfl) rfl rfl (by first | rfl | omega | (simp only [List.length_set]; omega)) _ rfl (by first | omega | (simp only [List.length_set]; omega))) rfl ?_))
      refine RV.op (OV.step gno (Step.fieldAddr rfl (F35_0 _ _)) rfl ?_)
      (first | refine RV.op (OV.step gno (Step.load Try.underlying3 rfl rfl (fun w h => h.cell 0 rfl rfl)) rfl ?_) | refine RV.op (OV.step gno (Step.load Try.underlying3 rfl rfl (fun w h => (h.os 1 rfl).cell (by first | omega | (simp only [List.length_set]; omega)) rfl)) rfl ?_) | refine RV.op (OV.step gno (Step.load Try.underlying3 rfl rfl (fun w h => (h.os 1 rfl).cell0 (by first | omega | (simp only [List.length_set]; omega)) rfl)) rfl ?_) | refine RV.op (OV.step gno (Step.load Try.underlying3 rfl rfl (fun w h => (h.os 2 rfl).cell (by first | omega | (simp only [List.length_set]; omega)) rfl)) rfl ?_) | refine RV.op (OV.step gno (Step.load Try.underlying3 rfl rfl (fun w h => (h.os 2 rfl).cell0 (by first | omega | (simp only [List.length_set]; omega)) rfl)) rfl ?_) | refine RV.op (OV.step gno (Step.load Try.underlying3 rfl rfl (fun w h => (h.os 3 rfl).cell (by first | omega | (simp only [List.length_set]; omega)) rfl)) rfl ?_) | refine RV.op (OV.step gno (Step.load Try.underlying3 rfl rfl (fun w h => (h.os 3 rfl).cell0 (by first | omega | (simp only [List.length_set]; omega)) rfl)) rfl ?_))
      refine RV.op (OV.step gno (Step.assign rfl) rfl ?_)
      refine RV.nil ?_
      refine KV.then_n ?_
      refine KV.env [(0, _), (1, _), (2, _), (3, _), (9, _), (10, _)] ⟨rfl, rfl, rfl, rfl, rfl, rfl, trivial⟩ ?_
      refine CV.seq ?_
      -- region 4 rails.go:105
      refine CV.region ?_
      refine RV.op (OV.step gno (Step.move rfl) rfl ?_)
      refine RV.op (OV.split gno (Step.geq rfl rfl) rfl (fun hs => ?_) (fun hs => ?_))
      · -- True
        refine RV.nil ?_
        refine KV.then_n ?_
        refine KV.env [(0, _), (1, _), (2, _), (3, _), (9, _), (10, _), (37, _)] ⟨rfl, rfl, rfl, rfl, rfl, rfl, rfl, trivial⟩ ?_
        refine CV.cond_t rfl ?_
        refine CV.seq ?_
        -- region 5 rails.go:106
        obtain ⟨s, hs2⟩ := Int.eq_ofNat_of_zero_le hs
        rw [hs2]
        have hg2 := hg i hi s hs2
        refine CV.region ?_
        refine RV.op (OV.step gno (Step.move rfl) rfl ?_)
        refine RV.op (OV.step gno (Step.move rfl) rfl ?_)
        refine RV.op (OV.step gno (Step.move rfl) rfl ?_)
        refine RV.op (OV.step gno (Step.move rfl) rfl ?_)
        refine RV.op (OV.call [0, 0, 0, 0, 0] (F := []) Try.func41 B41 N41 rfl rfl (fun w h => ih s st ops A c w wf hg hg2.1 (by omega) (by omega)) (fun _ hb => hb.elim) gno rfl (fun v L' hp => ?_))
        obtain ⟨A2, c2, rfl, rfl⟩ := hp
        obtain ⟨k1, k2, k3, k4, k5⟩ := addP_keep f st s now ops
        generalize hq : addP f st s now ops = q at *
        obtain ⟨p1, p2⟩ := q
        simp only [] at *
        have kr : p1.rails.length = st.rails.length := by rw [k1]
        refine RV.op (OV.step gno (Step.assign rfl) rfl ?_)
        refine RV.nil ?_
        refine KV.then_n ?_
        refine KV.env [(0, _), (1, _), (3, _), (9, _), (10, _)] ⟨rfl, rfl, rfl, rfl, rfl, trivial⟩ ?_
        -- region 6 rails.go:107
        refine CV.region ?_
        refine RV.op (OV.step gno (Step.move rfl) rfl ?_)
        refine RV.op (OV.step gno (Step.move rfl) rfl ?_)
        refine RV.op (OV.step gno (Step.nilCheck rfl) rfl ?_)
        refine RV.op (OV.step gno (Step.fieldAddr rfl (F73_2 _ _)) rfl ?_)
        (first | refine RV.op (OV.step gno (Step.load Try.underlying43 rfl rfl (fun w h => h.cell 0 rfl rfl)) rfl ?_) | refine RV.op (OV.step gno (Step.load Try.underlying43 rfl rfl (fun w h => (h.os 1 rfl).cell (by first | omega | (simp only [List.length_set]; omega)) rfl)) rfl ?_) | refine RV.op (OV.step gno (Step.load Try.underlying43 rfl rfl (fun w h => (h.os 1 rfl).cell0 (by first | omega | (simp only [List.length_set]; omega)) rfl)) rfl ?_) | refine RV.op (OV.step gno (Step.load Try.underlying43 rfl rfl (fun w h => (h.os 2 rfl).cell (by first | omega | (simp only [List.length_set]; omega)) rfl)) rfl ?_) | refine RV.op (OV.step gno (Step.load Try.underlying43 rfl rfl (fun w h => (h.os 2 rfl).cell0 (by first | omega | (simp only [List.length_set]; omega)) rfl)) rfl ?_) | refine RV.op (OV.step gno (Step.load Try.underlying43 rfl rfl (fun w h => (h.os 3 rfl).cell (by first | omega | (simp only [List.length_set]; omega)) rfl)) rfl ?_) | refine RV.op (OV.step gno (Step.load Try.underlying43 rfl rfl (fun w h => (h.os 3 rfl).cell0 (by first | omega | (simp only [List.length_set]; omega)) rfl)) rfl ?_))
        refine RV.op (OV.step gno (Step.move rfl) rfl ?_)
        (first | refine RV.op (OV.step gno (Step.idx Try.underlying43 I33 (fun w h => h.os 1 rfl) rfl rfl (by first | rfl | omega | (simp only [List.length_set]; omega)) _ rfl (by first | omega | (simp only [List.length_set]; omega))) rfl ?_) | refine RV.op (OV.step gno (Step.idx Try.underlying43 I33 (fun w h => h.os 2 rfl) rfl rfl (by first | rfl | omega | (simp only [List.length_set]; omega)) _ rfl (by first | omega | (simp only [List.length_set]; omega))) rfl ?_) | refine RV.op (OV.step gno (Step.idx Try.underlying43 I33 (fun w h => h.os 3 rfl) rfl rfl (by first | rfl | omega | (simp only [List.length_set]; omega)) _ rfl (by first | omega | (simp only [List.length_set]; omega))) rfl ?_))
        (first | refine RV.op (OV.step gno (Step.load Try.underlying33 rfl rfl (fun w h => h.cell 0 rfl rfl)) rfl ?_) | refine RV.op (OV.step gno (Step.load Try.underlying33 rfl rfl (fun w h => (h.os 1 rfl).cell (by first | omega | (simp only [List.length_set]; omega)) rfl)) rfl ?_) | refine RV.op (OV.step gno (Step.load Try.underlying33 rfl rfl (fun w h => (h.os 1 rfl).cell0 (by first | omega | (simp only [List.length_set]; omega)) rfl)) rfl ?_) | refine RV.op (OV.step gno (Step.load Try.underlying33 rfl rfl (fun w h => (h.os 2 rfl).cell (by first | omega | (simp only [List.length_set]; omega)) rfl)) rfl ?_) | refine RV.op (OV.step gno (Step.load Try.underlying33 rfl rfl (fun w h => (h.os 2 rfl).cell0 (by first | omega | (simp only [List.length_set]; omega)) rfl)) rfl ?_) | refine RV.op (OV.step gno (Step.load Try.underlying33 rfl rfl (fun w h => (h.os 3 rfl).cell (by first | omega | (simp only [List.length_set]; omega)) rfl)) rfl ?_) | refine RV.op (OV.step gno (Step.load Try.underlying33 rfl rfl (fun w h => (h.os 3 rfl).cell0 (by first | omega | (simp only [List.length_set]; omega)) rfl)) rfl ?_))
        refine RV.op (OV.step gno (Step.max2 rfl rfl) rfl ?_)
        refine RV.op (OV.step gno (Step.assign rfl) rfl ?_)
        refine RV.nil ?_
        refine KV.then_n ?_
        refine KV.env [(0, _), (1, _), (3, _), (9, _)] ⟨rfl, rfl, rfl, rfl, trivial⟩ ?_
        refine CV.seq ?_
        -- region 7 rails.go:109
        refine CV.stillTail 16 (by kernel_rfl) (by kernel_rfl) (fun _ h => h.drew) ?_
        refine SV.step gno (Step.move rfl) rfl ?_
        refine SV.step gno (Step.nilCheck rfl) rfl ?_
        refine SV.step gno (Step.fieldAddr rfl (F73_2 _ _)) rfl ?_
        (first | refine SV.step gno (Step.load Try.underlying43 rfl rfl (fun w h => h.cell 0 rfl rfl)) rfl ?_ | refine SV.step gno (Step.load Try.underlying43 rfl rfl (fun w h => (h.os 1 rfl).cell (by first | omega | (simp only [List.length_set]; omega)) rfl)) rfl ?_ | refine SV.step gno (Step.load Try.underlying43 rfl rfl (fun w h => (h.os 1 rfl).cell0 (by first | omega | (simp only [List.length_set]; omega)) rfl)) rfl ?_ | refine SV.step gno (Step.load Try.underlying43 rfl rfl (fun w h => (h.os 2 rfl).cell (by first | omega | (simp only [List.length_set]; omega)) rfl)) rfl ?_ | refine SV.step gno (Step.load Try.underlying43 rfl rfl (fun w h => (h.os 2 rfl).cell0 (by first | omega | (simp only [List.length_set]; omega)) rfl)) rfl ?_ | refine SV.step gno (Step.load Try.underlying43 rfl rfl (fun w h => (h.os 3 rfl).cell (by first | omega | (simp only [List.length_set]; omega)) rfl)) rfl ?_ | refine SV.step gno (Step.load Try.underlying43 rfl rfl (fun w h => (h.os 3 rfl).cell0 (by first | omega | (simp only [List.length_set]; omega)) rfl)) rfl ?_)
        refine SV.step gno (Step.move rfl) rfl ?_
        refine SV.step gno (Step.move rfl) rfl ?_
        refine SV.step gno (Step.move rfl) rfl ?_
        refine SV.step gno (Step.nilCheck rfl) rfl ?_
        refine SV.step gno (Step.fieldAddr rfl (F73_0 _ _)) rfl ?_
        (first | refine SV.step gno (Step.load Try.underlying22 rfl rfl (fun w h => h.cell 0 rfl rfl)) rfl ?_ | refine SV.step gno (Step.load Try.underlying22 rfl rfl (fun w h => (h.os 1 rfl).cell (by first | omega | (simp only [List.length_set]; omega)) rfl)) rfl ?_ | refine SV.step gno (Step.load Try.underlying22 rfl rfl (fun w h => (h.os 1 rfl).cell0 (by first | omega | (simp only [List.length_set]; omega)) rfl)) rfl ?_ | refine SV.step gno (Step.load Try.underlying22 rfl rfl (fun w h => (h.os 2 rfl).cell (by first | omega | (simp only [List.length_set]; omega)) rfl)) rfl ?_ | refine SV.step gno (Step.load Try.underlying22 rfl rfl (fun w h => (h.os 2 rfl).cell0 (by first | omega | (simp only [List.length_set]; omega)) rfl)) rfl ?_ | refine SV.step gno (Step.load Try.underlying22 rfl rfl (fun w h => (h.os 3 rfl).cell (by first | omega | (simp only [List.length_set]; omega)) rfl)) rfl ?_ | refine SV.step gno (Step.load Try.underlying22 rfl rfl (fun w h => (h.os 3 rfl).cell0 (by first | omega | (simp only [List.length_set]; omega)) rfl)) rfl ?_)
        refine SV.step gno (Step.move rfl) rfl ?_
        (first | refine SV.step gno (Step.idx Try.underlying22 I35 (fun w h => h.os 1 rfl) rfl rfl (by first | rfl | omega | (simp only [List.length_set]; omega)) _ rfl (by first | omega | (simp only [List.length_set]; omega))) rfl ?_ | refine SV.step gno (Step.idx Try.underlying22 I35 (fun w h => h.os 2 rfl) rfl rfl (by first | rfl | omega | (simp only [List.length_set]; omega)) _ rfl (by first | omega | (simp only [List.length_set]; omega))) rfl ?_ | refine SV.step gno (Step.idx Try.underlying22 I35 (fun w h => h.os 3 rfl) rfl rfl (by first | rfl | omega | (simp only [List.length_set]; omega)) _ rfl (by first | omega | (simp only [List.length_set]; omega))) rfl ?_)
        refine SV.step gno (Step.fieldAddr rfl (F35_1 _ _)) rfl ?_
        (first | refine SV.step gno (Step.load Try.underlying33 rfl rfl (fun w h => h.cell 0 rfl rfl)) rfl ?_ | refine SV.step gno (Step.load Try.underlying33 rfl rfl (fun w h => (h.os 1 rfl).cell (by first | omega | (simp only [List.length_set]; omega)) rfl)) rfl ?_ | refine SV.step gno (Step.load Try.underlying33 rfl rfl (fun w h => (h.os 1 rfl).cell0 (by first | omega | (simp only [List.length_set]; omega)) rfl)) rfl ?_ | refine SV.step gno (Step.load Try.underlying33 rfl rfl (fun w h => (h.os 2 rfl).cell (by first | omega | (simp only [List.length_set]; omega)) rfl)) rfl ?_ | refine SV.step gno (Step.load Try.underlying33 rfl rfl (fun w h => (h.os 2 rfl).cell0 (by first | omega | (simp only [List.length_set]; omega)) rfl)) rfl ?_ | refine SV.step gno (Step.load Try.underlying33 rfl rfl (fun w h => (h.os 3 rfl).cell (by first | omega | (simp only [List.length_set]; omega)) rfl)) rfl ?_ | refine SV.step gno (Step.load Try.underlying33 rfl rfl (fun w h => (h.os 3 rfl).cell0 (by first | omega | (simp only [List.length_set]; omega)) rfl)) rfl ?_)
        refine SV.step gno (Step.add rfl rfl (rfl)) rfl ?_
        (first | refine SV.step gno (Step.idx Try.underlying43 I33 (fun w h => h.os 1 rfl) rfl rfl (by first | rfl | omega | (simp only [List.length_set]; omega)) _ rfl (by first | omega | (simp only [List.length_set]; omega))) rfl ?_ | refine SV.step gno (Step.idx Try.underlying43 I33 (fun w h => h.os 2 rfl) rfl rfl (by first | rfl | omega | (simp only [List.length_set]; omega)) _ rfl (by first | omega | (simp only [List.length_set]; omega))) rfl ?_ | refine SV.step gno (Step.idx Try.underlying43 I33 (fun w h => h.os 3 rfl) rfl rfl (by first | rfl | omega | (simp only [List.length_set]; omega)) _ rfl (by first | omega | (simp only [List.length_set]; omega))) rfl ?_)
        refine SV.nil ?_
        show KV _ (wpList _ _ _ _) _ _
        refine RV.op (OV.storeE 3 (i) (_) (j := 0) [_] I33 rfl rfl rfl rfl rfl rfl (by first | omega | (simp only [List.length_set]; omega)) rfl (Nat.le_of_ble_eq_true rfl) gno ?_)
        refine RV.nil ?_
        refine KV.then_n ?_
        refine KV.env [(0, _), (1, _), (3, _), (9, _)] ⟨rfl, rfl, rfl, rfl, trivial⟩ ?_
        -- region 8 rails.go:110
        refine CV.region ?_
        refine RV.op (OV.step gno (Step.move rfl) rfl ?_)
        refine RV.op (OV.step gno (Step.move rfl) rfl ?_)
        refine RV.op (OV.step gno (Step.move rfl) rfl ?_)
        refine RV.op (OV.step gno (Step.move rfl) rfl ?_)
        refine RV.op (OV.step gno (Step.nilCheck rfl) rfl ?_)
        refine RV.op (OV.step gno (Step.fieldAddr rfl (F73_2 _ _)) rfl ?_)
        (first | refine RV.op (OV.step gno (Step.load Try.underlying43 rfl rfl (fun w h => h.cell 0 rfl rfl)) rfl ?_) | refine RV.op (OV.step gno (Step.load Try.underlying43 rfl rfl (fun w h => (h.os 1 rfl).cell (by first | omega | (simp only [List.length_set]; omega)) rfl)) rfl ?_) | refine RV.op (OV.step gno (Step.load Try.underlying43 rfl rfl (fun w h => (h.os 1 rfl).cell0 (by first | omega | (simp only [List.length_set]; omega)) rfl)) rfl ?_) | refine RV.op (OV.step gno (Step.load Try.underlying43 rfl rfl (fun w h => (h.os 2 rfl).cell (by first | omega | (simp only [List.length_set]; omega)) rfl)) rfl ?_) | refine RV.op (OV.step gno (Step.load Try.underlying43 rfl rfl (fun w h => (h.os 2 rfl).cell0 (by first | omega | (simp only [List.length_set]; omega)) rfl)) rfl ?_) | refine RV.op (OV.step gno (Step.load Try.underlying43 rfl rfl (fun w h => (h.os 3 rfl).cell (by first | omega | (simp only [List.length_set]; omega)) rfl)) rfl ?_) | refine RV.op (OV.step gno (Step.load Try.underlying43 rfl rfl (fun w h => (h.os 3 rfl).cell0 (by first | omega | (simp only [List.length_set]; omega)) rfl)) rfl ?_))
        refine RV.op (OV.step gno (Step.move rfl) rfl ?_)
        (first | refine RV.op (OV.step gno (Step.idx Try.underlying43 I33 (fun w h => h.os 1 rfl) rfl rfl (by first | rfl | omega | (simp only [List.length_set]; omega)) _ rfl (by first | omega | (simp only [List.length_set]; omega))) rfl ?_) | refine RV.op (OV.step gno (Step.idx Try.underlying43 I33 (fun w h => h.os 2 rfl) rfl rfl (by first | rfl | omega | (simp only [List.length_set]; omega)) _ rfl (by first | omega | (simp only [List.length_set]; omega))) rfl ?_) | refine RV.op (OV.step gno (Step.idx Try.underlying43 I33 (fun w h => h.os 3 rfl) rfl rfl (by first | rfl | omega | (simp only [List.length_set]; omega)) _ rfl (by first | omega | (simp only [List.length_set]; omega))) rfl ?_))
        (first | refine RV.op (OV.step gno (Step.load Try.underlying33 rfl rfl (fun w h => h.cell 0 rfl rfl)) rfl ?_) | refine RV.op (OV.step gno (Step.load Try.underlying33 rfl rfl (fun w h => (h.os 1 rfl).cell (by first | omega | (simp only [List.length_set]; omega)) rfl)) rfl ?_) | refine RV.op (OV.step gno (Step.load Try.underlying33 rfl rfl (fun w h => (h.os 1 rfl).cell0 (by first | omega | (simp only [List.length_set]; omega)) rfl)) rfl ?_) | refine RV.op (OV.step gno (Step.load Try.underlying33 rfl rfl (fun w h => (h.os 2 rfl).cell (by first | omega | (simp only [List.length_set]; omega)) rfl)) rfl ?_) | refine RV.op (OV.step gno (Step.load Try.underlying33 rfl rfl (fun w h => (h.os 2 rfl).cell0 (by first | omega | (simp only [List.length_set]; omega)) rfl)) rfl ?_) | refine RV.op (OV.step gno (Step.load Try.underlying33 rfl rfl (fun w h => (h.os 3 rfl).cell (by first | omega | (simp only [List.length_set]; omega)) rfl)) rfl ?_) | refine RV.op (OV.step gno (Step.load Try.underlying33 rfl rfl (fun w h => (h.os 3 rfl).cell0 (by first | omega | (simp only [List.length_set]; omega)) rfl)) rfl ?_))
        rw [getD_set_self _ _ _ _ (by omega)]
        refine RV.op (OV.step gno (Step.build rfl (Bd45_0_1_2_3 _ _ _ _)) rfl ?_)
        refine RV.op (OV.buildSlice (K := opK) ([⟨_, _, _, _⟩]) rfl (Bs38_1_0 _ _ _ _) rfl rfl (by omega) gno rfl (fun b8_11 => ?_))
        refine RV.op (OV.append 4 Try.underlying38 I45 rfl rfl rfl rfl rfl rfl (fun w h => h.os 5 rfl) (by simp only [List.length_append, List.length_cons, List.length_nil]; omega) (by simp only [List.length_append, List.length_cons, List.length_nil]; omega) gno rfl (fun b8_12a b8_12c => ?_))
        refine KV.sel [0, 0, 0, 0, 0] [_, _, _, _, _] rfl ?_
        refine RV.op (OV.step gno (Step.assign rfl) rfl ?_)
        refine RV.nil ?_
        refine KV.then_n ?_
        refine KV.env [(0, _), (1, _), (3, _)] ⟨rfl, rfl, rfl, trivial⟩ ?_
        refine CV.seq ?_
        -- region 9 rails.go:112
        refine CV.region ?_
        refine RV.op (OV.step gno (Step.move rfl) rfl ?_)
        refine RV.op (OV.step gno (Step.nilCheck rfl) rfl ?_)
        refine RV.op (OV.step gno (Step.fieldAddr rfl (F73_1 _ _)) rfl ?_)
        (first | refine RV.op (OV.step gno (Step.load Try.underlying57 rfl rfl (fun w h => h.cell 0 rfl rfl)) rfl ?_) | refine RV.op (OV.step gno (Step.load Try.underlying57 rfl rfl (fun w h => (h.os 1 rfl).cell (by first | omega | (simp only [List.length_set]; omega)) rfl)) rfl ?_) | refine RV.op (OV.step gno (Step.load Try.underlying57 rfl rfl (fun w h => (h.os 1 rfl).cell0 (by first | omega | (simp only [List.length_set]; omega)) rfl)) rfl ?_) | refine RV.op (OV.step gno (Step.load Try.underlying57 rfl rfl (fun w h => (h.os 2 rfl).cell (by first | omega | (simp only [List.length_set]; omega)) rfl)) rfl ?_) | refine RV.op (OV.step gno (Step.load Try.underlying57 rfl rfl (fun w h => (h.os 2 rfl).cell0 (by first | omega | (simp only [List.length_set]; omega)) rfl)) rfl ?_) | refine RV.op (OV.step gno (Step.load Try.underlying57 rfl rfl (fun w h => (h.os 3 rfl).cell (by first | omega | (simp only [List.length_set]; omega)) rfl)) rfl ?_) | refine RV.op (OV.step gno (Step.load Try.underlying57 rfl rfl (fun w h => (h.os 3 rfl).cell0 (by first | omega | (simp only [List.length_set]; omega)) rfl)) rfl ?_))
        refine RV.op (OV.step gno (Step.move rfl) rfl ?_)
        (first | refine RV.op (OV.step gno (Step.idx Try.underlying57 I3 (fun w h => h.os 1 rfl) rfl rfl (by first | rfl | omega | (simp only [List.length_set]; omega)) _ rfl (by first | omega | (simp only [List.length_set]; omega))) rfl ?_) | refine RV.op (OV.step gno (Step.idx Try.underlying57 I3 (fun w h => h.os 2 rfl) rfl rfl (by first | rfl | omega | (simp only [List.length_set]; omega)) _ rfl (by first | omega | (simp only [List.length_set]; omega))) rfl ?_) | refine RV.op (OV.step gno (Step.idx Try.underlying57 I3 (fun w h => h.os 3 rfl) rfl rfl (by first | rfl | omega | (simp only [List.length_set]; omega)) _ rfl (by first | omega | (simp only [List.length_set]; omega))) rfl ?_))
        (first | refine RV.op (OV.step gno (Step.load Try.underlying3 rfl rfl (fun w h => h.cell 0 rfl rfl)) rfl ?_) | refine RV.op (OV.step gno (Step.load Try.underlying3 rfl rfl (fun w h => (h.os 1 rfl).cell (by first | omega | (simp only [List.length_set]; omega)) rfl)) rfl ?_) | refine RV.op (OV.step gno (Step.load Try.underlying3 rfl rfl (fun w h => (h.os 1 rfl).cell0 (by first | omega | (simp only [List.length_set]; omega)) rfl)) rfl ?_) | refine RV.op (OV.step gno (Step.load Try.underlying3 rfl rfl (fun w h => (h.os 2 rfl).cell (by first | omega | (simp only [List.length_set]; omega)) rfl)) rfl ?_) | refine RV.op (OV.step gno (Step.load Try.underlying3 rfl rfl (fun w h => (h.os 2 rfl).cell0 (by first | omega | (simp only [List.length_set]; omega)) rfl)) rfl ?_) | refine RV.op (OV.step gno (Step.load Try.underlying3 rfl rfl (fun w h => (h.os 3 rfl).cell (by first | omega | (simp only [List.length_set]; omega)) rfl)) rfl ?_) | refine RV.op (OV.step gno (Step.load Try.underlying3 rfl rfl (fun w h => (h.os 3 rfl).cell0 (by first | omega | (simp only [List.length_set]; omega)) rfl)) rfl ?_))
        refine RV.op (OV.step gno (Step.add rfl rfl (rfl)) rfl ?_)
        (first | refine RV.op (OV.step gno (Step.idx Try.underlying57 I3 (fun w h => h.os 1 rfl) rfl rfl (by first | rfl | omega | (simp only [List.length_set]; omega)) _ rfl (by first | omega | (simp only [List.length_set]; omega))) rfl ?_) | refine RV.op (OV.step gno (Step.idx Try.underlying57 I3 (fun w h => h.os 2 rfl) rfl rfl (by first | rfl | omega | (simp only [List.length_set]; omega)) _ rfl (by first | omega | (simp only [List.length_set]; omega))) rfl ?_) | refine RV.op (OV.step gno (Step.idx Try.underlying57 I3 (fun w h => h.os 3 rfl) rfl rfl (by first | rfl | omega | (simp only [List.length_set]; omega)) _ rfl (by first | omega | (simp only [List.length_set]; omega))) rfl ?_))
        refine RV.op (OV.storeE 2 (i) (_) (j := 0) [_] I3 rfl rfl rfl rfl rfl rfl (by first | omega | (simp only [List.length_set]; omega)) rfl (Nat.le_of_ble_eq_true rfl) gno ?_)
        refine RV.nil ?_
        refine KV.then_n ?_
        refine KV.env [(3, _)] ⟨rfl, trivial⟩ ?_
        refine CV.seq ?_
        -- region 10 rails.go:113
        refine CV.region ?_
        refine RV.op (OV.step gno (Step.move rfl) rfl ?_)
        refine RV.op (OV.step gno (Step.assign rfl) rfl ?_)
        refine RV.nil ?_
        refine KV.then_n ?_
        refine KV.env [(8, _)] ⟨rfl, trivial⟩ ?_
        refine CV.ret ?_
        -- return at r10
        first | rw [addP_sup hc hs2 hq] | rw [addP_neg hc hs] | rw [addP_pos hc]
        exact KV.ret1 rfl rfl _ (fun _ h => h) ⟨_, _, rfl, rfl⟩
      · -- False
        refine RV.nil ?_
        refine KV.then_n ?_
        refine KV.env [(0, _), (1, _), (2, _), (3, _), (9, _), (10, _), (37, _)] ⟨rfl, rfl, rfl, rfl, rfl, rfl, rfl, trivial⟩ ?_
        refine CV.cond_f rfl ?_
        refine CV.skip ?_
        refine KV.then_n ?_
        refine KV.env [(0, _), (1, _), (3, _), (9, _)] ⟨rfl, rfl, rfl, rfl, trivial⟩ ?_
        refine CV.seq ?_
        -- region 7 rails.go:109
        refine CV.stillTail 16 (by kernel_rfl) (by kernel_rfl) (fun _ h => h.drew) ?_
        refine SV.step gno (Step.move rfl) rfl ?_
        refine SV.step gno (Step.nilCheck rfl) rfl ?_
        refine SV.step gno (Step.fieldAddr rfl (F73_2 _ _)) rfl ?_
        (first | refine SV.step gno (Step.load Try.underlying43 rfl rfl (fun w h => h.cell 0 rfl rfl)) rfl ?_ | refine SV.step gno (Step.load Try.underlying43 rfl rfl (fun w h => (h.os 1 rfl).cell (by first | omega | (simp only [List.length_set]; omega)) rfl)) rfl ?_ | refine SV.step gno (Step.load Try.underlying43 rfl rfl (fun w h => (h.os 1 rfl).cell0 (by first | omega | (simp only [List.length_set]; omega)) rfl)) rfl ?_ | refine SV.step gno (Step.load Try.underlying43 rfl rfl (fun w h => (h.os 2 rfl).cell (by first | omega | (simp only [List.length_set]; omega)) rfl)) rfl ?_ | refine SV.step gno (Step.load Try.underlying43 rfl rfl (fun w h => (h.os 2 rfl).cell0 (by first | omega | (simp only [List.length_set]; omega)) rfl)) rfl ?_ | refine SV.step gno (Step.load Try.underlying43 rfl rfl (fun w h => (h.os 3 rfl).cell (by first | omega | (simp only [List.length_set]; omega)) rfl)) rfl ?_ | refine SV.step gno (Step.load Try.underlying43 rfl rfl (fun w h => (h.os 3 rfl).cell0 (by first | omega | (simp only [List.length_set]; omega)) rfl)) rfl ?_)
        refine SV.step gno (Step.move rfl) rfl ?_
        refine SV.step gno (Step.move rfl) rfl ?_
        refine SV.step gno (Step.move rfl) rfl ?_
        refine SV.step gno (Step.nilCheck rfl) rfl ?_
        refine SV.step gno (Step.fieldAddr rfl (F73_0 _ _)) rfl ?_
        (first | refine SV.step gno (Step.load Try.underlying22 rfl rfl (fun w h => h.cell 0 rfl rfl)) rfl ?_ | refine SV.step gno (Step.load Try.underlying22 rfl rfl (fun w h => (h.os 1 rfl).cell (by first | omega | (simp only [List.length_set]; omega)) rfl)) rfl ?_ | refine SV.step gno (Step.load Try.underlying22 rfl rfl (fun w h => (h.os 1 rfl).cell0 (by first | omega | (simp only [List.length_set]; omega)) rfl)) rfl ?_ | refine SV.step gno (Step.load Try.underlying22 rfl rfl (fun w h => (h.os 2 rfl).cell (by first | omega | (simp only [List.length_set]; omega)) rfl)) rfl ?_ | refine SV.step gno (Step.load Try.underlying22 rfl rfl (fun w h => (h.os 2 rfl).cell0 (by first | omega | (simp only [List.length_set]; omega)) rfl)) rfl ?_ | refine SV.step gno (Step.load Try.underlying22 rfl rfl (fun w h => (h.os 3 rfl).cell (by first | omega | (simp only [List.length_set]; omega)) rfl)) rfl ?_ | refine SV.step gno (Step.load Try.underlying22 rfl rfl (fun w h => (h.os 3 rfl).cell0 (by first | omega | (simp only [List.length_set]; omega)) rfl)) rfl ?_)
        refine SV.step gno (Step.move rfl) rfl ?_
        (first | refine SV.step gno (Step.idx Try.underlying22 I35 (fun w h => h.os 1 rfl) rfl rfl (by first | rfl | omega | (simp only [List.length_set]; omega)) _ rfl (by first | omega | (simp only [List.length_set]; omega))) rfl ?_ | refine SV.step gno (Step.idx Try.underlying22 I35 (fun w h => h.os 2 rfl) rfl rfl (by first | rfl | omega | (simp only [List.length_set]; omega)) _ rfl (by first | omega | (simp only [List.length_set]; omega))) rfl ?_ | refine SV.step gno (Step.idx Try.underlying22 I35 (fun w h => h.os 3 rfl) rfl rfl (by first | rfl | omega | (simp only [List.length_set]; omega)) _ rfl (by first | omega | (simp only [List.length_set]; omega))) rfl ?_)
        refine SV.step gno (Step.fieldAddr rfl (F35_1 _ _)) rfl ?_
        (first | refine SV.step gno (Step.load Try.underlying33 rfl rfl (fun w h => h.cell 0 rfl rfl)) rfl ?_ | refine SV.step gno (Step.load Try.underlying33 rfl rfl (fun w h => (h.os 1 rfl).cell (by first | omega | (simp only [List.length_set]; omega)) rfl)) rfl ?_ | refine SV.step gno (Step.load Try.underlying33 rfl rfl (fun w h => (h.os 1 rfl).cell0 (by first | omega | (simp only [List.length_set]; omega)) rfl)) rfl ?_ | refine SV.step gno (Step.load Try.underlying33 rfl rfl (fun w h => (h.os 2 rfl).cell (by first | omega | (simp only [List.length_set]; omega)) rfl)) rfl ?_ | refine SV.step gno (Step.load Try.underlying33 rfl rfl (fun w h => (h.os 2 rfl).cell0 (by first | omega | (simp only [List.length_set]; omega)) rfl)) rfl ?_ | refine SV.step gno (Step.load Try.underlying33 rfl rfl (fun w h => (h.os 3 rfl).cell (by first | omega | (simp only [List.length_set]; omega)) rfl)) rfl ?_ | refine SV.step gno (Step.load Try.underlying33 rfl rfl (fun w h => (h.os 3 rfl).cell0 (by first | omega | (simp only [List.length_set]; omega)) rfl)) rfl ?_)
        refine SV.step gno (Step.add rfl rfl (rfl)) rfl ?_
        (first | refine SV.step gno (Step.idx Try.underlying43 I33 (fun w h => h.os 1 rfl) rfl rfl (by first | rfl | omega | (simp only [List.length_set]; omega)) _ rfl (by first | omega | (simp only [List.length_set]; omega))) rfl ?_ | refine SV.step gno (Step.idx Try.underlying43 I33 (fun w h => h.os 2 rfl) rfl rfl (by first | rfl | omega | (simp only [List.length_set]; omega)) _ rfl (by first | omega | (simp only [List.length_set]; omega))) rfl ?_ | refine SV.step gno (Step.idx Try.underlying43 I33 (fun w h => h.os 3 rfl) rfl rfl (by first | rfl | omega | (simp only [List.length_set]; omega)) _ rfl (by first | omega | (simp only [List.length_set]; omega))) rfl ?_)
        refine SV.nil ?_
        show KV _ (wpList _ _ _ _) _ _
        refine RV.op (OV.storeE 3 (i) (_) (j := 0) [_] I33 rfl rfl rfl rfl rfl rfl (by first | omega | (simp only [List.length_set]; omega)) rfl (Nat.le_of_ble_eq_true rfl) gno ?_)
        refine RV.nil ?_
        refine KV.then_n ?_
        refine KV.env [(0, _), (1, _), (3, _), (9, _)] ⟨rfl, rfl, rfl, rfl, trivial⟩ ?_
        -- region 8 rails.go:110
        refine CV.region ?_
        refine RV.op (OV.step gno (Step.move rfl) rfl ?_)
        refine RV.op (OV.step gno (Step.move rfl) rfl ?_)
        refine RV.op (OV.step gno (Step.move rfl) rfl ?_)
        refine RV.op (OV.step gno (Step.move rfl) rfl ?_)
        refine RV.op (OV.step gno (Step.nilCheck rfl) rfl ?_)
        refine RV.op (OV.step gno (Step.fieldAddr rfl (F73_2 _ _)) rfl ?_)
        (first | refine RV.op (OV.step gno (Step.load Try.underlying43 rfl rfl (fun w h => h.cell 0 rfl rfl)) rfl ?_) | refine RV.op (OV.step gno (Step.load Try.underlying43 rfl rfl (fun w h => (h.os 1 rfl).cell (by first | omega | (simp only [List.length_set]; omega)) rfl)) rfl ?_) | refine RV.op (OV.step gno (Step.load Try.underlying43 rfl rfl (fun w h => (h.os 1 rfl).cell0 (by first | omega | (simp only [List.length_set]; omega)) rfl)) rfl ?_) | refine RV.op (OV.step gno (Step.load Try.underlying43 rfl rfl (fun w h => (h.os 2 rfl).cell (by first | omega | (simp only [List.length_set]; omega)) rfl)) rfl ?_) | refine RV.op (OV.step gno (Step.load Try.underlying43 rfl rfl (fun w h => (h.os 2 rfl).cell0 (by first | omega | (simp only [List.length_set]; omega)) rfl)) rfl ?_) | refine RV.op (OV.step gno (Step.load Try.underlying43 rfl rfl (fun w h => (h.os 3 rfl).cell (by first | omega | (simp only [List.length_set]; omega)) rfl)) rfl ?_) | refine RV.op (OV.step gno (Step.load Try.underlying43 rfl rfl (fun w h => (h.os 3 rfl).cell0 (by first | omega | (simp only [List.length_set]; omega)) rfl)) rfl ?_))
        refine RV.op (OV.step gno (Step.move rfl) rfl ?_)
        (first | refine RV.op (OV.step gno (Step.idx Try.underlying43 I33 (fun w h => h.os 1 rfl) rfl rfl (by first | rfl | omega | (simp only [List.length_set]; omega)) _ rfl (by first | omega | (simp only [List.length_set]; omega))) rfl ?_) | refine RV.op (OV.step gno (Step.idx Try.underlying43 I33 (fun w h => h.os 2 rfl) rfl rfl (by first | rfl | omega | (simp only [List.length_set]; omega)) _ rfl (by first | omega | (simp only [List.length_set]; omega))) rfl ?_) | refine RV.op (OV.step gno (Step.idx Try.underlying43 I33 (fun w h => h.os 3 rfl) rfl rfl (by first | rfl | omega | (simp only [List.length_set]; omega)) _ rfl (by first | omega | (simp only [List.length_set]; omega))) rfl ?_))
        (first | refine RV.op (OV.step gno (Step.load Try.underlying33 rfl rfl (fun w h => h.cell 0 rfl rfl)) rfl ?_) | refine RV.op (OV.step gno (Step.load Try.underlying33 rfl rfl (fun w h => (h.os 1 rfl).cell (by first | omega | (simp only [List.length_set]; omega)) rfl)) rfl ?_) | refine RV.op (OV.step gno (Step.load Try.underlying33 rfl rfl (fun w h => (h.os 1 rfl).cell0 (by first | omega | (simp only [List.length_set]; omega)) rfl)) rfl ?_) | refine RV.op (OV.step gno (Step.load Try.underlying33 rfl rfl (fun w h => (h.os 2 rfl).cell (by first | omega | (simp only [List.length_set]; omega)) rfl)) rfl ?_) | refine RV.op (OV.step gno (Step.load Try.underlying33 rfl rfl (fun w h => (h.os 2 rfl).cell0 (by first | omega | (simp only [List.length_set]; omega)) rfl)) rfl ?_) | refine RV.op (OV.step gno (Step.load Try.underlying33 rfl rfl (fun w h => (h.os 3 rfl).cell (by first | omega | (simp only [List.length_set]; omega)) rfl)) rfl ?_) | refine RV.op (OV.step gno (Step.load Try.underlying33 rfl rfl (fun w h => (h.os 3 rfl).cell0 (by first | omega | (simp only [List.length_set]; omega)) rfl)) rfl ?_))
        rw [getD_set_self _ _ _ _ (by omega)]
        refine RV.op (OV.step gno (Step.build rfl (Bd45_0_1_2_3 _ _ _ _)) rfl ?_)
        refine RV.op (OV.buildSlice (K := opK) ([⟨_, _, _, _⟩]) rfl (Bs38_1_0 _ _ _ _) rfl rfl (by omega) gno rfl (fun b8_11 => ?_))
        refine RV.op (OV.append 4 Try.underlying38 I45 rfl rfl rfl rfl rfl rfl (fun w h => h.os 5 rfl) (by simp only [List.length_append, List.length_cons, List.length_nil]; omega) (by simp only [List.length_append, List.length_cons, List.length_nil]; omega) gno rfl (fun b8_12a b8_12c => ?_))
        refine KV.sel [0, 0, 0, 0, 0] [_, _, _, _, _] rfl ?_
        refine RV.op (OV.step gno (Step.assign rfl) rfl ?_)
        refine RV.nil ?_
        refine KV.then_n ?_
        refine KV.env [(0, _), (1, _), (3, _)] ⟨rfl, rfl, rfl, trivial⟩ ?_
        refine CV.seq ?_
        -- region 9 rails.go:112
        refine CV.region ?_
        refine RV.op (OV.step gno (Step.move rfl) rfl ?_)
        refine RV.op (OV.step gno (Step.nilCheck rfl) rfl ?_)
        refine RV.op (OV.step gno (Step.fieldAddr rfl (F73_1 _ _)) rfl ?_)
        (first | refine RV.op (OV.step gno (Step.load Try.underlying57 rfl rfl (fun w h => h.cell 0 rfl rfl)) rfl ?_) | refine RV.op (OV.step gno (Step.load Try.underlying57 rfl rfl (fun w h => (h.os 1 rfl).cell (by first | omega | (simp only [List.length_set]; omega)) rfl)) rfl ?_) | refine RV.op (OV.step gno (Step.load Try.underlying57 rfl rfl (fun w h => (h.os 1 rfl).cell0 (by first | omega | (simp only [List.length_set]; omega)) rfl)) rfl ?_) | refine RV.op (OV.step gno (Step.load Try.underlying57 rfl rfl (fun w h => (h.os 2 rfl).cell (by first | omega | (simp only [List.length_set]; omega)) rfl)) rfl ?_) | refine RV.op (OV.step gno (Step.load Try.underlying57 rfl rfl (fun w h => (h.os 2 rfl).cell0 (by first | omega | (simp only [List.length_set]; omega)) rfl)) rfl ?_) | refine RV.op (OV.step gno (Step.load Try.underlying57 rfl rfl (fun w h => (h.os 3 rfl).cell (by first | omega | (simp only [List.length_set]; omega)) rfl)) rfl ?_) | refine RV.op (OV.step gno (Step.load Try.underlying57 rfl rfl (fun w h => (h.os 3 rfl).cell0 (by first | omega | (simp only [List.length_set]; omega)) rfl)) rfl ?_))
        refine RV.op (OV.step gno (Step.move rfl) rfl ?_)
        (first | refine RV.op (OV.step gno (Step.idx Try.underlying57 I3 (fun w h => h.os 1 rfl) rfl rfl (by first | rfl | omega | (simp only [List.length_set]; omega)) _ rfl (by first | omega | (simp only [List.length_set]; omega))) rfl ?_) | refine RV.op (OV.step gno (Step.idx Try.underlying57 I3 (fun w h => h.os 2 rfl) rfl rfl (by first | rfl | omega | (simp only [List.length_set]; omega)) _ rfl (by first | omega | (simp only [List.length_set]; omega))) rfl ?_) | refine RV.op (OV.step gno (Step.idx Try.underlying57 I3 (fun w h => h.os 3 rfl) rfl rfl (by first | rfl | omega | (simp only [List.length_set]; omega)) _ rfl (by first | omega | (simp only [List.length_set]; omega))) rfl ?_))
        (first | refine RV.op (OV.step gno (Step.load Try.underlying3 rfl rfl (fun w h => h.cell 0 rfl rfl)) rfl ?_) | refine RV.op (OV.step gno (Step.load Try.underlying3 rfl rfl (fun w h => (h.os 1 rfl).cell (by first | omega | (simp only [List.length_set]; omega)) rfl)) rfl ?_) | refine RV.op (OV.step gno (Step.load Try.underlying3 rfl rfl (fun w h => (h.os 1 rfl).cell0 (by first | omega | (simp only [List.length_set]; omega)) rfl)) rfl ?_) | refine RV.op (OV.step gno (Step.load Try.underlying3 rfl rfl (fun w h => (h.os 2 rfl).cell (by first | omega | (simp only [List.length_set]; omega)) rfl)) rfl ?_) | refine RV.op (OV.step gno (Step.load Try.underlying3 rfl rfl (fun w h => (h.os 2 rfl).cell0 (by first | omega | (simp only [List.length_set]; omega)) rfl)) rfl ?_) | refine RV.op (OV.step gno (Step.load Try.underlying3 rfl rfl (fun w h => (h.os 3 rfl).cell (by first | omega | (simp only [List.length_set]; omega)) rfl)) rfl ?_) | refine RV.op (OV.step gno (Step.load Try.underlying3 rfl rfl (fun w h => (h.os 3 rfl).cell0 (by first | omega | (simp only [List.length_set]; omega)) rfl)) rfl ?_))
        refine RV.op (OV.step gno (Step.add rfl rfl (rfl)) rfl ?_)
        (first | refine RV.op (OV.step gno (Step.idx Try.underlying57 I3 (fun w h => h.os 1 rfl) rfl rfl (by first | rfl | omega | (simp only [List.length_set]; omega)) _ rfl (by first | omega | (simp only [List.length_set]; omega))) rfl ?_) | refine RV.op (OV.step gno (Step.idx Try.underlying57 I3 (fun w h => h.os 2 rfl) rfl rfl (by first | rfl | omega | (simp only [List.length_set]; omega)) _ rfl (by first | omega | (simp only [List.length_set]; omega))) rfl ?_) | refine RV.op (OV.step gno (Step.idx Try.underlying57 I3 (fun w h => h.os 3 rfl) rfl rfl (by first | rfl | omega | (simp only [List.length_set]; omega)) _ rfl (by first | omega | (simp only [List.length_set]; omega))) rfl ?_))
        refine RV.op (OV.storeE 2 (i) (_) (j := 0) [_] I3 rfl rfl rfl rfl rfl rfl (by first | omega | (simp only [List.length_set]; omega)) rfl (Nat.le_of_ble_eq_true rfl) gno ?_)
        refine RV.nil ?_
        refine KV.then_n ?_
        refine KV.env [(3, _)] ⟨rfl, trivial⟩ ?_
        refine CV.seq ?_
        -- region 10 rails.go:113
        refine CV.region ?_
        refine RV.op (OV.step gno (Step.move rfl) rfl ?_)
        refine RV.op (OV.step gno (Step.assign rfl) rfl ?_)
        refine RV.nil ?_
        refine KV.then_n ?_
        refine KV.env [(8, _)] ⟨rfl, trivial⟩ ?_
        refine CV.ret ?_
        -- return at r10
        first | rw [addP_sup hc hs2 hq] | rw [addP_neg hc hs] | rw [addP_pos hc]
        exact KV.ret1 rfl rfl _ (fun _ h => h) ⟨_, _, rfl, rfl⟩
    · -- False
      refine RV.nil ?_
      refine KV.then_n ?_
      refine KV.env [(0, _), (1, _), (2, _), (3, _), (18, _)] ⟨rfl, rfl, rfl, rfl, rfl, trivial⟩ ?_
      refine CV.cond_f rfl ?_
      refine CV.skip ?_
      refine KV.then_n ?_
      refine KV.env [(0, _), (1, _), (3, _)] ⟨rfl, rfl, rfl, trivial⟩ ?_
      refine CV.seq ?_
      -- region 9 rails.go:112
      refine CV.region ?_
      refine RV.op (OV.step gno (Step.move rfl) rfl ?_)
      refine RV.op (OV.step gno (Step.nilCheck rfl) rfl ?_)
      refine RV.op (OV.step gno (Step.fieldAddr rfl (F73_1 _ _)) rfl ?_)
      (first | refine RV.op (OV.step gno (Step.load Try.underlying57 rfl rfl (fun w h => h.cell 0 rfl rfl)) rfl ?_) | refine RV.op (OV.step gno (Step.load Try.underlying57 rfl rfl (fun w h => (h.os 1 rfl).cell (by first | omega | (simp only [List.length_set]; omega)) rfl)) rfl ?_) | refine RV.op (OV.step gno (Step.load Try.underlying57 rfl rfl (fun w h => (h.os 1 rfl).cell0 (by first | omega | (simp only [List.length_set]; omega)) rfl)) rfl ?_) | refine RV.op (OV.step gno (Step.load Try.underlying57 rfl rfl (fun w h => (h.os 2 rfl).cell (by first | omega | (simp only [List.length_set]; omega)) rfl)) rfl ?_) | refine RV.op (OV.step gno (Step.load Try.underlying57 rfl rfl (fun w h => (h.os 2 rfl).cell0 (by first | omega | (simp only [List.length_set]; omega)) rfl)) rfl ?_) | refine RV.op (OV.step gno (Step.load Try.underlying57 rfl rfl (fun w h => (h.os 3 rfl).cell (by first | omega | (simp only [List.length_set]; omega)) rfl)) rfl ?_) | refine RV.op (OV.step gno (Step.load Try.underlying57 rfl rfl (fun w h => (h.os 3 rfl).cell0 (by first | omega | (simp only [List.length_set]; omega)) rfl)) rfl ?_))
      refine RV.op (OV.step gno (Step.move rfl) rfl ?_)
      (first | refine RV.op (OV.step gno (Step.idx Try.underlying57 I3 (fun w h => h.os 1 rfl) rfl rfl (by first | rfl | omega | (simp only [List.length_set]; omega)) _ rfl (by first | omega | (simp only [List.length_set]; omega))) rfl ?_) | refine RV.op (OV.step gno (Step.idx Try.underlying57 I3 (fun w h => h.os 2 rfl) rfl rfl (by first | rfl | omega | (simp only [List.length_set]; omega)) _ rfl (by first | omega | (simp only [List.length_set]; omega))) rfl ?_) | refine RV.op (OV.step gno (Step.idx Try.underlying57 I3 (fun w h => h.os 3 rfl) rfl rfl (by first | rfl | omega | (simp only [List.length_set]; omega)) _ rfl (by first | omega | (simp only [List.length_set]; omega))) rfl ?_))
      (first | refine RV.op (OV.step gno (Step.load Try.underlying3 rfl rfl (fun w h => h.cell 0 rfl rfl)) rfl ?_) | refine RV.op (OV.step gno (Step.load Try.underlying3 rfl rfl (fun w h => (h.os 1 rfl).cell (by first | omega | (simp only [List.length_set]; omega)) rfl)) rfl ?_) | refine RV.op (OV.step gno (Step.load Try.underlying3 rfl rfl (fun w h => (h.os 1 rfl).cell0 (by first | omega | (simp only [List.length_set]; omega)) rfl)) rfl ?_) | refine RV.op (OV.step gno (Step.load Try.underlying3 rfl rfl (fun w h => (h.os 2 rfl).cell (by first | omega | (simp only [List.length_set]; omega)) rfl)) rfl ?_) | refine RV.op (OV.step gno (Step.load Try.underlying3 rfl rfl (fun w h => (h.os 2 rfl).cell0 (by first | omega | (simp only [List.length_set]; omega)) rfl)) rfl ?_) | refine RV.op (OV.step gno (Step.load Try.underlying3 rfl rfl (fun w h => (h.os 3 rfl).cell (by first | omega | (simp only [List.length_set]; omega)) rfl)) rfl ?_) | refine RV.op (OV.step gno (Step.load Try.underlying3 rfl rfl (fun w h => (h.os 3 rfl).cell0 (by first | omega | (simp only [List.length_set]; omega)) rfl)) rfl ?_))
      refine RV.op (OV.step gno (Step.add rfl rfl (rfl)) rfl ?_)
      (first | refine RV.op (OV.step gno (Step.idx Try.underlying57 I3 (fun w h => h.os 1 rfl) rfl rfl (by first | rfl | omega | (simp only [List.length_set]; omega)) _ rfl (by first | omega | (simp only [List.length_set]; omega))) rfl ?_) | refine RV.op (OV.step gno (Step.idx Try.underlying57 I3 (fun w h => h.os 2 rfl) rfl rfl (by first | rfl | omega | (simp only [List.length_set]; omega)) _ rfl (by first | omega | (simp only [List.length_set]; omega))) rfl ?_) | refine RV.op (OV.step gno (Step.idx Try.underlying57 I3 (fun w h => h.os 3 rfl) rfl rfl (by first | rfl | omega | (simp only [List.length_set]; omega)) _ rfl (by first | omega | (simp only [List.length_set]; omega))) rfl ?_))
      refine RV.op (OV.storeE 2 (i) (_) (j := 0) [_] I3 rfl rfl rfl rfl rfl rfl (by first | omega | (simp only [List.length_set]; omega)) rfl (Nat.le_of_ble_eq_true rfl) gno ?_)
      refine RV.nil ?_
      refine KV.then_n ?_
      refine KV.env [(3, _)] ⟨rfl, trivial⟩ ?_
      refine CV.seq ?_
      -- region 10 rails.go:113
      refine CV.region ?_
      refine RV.op (OV.step gno (Step.move rfl) rfl ?_)
      refine RV.op (OV.step gno (Step.assign rfl) rfl ?_)
      refine RV.nil ?_
      refine KV.then_n ?_
      refine KV.env [(8, _)] ⟨rfl, trivial⟩ ?_
      refine CV.ret ?_
      -- return at r10
      first | rw [addP_sup hc hs2 hq] | rw [addP_neg hc hs] | rw [addP_pos hc]
      exact KV.ret1 rfl rfl _ (fun _ h => h) ⟨_, _, rfl, rfl⟩

set_option maxRecDepth 100000 in
set_option maxHeartbeats 1000000 in
theorem remove_fn (b : Nat) (a : RA) (rk : Nat → Nat) (now : Int) (f : Nat) : ∀ (i : Nat) (st : St) (ops : List ROp) (A : Option Addr) (c : Nat) (w : World), st.wf → Acy st.rails rk → i < st.rails.length → rk i < f → ops.length + f ≤ 1000000 → Fx Try.prog 42 [.pointer (some ⟨b, 0, none⟩), .int .i64 i, .int .u64 now, .slice A ops.length c] w (robj 73 b a st ++ [OS 45 opK A c ops]) no (fun v L => ∃ A2 c2, v = .slice A2 (remP f st i now ops).2.length c2 ∧ L = robj 73 b a (remP f st i now ops).1 ++ [OS 45 opK A2 c2 (remP f st i now ops).2]) := by
  induction f with
  | zero => intro i st ops A c w _ _ _ hf; omega
  | succ f ih =>
    intro i st ops A c w wf hg hi hf hops
    have wc := wf.count
    have wd := wf.done
    refine Sv.Fx.body Try.func42 rfl T42 rfl ?_
    intro I hro hI
    refine KV.env [(0, _), (1, _), (2, _), (3, _)] ⟨rfl, rfl, rfl, rfl, trivial⟩ ?_
    refine CV.seq ?_
    -- region 0 rails.go:117
    refine CV.region ?_
    refine RV.op (OV.step gno (Step.assign rfl) rfl ?_)
    refine RV.nil ?_
    refine KV.then_n ?_
    refine KV.env [(0, _), (1, _), (2, _), (3, _)] ⟨rfl, rfl, rfl, rfl, trivial⟩ ?_
    refine CV.seq ?_
    -- region 1 rails.go:118
    refine CV.region ?_
    refine RV.op (OV.step gno (Step.move rfl) rfl ?_)
    refine RV.op (OV.step gno (Step.nilCheck rfl) rfl ?_)
    refine RV.op (OV.step gno (Step.fieldAddr rfl (F73_1 _ _)) rfl ?_)
    (first | refine RV.op (OV.step gno (Step.load Try.underlying57 rfl rfl (fun w h => h.cell 0 rfl rfl)) rfl ?_) | refine RV.op (OV.step gno (Step.load Try.underlying57 rfl rfl (fun w h => h.cell 5 rfl rfl)) rfl ?_) | refine RV.op (OV.step gno (Step.load Try.underlying57 rfl rfl (fun w h => (h.os 1 rfl).cell (by first | omega | (simp only [List.length_set]; omega)) rfl)) rfl ?_) | refine RV.op (OV.step gno (Step.load Try.underlying57 rfl rfl (fun w h => (h.os 1 rfl).cell0 (by first | omega | (simp only [List.length_set]; omega)) rfl)) rfl ?_) | refine RV.op (OV.step gno (Step.load Try.underlying57 rfl rfl (fun w h => (h.os 2 rfl).cell (by first | omega | (simp only [List.length_set]; omega)) rfl)) rfl ?_) | refine RV.op (OV.step gno (Step.load Try.underlying57 rfl rfl (fun w h => (h.os 2 rfl).cell0 (by first | omega | (simp only [List.length_set]; omega)) rfl)) rfl ?_) | refine RV.op (OV.step gno (Step.load Try.underlying57 rfl rfl (fun w h => (h.os 3 rfl).cell (by first | omega | (simp only [List.length_set]; omega)) rfl)) rfl ?_) | refine RV.op (OV.step gno (Step.load Try.underlying57 rfl rfl (fun w h => (h.os 3 rfl).cell0 (by first | omega | (simp only [List.length_set]; omega)) rfl)) rfl ?_))
    refine RV.op (OV.step gno (Step.move rfl) rfl ?_)
    (first | refine RV.op (OV.step gno (Step.idx Try.underlying57 I3 (fun w h => h.os 1 rfl) rfl rfl (by first | rfl | omega | (simp only [List.length_set]; omega)) _ rfl (by first | omega | (simp only [List.length_set]; omega))) rfl ?_) | refine RV.op (OV.step gno (Step.idx Try.underlying57 I3 (fun w h => h.os 2 rfl) rfl rfl (by first | rfl | omega | (simp only [List.length_set]; omega)) _ rfl (by first | omega | (simp only [List.length_set]; omega))) rfl ?_) | refine RV.op (OV.step gno (Step.idx Try.underlying57 I3 (fun w h => h.os 3 rfl) rfl rfl (by first | rfl | omega | (simp only [List.length_set]; omega)) _ rfl (by first | omega | (simp only [List.length_set]; omega))) rfl ?_))
    (first | refine RV.op (OV.step gno (Step.load Try.underlying3 rfl rfl (fun w h => h.cell 0 rfl rfl)) rfl ?_) | refine RV.op (OV.step gno (Step.load Try.underlying3 rfl rfl (fun w h => h.cell 5 rfl rfl)) rfl ?_) | refine RV.op (OV.step gno (Step.load Try.underlying3 rfl rfl (fun w h => (h.os 1 rfl).cell (by first | omega | (simp only [List.length_set]; omega)) rfl)) rfl ?_) | refine RV.op (OV.step gno (Step.load Try.underlying3 rfl rfl (fun w h => (h.os 1 rfl).cell0 (by first | omega | (simp only [List.length_set]; omega)) rfl)) rfl ?_) | refine RV.op (OV.step gno (Step.load Try.underlying3 rfl rfl (fun w h => (h.os 2 rfl).cell (by first | omega | (simp only [List.length_set]; omega)) rfl)) rfl ?_) | refine RV.op (OV.step gno (Step.load Try.underlying3 rfl rfl (fun w h => (h.os 2 rfl).cell0 (by first | omega | (simp only [List.length_set]; omega)) rfl)) rfl ?_) | refine RV.op (OV.step gno (Step.load Try.underlying3 rfl rfl (fun w h => (h.os 3 rfl).cell (by first | omega | (simp only [List.length_set]; omega)) rfl)) rfl ?_) | refine RV.op (OV.step gno (Step.load Try.underlying3 rfl rfl (fun w h => (h.os 3 rfl).cell0 (by first | omega | (simp only [List.length_set]; omega)) rfl)) rfl ?_))
    refine RV.op (OV.step gno (Step.sub rfl rfl (rfl)) rfl ?_)
    (first | refine RV.op (OV.step gno (Step.idx Try.underlying57 I3 (fun w h => h.os 1 rfl) rfl rfl (by first | rfl | omega | (simp only [List.length_set]; omega)) _ rfl (by first | omega | (simp only [List.length_set]; omega))) rfl ?_) | refine RV.op (OV.step gno (Step.idx Try.underlying57 I3 (fun w h => h.os 2 rfl) rfl rfl (by first | rfl | omega | (simp only [List.length_set]; omega)) _ rfl (by first | omega | (simp only [List.length_set]; omega))) rfl ?_) | refine RV.op (OV.step gno (Step.idx Try.underlying57 I3 (fun w h => h.os 3 rfl) rfl rfl (by first | rfl | omega | (simp only [List.length_set]; omega)) _ rfl (by first | omega | (simp only [List.length_set]; omega))) rfl ?_))
    refine RV.op (OV.storeE 2 (i) (_) (j := 0) [_] I3 rfl rfl rfl rfl rfl rfl (by first | omega | (simp only [List.length_set]; omega)) rfl (Nat.le_of_ble_eq_true rfl) gno ?_)
    obtain ⟨st1, hst⟩ : ∃ s, st.setC i (IntKind.i64.wrap (st.c i - 1)) = s := ⟨_, rfl⟩
    have wf1 : st1.wf := hst ▸ setC_wf wf i _
    have kr : st1.rails = st.rails := by rw [← hst]; rfl
    have krl : st1.rails.length = st.rails.length := by rw [kr]
    have wc1 := wf1.count
    have wd1 := wf1.done
    refine KV.heap (S' := Hp I w (robj 73 b a st1 ++ [OS 45 opK A c ops])) (fun w2 h => by rw [← hst]; exact h) ?_
    refine KV.have (fun w2 h => (h.osCap 1 rfl)) (fun hcap => ?_)
    have hcap2 : st1.rails.length ≤ 9223372036854775807 := by have := hcap.2; unfold maxLen at this; omega
    refine RV.nil ?_
    refine KV.then_n ?_
    refine KV.env [(0, _), (1, _), (2, _), (3, _)] ⟨rfl, rfl, rfl, rfl, trivial⟩ ?_
    refine CV.seq ?_
    refine CV.seq ?_
    -- region 2 rails.go:119
    refine CV.region ?_
    refine RV.op (OV.step gno (Step.move rfl) rfl ?_)
    refine RV.op (OV.step gno (Step.nilCheck rfl) rfl ?_)
    refine RV.op (OV.step gno (Step.fieldAddr rfl (F73_1 _ _)) rfl ?_)
    (first | refine RV.op (OV.step gno (Step.load Try.underlying57 rfl rfl (fun w h => h.cell 0 rfl rfl)) rfl ?_) | refine RV.op (OV.step gno (Step.load Try.underlying57 rfl rfl (fun w h => h.cell 5 rfl rfl)) rfl ?_) | refine RV.op (OV.step gno (Step.load Try.underlying57 rfl rfl (fun w h => (h.os 1 rfl).cell (by first | omega | (simp only [List.length_set]; omega)) rfl)) rfl ?_) | refine RV.op (OV.step gno (Step.load Try.underlying57 rfl rfl (fun w h => (h.os 1 rfl).cell0 (by first | omega | (simp only [List.length_set]; omega)) rfl)) rfl ?_) | refine RV.op (OV.step gno (Step.load Try.underlying57 rfl rfl (fun w h => (h.os 2 rfl).cell (by first | omega | (simp only [List.length_set]; omega)) rfl)) rfl ?_) | refine RV.op (OV.step gno (Step.load Try.underlying57 rfl rfl (fun w h => (h.os 2 rfl).cell0 (by first | omega | (simp only [List.length_set]; omega)) rfl)) rfl ?_) | refine RV.op (OV.step gno (Step.load Try.underlying57 rfl rfl (fun w h => (h.os 3 rfl).cell (by first | omega | (simp only [List.length_set]; omega)) rfl)) rfl ?_) | refine RV.op (OV.step gno (Step.load Try.underlying57 rfl rfl (fun w h => (h.os 3 rfl).cell0 (by first | omega | (simp only [List.length_set]; omega)) rfl)) rfl ?_))
    refine RV.op (OV.step gno (Step.move rfl) rfl ?_)
    (first | refine RV.op (OV.step gno (Step.idx Try.underlying57 I3 (fun w h => h.os 1 rfl) rfl rfl (by first | rfl | omega | (simp only [List.length_set]; omega)) _ rfl (by first | omega | (simp only [List.length_set]; omega))) rfl ?_) | refine RV.op (OV.step gno (Step.idx Try.underlying57 I3 (fun w h => h.os 2 rfl) rfl rfl (by first | rfl | omega | (simp only [List.length_set]; omega)) _ rfl (by first | omega | (simp only [List.length_set]; omega))) rfl ?_) | refine RV.op (OV.step gno (Step.idx Try.underlying57 I3 (fun w h => h.os 3 rfl) rfl rfl (by first | rfl | omega | (simp only [List.length_set]; omega)) _ rfl (by first | omega | (simp only [List.length_set]; omega))) rfl ?_))
    (first | refine RV.op (OV.step gno (Step.load Try.underlying3 rfl rfl (fun w h => h.cell 0 rfl rfl)) rfl ?_) | refine RV.op (OV.step gno (Step.load Try.underlying3 rfl rfl (fun w h => h.cell 5 rfl rfl)) rfl ?_) | refine RV.op (OV.step gno (Step.load Try.underlying3 rfl rfl (fun w h => (h.os 1 rfl).cell (by first | omega | (simp only [List.length_set]; omega)) rfl)) rfl ?_) | refine RV.op (OV.step gno (Step.load Try.underlying3 rfl rfl (fun w h => (h.os 1 rfl).cell0 (by first | omega | (simp only [List.length_set]; omega)) rfl)) rfl ?_) | refine RV.op (OV.step gno (Step.load Try.underlying3 rfl rfl (fun w h => (h.os 2 rfl).cell (by first | omega | (simp only [List.length_set]; omega)) rfl)) rfl ?_) | refine RV.op (OV.step gno (Step.load Try.underlying3 rfl rfl (fun w h => (h.os 2 rfl).cell0 (by first | omega | (simp only [List.length_set]; omega)) rfl)) rfl ?_) | refine RV.op (OV.step gno (Step.load Try.underlying3 rfl rfl (fun w h => (h.os 3 rfl).cell (by first | omega | (simp only [List.length_set]; omega)) rfl)) rfl ?_) | refine RV.op (OV.step gno (Step.load Try.underlying3 rfl rfl (fun w h => (h.os 3 rfl).cell0 (by first | omega | (simp only [List.length_set]; omega)) rfl)) rfl ?_))
    refine RV.op (OV.split gno (Step.gtr rfl rfl) rfl (fun hc => ?_) (fun hc => ?_))
    · -- True
      refine RV.nil ?_
      refine KV.then_n ?_
      refine KV.env [(0, _), (1, _), (2, _), (3, _), (29, _)] ⟨rfl, rfl, rfl, rfl, rfl, trivial⟩ ?_
      refine CV.cond_t rfl ?_
      refine CV.seq ?_
      -- region 3 rails.go:120
      refine CV.region ?_
      refine RV.op (OV.step gno (Step.move rfl) rfl ?_)
      refine RV.op (OV.step gno (Step.assign rfl) rfl ?_)
      refine RV.nil ?_
      refine KV.then_n ?_
      refine KV.env [(8, _)] ⟨rfl, trivial⟩ ?_
      refine CV.ret ?_
      refine KV.then_ret ?_
      -- return at r3
      rw [remP_pos (by rw [hst]; exact hc)]
      exact KV.ret1 rfl rfl _ (fun _ h => by rw [hst]; exact h) ⟨_, _, rfl, rfl⟩
    · -- False
      refine RV.nil ?_
      refine KV.then_n ?_
      refine KV.env [(0, _), (1, _), (2, _), (3, _), (29, _)] ⟨rfl, rfl, rfl, rfl, rfl, trivial⟩ ?_
      refine CV.cond_f rfl ?_
      refine CV.skip ?_
      refine KV.then_n ?_
      refine KV.env [(0, _), (1, _), (2, _), (3, _)] ⟨rfl, rfl, rfl, rfl, trivial⟩ ?_
      refine CV.seq ?_
      -- region 4 rails.go:122
      refine CV.region ?_
      refine RV.op (OV.step gno (Step.move rfl) rfl ?_)
      refine RV.op (OV.step gno (Step.move rfl) rfl ?_)
      refine RV.op (OV.step gno (Step.nilCheck rfl) rfl ?_)
      refine RV.op (OV.step gno (Step.fieldAddr rfl (F73_2 _ _)) rfl ?_)
      (first | refine RV.op (OV.step gno (Step.load Try.underlying43 rfl rfl (fun w h => h.cell 0 rfl rfl)) rfl ?_) | refine RV.op (OV.step gno (Step.load Try.underlying43 rfl rfl (fun w h => h.cell 5 rfl rfl)) rfl ?_) | refine RV.op (OV.step gno (Step.load Try.underlying43 rfl rfl (fun w h => (h.os 1 rfl).cell (by first | omega | (simp only [List.length_set]; omega)) rfl)) rfl ?_) | refine RV.op (OV.step gno (Step.load Try.underlying43 rfl rfl (fun w h => (h.os 1 rfl).cell0 (by first | omega | (simp only [List.length_set]; omega)) rfl)) rfl ?_) | refine RV.op (OV.step gno (Step.load Try.underlying43 rfl rfl (fun w h => (h.os 2 rfl).cell (by first | omega | (simp only [List.length_set]; omega)) rfl)) rfl ?_) | refine RV.op (OV.step gno (Step.load Try.underlying43 rfl rfl (fun w h => (h.os 2 rfl).cell0 (by first | omega | (simp only [List.length_set]; omega)) rfl)) rfl ?_) | refine RV.op (OV.step gno (Step.load Try.underlying43 rfl rfl (fun w h => (h.os 3 rfl).cell (by first | omega | (simp only [List.length_set]; omega)) rfl)) rfl ?_) | refine RV.op (OV.step gno (Step.load Try.underlying43 rfl rfl (fun w h => (h.os 3 rfl).cell0 (by first | omega | (simp only [List.length_set]; omega)) rfl)) rfl ?_))
      refine RV.op (OV.step gno (Step.move rfl) rfl ?_)
      (first | refine RV.op (OV.step gno (Step.idx Try.underlying43 I33 (fun w h => h.os 1 rfl) rfl rfl (by first | rfl | omega | (simp only [List.length_set]; omega)) _ rfl (by first | omega | (simp only [List.length_set]; omega))) rfl ?_) | refine RV.op (OV.step gno (Step.idx Try.underlying43 I33 (fun w h => h.os 2 rfl) rfl rfl (by first | rfl | omega | (simp only [List.length_set]; omega)) _ rfl (by first | omega | (simp only [List.length_set]; omega))) rfl ?_) | refine RV.op (OV.step gno (Step.idx Try.underlying43 I33 (fun w h => h.os 3 rfl) rfl rfl (by first | rfl | omega | (simp only [List.length_set]; omega)) _ rfl (by first | omega | (simp only [List.length_set]; omega))) rfl ?_))
      (first | refine RV.op (OV.step gno (Step.load Try.underlying33 rfl rfl (fun w h => h.cell 0 rfl rfl)) rfl ?_) | refine RV.op (OV.step gno (Step.load Try.underlying33 rfl rfl (fun w h => h.cell 5 rfl rfl)) rfl ?_) | refine RV.op (OV.step gno (Step.load Try.underlying33 rfl rfl (fun w h => (h.os 1 rfl).cell (by first | omega | (simp only [List.length_set]; omega)) rfl)) rfl ?_) | refine RV.op (OV.step gno (Step.load Try.underlying33 rfl rfl (fun w h => (h.os 1 rfl).cell0 (by first | omega | (simp only [List.length_set]; omega)) rfl)) rfl ?_) | refine RV.op (OV.step gno (Step.load Try.underlying33 rfl rfl (fun w h => (h.os 2 rfl).cell (by first | omega | (simp only [List.length_set]; omega)) rfl)) rfl ?_) | refine RV.op (OV.step gno (Step.load Try.underlying33 rfl rfl (fun w h => (h.os 2 rfl).cell0 (by first | omega | (simp only [List.length_set]; omega)) rfl)) rfl ?_) | refine RV.op (OV.step gno (Step.load Try.underlying33 rfl rfl (fun w h => (h.os 3 rfl).cell (by first | omega | (simp only [List.length_set]; omega)) rfl)) rfl ?_) | refine RV.op (OV.step gno (Step.load Try.underlying33 rfl rfl (fun w h => (h.os 3 rfl).cell0 (by first | omega | (simp only [List.length_set]; omega)) rfl)) rfl ?_))
      refine RV.op (OV.step gno (Step.max2 rfl rfl) rfl ?_)
      refine RV.op (OV.step gno (Step.assign rfl) rfl ?_)
      refine RV.nil ?_
      refine KV.then_n ?_
      refine KV.env [(0, _), (1, _), (2, _), (3, _), (9, _)] ⟨rfl, rfl, rfl, rfl, rfl, trivial⟩ ?_
      refine CV.seq ?_
      refine CV.seq ?_
      -- region 5 rails.go:123
      refine CV.region ?_
      refine RV.op (OV.step gno (Step.move rfl) rfl ?_)
      refine RV.op (OV.step gno (Step.nilCheck rfl) rfl ?_)
      refine RV.op (OV.step gno (Step.fieldAddr rfl (F73_0 _ _)) rfl ?_)
      (first | refine RV.op (OV.step gno (Step.load Try.underlying22 rfl rfl (fun w h => h.cell 0 rfl rfl)) rfl ?_) | refine RV.op (OV.step gno (Step.load Try.underlying22 rfl rfl (fun w h => h.cell 5 rfl rfl)) rfl ?_) | refine RV.op (OV.step gno (Step.load Try.underlying22 rfl rfl (fun w h => (h.os 1 rfl).cell (by first | omega | (simp only [List.length_set]; omega)) rfl)) rfl ?_) | refine RV.op (OV.step gno (Step.load Try.underlying22 rfl rfl (fun w h => (h.os 1 rfl).cell0 (by first | omega | (simp only [List.length_set]; omega)) rfl)) rfl ?_) | refine RV.op (OV.step gno (Step.load Try.underlying22 rfl rfl (fun w h => (h.os 2 rfl).cell (by first | omega | (simp only [List.length_set]; omega)) rfl)) rfl ?_) | refine RV.op (OV.step gno (Step.load Try.underlying22 rfl rfl (fun w h => (h.os 2 rfl).cell0 (by first | omega | (simp only [List.length_set]; omega)) rfl)) rfl ?_) | refine RV.op (OV.step gno (Step.load Try.underlying22 rfl rfl (fun w h => (h.os 3 rfl).cell (by first | omega | (simp only [List.length_set]; omega)) rfl)) rfl ?_) | refine RV.op (OV.step gno (Step.load Try.underlying22 rfl rfl (fun w h => (h.os 3 rfl).cell0 (by first | omega | (simp only [List.length_set]; omega)) rfl)) rfl ?_))
      refine RV.op (OV.step gno (Step.lenSl Try.underlying22 rfl) rfl ?_)
      refine RV.op (OV.step gno (Step.move rfl) rfl ?_)
      refine RV.nil ?_
      refine KV.then_n ?_
      refine KV.env [(0, _), (1, _), (2, _), (3, _), (9, _), (43, _), (44, _), (45, _)] ⟨rfl, rfl, rfl, rfl, rfl, rfl, rfl, rfl, trivial⟩ ?_
      refine CV.block ?_
      -- loop L6; live [0, 1, 2, 3, 9, 43, 44, 45]
      refine CV.loopI (α := Nat) (fun k => k ≤ st1.rails.length) (fun z => st1.rails.length - z) (fun z => [(0, .pointer (some ⟨b, 0, none⟩)), (1, .int .i64 i), (2, .int .u64 now), (3, .slice A ops.length c), (9, .int .u64 (feedM st1 i z (max now (st1.t i)))), (43, .slice a.A0 st1.rails.length a.c0), (44, .int .i64 st1.rails.length), (45, .int .i64 z)]) (fun z => Hp I w (robj 73 b a st1 ++ [OS 45 opK A c ops])) 0 (Nat.zero_le _) ⟨rfl, rfl, rfl, rfl, rfl, rfl, rfl, rfl, trivial⟩ (fun _ h => h) ?_
      intro k hk
      refine CV.seq ?_
      -- region 6 rails.go:123
      refine CV.region ?_
      refine RV.op (OV.split gno (Step.lss rfl rfl) rfl (fun hl => ?_) (fun hl => ?_))
      · -- True
        refine RV.nil ?_
        refine KV.then_n ?_
        refine KV.env [(0, _), (1, _), (2, _), (3, _), (9, _), (43, _), (44, _), (45, _), (46, _)] ⟨rfl, rfl, rfl, rfl, rfl, rfl, rfl, rfl, rfl, trivial⟩ ?_
        refine CV.seq ?_
        refine CV.cond_t rfl ?_
        refine CV.skip ?_
        refine KV.then_n ?_
        refine KV.env [(0, _), (1, _), (2, _), (3, _), (9, _), (43, _), (44, _), (45, _)] ⟨rfl, rfl, rfl, rfl, rfl, rfl, rfl, rfl, trivial⟩ ?_
        refine CV.seq ?_
        refine CV.block ?_
        refine CV.seq ?_
        -- region 7 rails.go:123
        refine CV.region ?_
        refine RV.op (OV.step gno (Step.move rfl) rfl ?_)
        (first | refine RV.op (OV.step gno (Step.idx Try.underlying22 I35 (fun w h => h.os 1 rfl) rfl rfl (by first | rfl | omega | (simp only [List.length_set]; omega)) _ rfl (by first | omega | (simp only [List.length_set]; omega))) rfl ?_) | refine RV.op (OV.step gno (Step.idx Try.underlying22 I35 (fun w h => h.os 2 rfl) rfl rfl (by first | rfl | omega | (simp only [List.length_set]; omega)) _ rfl (by first | omega | (simp only [List.length_set]; omega))) rfl ?_) | refine RV.op (OV.step gno (Step.idx Try.underlying22 I35 (fun w h => h.os 3 rfl) rfl rfl (by first | rfl | omega | (simp only [List.length_set]; omega)) _ rfl (by first | omega | (simp only [List.length_set]; omega))) rfl ?_))
        (first | refine RV.op (OV.step gno (Step.loadN _ Try.underlying35 rfl I35 rfl rfl (fun w h => h.cells 0 rfl)) rfl ?_) | refine RV.op (OV.step gno (Step.loadN _ Try.underlying35 rfl I35 rfl rfl (fun w h => h.cells 5 rfl)) rfl ?_) | refine RV.op (OV.step gno (Step.loadN _ Try.underlying35 rfl I35 rfl rfl (fun w h => (h.os 1 rfl).cells (by first | omega | (simp only [List.length_set]; omega)))) rfl ?_) | refine RV.op (OV.step gno (Step.loadN _ Try.underlying35 rfl I35 rfl rfl (fun w h => (h.os 2 rfl).cells (by first | omega | (simp only [List.length_set]; omega)))) rfl ?_) | refine RV.op (OV.step gno (Step.loadN _ Try.underlying35 rfl I35 rfl rfl (fun w h => (h.os 3 rfl).cells (by first | omega | (simp only [List.length_set]; omega)))) rfl ?_))
        refine RV.op (OV.alloc #[.int .i64 0, .int .u64 0, .int .u64 0] I35 rfl gno rfl (fun b7_3 => ?_))
        refine RV.op (OV.step gno (Step.assign rfl) rfl ?_)
        refine RV.op (OV.store 5 [_, _, _] #[_, _, _] I35 rfl rfl rfl rfl rfl (Nat.le_of_ble_eq_true rfl) (by simp [Value.oneCell']) rfl gno ?_)
        refine KV.sel [0, 0, 0, 0, 0, 0] [_, _, _, _, _, _] rfl ?_
        refine RV.nil ?_
        refine KV.then_n ?_
        refine KV.env [(0, _), (1, _), (2, _), (3, _), (9, _), (10, _), (11, _), (43, _), (44, _), (45, _)] ⟨rfl, rfl, rfl, rfl, rfl, rfl, rfl, rfl, rfl, rfl, trivial⟩ ?_
        refine CV.seq ?_
        -- region 8 rails.go:124
        refine CV.region ?_
        refine RV.op (OV.step gno (Step.fieldAddr rfl (F35_0 _ _)) rfl ?_)
        (first | refine RV.op (OV.step gno (Step.load Try.underlying3 rfl rfl (fun w h => h.cell 0 rfl rfl)) rfl ?_) | refine RV.op (OV.step gno (Step.load Try.underlying3 rfl rfl (fun w h => h.cell 5 rfl rfl)) rfl ?_) | refine RV.op (OV.step gno (Step.load Try.underlying3 rfl rfl (fun w h => (h.os 1 rfl).cell (by first | omega | (simp only [List.length_set]; omega)) rfl)) rfl ?_) | refine RV.op (OV.step gno (Step.load Try.underlying3 rfl rfl (fun w h => (h.os 1 rfl).cell0 (by first | omega | (simp only [List.length_set]; omega)) rfl)) rfl ?_) | refine RV.op (OV.step gno (Step.load Try.underlying3 rfl rfl (fun w h => (h.os 2 rfl).cell (by first | omega | (simp only [List.length_set]; omega)) rfl)) rfl ?_) | refine RV.op (OV.step gno (Step.load Try.underlying3 rfl rfl (fun w h => (h.os 2 rfl).cell0 (by first | omega | (simp only [List.length_set]; omega)) rfl)) rfl ?_) | refine RV.op (OV.step gno (Step.load Try.underlying3 rfl rfl (fun w h => (h.os 3 rfl).cell (by first | omega | (simp only [List.length_set]; omega)) rfl)) rfl ?_) | refine RV.op (OV.step gno (Step.load Try.underlying3 rfl rfl (fun w h => (h.os 3 rfl).cell0 (by first | omega | (simp only [List.length_set]; omega)) rfl)) rfl ?_))
        refine RV.op (OV.step gno (Step.move rfl) rfl ?_)
        refine RV.op (OV.split gno (Step.eql rfl rfl) rfl (fun hq => ?_) (fun hq => ?_))
        · -- True
          refine RV.nil ?_
          refine KV.then_n ?_
          refine KV.env [(0, _), (1, _), (2, _), (3, _), (9, _), (10, _), (43, _), (44, _), (45, _), (53, _)] ⟨rfl, rfl, rfl, rfl, rfl, rfl, rfl, rfl, rfl, rfl, trivial⟩ ?_
          refine CV.cond_t rfl ?_
          -- region 9 rails.go:125
          refine CV.region ?_
          refine RV.op (OV.step gno (Step.move rfl) rfl ?_)
          refine RV.op (OV.step gno (Step.move rfl) rfl ?_)
          refine RV.op (OV.step gno (Step.nilCheck rfl) rfl ?_)
          refine RV.op (OV.step gno (Step.fieldAddr rfl (F73_2 _ _)) rfl ?_)
          (first | refine RV.op (OV.step gno (Step.load Try.underlying43 rfl rfl (fun w h => h.cell 0 rfl rfl)) rfl ?_) | refine RV.op (OV.step gno (Step.load Try.underlying43 rfl rfl (fun w h => h.cell 5 rfl rfl)) rfl ?_) | refine RV.op (OV.step gno (Step.load Try.underlying43 rfl rfl (fun w h => (h.os 1 rfl).cell (by first | omega | (simp only [List.length_set]; omega)) rfl)) rfl ?_) | refine RV.op (OV.step gno (Step.load Try.underlying43 rfl rfl (fun w h => (h.os 1 rfl).cell0 (by first | omega | (simp only [List.length_set]; omega)) rfl)) rfl ?_) | refine RV.op (OV.step gno (Step.load Try.underlying43 rfl rfl (fun w h => (h.os 2 rfl).cell (by first | omega | (simp only [List.length_set]; omega)) rfl)) rfl ?_) | refine RV.op (OV.step gno (Step.load Try.underlying43 rfl rfl (fun w h => (h.os 2 rfl).cell0 (by first | omega | (simp only [List.length_set]; omega)) rfl)) rfl ?_) | refine RV.op (OV.step gno (Step.load Try.underlying43 rfl rfl (fun w h => (h.os 3 rfl).cell (by first | omega | (simp only [List.length_set]; omega)) rfl)) rfl ?_) | refine RV.op (OV.step gno (Step.load Try.underlying43 rfl rfl (fun w h => (h.os 3 rfl).cell0 (by first | omega | (simp only [List.length_set]; omega)) rfl)) rfl ?_))
          refine RV.op (OV.step gno (Step.move rfl) rfl ?_)
          (first | refine RV.op (OV.step gno (Step.idx Try.underlying43 I33 (fun w h => h.os 1 rfl) rfl rfl (by first | rfl | omega | (simp only [List.length_set]; omega)) _ rfl (by first | omega | (simp only [List.length_set]; omega))) rfl ?_) | refine RV.op (OV.step gno (Step.idx Try.underlying43 I33 (fun w h => h.os 2 rfl) rfl rfl (by first | rfl | omega | (simp only [List.length_set]; omega)) _ rfl (by first | omega | (simp only [List.length_set]; omega))) rfl ?_) | refine RV.op (OV.step gno (Step.idx Try.underlying43 I33 (fun w h => h.os 3 rfl) rfl rfl (by first | rfl | omega | (simp only [List.length_set]; omega)) _ rfl (by first | omega | (simp only [List.length_set]; omega))) rfl ?_))
          (first | refine RV.op (OV.step gno (Step.load Try.underlying33 rfl rfl (fun w h => h.cell 0 rfl rfl)) rfl ?_) | refine RV.op (OV.step gno (Step.load Try.underlying33 rfl rfl (fun w h => h.cell 5 rfl rfl)) rfl ?_) | refine RV.op (OV.step gno (Step.load Try.underlying33 rfl rfl (fun w h => (h.os 1 rfl).cell (by first | omega | (simp only [List.length_set]; omega)) rfl)) rfl ?_) | refine RV.op (OV.step gno (Step.load Try.underlying33 rfl rfl (fun w h => (h.os 1 rfl).cell0 (by first | omega | (simp only [List.length_set]; omega)) rfl)) rfl ?_) | refine RV.op (OV.step gno (Step.load Try.underlying33 rfl rfl (fun w h => (h.os 2 rfl).cell (by first | omega | (simp only [List.length_set]; omega)) rfl)) rfl ?_) | refine RV.op (OV.step gno (Step.load Try.underlying33 rfl rfl (fun w h => (h.os 2 rfl).cell0 (by first | omega | (simp only [List.length_set]; omega)) rfl)) rfl ?_) | refine RV.op (OV.step gno (Step.load Try.underlying33 rfl rfl (fun w h => (h.os 3 rfl).cell (by first | omega | (simp only [List.length_set]; omega)) rfl)) rfl ?_) | refine RV.op (OV.step gno (Step.load Try.underlying33 rfl rfl (fun w h => (h.os 3 rfl).cell0 (by first | omega | (simp only [List.length_set]; omega)) rfl)) rfl ?_))
          refine RV.op (OV.step gno (Step.max2 rfl rfl) rfl ?_)
          refine RV.op (OV.step gno (Step.assign rfl) rfl ?_)
          refine RV.nil ?_
          refine KV.block_n ?_
          refine KV.then_n ?_
          refine KV.env [(0, _), (1, _), (2, _), (3, _), (9, _), (43, _), (44, _), (45, _)] ⟨rfl, rfl, rfl, rfl, rfl, rfl, rfl, rfl, trivial⟩ ?_
          -- region 10 rails.go:123
          refine CV.region ?_
          (first | refine RV.op (OV.step gno (Step.add rfl rfl (wI64 (by omega) (by omega))) rfl ?_) | refine RV.op (OV.step gno (Step.add rfl rfl rfl) rfl ?_))
          refine RV.op (OV.step gno (Step.move rfl) rfl ?_)
          refine RV.nil ?_
          refine KV.then_n ?_
          refine KV.env [(0, _), (1, _), (2, _), (3, _), (9, _), (43, _), (44, _), (45, _)] ⟨rfl, rfl, rfl, rfl, rfl, rfl, rfl, rfl, trivial⟩ ?_
          refine KV.sel [0, 0, 0, 0, 0] [_, _, _, _, _] rfl ?_
          refine KV.loopI (k + 1) (by omega) (by omega) ⟨rfl, rfl, rfl, rfl, by first | (rw [feedM_pos (st := st1) hq]; rfl) | (rw [feedM_neg (st := st1) hq]; rfl), rfl, rfl, rfl, trivial⟩ (fun _ h => h)
        · -- False
          refine RV.nil ?_
          refine KV.then_n ?_
          refine KV.env [(0, _), (1, _), (2, _), (3, _), (9, _), (10, _), (43, _), (44, _), (45, _), (53, _)] ⟨rfl, rfl, rfl, rfl, rfl, rfl, rfl, rfl, rfl, rfl, trivial⟩ ?_
          refine CV.cond_f rfl ?_
          refine CV.skip ?_
          refine KV.block_n ?_
          refine KV.then_n ?_
          refine KV.env [(0, _), (1, _), (2, _), (3, _), (9, _), (43, _), (44, _), (45, _)] ⟨rfl, rfl, rfl, rfl, rfl, rfl, rfl, rfl, trivial⟩ ?_
          -- region 10 rails.go:123
          refine CV.region ?_
          (first | refine RV.op (OV.step gno (Step.add rfl rfl (wI64 (by omega) (by omega))) rfl ?_) | refine RV.op (OV.step gno (Step.add rfl rfl rfl) rfl ?_))
          refine RV.op (OV.step gno (Step.move rfl) rfl ?_)
          refine RV.nil ?_
          refine KV.then_n ?_
          refine KV.env [(0, _), (1, _), (2, _), (3, _), (9, _), (43, _), (44, _), (45, _)] ⟨rfl, rfl, rfl, rfl, rfl, rfl, rfl, rfl, trivial⟩ ?_
          refine KV.sel [0, 0, 0, 0, 0] [_, _, _, _, _] rfl ?_
          refine KV.loopI (k + 1) (by omega) (by omega) ⟨rfl, rfl, rfl, rfl, by first | (rw [feedM_pos (st := st1) hq]; rfl) | (rw [feedM_neg (st := st1) hq]; rfl), rfl, rfl, rfl, trivial⟩ (fun _ h => h)
      · -- False
        obtain rfl : k = st1.rails.length := by omega
        refine RV.nil ?_
        refine KV.then_n ?_
        refine KV.env [(0, _), (1, _), (2, _), (3, _), (9, _), (43, _), (44, _), (45, _), (46, _)] ⟨rfl, rfl, rfl, rfl, rfl, rfl, rfl, rfl, rfl, trivial⟩ ?_
        refine CV.seq ?_
        refine CV.cond_f rfl ?_
        refine CV.exit ?_
        refine KV.then_exit ?_
        refine KV.then_exit ?_
        refine KV.block_hit ?_
        refine KV.then_n ?_
        refine KV.env [(0, _), (1, _), (2, _), (3, _), (9, _)] ⟨rfl, rfl, rfl, rfl, rfl, trivial⟩ ?_
        refine CV.seq ?_
        -- region 11 rails.go:128
        generalize hm : feedM st1 i st1.rails.length (max now (st1.t i)) = m
        refine CV.stillTail 16 (by kernel_rfl) (by kernel_rfl) (fun _ h => h.drew) ?_
        refine SV.step gno (Step.move rfl) rfl ?_
        refine SV.step gno (Step.nilCheck rfl) rfl ?_
        refine SV.step gno (Step.fieldAddr rfl (F73_2 _ _)) rfl ?_
        (first | refine SV.step gno (Step.load Try.underlying43 rfl rfl (fun w h => h.cell 0 rfl rfl)) rfl ?_ | refine SV.step gno (Step.load Try.underlying43 rfl rfl (fun w h => h.cell 5 rfl rfl)) rfl ?_ | refine SV.step gno (Step.load Try.underlying43 rfl rfl (fun w h => (h.os 1 rfl).cell (by first | omega | (simp only [List.length_set]; omega)) rfl)) rfl ?_ | refine SV.step gno (Step.load Try.underlying43 rfl rfl (fun w h => (h.os 1 rfl).cell0 (by first | omega | (simp only [List.length_set]; omega)) rfl)) rfl ?_ | refine SV.step gno (Step.load Try.underlying43 rfl rfl (fun w h => (h.os 2 rfl).cell (by first | omega | (simp only [List.length_set]; omega)) rfl)) rfl ?_ | refine SV.step gno (Step.load Try.underlying43 rfl rfl (fun w h => (h.os 2 rfl).cell0 (by first | omega | (simp only [List.length_set]; omega)) rfl)) rfl ?_ | refine SV.step gno (Step.load Try.underlying43 rfl rfl (fun w h => (h.os 3 rfl).cell (by first | omega | (simp only [List.length_set]; omega)) rfl)) rfl ?_ | refine SV.step gno (Step.load Try.underlying43 rfl rfl (fun w h => (h.os 3 rfl).cell0 (by first | omega | (simp only [List.length_set]; omega)) rfl)) rfl ?_)
        refine SV.step gno (Step.move rfl) rfl ?_
        refine SV.step gno (Step.move rfl) rfl ?_
        refine SV.step gno (Step.move rfl) rfl ?_
        refine SV.step gno (Step.nilCheck rfl) rfl ?_
        refine SV.step gno (Step.fieldAddr rfl (F73_0 _ _)) rfl ?_
        (first | refine SV.step gno (Step.load Try.underlying22 rfl rfl (fun w h => h.cell 0 rfl rfl)) rfl ?_ | refine SV.step gno (Step.load Try.underlying22 rfl rfl (fun w h => h.cell 5 rfl rfl)) rfl ?_ | refine SV.step gno (Step.load Try.underlying22 rfl rfl (fun w h => (h.os 1 rfl).cell (by first | omega | (simp only [List.length_set]; omega)) rfl)) rfl ?_ | refine SV.step gno (Step.load Try.underlying22 rfl rfl (fun w h => (h.os 1 rfl).cell0 (by first | omega | (simp only [List.length_set]; omega)) rfl)) rfl ?_ | refine SV.step gno (Step.load Try.underlying22 rfl rfl (fun w h => (h.os 2 rfl).cell (by first | omega | (simp only [List.length_set]; omega)) rfl)) rfl ?_ | refine SV.step gno (Step.load Try.underlying22 rfl rfl (fun w h => (h.os 2 rfl).cell0 (by first | omega | (simp only [List.length_set]; omega)) rfl)) rfl ?_ | refine SV.step gno (Step.load Try.underlying22 rfl rfl (fun w h => (h.os 3 rfl).cell (by first | omega | (simp only [List.length_set]; omega)) rfl)) rfl ?_ | refine SV.step gno (Step.load Try.underlying22 rfl rfl (fun w h => (h.os 3 rfl).cell0 (by first | omega | (simp only [List.length_set]; omega)) rfl)) rfl ?_)
        refine SV.step gno (Step.move rfl) rfl ?_
        (first | refine SV.step gno (Step.idx Try.underlying22 I35 (fun w h => h.os 1 rfl) rfl rfl (by first | rfl | omega | (simp only [List.length_set]; omega)) _ rfl (by first | omega | (simp only [List.length_set]; omega))) rfl ?_ | refine SV.step gno (Step.idx Try.underlying22 I35 (fun w h => h.os 2 rfl) rfl rfl (by first | rfl | omega | (simp only [List.length_set]; omega)) _ rfl (by first | omega | (simp only [List.length_set]; omega))) rfl ?_ | refine SV.step gno (Step.idx Try.underlying22 I35 (fun w h => h.os 3 rfl) rfl rfl (by first | rfl | omega | (simp only [List.length_set]; omega)) _ rfl (by first | omega | (simp only [List.length_set]; omega))) rfl ?_)
        refine SV.step gno (Step.fieldAddr rfl (F35_2 _ _)) rfl ?_
        (first | refine SV.step gno (Step.load Try.underlying33 rfl rfl (fun w h => h.cell 0 rfl rfl)) rfl ?_ | refine SV.step gno (Step.load Try.underlying33 rfl rfl (fun w h => h.cell 5 rfl rfl)) rfl ?_ | refine SV.step gno (Step.load Try.underlying33 rfl rfl (fun w h => (h.os 1 rfl).cell (by first | omega | (simp only [List.length_set]; omega)) rfl)) rfl ?_ | refine SV.step gno (Step.load Try.underlying33 rfl rfl (fun w h => (h.os 1 rfl).cell0 (by first | omega | (simp only [List.length_set]; omega)) rfl)) rfl ?_ | refine SV.step gno (Step.load Try.underlying33 rfl rfl (fun w h => (h.os 2 rfl).cell (by first | omega | (simp only [List.length_set]; omega)) rfl)) rfl ?_ | refine SV.step gno (Step.load Try.underlying33 rfl rfl (fun w h => (h.os 2 rfl).cell0 (by first | omega | (simp only [List.length_set]; omega)) rfl)) rfl ?_ | refine SV.step gno (Step.load Try.underlying33 rfl rfl (fun w h => (h.os 3 rfl).cell (by first | omega | (simp only [List.length_set]; omega)) rfl)) rfl ?_ | refine SV.step gno (Step.load Try.underlying33 rfl rfl (fun w h => (h.os 3 rfl).cell0 (by first | omega | (simp only [List.length_set]; omega)) rfl)) rfl ?_)
        refine SV.step gno (Step.add rfl rfl (rfl)) rfl ?_
        (first | refine SV.step gno (Step.idx Try.underlying43 I33 (fun w h => h.os 1 rfl) rfl rfl (by first | rfl | omega | (simp only [List.length_set]; omega)) _ rfl (by first | omega | (simp only [List.length_set]; omega))) rfl ?_ | refine SV.step gno (Step.idx Try.underlying43 I33 (fun w h => h.os 2 rfl) rfl rfl (by first | rfl | omega | (simp only [List.length_set]; omega)) _ rfl (by first | omega | (simp only [List.length_set]; omega))) rfl ?_ | refine SV.step gno (Step.idx Try.underlying43 I33 (fun w h => h.os 3 rfl) rfl rfl (by first | rfl | omega | (simp only [List.length_set]; omega)) _ rfl (by first | omega | (simp only [List.length_set]; omega))) rfl ?_)
        refine SV.nil ?_
        show KV _ (wpList _ _ _ _) _ _
        refine RV.op (OV.storeE 3 (i) (_) (j := 0) [_] I33 rfl rfl rfl rfl rfl rfl (by first | omega | (simp only [List.length_set]; omega)) rfl (Nat.le_of_ble_eq_true rfl) gno ?_)
        refine RV.nil ?_
        refine KV.then_n ?_
        refine KV.env [(0, _), (1, _), (2, _), (3, _), (9, _)] ⟨rfl, rfl, rfl, rfl, rfl, trivial⟩ ?_
        refine CV.seq ?_
        -- region 12 rails.go:129
        refine CV.region ?_
        refine RV.op (OV.step gno (Step.move rfl) rfl ?_)
        refine RV.op (OV.step gno (Step.move rfl) rfl ?_)
        refine RV.op (OV.step gno (Step.move rfl) rfl ?_)
        refine RV.op (OV.step gno (Step.move rfl) rfl ?_)
        refine RV.op (OV.step gno (Step.nilCheck rfl) rfl ?_)
        refine RV.op (OV.step gno (Step.fieldAddr rfl (F73_2 _ _)) rfl ?_)
        (first | refine RV.op (OV.step gno (Step.load Try.underlying43 rfl rfl (fun w h => h.cell 0 rfl rfl)) rfl ?_) | refine RV.op (OV.step gno (Step.load Try.underlying43 rfl rfl (fun w h => h.cell 5 rfl rfl)) rfl ?_) | refine RV.op (OV.step gno (Step.load Try.underlying43 rfl rfl (fun w h => (h.os 1 rfl).cell (by first | omega | (simp only [List.length_set]; omega)) rfl)) rfl ?_) | refine RV.op (OV.step gno (Step.load Try.underlying43 rfl rfl (fun w h => (h.os 1 rfl).cell0 (by first | omega | (simp only [List.length_set]; omega)) rfl)) rfl ?_) | refine RV.op (OV.step gno (Step.load Try.underlying43 rfl rfl (fun w h => (h.os 2 rfl).cell (by first | omega | (simp only [List.length_set]; omega)) rfl)) rfl ?_) | refine RV.op (OV.step gno (Step.load Try.underlying43 rfl rfl (fun w h => (h.os 2 rfl).cell0 (by first | omega | (simp only [List.length_set]; omega)) rfl)) rfl ?_) | refine RV.op (OV.step gno (Step.load Try.underlying43 rfl rfl (fun w h => (h.os 3 rfl).cell (by first | omega | (simp only [List.length_set]; omega)) rfl)) rfl ?_) | refine RV.op (OV.step gno (Step.load Try.underlying43 rfl rfl (fun w h => (h.os 3 rfl).cell0 (by first | omega | (simp only [List.length_set]; omega)) rfl)) rfl ?_))
        refine RV.op (OV.step gno (Step.move rfl) rfl ?_)
        (first | refine RV.op (OV.step gno (Step.idx Try.underlying43 I33 (fun w h => h.os 1 rfl) rfl rfl (by first | rfl | omega | (simp only [List.length_set]; omega)) _ rfl (by first | omega | (simp only [List.length_set]; omega))) rfl ?_) | refine RV.op (OV.step gno (Step.idx Try.underlying43 I33 (fun w h => h.os 2 rfl) rfl rfl (by first | rfl | omega | (simp only [List.length_set]; omega)) _ rfl (by first | omega | (simp only [List.length_set]; omega))) rfl ?_) | refine RV.op (OV.step gno (Step.idx Try.underlying43 I33 (fun w h => h.os 3 rfl) rfl rfl (by first | rfl | omega | (simp only [List.length_set]; omega)) _ rfl (by first | omega | (simp only [List.length_set]; omega))) rfl ?_))
        (first | refine RV.op (OV.step gno (Step.load Try.underlying33 rfl rfl (fun w h => h.cell 0 rfl rfl)) rfl ?_) | refine RV.op (OV.step gno (Step.load Try.underlying33 rfl rfl (fun w h => h.cell 5 rfl rfl)) rfl ?_) | refine RV.op (OV.step gno (Step.load Try.underlying33 rfl rfl (fun w h => (h.os 1 rfl).cell (by first | omega | (simp only [List.length_set]; omega)) rfl)) rfl ?_) | refine RV.op (OV.step gno (Step.load Try.underlying33 rfl rfl (fun w h => (h.os 1 rfl).cell0 (by first | omega | (simp only [List.length_set]; omega)) rfl)) rfl ?_) | refine RV.op (OV.step gno (Step.load Try.underlying33 rfl rfl (fun w h => (h.os 2 rfl).cell (by first | omega | (simp only [List.length_set]; omega)) rfl)) rfl ?_) | refine RV.op (OV.step gno (Step.load Try.underlying33 rfl rfl (fun w h => (h.os 2 rfl).cell0 (by first | omega | (simp only [List.length_set]; omega)) rfl)) rfl ?_) | refine RV.op (OV.step gno (Step.load Try.underlying33 rfl rfl (fun w h => (h.os 3 rfl).cell (by first | omega | (simp only [List.length_set]; omega)) rfl)) rfl ?_) | refine RV.op (OV.step gno (Step.load Try.underlying33 rfl rfl (fun w h => (h.os 3 rfl).cell0 (by first | omega | (simp only [List.length_set]; omega)) rfl)) rfl ?_))
        rw [getD_set_self _ _ _ _ (by omega)]
        refine RV.op (OV.step gno (Step.build rfl (Bd45_0_2_3 _ _ _)) rfl ?_)
        refine RV.op (OV.buildSlice (K := opK) ([⟨_, _, _, _⟩]) rfl (Bs38_1_0 _ _ _ _) rfl rfl (by omega) gno rfl (fun b12_11 => ?_))
        refine RV.op (OV.append 4 Try.underlying38 I45 rfl rfl rfl rfl rfl rfl (fun w h => h.os 5 rfl) (by simp only [List.length_append, List.length_cons, List.length_nil]; omega) (by simp only [List.length_append, List.length_cons, List.length_nil]; omega) gno rfl (fun b12_12a b12_12c => ?_))
        refine KV.sel [0, 0, 0, 0, 0] [_, _, _, _, _] rfl ?_
        refine RV.op (OV.step gno (Step.assign rfl) rfl ?_)
        refine RV.nil ?_
        refine KV.then_n ?_
        refine KV.env [(0, _), (1, _), (2, _), (3, _)] ⟨rfl, rfl, rfl, rfl, trivial⟩ ?_
        refine CV.seq ?_
        refine CV.seq ?_
        -- region 13 rails.go:130
        refine CV.region ?_
        refine RV.op (OV.step gno (Step.move rfl) rfl ?_)
        refine RV.op (OV.step gno (Step.nilCheck rfl) rfl ?_)
        refine RV.op (OV.step gno (Step.fieldAddr rfl (F73_0 _ _)) rfl ?_)
        (first | refine RV.op (OV.step gno (Step.load Try.underlying22 rfl rfl (fun w h => h.cell 0 rfl rfl)) rfl ?_) | refine RV.op (OV.step gno (Step.load Try.underlying22 rfl rfl (fun w h => h.cell 5 rfl rfl)) rfl ?_) | refine RV.op (OV.step gno (Step.load Try.underlying22 rfl rfl (fun w h => (h.os 1 rfl).cell (by first | omega | (simp only [List.length_set]; omega)) rfl)) rfl ?_) | refine RV.op (OV.step gno (Step.load Try.underlying22 rfl rfl (fun w h => (h.os 1 rfl).cell0 (by first | omega | (simp only [List.length_set]; omega)) rfl)) rfl ?_) | refine RV.op (OV.step gno (Step.load Try.underlying22 rfl rfl (fun w h => (h.os 2 rfl).cell (by first | omega | (simp only [List.length_set]; omega)) rfl)) rfl ?_) | refine RV.op (OV.step gno (Step.load Try.underlying22 rfl rfl (fun w h => (h.os 2 rfl).cell0 (by first | omega | (simp only [List.length_set]; omega)) rfl)) rfl ?_) | refine RV.op (OV.step gno (Step.load Try.underlying22 rfl rfl (fun w h => (h.os 3 rfl).cell (by first | omega | (simp only [List.length_set]; omega)) rfl)) rfl ?_) | refine RV.op (OV.step gno (Step.load Try.underlying22 rfl rfl (fun w h => (h.os 3 rfl).cell0 (by first | omega | (simp only [List.length_set]; omega)) rfl)) rfl ?_))
        refine RV.op (OV.step gno (Step.move rfl) rfl ?_)
        (first | refine RV.op (OV.step gno (Step.idx Try.underlying22 I35 (fun w h => h.os 1 rfl) rfl rfl (by first | rfl | omega | (simp only [List.length_set]; omega)) _ rfl (by first | omega | (simp only [List.length_set]; omega))) rfl ?_) | refine RV.op (OV.step gno (Step.idx Try.underlying22 I35 (fun w h => h.os 2 rfl) rfl rfl (by first | rfl | omega | (simp only [List.length_set]; omega)) _ rfl (by first | omega | (simp only [List.length_set]; omega))) rfl ?_) | refine RV.op (OV.step gno (Step.idx Try.underlying22 I35 (fun w h => h.os 3 rfl) rfl rfl (by first | rfl | omega | (simp only [List.length_set]; omega)) _ rfl (by first | omega | (simp only [List.length_set]; omega))) rfl ?_))
        refine RV.op (OV.step gno (Step.fieldAddr rfl (F35_0 _ _)) rfl ?_)
        (first | refine RV.op (OV.step gno (Step.load Try.underlying3 rfl rfl (fun w h => h.cell 0 rfl rfl)) rfl ?_) | refine RV.op (OV.step gno (Step.load Try.underlying3 rfl rfl (fun w h => h.cell 5 rfl rfl)) rfl ?_) | refine RV.op (OV.step gno (Step.load Try.underlying3 rfl rfl (fun w h => (h.os 1 rfl).cell (by first | omega | (simp only [List.length_set]; omega)) rfl)) rfl ?_) | refine RV.op (OV.step gno (Step.load Try.underlying3 rfl rfl (fun w h => (h.os 1 rfl).cell0 (by first | omega | (simp only [List.length_set]; omega)) rfl)) rfl ?_) | refine RV.op (OV.step gno (Step.load Try.underlying3 rfl rfl (fun w h => (h.os 2 rfl).cell (by first | omega | (simp only [List.length_set]; omega)) rfl)) rfl ?_) | refine RV.op (OV.step gno (Step.load Try.underlying3 rfl rfl (fun w h => (h.os 2 rfl).cell0 (by first | omega | (simp only [List.length_set]; omega)) rfl)) rfl ?_) | refine RV.op (OV.step gno (Step.load Try.underlying3 rfl rfl (fun w h => (h.os 3 rfl).cell (by first | omega | (simp only [List.length_set]; omega)) rfl)) rfl ?_) | refine RV.op (OV.step gno (Step.load Try.underlying3 rfl rfl (fun w h => (h.os 3 rfl).cell0 (by first | omega | (simp only [List.length_set]; omega)) rfl)) rfl ?_))
        refine RV.op (OV.step gno (Step.assign rfl) rfl ?_)
        refine RV.nil ?_
        refine KV.then_n ?_
        refine KV.env [(0, _), (2, _), (3, _), (12, _)] ⟨rfl, rfl, rfl, rfl, trivial⟩ ?_
        refine CV.seq ?_
        -- region 14 rails.go:130
        refine CV.region ?_
        refine RV.op (OV.step gno (Step.move rfl) rfl ?_)
        refine RV.op (OV.split gno (Step.geq rfl rfl) rfl (fun hs => ?_) (fun hs => ?_))
        · -- True
          refine RV.nil ?_
          refine KV.then_n ?_
          refine KV.env [(0, _), (2, _), (3, _), (12, _), (102, _)] ⟨rfl, rfl, rfl, rfl, rfl, trivial⟩ ?_
          refine CV.cond_t rfl ?_
          -- region 15 rails.go:131
          obtain ⟨s, hs2⟩ := Int.eq_ofNat_of_zero_le hs
          rw [hs2]
          have hg2 := hg i hi s (by rw [← kr]; exact hs2)
          refine CV.region ?_
          refine RV.op (OV.step gno (Step.move rfl) rfl ?_)
          refine RV.op (OV.step gno (Step.move rfl) rfl ?_)
          refine RV.op (OV.step gno (Step.move rfl) rfl ?_)
          refine RV.op (OV.step gno (Step.move rfl) rfl ?_)
          refine RV.op (OV.call [0, 0, 0, 0, 0] (F := []) Try.func42 B42 N42 rfl rfl (fun w h => ih s (st1.setD i (IntKind.u64.wrap (m + (st1.r i).down))) _ _ _ w (setD_wf wf1 i _) (by show Acy st1.rails rk; rw [kr]; exact hg) (by show s < st1.rails.length; omega) (by omega) (by simp only [List.length_append, List.length_cons, List.length_nil]; omega)) (fun _ hb => hb.elim) gno rfl (fun v L' hp => ?_))
          obtain ⟨A2, c2, rfl, rfl⟩ := hp
          refine RV.op (OV.step gno (Step.assign rfl) rfl ?_)
          refine RV.nil ?_
          refine KV.then_n ?_
          refine KV.env [(3, _)] ⟨rfl, trivial⟩ ?_
          refine CV.seq ?_
          -- region 16 rails.go:133
          refine CV.region ?_
          refine RV.op (OV.step gno (Step.move rfl) rfl ?_)
          refine RV.op (OV.step gno (Step.assign rfl) rfl ?_)
          refine RV.nil ?_
          refine KV.then_n ?_
          refine KV.env [(8, _)] ⟨rfl, trivial⟩ ?_
          refine CV.ret ?_
          -- return at r16
          first | rw [remP_sup hst hc hs2 hm] | rw [remP_neg hst hc hs hm]
          exact KV.ret1 rfl rfl _ (fun _ h => h) ⟨_, _, rfl, rfl⟩
        · -- False
          refine RV.nil ?_
          refine KV.then_n ?_
          refine KV.env [(0, _), (2, _), (3, _), (12, _), (102, _)] ⟨rfl, rfl, rfl, rfl, rfl, trivial⟩ ?_
          refine CV.cond_f rfl ?_
          refine CV.skip ?_
          refine KV.then_n ?_
          refine KV.env [(3, _)] ⟨rfl, trivial⟩ ?_
          refine CV.seq ?_
          -- region 16 rails.go:133
          refine CV.region ?_
          refine RV.op (OV.step gno (Step.move rfl) rfl ?_)
          refine RV.op (OV.step gno (Step.assign rfl) rfl ?_)
          refine RV.nil ?_
          refine KV.then_n ?_
          refine KV.env [(8, _)] ⟨rfl, trivial⟩ ?_
          refine CV.ret ?_
          -- return at r16
          first | rw [remP_sup hst hc hs2 hm] | rw [remP_neg hst hc hs hm]
          exact KV.ret1 rfl rfl _ (fun _ h => h) ⟨_, _, rfl, rfl⟩

set_option maxRecDepth 100000 in
set_option maxHeartbeats 1000000 in
theorem acquire_fn (b : Nat) (a : RA) (st : St) (x now : Int) (w : World) (f : Nat) (rk : Nat → Nat) (wf : st.wf) (hg : Acy st.rails rk) (hf : ∀ i, i < st.rails.length → rk i < f) (hf2 : f ≤ 1000000) : Fx Try.prog 31 [.pointer (some ⟨b, 0, none⟩), .int .i64 x, .int .u64 now] w (robj 73 b a st) no (fun v L => ∃ A c, v = .tuple #[.slice A (acqM f st x now).ops.length c, .int .i64 (acqM f st x now).err] ∧ L = robj 73 b a (acqM f st x now).st ++ [OS 45 opK A c (acqM f st x now).ops]) := by
  refine Sv.Fx.body Try.func31 rfl T31 rfl ?_
  intro I hro hI
  refine KV.env [(0, _), (1, _), (2, _)] ⟨rfl, rfl, rfl, trivial⟩ ?_
  refine CV.seq ?_
  -- region 0 rails.go:40
  refine CV.region ?_
  refine RV.op (OV.step gno (Step.assign rfl) rfl ?_)
  refine RV.op (OV.step gno (Step.assign rfl) rfl ?_)
  refine RV.nil ?_
  refine KV.then_n ?_
  refine KV.env [(0, _), (1, _), (2, _)] ⟨rfl, rfl, rfl, trivial⟩ ?_
  refine CV.seq ?_
  refine CV.seq ?_
  -- region 1 rails.go:41
  refine CV.region ?_
  refine RV.op (OV.step gno (Step.move rfl) rfl ?_)
  refine RV.op (OV.step gno (Step.move rfl) rfl ?_)
  refine RV.op (OV.step gno (Step.move rfl) rfl ?_)
  refine RV.op (OV.call [0, 0, 0, 0] (F := []) Try.func40 B40 N40 rfl rfl (fun w h => permitted_fn b a st x now w) (fun _ hb => hb.elim) gno rfl (fun v L' hp => ?_))
  obtain ⟨rfl, rfl⟩ := hp
  by_cases hx : (0 ≤ x ∧ x < st.rails.length) ∧ st.clock ≤ now ∧ now ≤ 1152921504606846976
  · rw [decide_eq_true hx]
    obtain ⟨k, rfl⟩ := Int.eq_ofNat_of_zero_le hx.1.1
    have hk : k < st.rails.length := by omega
    refine RV.op (OV.step gno (Step.not rfl) rfl ?_)
    refine RV.nil ?_
    refine KV.then_n ?_
    refine KV.env [(0, _), (1, _), (2, _), (12, _)] ⟨rfl, rfl, rfl, rfl, trivial⟩ ?_
    refine CV.cond_f rfl ?_
    refine CV.skip ?_
    refine KV.then_n ?_
    refine KV.env [(0, _), (1, _), (2, _)] ⟨rfl, rfl, rfl, trivial⟩ ?_
    refine CV.seq ?_
    -- region 3 rails.go:44
    refine CV.region ?_
    refine RV.op (OV.step gno (Step.move rfl) rfl ?_)
    refine RV.op (OV.step gno (Step.move rfl) rfl ?_)
    refine RV.op (OV.step gno (Step.nilCheck rfl) rfl ?_)
    refine RV.op (OV.step gno (Step.fieldAddr rfl (F73_3 _ _)) rfl ?_)
    refine RV.op (OV.store 0 [_] #[_, _, _, _] I33 rfl rfl rfl rfl rfl (Nat.le_of_ble_eq_true rfl) (by simp [Value.oneCell']) rfl gno ?_)
    refine RV.nil ?_
    refine KV.then_n ?_
    refine KV.env [(0, _), (1, _), (2, _)] ⟨rfl, rfl, rfl, trivial⟩ ?_
    refine CV.seq ?_
    -- region 4 rails.go:45
    refine KV.heap (fun w2 h => h.nilOS (e := 45) (K := opK)) ?_
    refine CV.region ?_
    refine RV.op (OV.step gno (Step.move rfl) rfl ?_)
    refine RV.op (OV.step gno (Step.move rfl) rfl ?_)
    refine RV.op (OV.step gno (Step.move rfl) rfl ?_)
    refine RV.op (OV.call [0, 0, 0, 0, 0] (F := []) Try.func41 B41 N41 rfl rfl (fun w h => add_fn b a rk now f k (st.tick now) [] none 0 w ⟨wf.count, wf.done⟩ hg hk (hf k hk) (by simp; omega)) (fun _ hb => hb.elim) gno rfl (fun v L' hp => ?_))
    obtain ⟨A2, c2, rfl, rfl⟩ := hp
    refine RV.op (OV.step gno (Step.assign rfl) rfl ?_)
    refine RV.op (OV.step gno (Step.assign rfl) rfl ?_)
    refine RV.nil ?_
    refine KV.then_n ?_
    refine KV.env [(6, _), (7, _)] ⟨rfl, rfl, trivial⟩ ?_
    refine CV.ret ?_
    -- return at r4
    rw [acqM_yes (st := st) hx]
    exact KV.ret2 rfl rfl rfl _ (fun _ h => h) ⟨_, _, rfl, rfl⟩
  · rw [decide_eq_false hx]
    refine RV.op (OV.step gno (Step.not rfl) rfl ?_)
    refine RV.nil ?_
    refine KV.then_n ?_
    refine KV.env [(0, _), (1, _), (2, _), (12, _)] ⟨rfl, rfl, rfl, rfl, trivial⟩ ?_
    refine CV.cond_t rfl ?_
    refine CV.seq ?_
    -- region 2 rails.go:42
    refine CV.region ?_
    refine RV.op (OV.step gno (Step.assign rfl) rfl ?_)
    refine RV.op (OV.step gno (Step.assign rfl) rfl ?_)
    refine RV.nil ?_
    refine KV.then_n ?_
    refine KV.env [(6, _), (7, _)] ⟨rfl, rfl, trivial⟩ ?_
    refine CV.ret ?_
    refine KV.then_ret ?_
    -- return at r2
    rw [acqM_no (st := st) hx]
    exact KV.ret2 rfl rfl rfl _ (fun _ h => h.nilOS) ⟨none, 0, rfl, rfl⟩

set_option maxRecDepth 100000 in
set_option maxHeartbeats 1000000 in
theorem release_fn (b : Nat) (a : RA) (st : St) (x now : Int) (w : World) (f : Nat) (rk : Nat → Nat) (wf : st.wf) (hg : Acy st.rails rk) (hf : ∀ i, i < st.rails.length → rk i < f) (hf2 : f ≤ 1000000) : Fx Try.prog 32 [.pointer (some ⟨b, 0, none⟩), .int .i64 x, .int .u64 now] w (robj 73 b a st) no (fun v L => ∃ A c, v = .tuple #[.slice A (relM f st x now).ops.length c, .int .i64 (relM f st x now).err] ∧ L = robj 73 b a (relM f st x now).st ++ [OS 45 opK A c (relM f st x now).ops]) := by
  refine Sv.Fx.body Try.func32 rfl T32 rfl ?_
  intro I hro hI
  refine KV.env [(0, _), (1, _), (2, _)] ⟨rfl, rfl, rfl, trivial⟩ ?_
  have wc := wf.count
  have wd := wf.done
  refine CV.seq ?_
  -- region 0 rails.go:49
  refine CV.region ?_
  refine RV.op (OV.step gno (Step.assign rfl) rfl ?_)
  refine RV.op (OV.step gno (Step.assign rfl) rfl ?_)
  refine RV.nil ?_
  refine KV.then_n ?_
  refine KV.env [(0, _), (1, _), (2, _)] ⟨rfl, rfl, rfl, trivial⟩ ?_
  refine CV.seq ?_
  refine CV.seq ?_
  -- region 1 rails.go:50
  refine CV.region ?_
  refine RV.op (OV.step gno (Step.move rfl) rfl ?_)
  refine RV.op (OV.step gno (Step.move rfl) rfl ?_)
  refine RV.op (OV.step gno (Step.move rfl) rfl ?_)
  refine RV.op (OV.call [0, 0, 0, 0] (F := []) Try.func40 B40 N40 rfl rfl (fun w h => permitted_fn b a st x now w) (fun _ hb => hb.elim) gno rfl (fun v L' hp => ?_))
  obtain ⟨rfl, rfl⟩ := hp
  by_cases hx : (0 ≤ x ∧ x < st.rails.length) ∧ st.clock ≤ now ∧ now ≤ 1152921504606846976
  · rw [decide_eq_true hx]
    obtain ⟨k, rfl⟩ := Int.eq_ofNat_of_zero_le hx.1.1
    have hk : k < st.rails.length := by omega
    refine RV.op (OV.step gno (Step.not rfl) rfl ?_)
    refine RV.nil ?_
    refine KV.then_n ?_
    refine KV.env [(0, _), (1, _), (2, _), (15, _)] ⟨rfl, rfl, rfl, rfl, trivial⟩ ?_
    refine CV.cond_f rfl ?_
    refine CV.skip ?_
    refine KV.then_n ?_
    refine KV.env [(0, _), (1, _), (2, _)] ⟨rfl, rfl, rfl, trivial⟩ ?_
    refine CV.seq ?_
    -- region 3 rails.go:53
    refine KV.have (fun w2 h => (h.osCap 1 rfl)) (fun hcap => ?_)
    have hcap2 : st.rails.length ≤ 9223372036854775807 := by have := hcap.2; unfold maxLen at this; omega
    refine CV.region ?_
    refine RV.op (OV.step gno (Step.assign rfl) rfl ?_)
    refine RV.nil ?_
    refine KV.then_n ?_
    refine KV.env [(0, _), (1, _), (2, _), (8, _)] ⟨rfl, rfl, rfl, rfl, trivial⟩ ?_
    refine CV.seq ?_
    refine CV.seq ?_
    -- region 4 rails.go:54
    refine CV.region ?_
    refine RV.op (OV.step gno (Step.move rfl) rfl ?_)
    refine RV.op (OV.step gno (Step.nilCheck rfl) rfl ?_)
    refine RV.op (OV.step gno (Step.fieldAddr rfl (F73_0 _ _)) rfl ?_)
    (first | refine RV.op (OV.step gno (Step.load Try.underlying22 rfl rfl (fun w h => h.cell 0 rfl rfl)) rfl ?_) | refine RV.op (OV.step gno (Step.load Try.underlying22 rfl rfl (fun w h => h.cell 4 rfl rfl)) rfl ?_) | refine RV.op (OV.step gno (Step.load Try.underlying22 rfl rfl (fun w h => (h.os 1 rfl).cell (by first | omega | (simp only [List.length_set]; omega)) rfl)) rfl ?_) | refine RV.op (OV.step gno (Step.load Try.underlying22 rfl rfl (fun w h => (h.os 1 rfl).cell0 (by first | omega | (simp only [List.length_set]; omega)) rfl)) rfl ?_) | refine RV.op (OV.step gno (Step.load Try.underlying22 rfl rfl (fun w h => (h.os 2 rfl).cell (by first | omega | (simp only [List.length_set]; omega)) rfl)) rfl ?_) | refine RV.op (OV.step gno (Step.load Try.underlying22 rfl rfl (fun w h => (h.os 2 rfl).cell0 (by first | omega | (simp only [List.length_set]; omega)) rfl)) rfl ?_) | refine RV.op (OV.step gno (Step.load Try.underlying22 rfl rfl (fun w h => (h.os 3 rfl).cell (by first | omega | (simp only [List.length_set]; omega)) rfl)) rfl ?_) | refine RV.op (OV.step gno (Step.load Try.underlying22 rfl rfl (fun w h => (h.os 3 rfl).cell0 (by first | omega | (simp only [List.length_set]; omega)) rfl)) rfl ?_))
    refine RV.op (OV.step gno (Step.lenSl Try.underlying22 rfl) rfl ?_)
    refine RV.op (OV.step gno (Step.move rfl) rfl ?_)
    refine RV.nil ?_
    refine KV.then_n ?_
    refine KV.env [(0, _), (1, _), (2, _), (8, _), (19, _), (20, _), (21, _)] ⟨rfl, rfl, rfl, rfl, rfl, rfl, rfl, trivial⟩ ?_
    refine CV.block ?_
    -- loop L5; live [0, 1, 2, 8, 19, 20, 21]
    refine CV.loopI (α := Nat) (fun k => k ≤ st.rails.length) (fun z => st.rails.length - z) (fun z => [(0, .pointer (some ⟨b, 0, none⟩)), (1, .int .i64 k), (2, .int .u64 now), (8, .int .i64 (heldM st k z)), (19, .slice a.A0 st.rails.length a.c0), (20, .int .i64 st.rails.length), (21, .int .i64 z)]) (fun z => Hp I w (robj 73 b a st)) 0 (Nat.zero_le _) ⟨rfl, rfl, rfl, rfl, rfl, rfl, rfl, trivial⟩ (fun _ h => h) ?_
    intro j hj
    refine CV.seq ?_
    -- region 5 rails.go:54
    refine CV.region ?_
    refine RV.op (OV.split gno (Step.lss rfl rfl) rfl (fun hl => ?_) (fun hl => ?_))
    · -- True
      refine RV.nil ?_
      refine KV.then_n ?_
      refine KV.env [(0, _), (1, _), (2, _), (8, _), (19, _), (20, _), (21, _), (22, _)] ⟨rfl, rfl, rfl, rfl, rfl, rfl, rfl, rfl, trivial⟩ ?_
      refine CV.seq ?_
      refine CV.cond_t rfl ?_
      refine CV.skip ?_
      refine KV.then_n ?_
      refine KV.env [(0, _), (1, _), (2, _), (8, _), (19, _), (20, _), (21, _)] ⟨rfl, rfl, rfl, rfl, rfl, rfl, rfl, trivial⟩ ?_
      refine CV.seq ?_
      refine CV.block ?_
      refine CV.seq ?_
      -- region 6 rails.go:54
      refine CV.region ?_
      refine RV.op (OV.step gno (Step.move rfl) rfl ?_)
      (first | refine RV.op (OV.step gno (Step.idx Try.underlying22 I35 (fun w h => h.os 1 rfl) rfl rfl (by first | rfl | omega | (simp only [List.length_set]; omega)) _ rfl (by first | omega | (simp only [List.length_set]; omega))) rfl ?_) | refine RV.op (OV.step gno (Step.idx Try.underlying22 I35 (fun w h => h.os 2 rfl) rfl rfl (by first | rfl | omega | (simp only [List.length_set]; omega)) _ rfl (by first | omega | (simp only [List.length_set]; omega))) rfl ?_) | refine RV.op (OV.step gno (Step.idx Try.underlying22 I35 (fun w h => h.os 3 rfl) rfl rfl (by first | rfl | omega | (simp only [List.length_set]; omega)) _ rfl (by first | omega | (simp only [List.length_set]; omega))) rfl ?_))
      (first | refine RV.op (OV.step gno (Step.loadN _ Try.underlying35 rfl I35 rfl rfl (fun w h => h.cells 0 rfl)) rfl ?_) | refine RV.op (OV.step gno (Step.loadN _ Try.underlying35 rfl I35 rfl rfl (fun w h => h.cells 4 rfl)) rfl ?_) | refine RV.op (OV.step gno (Step.loadN _ Try.underlying35 rfl I35 rfl rfl (fun w h => (h.os 1 rfl).cells (by first | omega | (simp only [List.length_set]; omega)))) rfl ?_) | refine RV.op (OV.step gno (Step.loadN _ Try.underlying35 rfl I35 rfl rfl (fun w h => (h.os 2 rfl).cells (by first | omega | (simp only [List.length_set]; omega)))) rfl ?_) | refine RV.op (OV.step gno (Step.loadN _ Try.underlying35 rfl I35 rfl rfl (fun w h => (h.os 3 rfl).cells (by first | omega | (simp only [List.length_set]; omega)))) rfl ?_))
      refine RV.op (OV.alloc #[.int .i64 0, .int .u64 0, .int .u64 0] I35 rfl gno rfl (fun b6_3 => ?_))
      refine RV.op (OV.step gno (Step.assign rfl) rfl ?_)
      refine RV.op (OV.store 4 [_, _, _] #[_, _, _] I35 rfl rfl rfl rfl rfl (Nat.le_of_ble_eq_true rfl) (by simp [Value.oneCell']) rfl gno ?_)
      refine KV.sel [0, 0, 0, 0, 0] [_, _, _, _, _] rfl ?_
      refine RV.nil ?_
      refine KV.then_n ?_
      refine KV.env [(0, _), (1, _), (2, _), (8, _), (9, _), (10, _), (19, _), (20, _), (21, _)] ⟨rfl, rfl, rfl, rfl, rfl, rfl, rfl, rfl, rfl, trivial⟩ ?_
      refine CV.seq ?_
      -- region 7 rails.go:55
      refine CV.region ?_
      refine RV.op (OV.step gno (Step.fieldAddr rfl (F35_0 _ _)) rfl ?_)
      (first | refine RV.op (OV.step gno (Step.load Try.underlying3 rfl rfl (fun w h => h.cell 0 rfl rfl)) rfl ?_) | refine RV.op (OV.step gno (Step.load Try.underlying3 rfl rfl (fun w h => h.cell 4 rfl rfl)) rfl ?_) | refine RV.op (OV.step gno (Step.load Try.underlying3 rfl rfl (fun w h => (h.os 1 rfl).cell (by first | omega | (simp only [List.length_set]; omega)) rfl)) rfl ?_) | refine RV.op (OV.step gno (Step.load Try.underlying3 rfl rfl (fun w h => (h.os 1 rfl).cell0 (by first | omega | (simp only [List.length_set]; omega)) rfl)) rfl ?_) | refine RV.op (OV.step gno (Step.load Try.underlying3 rfl rfl (fun w h => (h.os 2 rfl).cell (by first | omega | (simp only [List.length_set]; omega)) rfl)) rfl ?_) | refine RV.op (OV.step gno (Step.load Try.underlying3 rfl rfl (fun w h => (h.os 2 rfl).cell0 (by first | omega | (simp only [List.length_set]; omega)) rfl)) rfl ?_) | refine RV.op (OV.step gno (Step.load Try.underlying3 rfl rfl (fun w h => (h.os 3 rfl).cell (by first | omega | (simp only [List.length_set]; omega)) rfl)) rfl ?_) | refine RV.op (OV.step gno (Step.load Try.underlying3 rfl rfl (fun w h => (h.os 3 rfl).cell0 (by first | omega | (simp only [List.length_set]; omega)) rfl)) rfl ?_))
      refine RV.op (OV.step gno (Step.move rfl) rfl ?_)
      refine RV.op (OV.split gno (Step.eql rfl rfl) rfl (fun hq => ?_) (fun hq => ?_))
      · -- True
        refine RV.op (OV.step gno (Step.move rfl) rfl ?_)
        refine RV.op (OV.step (gyes rfl) (Step.move rfl) rfl ?_)
        refine RV.op (OV.step (gyes rfl) (Step.nilCheck rfl) rfl ?_)
        refine RV.op (OV.step (gyes rfl) (Step.fieldAddr rfl (F73_1 _ _)) rfl ?_)
        (first | refine RV.op (OV.step (gyes rfl) (Step.load Try.underlying57 rfl rfl (fun w h => h.cell 0 rfl rfl)) rfl ?_) | refine RV.op (OV.step (gyes rfl) (Step.load Try.underlying57 rfl rfl (fun w h => h.cell 4 rfl rfl)) rfl ?_) | refine RV.op (OV.step (gyes rfl) (Step.load Try.underlying57 rfl rfl (fun w h => (h.os 1 rfl).cell (by first | omega | (simp only [List.length_set]; omega)) rfl)) rfl ?_) | refine RV.op (OV.step (gyes rfl) (Step.load Try.underlying57 rfl rfl (fun w h => (h.os 1 rfl).cell0 (by first | omega | (simp only [List.length_set]; omega)) rfl)) rfl ?_) | refine RV.op (OV.step (gyes rfl) (Step.load Try.underlying57 rfl rfl (fun w h => (h.os 2 rfl).cell (by first | omega | (simp only [List.length_set]; omega)) rfl)) rfl ?_) | refine RV.op (OV.step (gyes rfl) (Step.load Try.underlying57 rfl rfl (fun w h => (h.os 2 rfl).cell0 (by first | omega | (simp only [List.length_set]; omega)) rfl)) rfl ?_) | refine RV.op (OV.step (gyes rfl) (Step.load Try.underlying57 rfl rfl (fun w h => (h.os 3 rfl).cell (by first | omega | (simp only [List.length_set]; omega)) rfl)) rfl ?_) | refine RV.op (OV.step (gyes rfl) (Step.load Try.underlying57 rfl rfl (fun w h => (h.os 3 rfl).cell0 (by first | omega | (simp only [List.length_set]; omega)) rfl)) rfl ?_))
        refine RV.op (OV.step (gyes rfl) (Step.move rfl) rfl ?_)
        (first | refine RV.op (OV.step (gyes rfl) (Step.idx Try.underlying57 I3 (fun w h => h.os 1 rfl) rfl rfl (by first | rfl | omega | (simp only [List.length_set]; omega)) _ rfl (by first | omega | (simp only [List.length_set]; omega))) rfl ?_) | refine RV.op (OV.step (gyes rfl) (Step.idx Try.underlying57 I3 (fun w h => h.os 2 rfl) rfl rfl (by first | rfl | omega | (simp only [List.length_set]; omega)) _ rfl (by first | omega | (simp only [List.length_set]; omega))) rfl ?_) | refine RV.op (OV.step (gyes rfl) (Step.idx Try.underlying57 I3 (fun w h => h.os 3 rfl) rfl rfl (by first | rfl | omega | (simp only [List.length_set]; omega)) _ rfl (by first | omega | (simp only [List.length_set]; omega))) rfl ?_))
        (first | refine RV.op (OV.step (gyes rfl) (Step.load Try.underlying3 rfl rfl (fun w h => h.cell 0 rfl rfl)) rfl ?_) | refine RV.op (OV.step (gyes rfl) (Step.load Try.underlying3 rfl rfl (fun w h => h.cell 4 rfl rfl)) rfl ?_) | refine RV.op (OV.step (gyes rfl) (Step.load Try.underlying3 rfl rfl (fun w h => (h.os 1 rfl).cell (by first | omega | (simp only [List.length_set]; omega)) rfl)) rfl ?_) | refine RV.op (OV.step (gyes rfl) (Step.load Try.underlying3 rfl rfl (fun w h => (h.os 1 rfl).cell0 (by first | omega | (simp only [List.length_set]; omega)) rfl)) rfl ?_) | refine RV.op (OV.step (gyes rfl) (Step.load Try.underlying3 rfl rfl (fun w h => (h.os 2 rfl).cell (by first | omega | (simp only [List.length_set]; omega)) rfl)) rfl ?_) | refine RV.op (OV.step (gyes rfl) (Step.load Try.underlying3 rfl rfl (fun w h => (h.os 2 rfl).cell0 (by first | omega | (simp only [List.length_set]; omega)) rfl)) rfl ?_) | refine RV.op (OV.step (gyes rfl) (Step.load Try.underlying3 rfl rfl (fun w h => (h.os 3 rfl).cell (by first | omega | (simp only [List.length_set]; omega)) rfl)) rfl ?_) | refine RV.op (OV.step (gyes rfl) (Step.load Try.underlying3 rfl rfl (fun w h => (h.os 3 rfl).cell0 (by first | omega | (simp only [List.length_set]; omega)) rfl)) rfl ?_))
        refine RV.op (OV.split (gyes rfl) (Step.gtr rfl rfl) rfl (fun hq2 => ?_) (fun hq2 => ?_))
        · -- True
          refine RV.op (OV.step gno (Step.pick_t rfl rfl) rfl ?_)
          refine RV.nil ?_
          refine KV.then_n ?_
          refine KV.env [(0, _), (1, _), (2, _), (8, _), (19, _), (20, _), (21, _), (39, _)] ⟨rfl, rfl, rfl, rfl, rfl, rfl, rfl, rfl, trivial⟩ ?_
          refine CV.cond_t rfl ?_
          -- region 8 rails.go:56
          have hle := heldM_le st k j
          refine CV.region ?_
          refine RV.op (OV.step gno (Step.move rfl) rfl ?_)
          (first | refine RV.op (OV.step gno (Step.add rfl rfl (wI64 (by omega) (by omega))) rfl ?_) | refine RV.op (OV.step gno (Step.add rfl rfl rfl) rfl ?_))
          refine RV.op (OV.step gno (Step.assign rfl) rfl ?_)
          refine RV.nil ?_
          refine KV.block_n ?_
          refine KV.then_n ?_
          refine KV.env [(0, _), (1, _), (2, _), (8, _), (19, _), (20, _), (21, _)] ⟨rfl, rfl, rfl, rfl, rfl, rfl, rfl, trivial⟩ ?_
          -- region 9 rails.go:54
          refine CV.region ?_
          (first | refine RV.op (OV.step gno (Step.add rfl rfl (wI64 (by omega) (by omega))) rfl ?_) | refine RV.op (OV.step gno (Step.add rfl rfl rfl) rfl ?_))
          refine RV.op (OV.step gno (Step.move rfl) rfl ?_)
          refine RV.nil ?_
          refine KV.then_n ?_
          refine KV.env [(0, _), (1, _), (2, _), (8, _), (19, _), (20, _), (21, _)] ⟨rfl, rfl, rfl, rfl, rfl, rfl, rfl, trivial⟩ ?_
          refine KV.sel [0, 0, 0, 0] [_, _, _, _] rfl ?_
          refine KV.loopI (j + 1) (by omega) (by omega) ⟨rfl, rfl, rfl, by first | (rw [heldM_pos (st := st) hq hq2]; rfl) | (rw [heldM_neg (st := st) hq]; rfl) | (rw [heldM_neg2 (st := st) hq2]; rfl), rfl, rfl, rfl, trivial⟩ (fun _ h => h)
        · -- False
          refine RV.op (OV.step gno (Step.pick_t rfl rfl) rfl ?_)
          refine RV.nil ?_
          refine KV.then_n ?_
          refine KV.env [(0, _), (1, _), (2, _), (8, _), (19, _), (20, _), (21, _), (39, _)] ⟨rfl, rfl, rfl, rfl, rfl, rfl, rfl, rfl, trivial⟩ ?_
          refine CV.cond_f rfl ?_
          refine CV.skip ?_
          refine KV.block_n ?_
          refine KV.then_n ?_
          refine KV.env [(0, _), (1, _), (2, _), (8, _), (19, _), (20, _), (21, _)] ⟨rfl, rfl, rfl, rfl, rfl, rfl, rfl, trivial⟩ ?_
          -- region 9 rails.go:54
          refine CV.region ?_
          (first | refine RV.op (OV.step gno (Step.add rfl rfl (wI64 (by omega) (by omega))) rfl ?_) | refine RV.op (OV.step gno (Step.add rfl rfl rfl) rfl ?_))
          refine RV.op (OV.step gno (Step.move rfl) rfl ?_)
          refine RV.nil ?_
          refine KV.then_n ?_
          refine KV.env [(0, _), (1, _), (2, _), (8, _), (19, _), (20, _), (21, _)] ⟨rfl, rfl, rfl, rfl, rfl, rfl, rfl, trivial⟩ ?_
          refine KV.sel [0, 0, 0, 0] [_, _, _, _] rfl ?_
          refine KV.loopI (j + 1) (by omega) (by omega) ⟨rfl, rfl, rfl, by first | (rw [heldM_pos (st := st) hq hq2]; rfl) | (rw [heldM_neg (st := st) hq]; rfl) | (rw [heldM_neg2 (st := st) hq2]; rfl), rfl, rfl, rfl, trivial⟩ (fun _ h => h)
      · -- False
        refine RV.op (OV.step gno (Step.move rfl) rfl ?_)
        refine RV.op (OV.skip rfl rfl ?_)
        refine RV.op (OV.skip rfl rfl ?_)
        refine RV.op (OV.skip rfl rfl ?_)
        refine RV.op (OV.skip rfl rfl ?_)
        refine RV.op (OV.skip rfl rfl ?_)
        refine RV.op (OV.skip rfl rfl ?_)
        refine RV.op (OV.skip rfl rfl ?_)
        refine RV.op (OV.skip rfl rfl ?_)
        refine RV.op (OV.step gno (Step.pick_f rfl rfl) rfl ?_)
        refine RV.nil ?_
        refine KV.then_n ?_
        refine KV.env [(0, _), (1, _), (2, _), (8, _), (19, _), (20, _), (21, _), (39, _)] ⟨rfl, rfl, rfl, rfl, rfl, rfl, rfl, rfl, trivial⟩ ?_
        refine CV.cond_f rfl ?_
        refine CV.skip ?_
        refine KV.block_n ?_
        refine KV.then_n ?_
        refine KV.env [(0, _), (1, _), (2, _), (8, _), (19, _), (20, _), (21, _)] ⟨rfl, rfl, rfl, rfl, rfl, rfl, rfl, trivial⟩ ?_
        -- region 9 rails.go:54
        refine CV.region ?_
        (first | refine RV.op (OV.step gno (Step.add rfl rfl (wI64 (by omega) (by omega))) rfl ?_) | refine RV.op (OV.step gno (Step.add rfl rfl rfl) rfl ?_))
        refine RV.op (OV.step gno (Step.move rfl) rfl ?_)
        refine RV.nil ?_
        refine KV.then_n ?_
        refine KV.env [(0, _), (1, _), (2, _), (8, _), (19, _), (20, _), (21, _)] ⟨rfl, rfl, rfl, rfl, rfl, rfl, rfl, trivial⟩ ?_
        refine KV.sel [0, 0, 0, 0] [_, _, _, _] rfl ?_
        refine KV.loopI (j + 1) (by omega) (by omega) ⟨rfl, rfl, rfl, by first | (rw [heldM_pos (st := st) hq hq2]; rfl) | (rw [heldM_neg (st := st) hq]; rfl) | (rw [heldM_neg2 (st := st) hq2]; rfl), rfl, rfl, rfl, trivial⟩ (fun _ h => h)
    · -- False
      obtain rfl : j = st.rails.length := by omega
      refine RV.nil ?_
      refine KV.then_n ?_
      refine KV.env [(0, _), (1, _), (2, _), (8, _), (19, _), (20, _), (21, _), (22, _)] ⟨rfl, rfl, rfl, rfl, rfl, rfl, rfl, rfl, trivial⟩ ?_
      refine CV.seq ?_
      refine CV.cond_f rfl ?_
      refine CV.exit ?_
      refine KV.then_exit ?_
      refine KV.then_exit ?_
      refine KV.block_hit ?_
      refine KV.then_n ?_
      refine KV.env [(0, _), (1, _), (2, _), (8, _)] ⟨rfl, rfl, rfl, rfl, trivial⟩ ?_
      refine CV.seq ?_
      refine CV.seq ?_
      -- region 10 rails.go:59
      refine CV.region ?_
      refine RV.op (OV.step gno (Step.move rfl) rfl ?_)
      refine RV.op (OV.step gno (Step.nilCheck rfl) rfl ?_)
      refine RV.op (OV.step gno (Step.fieldAddr rfl (F73_1 _ _)) rfl ?_)
      (first | refine RV.op (OV.step gno (Step.load Try.underlying57 rfl rfl (fun w h => h.cell 0 rfl rfl)) rfl ?_) | refine RV.op (OV.step gno (Step.load Try.underlying57 rfl rfl (fun w h => h.cell 4 rfl rfl)) rfl ?_) | refine RV.op (OV.step gno (Step.load Try.underlying57 rfl rfl (fun w h => (h.os 1 rfl).cell (by first | omega | (simp only [List.length_set]; omega)) rfl)) rfl ?_) | refine RV.op (OV.step gno (Step.load Try.underlying57 rfl rfl (fun w h => (h.os 1 rfl).cell0 (by first | omega | (simp only [List.length_set]; omega)) rfl)) rfl ?_) | refine RV.op (OV.step gno (Step.load Try.underlying57 rfl rfl (fun w h => (h.os 2 rfl).cell (by first | omega | (simp only [List.length_set]; omega)) rfl)) rfl ?_) | refine RV.op (OV.step gno (Step.load Try.underlying57 rfl rfl (fun w h => (h.os 2 rfl).cell0 (by first | omega | (simp only [List.length_set]; omega)) rfl)) rfl ?_) | refine RV.op (OV.step gno (Step.load Try.underlying57 rfl rfl (fun w h => (h.os 3 rfl).cell (by first | omega | (simp only [List.length_set]; omega)) rfl)) rfl ?_) | refine RV.op (OV.step gno (Step.load Try.underlying57 rfl rfl (fun w h => (h.os 3 rfl).cell0 (by first | omega | (simp only [List.length_set]; omega)) rfl)) rfl ?_))
      refine RV.op (OV.step gno (Step.move rfl) rfl ?_)
      (first | refine RV.op (OV.step gno (Step.idx Try.underlying57 I3 (fun w h => h.os 1 rfl) rfl rfl (by first | rfl | omega | (simp only [List.length_set]; omega)) _ rfl (by first | omega | (simp only [List.length_set]; omega))) rfl ?_) | refine RV.op (OV.step gno (Step.idx Try.underlying57 I3 (fun w h => h.os 2 rfl) rfl rfl (by first | rfl | omega | (simp only [List.length_set]; omega)) _ rfl (by first | omega | (simp only [List.length_set]; omega))) rfl ?_) | refine RV.op (OV.step gno (Step.idx Try.underlying57 I3 (fun w h => h.os 3 rfl) rfl rfl (by first | rfl | omega | (simp only [List.length_set]; omega)) _ rfl (by first | omega | (simp only [List.length_set]; omega))) rfl ?_))
      (first | refine RV.op (OV.step gno (Step.load Try.underlying3 rfl rfl (fun w h => h.cell 0 rfl rfl)) rfl ?_) | refine RV.op (OV.step gno (Step.load Try.underlying3 rfl rfl (fun w h => h.cell 4 rfl rfl)) rfl ?_) | refine RV.op (OV.step gno (Step.load Try.underlying3 rfl rfl (fun w h => (h.os 1 rfl).cell (by first | omega | (simp only [List.length_set]; omega)) rfl)) rfl ?_) | refine RV.op (OV.step gno (Step.load Try.underlying3 rfl rfl (fun w h => (h.os 1 rfl).cell0 (by first | omega | (simp only [List.length_set]; omega)) rfl)) rfl ?_) | refine RV.op (OV.step gno (Step.load Try.underlying3 rfl rfl (fun w h => (h.os 2 rfl).cell (by first | omega | (simp only [List.length_set]; omega)) rfl)) rfl ?_) | refine RV.op (OV.step gno (Step.load Try.underlying3 rfl rfl (fun w h => (h.os 2 rfl).cell0 (by first | omega | (simp only [List.length_set]; omega)) rfl)) rfl ?_) | refine RV.op (OV.step gno (Step.load Try.underlying3 rfl rfl (fun w h => (h.os 3 rfl).cell (by first | omega | (simp only [List.length_set]; omega)) rfl)) rfl ?_) | refine RV.op (OV.step gno (Step.load Try.underlying3 rfl rfl (fun w h => (h.os 3 rfl).cell0 (by first | omega | (simp only [List.length_set]; omega)) rfl)) rfl ?_))
      refine RV.op (OV.step gno (Step.move rfl) rfl ?_)
      refine RV.op (OV.split gno (Step.leq rfl rfl) rfl (fun hh => ?_) (fun hh => ?_))
      · -- True
        refine RV.nil ?_
        refine KV.then_n ?_
        refine KV.env [(0, _), (1, _), (2, _), (51, _)] ⟨rfl, rfl, rfl, rfl, trivial⟩ ?_
        refine CV.cond_t rfl ?_
        refine CV.seq ?_
        -- region 11 rails.go:60
        refine CV.region ?_
        refine RV.op (OV.step gno (Step.assign rfl) rfl ?_)
        refine RV.op (OV.step gno (Step.assign rfl) rfl ?_)
        refine RV.nil ?_
        refine KV.then_n ?_
        refine KV.env [(6, _), (7, _)] ⟨rfl, rfl, trivial⟩ ?_
        refine CV.ret ?_
        refine KV.then_ret ?_
        -- return at r11
        rw [relM_held (st := st) hx hh]
        exact KV.ret2 rfl rfl rfl _ (fun _ h => h.nilOS) ⟨none, 0, rfl, rfl⟩
      · -- False
        refine RV.nil ?_
        refine KV.then_n ?_
        refine KV.env [(0, _), (1, _), (2, _), (51, _)] ⟨rfl, rfl, rfl, rfl, trivial⟩ ?_
        refine CV.cond_f rfl ?_
        refine CV.skip ?_
        refine KV.then_n ?_
        refine KV.env [(0, _), (1, _), (2, _)] ⟨rfl, rfl, rfl, trivial⟩ ?_
        refine CV.seq ?_
        -- region 12 rails.go:62
        refine CV.region ?_
        refine RV.op (OV.step gno (Step.move rfl) rfl ?_)
        refine RV.op (OV.step gno (Step.move rfl) rfl ?_)
        refine RV.op (OV.step gno (Step.nilCheck rfl) rfl ?_)
        refine RV.op (OV.step gno (Step.fieldAddr rfl (F73_3 _ _)) rfl ?_)
        refine RV.op (OV.store 0 [_] #[_, _, _, _] I33 rfl rfl rfl rfl rfl (Nat.le_of_ble_eq_true rfl) (by simp [Value.oneCell']) rfl gno ?_)
        refine RV.nil ?_
        refine KV.then_n ?_
        refine KV.env [(0, _), (1, _), (2, _)] ⟨rfl, rfl, rfl, trivial⟩ ?_
        refine CV.seq ?_
        -- region 13 rails.go:63
        refine KV.heap (fun w2 h => h.nilOS (e := 45) (K := opK)) ?_
        refine CV.region ?_
        refine RV.op (OV.step gno (Step.move rfl) rfl ?_)
        refine RV.op (OV.step gno (Step.move rfl) rfl ?_)
        refine RV.op (OV.step gno (Step.move rfl) rfl ?_)
        refine RV.op (OV.call [0, 0, 0, 0, 0] (F := []) Try.func42 B42 N42 rfl rfl (fun w h => remove_fn b a rk now f k (st.tick now) [] none 0 w ⟨wf.count, wf.done⟩ hg hk (hf k hk) (by simp; omega)) (fun _ hb => hb.elim) gno rfl (fun v L' hp => ?_))
        obtain ⟨A2, c2, rfl, rfl⟩ := hp
        refine RV.op (OV.step gno (Step.assign rfl) rfl ?_)
        refine RV.op (OV.step gno (Step.assign rfl) rfl ?_)
        refine RV.nil ?_
        refine KV.then_n ?_
        refine KV.env [(6, _), (7, _)] ⟨rfl, rfl, trivial⟩ ?_
        refine CV.ret ?_
        -- return at r13
        rw [relM_yes (st := st) hx hh]
        exact KV.ret2 rfl rfl rfl _ (fun _ h => h) ⟨_, _, rfl, rfl⟩
  · rw [decide_eq_false hx]
    refine RV.op (OV.step gno (Step.not rfl) rfl ?_)
    refine RV.nil ?_
    refine KV.then_n ?_
    refine KV.env [(0, _), (1, _), (2, _), (15, _)] ⟨rfl, rfl, rfl, rfl, trivial⟩ ?_
    refine CV.cond_t rfl ?_
    refine CV.seq ?_
    -- region 2 rails.go:51
    refine CV.region ?_
    refine RV.op (OV.step gno (Step.assign rfl) rfl ?_)
    refine RV.op (OV.step gno (Step.assign rfl) rfl ?_)
    refine RV.nil ?_
    refine KV.then_n ?_
    refine KV.env [(6, _), (7, _)] ⟨rfl, rfl, trivial⟩ ?_
    refine CV.ret ?_
    refine KV.then_ret ?_
    -- return at r2
    rw [relM_no (st := st) hx]
    exact KV.ret2 rfl rfl rfl _ (fun _ h => h.nilOS) ⟨none, 0, rfl, rfl⟩
end Go.Proofs.Ytcmalbkflbfidaa
