/-
  Walks, part 2.
-/
import Derived.Test.YtcmalbkflbfidaaTab2
import Derived.Test.YtcmalbkflbfidaaW1
set_option linter.unusedSimpArgs false
set_option linter.unusedVariables false
namespace Go.Proofs.Ytcmalbkflbfidaa
open Go.Sv Go.Rails
set_option maxRecDepth 100000 in
set_option maxHeartbeats 1000000 in
theorem later_fn (x y : Int) : FxP Try.prog 51 [.int .u64 x, .int .u64 y] (.int .u64 (max x y)) := by
  refine Sv.FxP.body Try.func51 rfl T51 rfl ?_
  intro wp
  refine KV.env [(0, _), (1, _)] ⟨rfl, rfl, trivial⟩ ?_
  refine CV.seq ?_
  -- region 0 ref.go:42
  refine CV.region ?_
  refine RV.op (OV.step gno (Step.assign rfl) rfl ?_)
  refine RV.nil ?_
  refine KV.then_n ?_
  refine KV.env [(0, _), (1, _)] ⟨rfl, rfl, trivial⟩ ?_
  refine CV.seq ?_
  refine CV.seq ?_
  -- region 1 ref.go:43
  refine CV.region ?_
  refine RV.op (OV.step gno (Step.move rfl) rfl ?_)
  refine RV.op (OV.step gno (Step.move rfl) rfl ?_)
  refine RV.op (OV.split gno (Step.gtr rfl rfl) rfl (fun cc1 => ?_) (fun cc1 => ?_))
  · -- True
    refine RV.nil ?_
    refine KV.then_n ?_
    refine KV.env [(0, _), (1, _), (7, _)] ⟨rfl, rfl, rfl, trivial⟩ ?_
    refine CV.cond_t rfl ?_
    refine CV.seq ?_
    -- region 2 ref.go:44
    refine CV.region ?_
    refine RV.op (OV.step gno (Step.move rfl) rfl ?_)
    refine RV.op (OV.step gno (Step.assign rfl) rfl ?_)
    refine RV.nil ?_
    refine KV.then_n ?_
    refine KV.env [(4, _)] ⟨rfl, trivial⟩ ?_
    refine CV.ret ?_
    refine KV.then_ret ?_
    -- return at r2
    exact KV.retP1 rfl rfl (by congr 1; omega)
  · -- False
    refine RV.nil ?_
    refine KV.then_n ?_
    refine KV.env [(0, _), (1, _), (7, _)] ⟨rfl, rfl, rfl, trivial⟩ ?_
    refine CV.cond_f rfl ?_
    refine CV.skip ?_
    refine KV.then_n ?_
    refine KV.env [(1, _)] ⟨rfl, trivial⟩ ?_
    refine CV.seq ?_
    -- region 3 ref.go:46
    refine CV.region ?_
    refine RV.op (OV.step gno (Step.move rfl) rfl ?_)
    refine RV.op (OV.step gno (Step.assign rfl) rfl ?_)
    refine RV.nil ?_
    refine KV.then_n ?_
    refine KV.env [(4, _)] ⟨rfl, trivial⟩ ?_
    refine CV.ret ?_
    -- return at r3
    exact KV.retP1 rfl rfl (by congr 1; omega)

set_option maxRecDepth 100000 in
set_option maxHeartbeats 1000000 in
theorem bad_fn (b : Nat) (a : RA) (st : St) (x now : Int) (w : World) : Fx Try.prog 45 [.pointer (some ⟨b, 0, none⟩), .int .i64 x, .int .u64 now] w (robj 59 b a st) no (fun v L => v = .bool (decide (¬ ((0 ≤ x ∧ x < st.rails.length) ∧ st.clock ≤ now ∧ now ≤ 1152921504606846976))) ∧ L = robj 59 b a st) := by
  refine Sv.Fx.body Try.func45 rfl T45 rfl ?_
  intro I hro hI
  refine KV.env [(0, _), (1, _), (2, _)] ⟨rfl, rfl, rfl, trivial⟩ ?_
  refine CV.seq ?_
  -- region 0 ref.go:37
  refine CV.region ?_
  refine RV.op (OV.step gno (Step.assign rfl) rfl ?_)
  refine RV.nil ?_
  refine KV.then_n ?_
  refine KV.env [(0, _), (1, _), (2, _)] ⟨rfl, rfl, rfl, trivial⟩ ?_
  refine CV.seq ?_
  -- region 1 ref.go:38
  refine CV.region ?_
  refine RV.op (OV.step gno (Step.move rfl) rfl ?_)
  refine RV.op (OV.split gno (Step.lss rfl rfl) rfl (fun cc1 => ?_) (fun cc1 => ?_))
  · -- True
    refine RV.op (OV.step gno (Step.move rfl) rfl ?_)
    refine RV.op (OV.skip rfl rfl ?_)
    refine RV.op (OV.skip rfl rfl ?_)
    refine RV.op (OV.skip rfl rfl ?_)
    refine RV.op (OV.skip rfl rfl ?_)
    refine RV.op (OV.skip rfl rfl ?_)
    refine RV.op (OV.skip rfl rfl ?_)
    refine RV.op (OV.skip rfl rfl ?_)
    refine RV.op (OV.step gno (Step.pick_t rfl rfl) rfl ?_)
    refine RV.op (OV.step gno (Step.move rfl) rfl ?_)
    refine RV.op (OV.skip rfl rfl ?_)
    refine RV.op (OV.skip rfl rfl ?_)
    refine RV.op (OV.skip rfl rfl ?_)
    refine RV.op (OV.skip rfl rfl ?_)
    refine RV.op (OV.skip rfl rfl ?_)
    refine RV.op (OV.skip rfl rfl ?_)
    refine RV.op (OV.step gno (Step.pick_t rfl rfl) rfl ?_)
    refine RV.op (OV.step gno (Step.move rfl) rfl ?_)
    refine RV.op (OV.skip rfl rfl ?_)
    refine RV.op (OV.skip rfl rfl ?_)
    refine RV.op (OV.step gno (Step.pick_t rfl rfl) rfl ?_)
    refine RV.op (OV.step gno (Step.assign rfl) rfl ?_)
    refine RV.nil ?_
    refine KV.then_n ?_
    refine KV.env [(6, _)] ⟨rfl, trivial⟩ ?_
    refine CV.ret ?_
    -- return at r1
    exact KV.ret1 rfl rfl _ (fun _ h => h) ⟨by simp; omega, rfl⟩
  · -- False
    refine RV.op (OV.step gno (Step.move rfl) rfl ?_)
    refine RV.op (OV.step (gyes rfl) (Step.move rfl) rfl ?_)
    refine RV.op (OV.step (gyes rfl) (Step.move rfl) rfl ?_)
    refine RV.op (OV.step (gyes rfl) (Step.nilCheck rfl) rfl ?_)
    refine RV.op (OV.step (gyes rfl) (Step.fieldAddr rfl (F59_0 _ _)) rfl ?_)
    refine RV.op (OV.step (gyes rfl) (Step.load Try.underlying22 rfl rfl (fun w h => h.cell 0 rfl rfl)) rfl ?_)
    refine RV.op (OV.step (gyes rfl) (Step.lenSl Try.underlying22 rfl) rfl ?_)
    refine RV.op (OV.split (gyes rfl) (Step.geq rfl rfl) rfl (fun cc2 => ?_) (fun cc2 => ?_))
    · -- True
      refine RV.op (OV.step gno (Step.pick_f rfl rfl) rfl ?_)
      refine RV.op (OV.step gno (Step.move rfl) rfl ?_)
      refine RV.op (OV.skip rfl rfl ?_)
      refine RV.op (OV.skip rfl rfl ?_)
      refine RV.op (OV.skip rfl rfl ?_)
      refine RV.op (OV.skip rfl rfl ?_)
      refine RV.op (OV.skip rfl rfl ?_)
      refine RV.op (OV.skip rfl rfl ?_)
      refine RV.op (OV.step gno (Step.pick_t rfl rfl) rfl ?_)
      refine RV.op (OV.step gno (Step.move rfl) rfl ?_)
      refine RV.op (OV.skip rfl rfl ?_)
      refine RV.op (OV.skip rfl rfl ?_)
      refine RV.op (OV.step gno (Step.pick_t rfl rfl) rfl ?_)
      refine RV.op (OV.step gno (Step.assign rfl) rfl ?_)
      refine RV.nil ?_
      refine KV.then_n ?_
      refine KV.env [(6, _)] ⟨rfl, trivial⟩ ?_
      refine CV.ret ?_
      -- return at r1
      exact KV.ret1 rfl rfl _ (fun _ h => h) ⟨by simp; omega, rfl⟩
    · -- False
      refine RV.op (OV.step gno (Step.pick_f rfl rfl) rfl ?_)
      refine RV.op (OV.step gno (Step.move rfl) rfl ?_)
      refine RV.op (OV.step (gyes rfl) (Step.move rfl) rfl ?_)
      refine RV.op (OV.step (gyes rfl) (Step.move rfl) rfl ?_)
      refine RV.op (OV.step (gyes rfl) (Step.nilCheck rfl) rfl ?_)
      refine RV.op (OV.step (gyes rfl) (Step.fieldAddr rfl (F59_3 _ _)) rfl ?_)
      refine RV.op (OV.step (gyes rfl) (Step.load Try.underlying33 rfl rfl (fun w h => h.cell 0 rfl rfl)) rfl ?_)
      refine RV.op (OV.split (gyes rfl) (Step.lss rfl rfl) rfl (fun cc3 => ?_) (fun cc3 => ?_))
      · -- True
        refine RV.op (OV.step gno (Step.pick_f rfl rfl) rfl ?_)
        refine RV.op (OV.step gno (Step.move rfl) rfl ?_)
        refine RV.op (OV.skip rfl rfl ?_)
        refine RV.op (OV.skip rfl rfl ?_)
        refine RV.op (OV.step gno (Step.pick_t rfl rfl) rfl ?_)
        refine RV.op (OV.step gno (Step.assign rfl) rfl ?_)
        refine RV.nil ?_
        refine KV.then_n ?_
        refine KV.env [(6, _)] ⟨rfl, trivial⟩ ?_
        refine CV.ret ?_
        -- return at r1
        exact KV.ret1 rfl rfl _ (fun _ h => h) ⟨by simp; omega, rfl⟩
      · -- False
        refine RV.op (OV.step gno (Step.pick_f rfl rfl) rfl ?_)
        refine RV.op (OV.step gno (Step.move rfl) rfl ?_)
        refine RV.op (OV.step (gyes rfl) (Step.move rfl) rfl ?_)
        refine RV.op (OV.split (gyes rfl) (Step.gtr rfl rfl) rfl (fun cc4 => ?_) (fun cc4 => ?_))
        · -- True
          refine RV.op (OV.step gno (Step.pick_f rfl rfl) rfl ?_)
          refine RV.op (OV.step gno (Step.assign rfl) rfl ?_)
          refine RV.nil ?_
          refine KV.then_n ?_
          refine KV.env [(6, _)] ⟨rfl, trivial⟩ ?_
          refine CV.ret ?_
          -- return at r1
          exact KV.ret1 rfl rfl _ (fun _ h => h) ⟨by simp; omega, rfl⟩
        · -- False
          refine RV.op (OV.step gno (Step.pick_f rfl rfl) rfl ?_)
          refine RV.op (OV.step gno (Step.assign rfl) rfl ?_)
          refine RV.nil ?_
          refine KV.then_n ?_
          refine KV.env [(6, _)] ⟨rfl, trivial⟩ ?_
          refine CV.ret ?_
          -- return at r1
          exact KV.ret1 rfl rfl _ (fun _ h => h) ⟨by simp; omega, rfl⟩

set_option maxRecDepth 100000 in
set_option maxHeartbeats 1000000 in
theorem countR_fn (b : Nat) (a : RA) (st : St) (x : Int) (w : World) (wf : st.wf) : Fx Try.prog 27 [.pointer (some ⟨b, 0, none⟩), .int .i64 x] w (robj 59 b a st) no (fun v L => v = .int .i64 (if 0 ≤ x ∧ x < st.rails.length then st.c x.toNat else 0) ∧ L = robj 59 b a st) := by
  refine Sv.Fx.body Try.func27 rfl T27 rfl ?_
  intro I hro hI
  refine KV.env [(0, _), (1, _)] ⟨rfl, rfl, trivial⟩ ?_
  have wc := wf.count
  have wd := wf.done
  refine CV.seq ?_
  -- region 0 ref.go:115
  refine CV.region ?_
  refine RV.op (OV.step gno (Step.assign rfl) rfl ?_)
  refine RV.nil ?_
  refine KV.then_n ?_
  refine KV.env [(0, _), (1, _)] ⟨rfl, rfl, trivial⟩ ?_
  refine CV.seq ?_
  refine CV.seq ?_
  -- region 1 ref.go:116
  refine CV.region ?_
  refine RV.op (OV.step gno (Step.move rfl) rfl ?_)
  refine RV.op (OV.split gno (Step.lss rfl rfl) rfl (fun h1 => ?_) (fun h1 => ?_))
  · -- True
    refine RV.op (OV.step gno (Step.move rfl) rfl ?_)
    refine RV.op (OV.skip rfl rfl ?_)
    refine RV.op (OV.skip rfl rfl ?_)
    refine RV.op (OV.skip rfl rfl ?_)
    refine RV.op (OV.skip rfl rfl ?_)
    refine RV.op (OV.skip rfl rfl ?_)
    refine RV.op (OV.skip rfl rfl ?_)
    refine RV.op (OV.skip rfl rfl ?_)
    refine RV.op (OV.step gno (Step.pick_t rfl rfl) rfl ?_)
    refine RV.nil ?_
    refine KV.then_n ?_
    refine KV.env [(0, _), (1, _), (15, _)] ⟨rfl, rfl, rfl, trivial⟩ ?_
    refine CV.cond_t rfl ?_
    refine CV.seq ?_
    -- region 2 ref.go:117
    refine CV.region ?_
    refine RV.op (OV.step gno (Step.assign rfl) rfl ?_)
    refine RV.nil ?_
    refine KV.then_n ?_
    refine KV.env [(4, _)] ⟨rfl, trivial⟩ ?_
    refine CV.ret ?_
    refine KV.then_ret ?_
    -- return at r2
    exact KV.ret1 rfl rfl _ (fun _ h => h) ⟨by rw [if_neg (by omega)], rfl⟩
  · -- False
    obtain ⟨k, rfl⟩ := Int.eq_ofNat_of_zero_le (show 0 ≤ x by omega)
    refine RV.op (OV.step gno (Step.move rfl) rfl ?_)
    refine RV.op (OV.step (gyes rfl) (Step.move rfl) rfl ?_)
    refine RV.op (OV.step (gyes rfl) (Step.move rfl) rfl ?_)
    refine RV.op (OV.step (gyes rfl) (Step.nilCheck rfl) rfl ?_)
    refine RV.op (OV.step (gyes rfl) (Step.fieldAddr rfl (F59_0 _ _)) rfl ?_)
    (first | refine RV.op (OV.step (gyes rfl) (Step.load Try.underlying22 rfl rfl (fun w h => h.cell 0 rfl rfl)) rfl ?_) | refine RV.op (OV.step (gyes rfl) (Step.load Try.underlying22 rfl rfl (fun w h => (h.os 1 rfl).cell (by first | omega | (simp only [List.length_set]; omega)) rfl)) rfl ?_) | refine RV.op (OV.step (gyes rfl) (Step.load Try.underlying22 rfl rfl (fun w h => (h.os 1 rfl).cell0 (by first | omega | (simp only [List.length_set]; omega)) rfl)) rfl ?_) | refine RV.op (OV.step (gyes rfl) (Step.load Try.underlying22 rfl rfl (fun w h => (h.os 2 rfl).cell (by first | omega | (simp only [List.length_set]; omega)) rfl)) rfl ?_) | refine RV.op (OV.step (gyes rfl) (Step.load Try.underlying22 rfl rfl (fun w h => (h.os 2 rfl).cell0 (by first | omega | (simp only [List.length_set]; omega)) rfl)) rfl ?_) | refine RV.op (OV.step (gyes rfl) (Step.load Try.underlying22 rfl rfl (fun w h => (h.os 3 rfl).cell (by first | omega | (simp only [List.length_set]; omega)) rfl)) rfl ?_) | refine RV.op (OV.step (gyes rfl) (Step.load Try.underlying22 rfl rfl (fun w h => (h.os 3 rfl).cell0 (by first | omega | (simp only [List.length_set]; omega)) rfl)) rfl ?_))
    refine RV.op (OV.step (gyes rfl) (Step.lenSl Try.underlying22 rfl) rfl ?_)
    refine RV.op (OV.split (gyes rfl) (Step.geq rfl rfl) rfl (fun cc1 => ?_) (fun cc1 => ?_))
    · -- True
      refine RV.op (OV.step gno (Step.pick_f rfl rfl) rfl ?_)
      refine RV.nil ?_
      refine KV.then_n ?_
      refine KV.env [(0, _), (1, _), (15, _)] ⟨rfl, rfl, rfl, trivial⟩ ?_
      refine CV.cond_t rfl ?_
      refine CV.seq ?_
      -- region 2 ref.go:117
      refine CV.region ?_
      refine RV.op (OV.step gno (Step.assign rfl) rfl ?_)
      refine RV.nil ?_
      refine KV.then_n ?_
      refine KV.env [(4, _)] ⟨rfl, trivial⟩ ?_
      refine CV.ret ?_
      refine KV.then_ret ?_
      -- return at r2
      exact KV.ret1 rfl rfl _ (fun _ h => h) ⟨by rw [if_neg (by omega)], rfl⟩
    · -- False
      refine RV.op (OV.step gno (Step.pick_f rfl rfl) rfl ?_)
      refine RV.nil ?_
      refine KV.then_n ?_
      refine KV.env [(0, _), (1, _), (15, _)] ⟨rfl, rfl, rfl, trivial⟩ ?_
      refine CV.cond_f rfl ?_
      refine CV.skip ?_
      refine KV.then_n ?_
      refine KV.env [(0, _), (1, _)] ⟨rfl, rfl, trivial⟩ ?_
      refine CV.seq ?_
      -- region 3 ref.go:119
      refine CV.region ?_
      refine RV.op (OV.step gno (Step.move rfl) rfl ?_)
      refine RV.op (OV.step gno (Step.nilCheck rfl) rfl ?_)
      refine RV.op (OV.step gno (Step.fieldAddr rfl (F59_1 _ _)) rfl ?_)
      (first | refine RV.op (OV.step gno (Step.load Try.underlying57 rfl rfl (fun w h => h.cell 0 rfl rfl)) rfl ?_) | refine RV.op (OV.step gno (Step.load Try.underlying57 rfl rfl (fun w h => (h.os 1 rfl).cell (by first | omega | (simp only [List.length_set]; omega)) rfl)) rfl ?_) | refine RV.op (OV.step gno (Step.load Try.underlying57 rfl rfl (fun w h => (h.os 1 rfl).cell0 (by first | omega | (simp only [List.length_set]; omega)) rfl)) rfl ?_) | refine RV.op (OV.step gno (Step.load Try.underlying57 rfl rfl (fun w h => (h.os 2 rfl).cell (by first | omega | (simp only [List.length_set]; omega)) rfl)) rfl ?_) | refine RV.op (OV.step gno (Step.load Try.underlying57 rfl rfl (fun w h => (h.os 2 rfl).cell0 (by first | omega | (simp only [List.length_set]; omega)) rfl)) rfl ?_) | refine RV.op (OV.step gno (Step.load Try.underlying57 rfl rfl (fun w h => (h.os 3 rfl).cell (by first | omega | (simp only [List.length_set]; omega)) rfl)) rfl ?_) | refine RV.op (OV.step gno (Step.load Try.underlying57 rfl rfl (fun w h => (h.os 3 rfl).cell0 (by first | omega | (simp only [List.length_set]; omega)) rfl)) rfl ?_))
      refine RV.op (OV.step gno (Step.move rfl) rfl ?_)
      (first | refine RV.op (OV.step gno (Step.idx Try.underlying57 I3 (fun w h => h.os 1 rfl) rfl rfl (by first | rfl | omega | (simp only [List.length_set]; omega)) _ rfl (by first | omega | (simp only [List.length_set]; omega))) rfl ?_) | refine RV.op (OV.step gno (Step.idx Try.underlying57 I3 (fun w h => h.os 2 rfl) rfl rfl (by first | rfl | omega | (simp only [List.length_set]; omega)) _ rfl (by first | omega | (simp only [List.length_set]; omega))) rfl ?_) | refine RV.op (OV.step gno (Step.idx Try.underlying57 I3 (fun w h => h.os 3 rfl) rfl rfl (by first | rfl | omega | (simp only [List.length_set]; omega)) _ rfl (by first | omega | (simp only [List.length_set]; omega))) rfl ?_))
      (first | refine RV.op (OV.step gno (Step.load Try.underlying3 rfl rfl (fun w h => h.cell 0 rfl rfl)) rfl ?_) | refine RV.op (OV.step gno (Step.load Try.underlying3 rfl rfl (fun w h => (h.os 1 rfl).cell (by first | omega | (simp only [List.length_set]; omega)) rfl)) rfl ?_) | refine RV.op (OV.step gno (Step.load Try.underlying3 rfl rfl (fun w h => (h.os 1 rfl).cell0 (by first | omega | (simp only [List.length_set]; omega)) rfl)) rfl ?_) | refine RV.op (OV.step gno (Step.load Try.underlying3 rfl rfl (fun w h => (h.os 2 rfl).cell (by first | omega | (simp only [List.length_set]; omega)) rfl)) rfl ?_) | refine RV.op (OV.step gno (Step.load Try.underlying3 rfl rfl (fun w h => (h.os 2 rfl).cell0 (by first | omega | (simp only [List.length_set]; omega)) rfl)) rfl ?_) | refine RV.op (OV.step gno (Step.load Try.underlying3 rfl rfl (fun w h => (h.os 3 rfl).cell (by first | omega | (simp only [List.length_set]; omega)) rfl)) rfl ?_) | refine RV.op (OV.step gno (Step.load Try.underlying3 rfl rfl (fun w h => (h.os 3 rfl).cell0 (by first | omega | (simp only [List.length_set]; omega)) rfl)) rfl ?_))
      refine RV.op (OV.step gno (Step.assign rfl) rfl ?_)
      refine RV.nil ?_
      refine KV.then_n ?_
      refine KV.env [(4, _)] ⟨rfl, trivial⟩ ?_
      refine CV.ret ?_
      -- return at r3
      exact KV.ret1 rfl rfl _ (fun _ h => h) ⟨by rw [if_pos (by omega)]; rfl, rfl⟩

set_option maxRecDepth 100000 in
set_option maxHeartbeats 1000000 in
theorem readyAtR_fn (b : Nat) (a : RA) (st : St) (x : Int) (w : World) (wf : st.wf) : Fx Try.prog 25 [.pointer (some ⟨b, 0, none⟩), .int .i64 x] w (robj 59 b a st) no (fun v L => v = .tuple #[.int .u64 (if ((0 ≤ x ∧ x < st.rails.length) ∧ ¬ st.c x.toNat = 0) then st.t x.toNat else 0), .bool (decide ((0 ≤ x ∧ x < st.rails.length) ∧ ¬ st.c x.toNat = 0))] ∧ L = robj 59 b a st) := by
  refine Sv.Fx.body Try.func25 rfl T25 rfl ?_
  intro I hro hI
  refine KV.env [(0, _), (1, _)] ⟨rfl, rfl, trivial⟩ ?_
  have wc := wf.count
  have wd := wf.done
  refine CV.seq ?_
  -- region 0 ref.go:121
  refine CV.region ?_
  refine RV.op (OV.step gno (Step.assign rfl) rfl ?_)
  refine RV.op (OV.step gno (Step.assign rfl) rfl ?_)
  refine RV.nil ?_
  refine KV.then_n ?_
  refine KV.env [(0, _), (1, _)] ⟨rfl, rfl, trivial⟩ ?_
  refine CV.seq ?_
  refine CV.seq ?_
  -- region 1 ref.go:122
  refine CV.region ?_
  refine RV.op (OV.step gno (Step.move rfl) rfl ?_)
  refine RV.op (OV.step gno (Step.move rfl) rfl ?_)
  refine RV.op (OV.call [0, 0, 0, 0] (F := []) Try.func27 B27 N27 rfl rfl (fun w h => countR_fn b a st x w wf) (fun _ hb => hb.elim) gno rfl (fun v L' hp => ?_))
  obtain ⟨rfl, rfl⟩ := hp
  refine RV.op (OV.split gno (Step.eql rfl rfl) rfl (fun hc => ?_) (fun hc => ?_))
  · -- True
    refine RV.nil ?_
    refine KV.then_n ?_
    refine KV.env [(0, _), (1, _), (9, _)] ⟨rfl, rfl, rfl, trivial⟩ ?_
    refine CV.cond_t rfl ?_
    refine CV.seq ?_
    -- region 2 ref.go:123
    refine CV.region ?_
    refine RV.op (OV.step gno (Step.assign rfl) rfl ?_)
    refine RV.op (OV.step gno (Step.assign rfl) rfl ?_)
    refine RV.nil ?_
    refine KV.then_n ?_
    refine KV.env [(4, _), (5, _)] ⟨rfl, rfl, trivial⟩ ?_
    refine CV.ret ?_
    refine KV.then_ret ?_
    -- return at r2
    have hn : ¬ ((0 ≤ x ∧ x < st.rails.length) ∧ ¬ st.c x.toNat = 0) := fun h => h.2 (by rw [if_pos h.1] at hc; exact hc)
    exact KV.ret2 rfl rfl rfl _ (fun _ h => h) ⟨by rw [if_neg hn, decide_eq_false hn], rfl⟩
  · -- False
    have hx : 0 ≤ x ∧ x < st.rails.length := by by_cases h : 0 ≤ x ∧ x < st.rails.length; exact h; exact absurd (if_neg h) hc
    rw [if_pos hx] at hc
    obtain ⟨k, rfl⟩ := Int.eq_ofNat_of_zero_le hx.1
    refine RV.nil ?_
    refine KV.then_n ?_
    refine KV.env [(0, _), (1, _), (9, _)] ⟨rfl, rfl, rfl, trivial⟩ ?_
    refine CV.cond_f rfl ?_
    refine CV.skip ?_
    refine KV.then_n ?_
    refine KV.env [(0, _), (1, _)] ⟨rfl, rfl, trivial⟩ ?_
    refine CV.seq ?_
    -- region 3 ref.go:125
    refine CV.region ?_
    refine RV.op (OV.step gno (Step.move rfl) rfl ?_)
    refine RV.op (OV.step gno (Step.nilCheck rfl) rfl ?_)
    refine RV.op (OV.step gno (Step.fieldAddr rfl (F59_2 _ _)) rfl ?_)
    (first | refine RV.op (OV.step gno (Step.load Try.underlying43 rfl rfl (fun w h => h.cell 0 rfl rfl)) rfl ?_) | refine RV.op (OV.step gno (Step.load Try.underlying43 rfl rfl (fun w h => (h.os 1 rfl).cell (by first | omega | (simp only [List.length_set]; omega)) rfl)) rfl ?_) | refine RV.op (OV.step gno (Step.load Try.underlying43 rfl rfl (fun w h => (h.os 1 rfl).cell0 (by first | omega | (simp only [List.length_set]; omega)) rfl)) rfl ?_) | refine RV.op (OV.step gno (Step.load Try.underlying43 rfl rfl (fun w h => (h.os 2 rfl).cell (by first | omega | (simp only [List.length_set]; omega)) rfl)) rfl ?_) | refine RV.op (OV.step gno (Step.load Try.underlying43 rfl rfl (fun w h => (h.os 2 rfl).cell0 (by first | omega | (simp only [List.length_set]; omega)) rfl)) rfl ?_) | refine RV.op (OV.step gno (Step.load Try.underlying43 rfl rfl (fun w h => (h.os 3 rfl).cell (by first | omega | (simp only [List.length_set]; omega)) rfl)) rfl ?_) | refine RV.op (OV.step gno (Step.load Try.underlying43 rfl rfl (fun w h => (h.os 3 rfl).cell0 (by first | omega | (simp only [List.length_set]; omega)) rfl)) rfl ?_))
    refine RV.op (OV.step gno (Step.move rfl) rfl ?_)
    (first | refine RV.op (OV.step gno (Step.idx Try.underlying43 I33 (fun w h => h.os 1 rfl) rfl rfl (by first | rfl | omega | (simp only [List.length_set]; omega)) _ rfl (by first | omega | (simp only [List.length_set]; omega))) rfl ?_) | refine RV.op (OV.step gno (Step.idx Try.underlying43 I33 (fun w h => h.os 2 rfl) rfl rfl (by first | rfl | omega | (simp only [List.length_set]; omega)) _ rfl (by first | omega | (simp only [List.length_set]; omega))) rfl ?_) | refine RV.op (OV.step gno (Step.idx Try.underlying43 I33 (fun w h => h.os 3 rfl) rfl rfl (by first | rfl | omega | (simp only [List.length_set]; omega)) _ rfl (by first | omega | (simp only [List.length_set]; omega))) rfl ?_))
    (first | refine RV.op (OV.step gno (Step.load Try.underlying33 rfl rfl (fun w h => h.cell 0 rfl rfl)) rfl ?_) | refine RV.op (OV.step gno (Step.load Try.underlying33 rfl rfl (fun w h => (h.os 1 rfl).cell (by first | omega | (simp only [List.length_set]; omega)) rfl)) rfl ?_) | refine RV.op (OV.step gno (Step.load Try.underlying33 rfl rfl (fun w h => (h.os 1 rfl).cell0 (by first | omega | (simp only [List.length_set]; omega)) rfl)) rfl ?_) | refine RV.op (OV.step gno (Step.load Try.underlying33 rfl rfl (fun w h => (h.os 2 rfl).cell (by first | omega | (simp only [List.length_set]; omega)) rfl)) rfl ?_) | refine RV.op (OV.step gno (Step.load Try.underlying33 rfl rfl (fun w h => (h.os 2 rfl).cell0 (by first | omega | (simp only [List.length_set]; omega)) rfl)) rfl ?_) | refine RV.op (OV.step gno (Step.load Try.underlying33 rfl rfl (fun w h => (h.os 3 rfl).cell (by first | omega | (simp only [List.length_set]; omega)) rfl)) rfl ?_) | refine RV.op (OV.step gno (Step.load Try.underlying33 rfl rfl (fun w h => (h.os 3 rfl).cell0 (by first | omega | (simp only [List.length_set]; omega)) rfl)) rfl ?_))
    refine RV.op (OV.step gno (Step.assign rfl) rfl ?_)
    refine RV.op (OV.step gno (Step.assign rfl) rfl ?_)
    refine RV.nil ?_
    refine KV.then_n ?_
    refine KV.env [(4, _), (5, _)] ⟨rfl, rfl, trivial⟩ ?_
    refine CV.ret ?_
    -- return at r3
    have hu : ((0 ≤ (k : Int) ∧ (k : Int) < st.rails.length) ∧ ¬ st.c (k : Int).toNat = 0) := ⟨hx, hc⟩
    exact KV.ret2 rfl rfl rfl _ (fun _ h => h) ⟨by rw [if_pos hu, decide_eq_true hu]; rfl, rfl⟩

set_option maxRecDepth 100000 in
set_option maxHeartbeats 1000000 in
theorem poweredR_fn (b : Nat) (a : RA) (st : St) (x now : Int) (w : World) (wf : st.wf) : Fx Try.prog 28 [.pointer (some ⟨b, 0, none⟩), .int .i64 x, .int .u64 now] w (robj 59 b a st) no (fun v L => v = .bool (decide (((0 ≤ x ∧ x < st.rails.length) ∧ 0 < st.c x.toNat) ∧ st.t x.toNat ≤ now)) ∧ L = robj 59 b a st) := by
  refine Sv.Fx.body Try.func28 rfl T28 rfl ?_
  intro I hro hI
  refine KV.env [(0, _), (1, _), (2, _)] ⟨rfl, rfl, rfl, trivial⟩ ?_
  have wc := wf.count
  have wd := wf.done
  refine CV.seq ?_
  -- region 0 ref.go:127
  refine CV.region ?_
  refine RV.op (OV.step gno (Step.assign rfl) rfl ?_)
  refine RV.nil ?_
  refine KV.then_n ?_
  refine KV.env [(0, _), (1, _), (2, _)] ⟨rfl, rfl, rfl, trivial⟩ ?_
  refine CV.seq ?_
  -- region 1 ref.go:128
  refine CV.region ?_
  refine RV.op (OV.step gno (Step.move rfl) rfl ?_)
  refine RV.op (OV.step gno (Step.move rfl) rfl ?_)
  refine RV.op (OV.call [0, 0, 0, 0] (F := []) Try.func27 B27 N27 rfl rfl (fun w h => countR_fn b a st x w wf) (fun _ hb => hb.elim) gno rfl (fun v L' hp => ?_))
  obtain ⟨rfl, rfl⟩ := hp
  refine RV.op (OV.split gno (Step.gtr rfl rfl) rfl (fun hc => ?_) (fun hc => ?_))
  · -- True
    have hx : 0 ≤ x ∧ x < st.rails.length := by by_cases h : 0 ≤ x ∧ x < st.rails.length; exact h; rw [if_neg h] at hc; omega
    rw [if_pos hx] at hc
    obtain ⟨k, rfl⟩ := Int.eq_ofNat_of_zero_le hx.1
    refine RV.op (OV.step gno (Step.move rfl) rfl ?_)
    refine RV.op (OV.step (gyes rfl) (Step.move rfl) rfl ?_)
    refine RV.op (OV.step (gyes rfl) (Step.nilCheck rfl) rfl ?_)
    refine RV.op (OV.step (gyes rfl) (Step.fieldAddr rfl (F59_2 _ _)) rfl ?_)
    (first | refine RV.op (OV.step (gyes rfl) (Step.load Try.underlying43 rfl rfl (fun w h => h.cell 0 rfl rfl)) rfl ?_) | refine RV.op (OV.step (gyes rfl) (Step.load Try.underlying43 rfl rfl (fun w h => (h.os 1 rfl).cell (by first | omega | (simp only [List.length_set]; omega)) rfl)) rfl ?_) | refine RV.op (OV.step (gyes rfl) (Step.load Try.underlying43 rfl rfl (fun w h => (h.os 1 rfl).cell0 (by first | omega | (simp only [List.length_set]; omega)) rfl)) rfl ?_) | refine RV.op (OV.step (gyes rfl) (Step.load Try.underlying43 rfl rfl (fun w h => (h.os 2 rfl).cell (by first | omega | (simp only [List.length_set]; omega)) rfl)) rfl ?_) | refine RV.op (OV.step (gyes rfl) (Step.load Try.underlying43 rfl rfl (fun w h => (h.os 2 rfl).cell0 (by first | omega | (simp only [List.length_set]; omega)) rfl)) rfl ?_) | refine RV.op (OV.step (gyes rfl) (Step.load Try.underlying43 rfl rfl (fun w h => (h.os 3 rfl).cell (by first | omega | (simp only [List.length_set]; omega)) rfl)) rfl ?_) | refine RV.op (OV.step (gyes rfl) (Step.load Try.underlying43 rfl rfl (fun w h => (h.os 3 rfl).cell0 (by first | omega | (simp only [List.length_set]; omega)) rfl)) rfl ?_))
    refine RV.op (OV.step (gyes rfl) (Step.move rfl) rfl ?_)
    (first | refine RV.op (OV.step (gyes rfl) (Step.idx Try.underlying43 I33 (fun w h => h.os 1 rfl) rfl rfl (by first | rfl | omega | (simp only [List.length_set]; omega)) _ rfl (by first | omega | (simp only [List.length_set]; omega))) rfl ?_) | refine RV.op (OV.step (gyes rfl) (Step.idx Try.underlying43 I33 (fun w h => h.os 2 rfl) rfl rfl (by first | rfl | omega | (simp only [List.length_set]; omega)) _ rfl (by first | omega | (simp only [List.length_set]; omega))) rfl ?_) | refine RV.op (OV.step (gyes rfl) (Step.idx Try.underlying43 I33 (fun w h => h.os 3 rfl) rfl rfl (by first | rfl | omega | (simp only [List.length_set]; omega)) _ rfl (by first | omega | (simp only [List.length_set]; omega))) rfl ?_))
    (first | refine RV.op (OV.step (gyes rfl) (Step.load Try.underlying33 rfl rfl (fun w h => h.cell 0 rfl rfl)) rfl ?_) | refine RV.op (OV.step (gyes rfl) (Step.load Try.underlying33 rfl rfl (fun w h => (h.os 1 rfl).cell (by first | omega | (simp only [List.length_set]; omega)) rfl)) rfl ?_) | refine RV.op (OV.step (gyes rfl) (Step.load Try.underlying33 rfl rfl (fun w h => (h.os 1 rfl).cell0 (by first | omega | (simp only [List.length_set]; omega)) rfl)) rfl ?_) | refine RV.op (OV.step (gyes rfl) (Step.load Try.underlying33 rfl rfl (fun w h => (h.os 2 rfl).cell (by first | omega | (simp only [List.length_set]; omega)) rfl)) rfl ?_) | refine RV.op (OV.step (gyes rfl) (Step.load Try.underlying33 rfl rfl (fun w h => (h.os 2 rfl).cell0 (by first | omega | (simp only [List.length_set]; omega)) rfl)) rfl ?_) | refine RV.op (OV.step (gyes rfl) (Step.load Try.underlying33 rfl rfl (fun w h => (h.os 3 rfl).cell (by first | omega | (simp only [List.length_set]; omega)) rfl)) rfl ?_) | refine RV.op (OV.step (gyes rfl) (Step.load Try.underlying33 rfl rfl (fun w h => (h.os 3 rfl).cell0 (by first | omega | (simp only [List.length_set]; omega)) rfl)) rfl ?_))
    refine RV.op (OV.step (gyes rfl) (Step.move rfl) rfl ?_)
    refine RV.op (OV.split (gyes rfl) (Step.leq rfl rfl) rfl (fun ht => ?_) (fun ht => ?_))
    · -- True
      refine RV.op (OV.step gno (Step.pick_t rfl rfl) rfl ?_)
      refine RV.op (OV.step gno (Step.assign rfl) rfl ?_)
      refine RV.nil ?_
      refine KV.then_n ?_
      refine KV.env [(6, _)] ⟨rfl, trivial⟩ ?_
      refine CV.ret ?_
      -- return at r1
      refine KV.ret1 rfl rfl _ (fun _ h => h) ⟨?_, rfl⟩
      first | exact congrArg Value.bool (decide_eq_true (p := ((0 ≤ (k : Int) ∧ (k : Int) < st.rails.length) ∧ 0 < st.c (k : Int).toNat) ∧ st.t (k : Int).toNat ≤ now) ⟨⟨hx, hc⟩, ht⟩).symm | exact congrArg Value.bool (decide_eq_false (fun h => ht h.2)).symm | exact congrArg Value.bool (decide_eq_false (fun h => hc (by rw [if_pos h.1.1]; exact h.1.2))).symm
    · -- False
      refine RV.op (OV.step gno (Step.pick_t rfl rfl) rfl ?_)
      refine RV.op (OV.step gno (Step.assign rfl) rfl ?_)
      refine RV.nil ?_
      refine KV.then_n ?_
      refine KV.env [(6, _)] ⟨rfl, trivial⟩ ?_
      refine CV.ret ?_
      -- return at r1
      refine KV.ret1 rfl rfl _ (fun _ h => h) ⟨?_, rfl⟩
      first | exact congrArg Value.bool (decide_eq_true (p := ((0 ≤ (k : Int) ∧ (k : Int) < st.rails.length) ∧ 0 < st.c (k : Int).toNat) ∧ st.t (k : Int).toNat ≤ now) ⟨⟨hx, hc⟩, ht⟩).symm | exact congrArg Value.bool (decide_eq_false (fun h => ht h.2)).symm | exact congrArg Value.bool (decide_eq_false (fun h => hc (by rw [if_pos h.1.1]; exact h.1.2))).symm
  · -- False
    refine RV.op (OV.step gno (Step.move rfl) rfl ?_)
    refine RV.op (OV.skip rfl rfl ?_)
    refine RV.op (OV.skip rfl rfl ?_)
    refine RV.op (OV.skip rfl rfl ?_)
    refine RV.op (OV.skip rfl rfl ?_)
    refine RV.op (OV.skip rfl rfl ?_)
    refine RV.op (OV.skip rfl rfl ?_)
    refine RV.op (OV.skip rfl rfl ?_)
    refine RV.op (OV.skip rfl rfl ?_)
    refine RV.op (OV.skip rfl rfl ?_)
    refine RV.op (OV.step gno (Step.pick_f rfl rfl) rfl ?_)
    refine RV.op (OV.step gno (Step.assign rfl) rfl ?_)
    refine RV.nil ?_
    refine KV.then_n ?_
    refine KV.env [(6, _)] ⟨rfl, trivial⟩ ?_
    refine CV.ret ?_
    -- return at r1
    refine KV.ret1 rfl rfl _ (fun _ h => h) ⟨?_, rfl⟩
    first | exact congrArg Value.bool (decide_eq_true (p := ((0 ≤ (k : Int) ∧ (k : Int) < st.rails.length) ∧ 0 < st.c (k : Int).toNat) ∧ st.t (k : Int).toNat ≤ now) ⟨⟨hx, hc⟩, ht⟩).symm | exact congrArg Value.bool (decide_eq_false (fun h => ht h.2)).symm | exact congrArg Value.bool (decide_eq_false (fun h => hc (by rw [if_pos h.1.1]; exact h.1.2))).symm

set_option maxRecDepth 100000 in
set_option maxHeartbeats 1000000 in
theorem own_fn (b : Nat) (a : RA) (st : St) (i : Nat) (w : World) (wf : st.wf) (hi : i < st.rails.length) : Fx Try.prog 46 [.pointer (some ⟨b, 0, none⟩), .int .i64 i] w (robj 59 b a st) no (fun v L => v = .int .i64 (ownM st i (st.c i) st.rails.length) ∧ L = robj 59 b a st) := by
  refine Sv.Fx.body Try.func46 rfl T46 rfl ?_
  intro I hro hI
  refine KV.env [(0, _), (1, _)] ⟨rfl, rfl, trivial⟩ ?_
  have wc := wf.count
  have wd := wf.done
  refine KV.have (fun w2 h => (h.osCap 1 rfl)) (fun hcap => ?_)
  have hcap2 : st.rails.length ≤ 9223372036854775807 := by have := hcap.2; unfold maxLen at this; omega
  refine CV.seq ?_
  -- region 0 ref.go:85
  refine CV.region ?_
  refine RV.op (OV.step gno (Step.assign rfl) rfl ?_)
  refine RV.nil ?_
  refine KV.then_n ?_
  refine KV.env [(0, _), (1, _)] ⟨rfl, rfl, trivial⟩ ?_
  refine CV.seq ?_
  -- region 1 ref.go:86
  refine CV.region ?_
  refine RV.op (OV.step gno (Step.move rfl) rfl ?_)
  refine RV.op (OV.step gno (Step.nilCheck rfl) rfl ?_)
  refine RV.op (OV.step gno (Step.fieldAddr rfl (F59_1 _ _)) rfl ?_)
  (first | refine RV.op (OV.step gno (Step.load Try.underlying57 rfl rfl (fun w h => h.cell 0 rfl rfl)) rfl ?_) | refine RV.op (OV.step gno (Step.load Try.underlying57 rfl rfl (fun w h => (h.os 1 rfl).cell (by first | omega | (simp only [List.length_set]; omega)) rfl)) rfl ?_) | refine RV.op (OV.step gno (Step.load Try.underlying57 rfl rfl (fun w h => (h.os 1 rfl).cell0 (by first | omega | (simp only [List.length_set]; omega)) rfl)) rfl ?_) | refine RV.op (OV.step gno (Step.load Try.underlying57 rfl rfl (fun w h => (h.os 2 rfl).cell (by first | omega | (simp only [List.length_set]; omega)) rfl)) rfl ?_) | refine RV.op (OV.step gno (Step.load Try.underlying57 rfl rfl (fun w h => (h.os 2 rfl).cell0 (by first | omega | (simp only [List.length_set]; omega)) rfl)) rfl ?_) | refine RV.op (OV.step gno (Step.load Try.underlying57 rfl rfl (fun w h => (h.os 3 rfl).cell (by first | omega | (simp only [List.length_set]; omega)) rfl)) rfl ?_) | refine RV.op (OV.step gno (Step.load Try.underlying57 rfl rfl (fun w h => (h.os 3 rfl).cell0 (by first | omega | (simp only [List.length_set]; omega)) rfl)) rfl ?_))
  refine RV.op (OV.step gno (Step.move rfl) rfl ?_)
  (first | refine RV.op (OV.step gno (Step.idx Try.underlying57 I3 (fun w h => h.os 1 rfl) rfl rfl (by first | rfl | omega | (simp only [List.length_set]; omega)) _ rfl (by first | omega | (simp only [List.length_set]; omega))) rfl ?_) | refine RV.op (OV.step gno (Step.idx Try.underlying57 I3 (fun w h => h.os 2 rfl) rfl rfl (by first | rfl | omega | (simp only [List.length_set]; omega)) _ rfl (by first | omega | (simp only [List.length_set]; omega))) rfl ?_) | refine RV.op (OV.step gno (Step.idx Try.underlying57 I3 (fun w h => h.os 3 rfl) rfl rfl (by first | rfl | omega | (simp only [List.length_set]; omega)) _ rfl (by first | omega | (simp only [List.length_set]; omega))) rfl ?_))
  (first | refine RV.op (OV.step gno (Step.load Try.underlying3 rfl rfl (fun w h => h.cell 0 rfl rfl)) rfl ?_) | refine RV.op (OV.step gno (Step.load Try.underlying3 rfl rfl (fun w h => (h.os 1 rfl).cell (by first | omega | (simp only [List.length_set]; omega)) rfl)) rfl ?_) | refine RV.op (OV.step gno (Step.load Try.underlying3 rfl rfl (fun w h => (h.os 1 rfl).cell0 (by first | omega | (simp only [List.length_set]; omega)) rfl)) rfl ?_) | refine RV.op (OV.step gno (Step.load Try.underlying3 rfl rfl (fun w h => (h.os 2 rfl).cell (by first | omega | (simp only [List.length_set]; omega)) rfl)) rfl ?_) | refine RV.op (OV.step gno (Step.load Try.underlying3 rfl rfl (fun w h => (h.os 2 rfl).cell0 (by first | omega | (simp only [List.length_set]; omega)) rfl)) rfl ?_) | refine RV.op (OV.step gno (Step.load Try.underlying3 rfl rfl (fun w h => (h.os 3 rfl).cell (by first | omega | (simp only [List.length_set]; omega)) rfl)) rfl ?_) | refine RV.op (OV.step gno (Step.load Try.underlying3 rfl rfl (fun w h => (h.os 3 rfl).cell0 (by first | omega | (simp only [List.length_set]; omega)) rfl)) rfl ?_))
  refine RV.op (OV.step gno (Step.assign rfl) rfl ?_)
  refine RV.nil ?_
  refine KV.then_n ?_
  refine KV.env [(0, _), (1, _), (5, _)] ⟨rfl, rfl, rfl, trivial⟩ ?_
  refine CV.seq ?_
  refine CV.seq ?_
  -- region 2 ref.go:87
  refine CV.region ?_
  refine RV.op (OV.step gno (Step.assign rfl) rfl ?_)
  refine RV.nil ?_
  refine KV.then_n ?_
  refine KV.env [(0, _), (1, _), (5, _), (6, _)] ⟨rfl, rfl, rfl, rfl, trivial⟩ ?_
  refine CV.block ?_
  -- loop L3; live [0, 1, 5, 6]
  refine CV.loopI (α := Nat) (fun k => k ≤ st.rails.length) (fun z => st.rails.length - z) (fun z => [(0, .pointer (some ⟨b, 0, none⟩)), (1, .int .i64 i), (5, .int .i64 (ownM st i (st.c i) z)), (6, .int .i64 z)]) (fun _ => Hp I w (robj 59 b a st)) 0 (Nat.zero_le _) ⟨rfl, rfl, rfl, rfl, trivial⟩ (fun _ h => h) ?_
  intro j hj
  refine CV.seq ?_
  refine CV.seq ?_
  -- region 3 ref.go:87
  refine CV.region ?_
  refine RV.op (OV.step gno (Step.move rfl) rfl ?_)
  refine RV.op (OV.step gno (Step.move rfl) rfl ?_)
  refine RV.op (OV.step gno (Step.nilCheck rfl) rfl ?_)
  refine RV.op (OV.step gno (Step.fieldAddr rfl (F59_0 _ _)) rfl ?_)
  (first | refine RV.op (OV.step gno (Step.load Try.underlying22 rfl rfl (fun w h => h.cell 0 rfl rfl)) rfl ?_) | refine RV.op (OV.step gno (Step.load Try.underlying22 rfl rfl (fun w h => (h.os 1 rfl).cell (by first | omega | (simp only [List.length_set]; omega)) rfl)) rfl ?_) | refine RV.op (OV.step gno (Step.load Try.underlying22 rfl rfl (fun w h => (h.os 1 rfl).cell0 (by first | omega | (simp only [List.length_set]; omega)) rfl)) rfl ?_) | refine RV.op (OV.step gno (Step.load Try.underlying22 rfl rfl (fun w h => (h.os 2 rfl).cell (by first | omega | (simp only [List.length_set]; omega)) rfl)) rfl ?_) | refine RV.op (OV.step gno (Step.load Try.underlying22 rfl rfl (fun w h => (h.os 2 rfl).cell0 (by first | omega | (simp only [List.length_set]; omega)) rfl)) rfl ?_) | refine RV.op (OV.step gno (Step.load Try.underlying22 rfl rfl (fun w h => (h.os 3 rfl).cell (by first | omega | (simp only [List.length_set]; omega)) rfl)) rfl ?_) | refine RV.op (OV.step gno (Step.load Try.underlying22 rfl rfl (fun w h => (h.os 3 rfl).cell0 (by first | omega | (simp only [List.length_set]; omega)) rfl)) rfl ?_))
  refine RV.op (OV.step gno (Step.lenSl Try.underlying22 rfl) rfl ?_)
  refine RV.op (OV.split gno (Step.lss rfl rfl) rfl (fun hl => ?_) (fun hl => ?_))
  · -- True
    refine RV.nil ?_
    refine KV.then_n ?_
    refine KV.env [(0, _), (1, _), (5, _), (6, _), (20, _)] ⟨rfl, rfl, rfl, rfl, rfl, trivial⟩ ?_
    refine CV.cond_t rfl ?_
    refine CV.skip ?_
    refine KV.then_n ?_
    refine KV.env [(0, _), (1, _), (5, _), (6, _)] ⟨rfl, rfl, rfl, rfl, trivial⟩ ?_
    refine CV.seq ?_
    refine CV.block ?_
    refine CV.seq ?_
    -- region 5 ref.go:88
    refine CV.region ?_
    refine RV.op (OV.step gno (Step.move rfl) rfl ?_)
    refine RV.op (OV.step gno (Step.nilCheck rfl) rfl ?_)
    refine RV.op (OV.step gno (Step.fieldAddr rfl (F59_0 _ _)) rfl ?_)
    (first | refine RV.op (OV.step gno (Step.load Try.underlying22 rfl rfl (fun w h => h.cell 0 rfl rfl)) rfl ?_) | refine RV.op (OV.step gno (Step.load Try.underlying22 rfl rfl (fun w h => (h.os 1 rfl).cell (by first | omega | (simp only [List.length_set]; omega)) rfl)) rfl ?_) | refine RV.op (OV.step gno (Step.load Try.underlying22 rfl rfl (fun w h => (h.os 1 rfl).cell0 (by first | omega | (simp only [List.length_set]; omega)) rfl)) rfl ?_) | refine RV.op (OV.step gno (Step.load Try.underlying22 rfl rfl (fun w h => (h.os 2 rfl).cell (by first | omega | (simp only [List.length_set]; omega)) rfl)) rfl ?_) | refine RV.op (OV.step gno (Step.load Try.underlying22 rfl rfl (fun w h => (h.os 2 rfl).cell0 (by first | omega | (simp only [List.length_set]; omega)) rfl)) rfl ?_) | refine RV.op (OV.step gno (Step.load Try.underlying22 rfl rfl (fun w h => (h.os 3 rfl).cell (by first | omega | (simp only [List.length_set]; omega)) rfl)) rfl ?_) | refine RV.op (OV.step gno (Step.load Try.underlying22 rfl rfl (fun w h => (h.os 3 rfl).cell0 (by first | omega | (simp only [List.length_set]; omega)) rfl)) rfl ?_))
    refine RV.op (OV.step gno (Step.move rfl) rfl ?_)
    (first | refine RV.op (OV.step gno (Step.idx Try.underlying22 I35 (fun w h => h.os 1 rfl) rfl rfl (by first | rfl | omega | (simp only [List.length_set]; omega)) _ rfl (by first | omega | (simp only [List.length_set]; omega))) rfl ?_) | refine RV.op (OV.step gno (Step.idx Try.underlying22 I35 (fun w h => h.os 2 rfl) rfl rfl (by first | rfl | omega | (simp only [List.length_set]; omega)) _ rfl (by first | omega | (simp only [List.length_set]; omega))) rfl ?_) | refine RV.op (OV.step gno (Step.idx Try.underlying22 I35 (fun w h => h.os 3 rfl) rfl rfl (by first | rfl | omega | (simp only [List.length_set]; omega)) _ rfl (by first | omega | (simp only [List.length_set]; omega))) rfl ?_))
    refine RV.op (OV.step gno (Step.fieldAddr rfl (F35_0 _ _)) rfl ?_)
    (first | refine RV.op (OV.step gno (Step.load Try.underlying3 rfl rfl (fun w h => h.cell 0 rfl rfl)) rfl ?_) | refine RV.op (OV.step gno (Step.load Try.underlying3 rfl rfl (fun w h => (h.os 1 rfl).cell (by first | omega | (simp only [List.length_set]; omega)) rfl)) rfl ?_) | refine RV.op (OV.step gno (Step.load Try.underlying3 rfl rfl (fun w h => (h.os 1 rfl).cell0 (by first | omega | (simp only [List.length_set]; omega)) rfl)) rfl ?_) | refine RV.op (OV.step gno (Step.load Try.underlying3 rfl rfl (fun w h => (h.os 2 rfl).cell (by first | omega | (simp only [List.length_set]; omega)) rfl)) rfl ?_) | refine RV.op (OV.step gno (Step.load Try.underlying3 rfl rfl (fun w h => (h.os 2 rfl).cell0 (by first | omega | (simp only [List.length_set]; omega)) rfl)) rfl ?_) | refine RV.op (OV.step gno (Step.load Try.underlying3 rfl rfl (fun w h => (h.os 3 rfl).cell (by first | omega | (simp only [List.length_set]; omega)) rfl)) rfl ?_) | refine RV.op (OV.step gno (Step.load Try.underlying3 rfl rfl (fun w h => (h.os 3 rfl).cell0 (by first | omega | (simp only [List.length_set]; omega)) rfl)) rfl ?_))
    refine RV.op (OV.step gno (Step.move rfl) rfl ?_)
    refine RV.op (OV.split gno (Step.eql rfl rfl) rfl (fun hq => ?_) (fun hq => ?_))
    · -- True
      refine RV.op (OV.step gno (Step.move rfl) rfl ?_)
      refine RV.op (OV.step (gyes rfl) (Step.move rfl) rfl ?_)
      refine RV.op (OV.step (gyes rfl) (Step.nilCheck rfl) rfl ?_)
      refine RV.op (OV.step (gyes rfl) (Step.fieldAddr rfl (F59_1 _ _)) rfl ?_)
      (first | refine RV.op (OV.step (gyes rfl) (Step.load Try.underlying57 rfl rfl (fun w h => h.cell 0 rfl rfl)) rfl ?_) | refine RV.op (OV.step (gyes rfl) (Step.load Try.underlying57 rfl rfl (fun w h => (h.os 1 rfl).cell (by first | omega | (simp only [List.length_set]; omega)) rfl)) rfl ?_) | refine RV.op (OV.step (gyes rfl) (Step.load Try.underlying57 rfl rfl (fun w h => (h.os 1 rfl).cell0 (by first | omega | (simp only [List.length_set]; omega)) rfl)) rfl ?_) | refine RV.op (OV.step (gyes rfl) (Step.load Try.underlying57 rfl rfl (fun w h => (h.os 2 rfl).cell (by first | omega | (simp only [List.length_set]; omega)) rfl)) rfl ?_) | refine RV.op (OV.step (gyes rfl) (Step.load Try.underlying57 rfl rfl (fun w h => (h.os 2 rfl).cell0 (by first | omega | (simp only [List.length_set]; omega)) rfl)) rfl ?_) | refine RV.op (OV.step (gyes rfl) (Step.load Try.underlying57 rfl rfl (fun w h => (h.os 3 rfl).cell (by first | omega | (simp only [List.length_set]; omega)) rfl)) rfl ?_) | refine RV.op (OV.step (gyes rfl) (Step.load Try.underlying57 rfl rfl (fun w h => (h.os 3 rfl).cell0 (by first | omega | (simp only [List.length_set]; omega)) rfl)) rfl ?_))
      refine RV.op (OV.step (gyes rfl) (Step.move rfl) rfl ?_)
      (first | refine RV.op (OV.step (gyes rfl) (Step.idx Try.underlying57 I3 (fun w h => h.os 1 rfl) rfl rfl (by first | rfl | omega | (simp only [List.length_set]; omega)) _ rfl (by first | omega | (simp only [List.length_set]; omega))) rfl ?_) | refine RV.op (OV.step (gyes rfl) (Step.idx Try.underlying57 I3 (fun w h => h.os 2 rfl) rfl rfl (by first | rfl | omega | (simp only [List.length_set]; omega)) _ rfl (by first | omega | (simp only [List.length_set]; omega))) rfl ?_) | refine RV.op (OV.step (gyes rfl) (Step.idx Try.underlying57 I3 (fun w h => h.os 3 rfl) rfl rfl (by first | rfl | omega | (simp only [List.length_set]; omega)) _ rfl (by first | omega | (simp only [List.length_set]; omega))) rfl ?_))
      (first | refine RV.op (OV.step (gyes rfl) (Step.load Try.underlying3 rfl rfl (fun w h => h.cell 0 rfl rfl)) rfl ?_) | refine RV.op (OV.step (gyes rfl) (Step.load Try.underlying3 rfl rfl (fun w h => (h.os 1 rfl).cell (by first | omega | (simp only [List.length_set]; omega)) rfl)) rfl ?_) | refine RV.op (OV.step (gyes rfl) (Step.load Try.underlying3 rfl rfl (fun w h => (h.os 1 rfl).cell0 (by first | omega | (simp only [List.length_set]; omega)) rfl)) rfl ?_) | refine RV.op (OV.step (gyes rfl) (Step.load Try.underlying3 rfl rfl (fun w h => (h.os 2 rfl).cell (by first | omega | (simp only [List.length_set]; omega)) rfl)) rfl ?_) | refine RV.op (OV.step (gyes rfl) (Step.load Try.underlying3 rfl rfl (fun w h => (h.os 2 rfl).cell0 (by first | omega | (simp only [List.length_set]; omega)) rfl)) rfl ?_) | refine RV.op (OV.step (gyes rfl) (Step.load Try.underlying3 rfl rfl (fun w h => (h.os 3 rfl).cell (by first | omega | (simp only [List.length_set]; omega)) rfl)) rfl ?_) | refine RV.op (OV.step (gyes rfl) (Step.load Try.underlying3 rfl rfl (fun w h => (h.os 3 rfl).cell0 (by first | omega | (simp only [List.length_set]; omega)) rfl)) rfl ?_))
      refine RV.op (OV.split (gyes rfl) (Step.gtr rfl rfl) rfl (fun hq2 => ?_) (fun hq2 => ?_))
      · -- True
        refine RV.op (OV.step gno (Step.pick_t rfl rfl) rfl ?_)
        refine RV.nil ?_
        refine KV.then_n ?_
        refine KV.env [(0, _), (1, _), (5, _), (6, _), (42, _)] ⟨rfl, rfl, rfl, rfl, rfl, trivial⟩ ?_
        refine CV.cond_t rfl ?_
        -- region 6 ref.go:89
        refine CV.region ?_
        refine RV.op (OV.step gno (Step.move rfl) rfl ?_)
        refine RV.op (OV.step gno (Step.sub rfl rfl (rfl)) rfl ?_)
        refine RV.op (OV.step gno (Step.assign rfl) rfl ?_)
        refine RV.nil ?_
        refine KV.block_n ?_
        refine KV.then_n ?_
        refine KV.env [(0, _), (1, _), (5, _), (6, _)] ⟨rfl, rfl, rfl, rfl, trivial⟩ ?_
        -- region 4 ref.go:87
        refine CV.region ?_
        refine RV.op (OV.step gno (Step.move rfl) rfl ?_)
        (first | refine RV.op (OV.step gno (Step.add rfl rfl (wI64 (by omega) (by omega))) rfl ?_) | refine RV.op (OV.step gno (Step.add rfl rfl rfl) rfl ?_))
        refine RV.op (OV.step gno (Step.assign rfl) rfl ?_)
        refine RV.nil ?_
        refine KV.then_n ?_
        refine KV.env [(0, _), (1, _), (5, _), (6, _)] ⟨rfl, rfl, rfl, rfl, trivial⟩ ?_
        refine KV.loopI (j + 1) (by omega) (by omega) ⟨rfl, rfl, by first | (rw [ownM_pos (st := st) hq hq2]; rfl) | (rw [ownM_neg (st := st) hq]; rfl) | (rw [ownM_neg2 (st := st) hq2]; rfl), rfl, trivial⟩ (fun _ h => h)
      · -- False
        refine RV.op (OV.step gno (Step.pick_t rfl rfl) rfl ?_)
        refine RV.nil ?_
        refine KV.then_n ?_
        refine KV.env [(0, _), (1, _), (5, _), (6, _), (42, _)] ⟨rfl, rfl, rfl, rfl, rfl, trivial⟩ ?_
        refine CV.cond_f rfl ?_
        refine CV.skip ?_
        refine KV.block_n ?_
        refine KV.then_n ?_
        refine KV.env [(0, _), (1, _), (5, _), (6, _)] ⟨rfl, rfl, rfl, rfl, trivial⟩ ?_
        -- region 4 ref.go:87
        refine CV.region ?_
        refine RV.op (OV.step gno (Step.move rfl) rfl ?_)
        (first | refine RV.op (OV.step gno (Step.add rfl rfl (wI64 (by omega) (by omega))) rfl ?_) | refine RV.op (OV.step gno (Step.add rfl rfl rfl) rfl ?_))
        refine RV.op (OV.step gno (Step.assign rfl) rfl ?_)
        refine RV.nil ?_
        refine KV.then_n ?_
        refine KV.env [(0, _), (1, _), (5, _), (6, _)] ⟨rfl, rfl, rfl, rfl, trivial⟩ ?_
        refine KV.loopI (j + 1) (by omega) (by omega) ⟨rfl, rfl, by first | (rw [ownM_pos (st := st) hq hq2]; rfl) | (rw [ownM_neg (st := st) hq]; rfl) | (rw [ownM_neg2 (st := st) hq2]; rfl), rfl, trivial⟩ (fun _ h => h)
    · -- False
      refine RV.op (OV.step gno (Step.move rfl) rfl ?_)
      refine RV.op (OV.skip rfl rfl ?_)
      refine RV.op (OV.skip rfl rfl ?_)
      refine RV.op (OV.skip rfl rfl ?_)
      refine RV.op (OV.skip rfl rfl ?_)
      refine RV.op (OV.skip rfl rfl ?_)
      refine RV.op (OV.skip rfl rfl ?_)
      refine RV.op (OV.skip rfl rfl ?_)
      refine RV.op (OV.skip rfl rfl ?_)
      refine RV.op (OV.step gno (Step.pick_f rfl rfl) rfl ?_)
      refine RV.nil ?_
      refine KV.then_n ?_
      refine KV.env [(0, _), (1, _), (5, _), (6, _), (42, _)] ⟨rfl, rfl, rfl, rfl, rfl, trivial⟩ ?_
      refine CV.cond_f rfl ?_
      refine CV.skip ?_
      refine KV.block_n ?_
      refine KV.then_n ?_
      refine KV.env [(0, _), (1, _), (5, _), (6, _)] ⟨rfl, rfl, rfl, rfl, trivial⟩ ?_
      -- region 4 ref.go:87
      refine CV.region ?_
      refine RV.op (OV.step gno (Step.move rfl) rfl ?_)
      (first | refine RV.op (OV.step gno (Step.add rfl rfl (wI64 (by omega) (by omega))) rfl ?_) | refine RV.op (OV.step gno (Step.add rfl rfl rfl) rfl ?_))
      refine RV.op (OV.step gno (Step.assign rfl) rfl ?_)
      refine RV.nil ?_
      refine KV.then_n ?_
      refine KV.env [(0, _), (1, _), (5, _), (6, _)] ⟨rfl, rfl, rfl, rfl, trivial⟩ ?_
      refine KV.loopI (j + 1) (by omega) (by omega) ⟨rfl, rfl, by first | (rw [ownM_pos (st := st) hq hq2]; rfl) | (rw [ownM_neg (st := st) hq]; rfl) | (rw [ownM_neg2 (st := st) hq2]; rfl), rfl, trivial⟩ (fun _ h => h)
  · -- False
    obtain rfl : j = st.rails.length := by omega
    refine RV.nil ?_
    refine KV.then_n ?_
    refine KV.env [(0, _), (1, _), (5, _), (6, _), (20, _)] ⟨rfl, rfl, rfl, rfl, rfl, trivial⟩ ?_
    refine CV.cond_f rfl ?_
    refine CV.exit ?_
    refine KV.then_exit ?_
    refine KV.then_exit ?_
    refine KV.block_hit ?_
    refine KV.then_n ?_
    refine KV.env [(5, _)] ⟨rfl, trivial⟩ ?_
    refine CV.seq ?_
    -- region 7 ref.go:92
    refine CV.region ?_
    refine RV.op (OV.step gno (Step.move rfl) rfl ?_)
    refine RV.op (OV.step gno (Step.assign rfl) rfl ?_)
    refine RV.nil ?_
    refine KV.then_n ?_
    refine KV.env [(4, _)] ⟨rfl, trivial⟩ ?_
    refine CV.ret ?_
    -- return at r7
    exact KV.ret1 rfl rfl _ (fun _ h => h) ⟨rfl, rfl⟩

set_option maxRecDepth 100000 in
set_option maxHeartbeats 1000000 in
theorem addR_fn (b : Nat) (a : RA) (rk : Nat → Nat) (now : Int) (f : Nat) : ∀ (i : Nat) (st : St) (ops : List ROp) (A : Option Addr) (c : Nat) (w : World), st.wf → Acy st.rails rk → i < st.rails.length → rk i < f → ops.length + f ≤ 1000000 → Fx Try.prog 48 [.pointer (some ⟨b, 0, none⟩), .slice A ops.length c, .int .i64 i, .int .u64 now] w (robj 59 b a st ++ [OS 45 opK A c ops]) no (fun v L => ∃ A2 c2, v = .slice A2 (addR f st i now ops).2.length c2 ∧ L = robj 59 b a (addR f st i now ops).1 ++ [OS 45 opK A2 c2 (addR f st i now ops).2]) := by
  induction f with
  | zero => intro i st ops A c w _ _ _ hf; omega
  | succ f ih =>
    intro i st ops A c w wf hg hi hf hops
    have wc := wf.count
    have wd := wf.done
    refine Sv.Fx.body Try.func48 rfl T48 rfl ?_
    intro I hro hI
    refine KV.env [(0, _), (1, _), (2, _), (3, _)] ⟨rfl, rfl, rfl, rfl, trivial⟩ ?_
    refine CV.seq ?_
    -- region 0 ref.go:50
    refine CV.region ?_
    refine RV.op (OV.step gno (Step.assign rfl) rfl ?_)
    refine RV.nil ?_
    refine KV.then_n ?_
    refine KV.env [(0, _), (1, _), (2, _), (3, _)] ⟨rfl, rfl, rfl, rfl, trivial⟩ ?_
    refine CV.seq ?_
    -- region 1 ref.go:51
    refine CV.region ?_
    refine RV.op (OV.step gno (Step.move rfl) rfl ?_)
    refine RV.op (OV.step gno (Step.nilCheck rfl) rfl ?_)
    refine RV.op (OV.step gno (Step.fieldAddr rfl (F59_1 _ _)) rfl ?_)
    (first | refine RV.op (OV.step gno (Step.load Try.underlying57 rfl rfl (fun w h => h.cell 0 rfl rfl)) rfl ?_) | refine RV.op (OV.step gno (Step.load Try.underlying57 rfl rfl (fun w h => (h.os 1 rfl).cell (by first | omega | (simp only [List.length_set]; omega)) rfl)) rfl ?_) | refine RV.op (OV.step gno (Step.load Try.underlying57 rfl rfl (fun w h => (h.os 1 rfl).cell0 (by first | omega | (simp only [List.length_set]; omega)) rfl)) rfl ?_) | refine RV.op (OV.step gno (Step.load Try.underlying57 rfl rfl (fun w h => (h.os 2 rfl).cell (by first | omega | (simp only [List.length_set]; omega)) rfl)) rfl ?_) | refine RV.op (OV.step gno (Step.load Try.underlying57 rfl rfl (fun w h => (h.os 2 rfl).cell0 (by first | omega | (simp only [List.length_set]; omega)) rfl)) rfl ?_) | refine RV.op (OV.step gno (Step.load Try.underlying57 rfl rfl (fun w h => (h.os 3 rfl).cell (by first | omega | (simp only [List.length_set]; omega)) rfl)) rfl ?_) | refine RV.op (OV.step gno (Step.load Try.underlying57 rfl rfl (fun w h => (h.os 3 rfl).cell0 (by first | omega | (simp only [List.length_set]; omega)) rfl)) rfl ?_))
    refine RV.op (OV.step gno (Step.move rfl) rfl ?_)
    (first | refine RV.op (OV.step gno (Step.idx Try.underlying57 I3 (fun w h => h.os 1 rfl) rfl rfl (by first | rfl | omega | (simp only [List.length_set]; omega)) _ rfl (by first | omega | (simp only [List.length_set]; omega))) rfl ?_) | refine RV.op (OV.step gno (Step.idx Try.underlying57 I3 (fun w h => h.os 2 rfl) rfl rfl (by first | rfl | omega | (simp only [List.length_set]; omega)) _ rfl (by first | omega | (simp only [List.length_set]; omega))) rfl ?_) | refine RV.op (OV.step gno (Step.idx Try.underlying57 I3 (fun w h => h.os 3 rfl) rfl rfl (by first | rfl | omega | (simp only [List.length_set]; omega)) _ rfl (by first | omega | (simp only [List.length_set]; omega))) rfl ?_))
    (first | refine RV.op (OV.step gno (Step.load Try.underlying3 rfl rfl (fun w h => h.cell 0 rfl rfl)) rfl ?_) | refine RV.op (OV.step gno (Step.load Try.underlying3 rfl rfl (fun w h => (h.os 1 rfl).cell (by first | omega | (simp only [List.length_set]; omega)) rfl)) rfl ?_) | refine RV.op (OV.step gno (Step.load Try.underlying3 rfl rfl (fun w h => (h.os 1 rfl).cell0 (by first | omega | (simp only [List.length_set]; omega)) rfl)) rfl ?_) | refine RV.op (OV.step gno (Step.load Try.underlying3 rfl rfl (fun w h => (h.os 2 rfl).cell (by first | omega | (simp only [List.length_set]; omega)) rfl)) rfl ?_) | refine RV.op (OV.step gno (Step.load Try.underlying3 rfl rfl (fun w h => (h.os 2 rfl).cell0 (by first | omega | (simp only [List.length_set]; omega)) rfl)) rfl ?_) | refine RV.op (OV.step gno (Step.load Try.underlying3 rfl rfl (fun w h => (h.os 3 rfl).cell (by first | omega | (simp only [List.length_set]; omega)) rfl)) rfl ?_) | refine RV.op (OV.step gno (Step.load Try.underlying3 rfl rfl (fun w h => (h.os 3 rfl).cell0 (by first | omega | (simp only [List.length_set]; omega)) rfl)) rfl ?_))
    refine RV.op (OV.step gno (Step.add rfl rfl (rfl)) rfl ?_)
    (first | refine RV.op (OV.step gno (Step.idx Try.underlying57 I3 (fun w h => h.os 1 rfl) rfl rfl (by first | rfl | omega | (simp only [List.length_set]; omega)) _ rfl (by first | omega | (simp only [List.length_set]; omega))) rfl ?_) | refine RV.op (OV.step gno (Step.idx Try.underlying57 I3 (fun w h => h.os 2 rfl) rfl rfl (by first | rfl | omega | (simp only [List.length_set]; omega)) _ rfl (by first | omega | (simp only [List.length_set]; omega))) rfl ?_) | refine RV.op (OV.step gno (Step.idx Try.underlying57 I3 (fun w h => h.os 3 rfl) rfl rfl (by first | rfl | omega | (simp only [List.length_set]; omega)) _ rfl (by first | omega | (simp only [List.length_set]; omega))) rfl ?_))
    refine RV.op (OV.storeE 2 (i) (_) (j := 0) [_] I3 rfl rfl rfl rfl rfl rfl (by first | omega | (simp only [List.length_set]; omega)) rfl (Nat.le_of_ble_eq_true rfl) gno ?_)
    obtain ⟨st1, hst⟩ : ∃ s, st.setC i (IntKind.i64.wrap (st.c i + 1)) = s := ⟨_, rfl⟩
    have wf1 : st1.wf := hst ▸ setC_wf wf i _
    have kr : st1.rails = st.rails := by rw [← hst]; rfl
    have krl : st1.rails.length = st.rails.length := by rw [kr]
    have wc1 := wf1.count
    have wd1 := wf1.done
    refine KV.heap (S' := Hp I w (robj 59 b a st1 ++ [OS 45 opK A c ops])) (fun w2 h => by rw [← hst]; exact h) ?_
    refine KV.have (fun w2 h => (h.osCap 1 rfl)) (fun hcap => ?_)
    have hcap2 : st1.rails.length ≤ 9223372036854775807 := by have := hcap.2; unfold maxLen at this; omega
    refine RV.nil ?_
    refine KV.then_n ?_
    refine KV.env [(0, _), (1, _), (2, _), (3, _)] ⟨rfl, rfl, rfl, rfl, trivial⟩ ?_
    refine CV.seq ?_
    refine CV.seq ?_
    -- region 2 ref.go:52
    refine CV.region ?_
    refine RV.op (OV.step gno (Step.move rfl) rfl ?_)
    refine RV.op (OV.step gno (Step.nilCheck rfl) rfl ?_)
    refine RV.op (OV.step gno (Step.fieldAddr rfl (F59_1 _ _)) rfl ?_)
    (first | refine RV.op (OV.step gno (Step.load Try.underlying57 rfl rfl (fun w h => h.cell 0 rfl rfl)) rfl ?_) | refine RV.op (OV.step gno (Step.load Try.underlying57 rfl rfl (fun w h => (h.os 1 rfl).cell (by first | omega | (simp only [List.length_set]; omega)) rfl)) rfl ?_) | refine RV.op (OV.step gno (Step.load Try.underlying57 rfl rfl (fun w h => (h.os 1 rfl).cell0 (by first | omega | (simp only [List.length_set]; omega)) rfl)) rfl ?_) | refine RV.op (OV.step gno (Step.load Try.underlying57 rfl rfl (fun w h => (h.os 2 rfl).cell (by first | omega | (simp only [List.length_set]; omega)) rfl)) rfl ?_) | refine RV.op (OV.step gno (Step.load Try.underlying57 rfl rfl (fun w h => (h.os 2 rfl).cell0 (by first | omega | (simp only [List.length_set]; omega)) rfl)) rfl ?_) | refine RV.op (OV.step gno (Step.load Try.underlying57 rfl rfl (fun w h => (h.os 3 rfl).cell (by first | omega | (simp only [List.length_set]; omega)) rfl)) rfl ?_) | refine RV.op (OV.step gno (Step.load Try.underlying57 rfl rfl (fun w h => (h.os 3 rfl).cell0 (by first | omega | (simp only [List.length_set]; omega)) rfl)) rfl ?_))
    refine RV.op (OV.step gno (Step.move rfl) rfl ?_)
    (first | refine RV.op (OV.step gno (Step.idx Try.underlying57 I3 (fun w h => h.os 1 rfl) rfl rfl (by first | rfl | omega | (simp only [List.length_set]; omega)) _ rfl (by first | omega | (simp only [List.length_set]; omega))) rfl ?_) | refine RV.op (OV.step gno (Step.idx Try.underlying57 I3 (fun w h => h.os 2 rfl) rfl rfl (by first | rfl | omega | (simp only [List.length_set]; omega)) _ rfl (by first | omega | (simp only [List.length_set]; omega))) rfl ?_) | refine RV.op (OV.step gno (Step.idx Try.underlying57 I3 (fun w h => h.os 3 rfl) rfl rfl (by first | rfl | omega | (simp only [List.length_set]; omega)) _ rfl (by first | omega | (simp only [List.length_set]; omega))) rfl ?_))
    (first | refine RV.op (OV.step gno (Step.load Try.underlying3 rfl rfl (fun w h => h.cell 0 rfl rfl)) rfl ?_) | refine RV.op (OV.step gno (Step.load Try.underlying3 rfl rfl (fun w h => (h.os 1 rfl).cell (by first | omega | (simp only [List.length_set]; omega)) rfl)) rfl ?_) | refine RV.op (OV.step gno (Step.load Try.underlying3 rfl rfl (fun w h => (h.os 1 rfl).cell0 (by first | omega | (simp only [List.length_set]; omega)) rfl)) rfl ?_) | refine RV.op (OV.step gno (Step.load Try.underlying3 rfl rfl (fun w h => (h.os 2 rfl).cell (by first | omega | (simp only [List.length_set]; omega)) rfl)) rfl ?_) | refine RV.op (OV.step gno (Step.load Try.underlying3 rfl rfl (fun w h => (h.os 2 rfl).cell0 (by first | omega | (simp only [List.length_set]; omega)) rfl)) rfl ?_) | refine RV.op (OV.step gno (Step.load Try.underlying3 rfl rfl (fun w h => (h.os 3 rfl).cell (by first | omega | (simp only [List.length_set]; omega)) rfl)) rfl ?_) | refine RV.op (OV.step gno (Step.load Try.underlying3 rfl rfl (fun w h => (h.os 3 rfl).cell0 (by first | omega | (simp only [List.length_set]; omega)) rfl)) rfl ?_))
    refine RV.op (OV.split gno (Step.gtr rfl rfl) rfl (fun hc => ?_) (fun hc => ?_))
    · -- True
      refine RV.nil ?_
      refine KV.then_n ?_
      refine KV.env [(0, _), (1, _), (2, _), (3, _), (27, _)] ⟨rfl, rfl, rfl, rfl, rfl, trivial⟩ ?_
      refine CV.cond_t rfl ?_
      refine CV.seq ?_
      -- region 3 ref.go:53
      refine CV.region ?_
      refine RV.op (OV.step gno (Step.move rfl) rfl ?_)
      refine RV.op (OV.step gno (Step.assign rfl) rfl ?_)
      refine RV.nil ?_
      refine KV.then_n ?_
      refine KV.env [(8, _)] ⟨rfl, trivial⟩ ?_
      refine CV.ret ?_
      refine KV.then_ret ?_
      -- return at r3
      rw [addR_pos hst hc]
      exact KV.ret1 rfl rfl _ (fun _ h => h) ⟨_, _, rfl, rfl⟩
    · -- False
      refine RV.nil ?_
      refine KV.then_n ?_
      refine KV.env [(0, _), (1, _), (2, _), (3, _), (27, _)] ⟨rfl, rfl, rfl, rfl, rfl, trivial⟩ ?_
      refine CV.cond_f rfl ?_
      refine CV.skip ?_
      refine KV.then_n ?_
      refine KV.env [(0, _), (1, _), (2, _), (3, _)] ⟨rfl, rfl, rfl, rfl, trivial⟩ ?_
      refine CV.seq ?_
      -- region 4 ref.go:55
      refine CV.region ?_
      refine RV.op (OV.step gno (Step.move rfl) rfl ?_)
      refine RV.op (OV.step gno (Step.move rfl) rfl ?_)
      refine RV.op (OV.step gno (Step.nilCheck rfl) rfl ?_)
      refine RV.op (OV.step gno (Step.fieldAddr rfl (F59_2 _ _)) rfl ?_)
      (first | refine RV.op (OV.step gno (Step.load Try.underlying43 rfl rfl (fun w h => h.cell 0 rfl rfl)) rfl ?_) | refine RV.op (OV.step gno (Step.load Try.underlying43 rfl rfl (fun w h => (h.os 1 rfl).cell (by first | omega | (simp only [List.length_set]; omega)) rfl)) rfl ?_) | refine RV.op (OV.step gno (Step.load Try.underlying43 rfl rfl (fun w h => (h.os 1 rfl).cell0 (by first | omega | (simp only [List.length_set]; omega)) rfl)) rfl ?_) | refine RV.op (OV.step gno (Step.load Try.underlying43 rfl rfl (fun w h => (h.os 2 rfl).cell (by first | omega | (simp only [List.length_set]; omega)) rfl)) rfl ?_) | refine RV.op (OV.step gno (Step.load Try.underlying43 rfl rfl (fun w h => (h.os 2 rfl).cell0 (by first | omega | (simp only [List.length_set]; omega)) rfl)) rfl ?_) | refine RV.op (OV.step gno (Step.load Try.underlying43 rfl rfl (fun w h => (h.os 3 rfl).cell (by first | omega | (simp only [List.length_set]; omega)) rfl)) rfl ?_) | refine RV.op (OV.step gno (Step.load Try.underlying43 rfl rfl (fun w h => (h.os 3 rfl).cell0 (by first | omega | (simp only [List.length_set]; omega)) rfl)) rfl ?_))
      refine RV.op (OV.step gno (Step.move rfl) rfl ?_)
      (first | refine RV.op (OV.step gno (Step.idx Try.underlying43 I33 (fun w h => h.os 1 rfl) rfl rfl (by first | rfl | omega | (simp only [List.length_set]; omega)) _ rfl (by first | omega | (simp only [List.length_set]; omega))) rfl ?_) | refine RV.op (OV.step gno (Step.idx Try.underlying43 I33 (fun w h => h.os 2 rfl) rfl rfl (by first | rfl | omega | (simp only [List.length_set]; omega)) _ rfl (by first | omega | (simp only [List.length_set]; omega))) rfl ?_) | refine RV.op (OV.step gno (Step.idx Try.underlying43 I33 (fun w h => h.os 3 rfl) rfl rfl (by first | rfl | omega | (simp only [List.length_set]; omega)) _ rfl (by first | omega | (simp only [List.length_set]; omega))) rfl ?_))
      (first | refine RV.op (OV.step gno (Step.load Try.underlying33 rfl rfl (fun w h => h.cell 0 rfl rfl)) rfl ?_) | refine RV.op (OV.step gno (Step.load Try.underlying33 rfl rfl (fun w h => (h.os 1 rfl).cell (by first | omega | (simp only [List.length_set]; omega)) rfl)) rfl ?_) | refine RV.op (OV.step gno (Step.load Try.underlying33 rfl rfl (fun w h => (h.os 1 rfl).cell0 (by first | omega | (simp only [List.length_set]; omega)) rfl)) rfl ?_) | refine RV.op (OV.step gno (Step.load Try.underlying33 rfl rfl (fun w h => (h.os 2 rfl).cell (by first | omega | (simp only [List.length_set]; omega)) rfl)) rfl ?_) | refine RV.op (OV.step gno (Step.load Try.underlying33 rfl rfl (fun w h => (h.os 2 rfl).cell0 (by first | omega | (simp only [List.length_set]; omega)) rfl)) rfl ?_) | refine RV.op (OV.step gno (Step.load Try.underlying33 rfl rfl (fun w h => (h.os 3 rfl).cell (by first | omega | (simp only [List.length_set]; omega)) rfl)) rfl ?_) | refine RV.op (OV.step gno (Step.load Try.underlying33 rfl rfl (fun w h => (h.os 3 rfl).cell0 (by first | omega | (simp only [List.length_set]; omega)) rfl)) rfl ?_))
      refine RV.op (OV.call [] Try.func51 B51 N51 rfl rfl (fun w h => (later_fn _ _).fn w) (fun _ hb => hb.elim) gno rfl (fun v L' hp => ?_))
      obtain ⟨rfl, rfl⟩ := hp
      simp only [List.append_nil]
      refine RV.op (OV.step gno (Step.assign rfl) rfl ?_)
      refine RV.nil ?_
      refine KV.then_n ?_
      refine KV.env [(0, _), (1, _), (2, _), (3, _), (9, _)] ⟨rfl, rfl, rfl, rfl, rfl, trivial⟩ ?_
      refine CV.seq ?_
      refine CV.seq ?_
      -- region 5 ref.go:56
      refine CV.region ?_
      refine RV.op (OV.step gno (Step.move rfl) rfl ?_)
      refine RV.op (OV.step gno (Step.nilCheck rfl) rfl ?_)
      refine RV.op (OV.step gno (Step.fieldAddr rfl (F59_0 _ _)) rfl ?_)
      (first | refine RV.op (OV.step gno (Step.load Try.underlying22 rfl rfl (fun w h => h.cell 0 rfl rfl)) rfl ?_) | refine RV.op (OV.step gno (Step.load Try.underlying22 rfl rfl (fun w h => (h.os 1 rfl).cell (by first | omega | (simp only [List.length_set]; omega)) rfl)) rfl ?_) | refine RV.op (OV.step gno (Step.load Try.underlying22 rfl rfl (fun w h => (h.os 1 rfl).cell0 (by first | omega | (simp only [List.length_set]; omega)) rfl)) rfl ?_) | refine RV.op (OV.step gno (Step.load Try.underlying22 rfl rfl (fun w h => (h.os 2 rfl).cell (by first | omega | (simp only [List.length_set]; omega)) rfl)) rfl ?_) | refine RV.op (OV.step gno (Step.load Try.underlying22 rfl rfl (fun w h => (h.os 2 rfl).cell0 (by first | omega | (simp only [List.length_set]; omega)) rfl)) rfl ?_) | refine RV.op (OV.step gno (Step.load Try.underlying22 rfl rfl (fun w h => (h.os 3 rfl).cell (by first | omega | (simp only [List.length_set]; omega)) rfl)) rfl ?_) | refine RV.op (OV.step gno (Step.load Try.underlying22 rfl rfl (fun w h => (h.os 3 rfl).cell0 (by first | omega | (simp only [List.length_set]; omega)) rfl)) rfl ?_))
      refine RV.op (OV.step gno (Step.move rfl) rfl ?_)
      (first | refine RV.op (OV.step gno (Step.idx Try.underlying22 I35 (fun w h => h.os 1 rfl) rfl rfl (by first | rfl | omega | (simp only [List.length_set]; omega)) _ rfl (by first | omega | (simp only [List.length_set]; omega))) rfl ?_) | refine RV.op (OV.step gno (Step.idx Try.underlying22 I35 (fun w h => h.os 2 rfl) rfl rfl (by first | rfl | omega | (simp only [List.length_set]; omega)) _ rfl (by first | omega | (simp only [List.length_set]; omega))) rfl ?_) | refine RV.op (OV.step gno (Step.idx Try.underlying22 I35 (fun w h => h.os 3 rfl) rfl rfl (by first | rfl | omega | (simp only [List.length_set]; omega)) _ rfl (by first | omega | (simp only [List.length_set]; omega))) rfl ?_))
      refine RV.op (OV.step gno (Step.fieldAddr rfl (F35_0 _ _)) rfl ?_)
      (first | refine RV.op (OV.step gno (Step.load Try.underlying3 rfl rfl (fun w h => h.cell 0 rfl rfl)) rfl ?_) | refine RV.op (OV.step gno (Step.load Try.underlying3 rfl rfl (fun w h => (h.os 1 rfl).cell (by first | omega | (simp only [List.length_set]; omega)) rfl)) rfl ?_) | refine RV.op (OV.step gno (Step.load Try.underlying3 rfl rfl (fun w h => (h.os 1 rfl).cell0 (by first | omega | (simp only [List.length_set]; omega)) rfl)) rfl ?_) | refine RV.op (OV.step gno (Step.load Try.underlying3 rfl rfl (fun w h => (h.os 2 rfl).cell (by first | omega | (simp only [List.length_set]; omega)) rfl)) rfl ?_) | refine RV.op (OV.step gno (Step.load Try.underlying3 rfl rfl (fun w h => (h.os 2 rfl).cell0 (by first | omega | (simp only [List.length_set]; omega)) rfl)) rfl ?_) | refine RV.op (OV.step gno (Step.load Try.underlying3 rfl rfl (fun w h => (h.os 3 rfl).cell (by first | omega | (simp only [List.length_set]; omega)) rfl)) rfl ?_) | refine RV.op (OV.step gno (Step.load Try.underlying3 rfl rfl (fun w h => (h.os 3 rfl).cell0 (by first | omega | (simp only [List.length_set]; omega)) rfl)) rfl ?_))
      refine RV.op (OV.step gno (Step.assign rfl) rfl ?_)
      refine RV.nil ?_
      refine KV.then_n ?_
      refine KV.env [(0, _), (1, _), (2, _), (3, _), (9, _), (10, _)] ⟨rfl, rfl, rfl, rfl, rfl, rfl, trivial⟩ ?_
      refine CV.seq ?_
      -- region 6 ref.go:56
      refine CV.region ?_
      refine RV.op (OV.step gno (Step.move rfl) rfl ?_)
      refine RV.op (OV.split gno (Step.geq rfl rfl) rfl (fun hs => ?_) (fun hs => ?_))
      · -- True
        refine RV.nil ?_
        refine KV.then_n ?_
        refine KV.env [(0, _), (1, _), (2, _), (3, _), (9, _), (10, _), (47, _)] ⟨rfl, rfl, rfl, rfl, rfl, rfl, rfl, trivial⟩ ?_
        refine CV.cond_t rfl ?_
        refine CV.seq ?_
        -- region 7 ref.go:57
        obtain ⟨s, hs2⟩ := Int.eq_ofNat_of_zero_le hs
        rw [hs2]
        have hg2 := hg i hi s (by rw [← kr]; exact hs2)
        refine CV.region ?_
        refine RV.op (OV.step gno (Step.move rfl) rfl ?_)
        refine RV.op (OV.step gno (Step.move rfl) rfl ?_)
        refine RV.op (OV.step gno (Step.move rfl) rfl ?_)
        refine RV.op (OV.step gno (Step.move rfl) rfl ?_)
        refine RV.op (OV.call [0, 0, 0, 0, 0] (F := []) Try.func48 B48 N48 rfl rfl (fun w h => ih s st1 ops A c w wf1 (by rw [kr]; exact hg) (by omega) (by omega) (by omega)) (fun _ hb => hb.elim) gno rfl (fun v L' hp => ?_))
        obtain ⟨A2, c2, rfl, rfl⟩ := hp
        obtain ⟨k1, k2, k3, k4, k5⟩ := addR_keep f st1 s now ops
        generalize hq : addR f st1 s now ops = q at *
        obtain ⟨p1, p2⟩ := q
        simp only [] at *
        have kr2 : p1.rails.length = st1.rails.length := by rw [k1]
        refine RV.op (OV.step gno (Step.assign rfl) rfl ?_)
        refine RV.nil ?_
        refine KV.then_n ?_
        refine KV.env [(0, _), (1, _), (2, _), (9, _), (10, _)] ⟨rfl, rfl, rfl, rfl, rfl, trivial⟩ ?_
        -- region 8 ref.go:58
        refine CV.region ?_
        refine RV.op (OV.step gno (Step.move rfl) rfl ?_)
        refine RV.op (OV.step gno (Step.move rfl) rfl ?_)
        refine RV.op (OV.step gno (Step.nilCheck rfl) rfl ?_)
        refine RV.op (OV.step gno (Step.fieldAddr rfl (F59_2 _ _)) rfl ?_)
        (first | refine RV.op (OV.step gno (Step.load Try.underlying43 rfl rfl (fun w h => h.cell 0 rfl rfl)) rfl ?_) | refine RV.op (OV.step gno (Step.load Try.underlying43 rfl rfl (fun w h => (h.os 1 rfl).cell (by first | omega | (simp only [List.length_set]; omega)) rfl)) rfl ?_) | refine RV.op (OV.step gno (Step.load Try.underlying43 rfl rfl (fun w h => (h.os 1 rfl).cell0 (by first | omega | (simp only [List.length_set]; omega)) rfl)) rfl ?_) | refine RV.op (OV.step gno (Step.load Try.underlying43 rfl rfl (fun w h => (h.os 2 rfl).cell (by first | omega | (simp only [List.length_set]; omega)) rfl)) rfl ?_) | refine RV.op (OV.step gno (Step.load Try.underlying43 rfl rfl (fun w h => (h.os 2 rfl).cell0 (by first | omega | (simp only [List.length_set]; omega)) rfl)) rfl ?_) | refine RV.op (OV.step gno (Step.load Try.underlying43 rfl rfl (fun w h => (h.os 3 rfl).cell (by first | omega | (simp only [List.length_set]; omega)) rfl)) rfl ?_) | refine RV.op (OV.step gno (Step.load Try.underlying43 rfl rfl (fun w h => (h.os 3 rfl).cell0 (by first | omega | (simp only [List.length_set]; omega)) rfl)) rfl ?_))
        refine RV.op (OV.step gno (Step.move rfl) rfl ?_)
        (first | refine RV.op (OV.step gno (Step.idx Try.underlying43 I33 (fun w h => h.os 1 rfl) rfl rfl (by first | rfl | omega | (simp only [List.length_set]; omega)) _ rfl (by first | omega | (simp only [List.length_set]; omega))) rfl ?_) | refine RV.op (OV.step gno (Step.idx Try.underlying43 I33 (fun w h => h.os 2 rfl) rfl rfl (by first | rfl | omega | (simp only [List.length_set]; omega)) _ rfl (by first | omega | (simp only [List.length_set]; omega))) rfl ?_) | refine RV.op (OV.step gno (Step.idx Try.underlying43 I33 (fun w h => h.os 3 rfl) rfl rfl (by first | rfl | omega | (simp only [List.length_set]; omega)) _ rfl (by first | omega | (simp only [List.length_set]; omega))) rfl ?_))
        (first | refine RV.op (OV.step gno (Step.load Try.underlying33 rfl rfl (fun w h => h.cell 0 rfl rfl)) rfl ?_) | refine RV.op (OV.step gno (Step.load Try.underlying33 rfl rfl (fun w h => (h.os 1 rfl).cell (by first | omega | (simp only [List.length_set]; omega)) rfl)) rfl ?_) | refine RV.op (OV.step gno (Step.load Try.underlying33 rfl rfl (fun w h => (h.os 1 rfl).cell0 (by first | omega | (simp only [List.length_set]; omega)) rfl)) rfl ?_) | refine RV.op (OV.step gno (Step.load Try.underlying33 rfl rfl (fun w h => (h.os 2 rfl).cell (by first | omega | (simp only [List.length_set]; omega)) rfl)) rfl ?_) | refine RV.op (OV.step gno (Step.load Try.underlying33 rfl rfl (fun w h => (h.os 2 rfl).cell0 (by first | omega | (simp only [List.length_set]; omega)) rfl)) rfl ?_) | refine RV.op (OV.step gno (Step.load Try.underlying33 rfl rfl (fun w h => (h.os 3 rfl).cell (by first | omega | (simp only [List.length_set]; omega)) rfl)) rfl ?_) | refine RV.op (OV.step gno (Step.load Try.underlying33 rfl rfl (fun w h => (h.os 3 rfl).cell0 (by first | omega | (simp only [List.length_set]; omega)) rfl)) rfl ?_))
        refine RV.op (OV.call [] Try.func51 B51 N51 rfl rfl (fun w h => (later_fn _ _).fn w) (fun _ hb => hb.elim) gno rfl (fun v L' hp => ?_))
        obtain ⟨rfl, rfl⟩ := hp
        simp only [List.append_nil]
        refine RV.op (OV.step gno (Step.assign rfl) rfl ?_)
        refine RV.nil ?_
        refine KV.then_n ?_
        refine KV.env [(0, _), (1, _), (2, _), (9, _)] ⟨rfl, rfl, rfl, rfl, trivial⟩ ?_
        refine CV.seq ?_
        -- region 9 ref.go:60
        refine CV.stillTail 16 (by kernel_rfl) (by kernel_rfl) (fun _ h => h.drew) ?_
        refine SV.step gno (Step.move rfl) rfl ?_
        refine SV.step gno (Step.nilCheck rfl) rfl ?_
        refine SV.step gno (Step.fieldAddr rfl (F59_2 _ _)) rfl ?_
        (first | refine SV.step gno (Step.load Try.underlying43 rfl rfl (fun w h => h.cell 0 rfl rfl)) rfl ?_ | refine SV.step gno (Step.load Try.underlying43 rfl rfl (fun w h => (h.os 1 rfl).cell (by first | omega | (simp only [List.length_set]; omega)) rfl)) rfl ?_ | refine SV.step gno (Step.load Try.underlying43 rfl rfl (fun w h => (h.os 1 rfl).cell0 (by first | omega | (simp only [List.length_set]; omega)) rfl)) rfl ?_ | refine SV.step gno (Step.load Try.underlying43 rfl rfl (fun w h => (h.os 2 rfl).cell (by first | omega | (simp only [List.length_set]; omega)) rfl)) rfl ?_ | refine SV.step gno (Step.load Try.underlying43 rfl rfl (fun w h => (h.os 2 rfl).cell0 (by first | omega | (simp only [List.length_set]; omega)) rfl)) rfl ?_ | refine SV.step gno (Step.load Try.underlying43 rfl rfl (fun w h => (h.os 3 rfl).cell (by first | omega | (simp only [List.length_set]; omega)) rfl)) rfl ?_ | refine SV.step gno (Step.load Try.underlying43 rfl rfl (fun w h => (h.os 3 rfl).cell0 (by first | omega | (simp only [List.length_set]; omega)) rfl)) rfl ?_)
        refine SV.step gno (Step.move rfl) rfl ?_
        refine SV.step gno (Step.move rfl) rfl ?_
        refine SV.step gno (Step.move rfl) rfl ?_
        refine SV.step gno (Step.nilCheck rfl) rfl ?_
        refine SV.step gno (Step.fieldAddr rfl (F59_0 _ _)) rfl ?_
        (first | refine SV.step gno (Step.load Try.underlying22 rfl rfl (fun w h => h.cell 0 rfl rfl)) rfl ?_ | refine SV.step gno (Step.load Try.underlying22 rfl rfl (fun w h => (h.os 1 rfl).cell (by first | omega | (simp only [List.length_set]; omega)) rfl)) rfl ?_ | refine SV.step gno (Step.load Try.underlying22 rfl rfl (fun w h => (h.os 1 rfl).cell0 (by first | omega | (simp only [List.length_set]; omega)) rfl)) rfl ?_ | refine SV.step gno (Step.load Try.underlying22 rfl rfl (fun w h => (h.os 2 rfl).cell (by first | omega | (simp only [List.length_set]; omega)) rfl)) rfl ?_ | refine SV.step gno (Step.load Try.underlying22 rfl rfl (fun w h => (h.os 2 rfl).cell0 (by first | omega | (simp only [List.length_set]; omega)) rfl)) rfl ?_ | refine SV.step gno (Step.load Try.underlying22 rfl rfl (fun w h => (h.os 3 rfl).cell (by first | omega | (simp only [List.length_set]; omega)) rfl)) rfl ?_ | refine SV.step gno (Step.load Try.underlying22 rfl rfl (fun w h => (h.os 3 rfl).cell0 (by first | omega | (simp only [List.length_set]; omega)) rfl)) rfl ?_)
        refine SV.step gno (Step.move rfl) rfl ?_
        (first | refine SV.step gno (Step.idx Try.underlying22 I35 (fun w h => h.os 1 rfl) rfl rfl (by first | rfl | omega | (simp only [List.length_set]; omega)) _ rfl (by first | omega | (simp only [List.length_set]; omega))) rfl ?_ | refine SV.step gno (Step.idx Try.underlying22 I35 (fun w h => h.os 2 rfl) rfl rfl (by first | rfl | omega | (simp only [List.length_set]; omega)) _ rfl (by first | omega | (simp only [List.length_set]; omega))) rfl ?_ | refine SV.step gno (Step.idx Try.underlying22 I35 (fun w h => h.os 3 rfl) rfl rfl (by first | rfl | omega | (simp only [List.length_set]; omega)) _ rfl (by first | omega | (simp only [List.length_set]; omega))) rfl ?_)
        refine SV.step gno (Step.fieldAddr rfl (F35_1 _ _)) rfl ?_
        (first | refine SV.step gno (Step.load Try.underlying33 rfl rfl (fun w h => h.cell 0 rfl rfl)) rfl ?_ | refine SV.step gno (Step.load Try.underlying33 rfl rfl (fun w h => (h.os 1 rfl).cell (by first | omega | (simp only [List.length_set]; omega)) rfl)) rfl ?_ | refine SV.step gno (Step.load Try.underlying33 rfl rfl (fun w h => (h.os 1 rfl).cell0 (by first | omega | (simp only [List.length_set]; omega)) rfl)) rfl ?_ | refine SV.step gno (Step.load Try.underlying33 rfl rfl (fun w h => (h.os 2 rfl).cell (by first | omega | (simp only [List.length_set]; omega)) rfl)) rfl ?_ | refine SV.step gno (Step.load Try.underlying33 rfl rfl (fun w h => (h.os 2 rfl).cell0 (by first | omega | (simp only [List.length_set]; omega)) rfl)) rfl ?_ | refine SV.step gno (Step.load Try.underlying33 rfl rfl (fun w h => (h.os 3 rfl).cell (by first | omega | (simp only [List.length_set]; omega)) rfl)) rfl ?_ | refine SV.step gno (Step.load Try.underlying33 rfl rfl (fun w h => (h.os 3 rfl).cell0 (by first | omega | (simp only [List.length_set]; omega)) rfl)) rfl ?_)
        refine SV.step gno (Step.add rfl rfl (rfl)) rfl ?_
        (first | refine SV.step gno (Step.idx Try.underlying43 I33 (fun w h => h.os 1 rfl) rfl rfl (by first | rfl | omega | (simp only [List.length_set]; omega)) _ rfl (by first | omega | (simp only [List.length_set]; omega))) rfl ?_ | refine SV.step gno (Step.idx Try.underlying43 I33 (fun w h => h.os 2 rfl) rfl rfl (by first | rfl | omega | (simp only [List.length_set]; omega)) _ rfl (by first | omega | (simp only [List.length_set]; omega))) rfl ?_ | refine SV.step gno (Step.idx Try.underlying43 I33 (fun w h => h.os 3 rfl) rfl rfl (by first | rfl | omega | (simp only [List.length_set]; omega)) _ rfl (by first | omega | (simp only [List.length_set]; omega))) rfl ?_)
        refine SV.nil ?_
        show KV _ (wpList _ _ _ _) _ _
        refine RV.op (OV.storeE 3 (i) (_) (j := 0) [_] I33 rfl rfl rfl rfl rfl rfl (by first | omega | (simp only [List.length_set]; omega)) rfl (Nat.le_of_ble_eq_true rfl) gno ?_)
        refine RV.nil ?_
        refine KV.then_n ?_
        refine KV.env [(0, _), (1, _), (2, _), (9, _)] ⟨rfl, rfl, rfl, rfl, trivial⟩ ?_
        refine CV.seq ?_
        -- region 10 ref.go:61
        refine CV.region ?_
        refine RV.op (OV.step gno (Step.move rfl) rfl ?_)
        refine RV.op (OV.step gno (Step.move rfl) rfl ?_)
        refine RV.op (OV.step gno (Step.move rfl) rfl ?_)
        refine RV.op (OV.step gno (Step.move rfl) rfl ?_)
        refine RV.op (OV.step gno (Step.nilCheck rfl) rfl ?_)
        refine RV.op (OV.step gno (Step.fieldAddr rfl (F59_2 _ _)) rfl ?_)
        (first | refine RV.op (OV.step gno (Step.load Try.underlying43 rfl rfl (fun w h => h.cell 0 rfl rfl)) rfl ?_) | refine RV.op (OV.step gno (Step.load Try.underlying43 rfl rfl (fun w h => (h.os 1 rfl).cell (by first | omega | (simp only [List.length_set]; omega)) rfl)) rfl ?_) | refine RV.op (OV.step gno (Step.load Try.underlying43 rfl rfl (fun w h => (h.os 1 rfl).cell0 (by first | omega | (simp only [List.length_set]; omega)) rfl)) rfl ?_) | refine RV.op (OV.step gno (Step.load Try.underlying43 rfl rfl (fun w h => (h.os 2 rfl).cell (by first | omega | (simp only [List.length_set]; omega)) rfl)) rfl ?_) | refine RV.op (OV.step gno (Step.load Try.underlying43 rfl rfl (fun w h => (h.os 2 rfl).cell0 (by first | omega | (simp only [List.length_set]; omega)) rfl)) rfl ?_) | refine RV.op (OV.step gno (Step.load Try.underlying43 rfl rfl (fun w h => (h.os 3 rfl).cell (by first | omega | (simp only [List.length_set]; omega)) rfl)) rfl ?_) | refine RV.op (OV.step gno (Step.load Try.underlying43 rfl rfl (fun w h => (h.os 3 rfl).cell0 (by first | omega | (simp only [List.length_set]; omega)) rfl)) rfl ?_))
        refine RV.op (OV.step gno (Step.move rfl) rfl ?_)
        (first | refine RV.op (OV.step gno (Step.idx Try.underlying43 I33 (fun w h => h.os 1 rfl) rfl rfl (by first | rfl | omega | (simp only [List.length_set]; omega)) _ rfl (by first | omega | (simp only [List.length_set]; omega))) rfl ?_) | refine RV.op (OV.step gno (Step.idx Try.underlying43 I33 (fun w h => h.os 2 rfl) rfl rfl (by first | rfl | omega | (simp only [List.length_set]; omega)) _ rfl (by first | omega | (simp only [List.length_set]; omega))) rfl ?_) | refine RV.op (OV.step gno (Step.idx Try.underlying43 I33 (fun w h => h.os 3 rfl) rfl rfl (by first | rfl | omega | (simp only [List.length_set]; omega)) _ rfl (by first | omega | (simp only [List.length_set]; omega))) rfl ?_))
        (first | refine RV.op (OV.step gno (Step.load Try.underlying33 rfl rfl (fun w h => h.cell 0 rfl rfl)) rfl ?_) | refine RV.op (OV.step gno (Step.load Try.underlying33 rfl rfl (fun w h => (h.os 1 rfl).cell (by first | omega | (simp only [List.length_set]; omega)) rfl)) rfl ?_) | refine RV.op (OV.step gno (Step.load Try.underlying33 rfl rfl (fun w h => (h.os 1 rfl).cell0 (by first | omega | (simp only [List.length_set]; omega)) rfl)) rfl ?_) | refine RV.op (OV.step gno (Step.load Try.underlying33 rfl rfl (fun w h => (h.os 2 rfl).cell (by first | omega | (simp only [List.length_set]; omega)) rfl)) rfl ?_) | refine RV.op (OV.step gno (Step.load Try.underlying33 rfl rfl (fun w h => (h.os 2 rfl).cell0 (by first | omega | (simp only [List.length_set]; omega)) rfl)) rfl ?_) | refine RV.op (OV.step gno (Step.load Try.underlying33 rfl rfl (fun w h => (h.os 3 rfl).cell (by first | omega | (simp only [List.length_set]; omega)) rfl)) rfl ?_) | refine RV.op (OV.step gno (Step.load Try.underlying33 rfl rfl (fun w h => (h.os 3 rfl).cell0 (by first | omega | (simp only [List.length_set]; omega)) rfl)) rfl ?_))
        rw [getD_set_self _ _ _ _ (by omega)]
        refine RV.op (OV.step gno (Step.build rfl (Bd45_0_1_2_3 _ _ _ _)) rfl ?_)
        refine RV.op (OV.buildSlice (K := opK) ([⟨_, _, _, _⟩]) rfl (Bs38_1_0 _ _ _ _) rfl rfl (by omega) gno rfl (fun b10_11 => ?_))
        refine RV.op (OV.append 4 Try.underlying38 I45 rfl rfl rfl rfl rfl rfl (fun w h => h.os 5 rfl) (by simp only [List.length_append, List.length_cons, List.length_nil]; omega) (by simp only [List.length_append, List.length_cons, List.length_nil]; omega) gno rfl (fun b10_12a b10_12c => ?_))
        refine KV.sel [0, 0, 0, 0, 0] [_, _, _, _, _] rfl ?_
        refine RV.op (OV.step gno (Step.assign rfl) rfl ?_)
        refine RV.nil ?_
        refine KV.then_n ?_
        refine KV.env [(8, _)] ⟨rfl, trivial⟩ ?_
        refine CV.ret ?_
        -- return at r10
        first | rw [addR_sup hst hc hs2 hq] | rw [addR_neg hst hc hs]
        exact KV.ret1 rfl rfl _ (fun _ h => h) ⟨_, _, rfl, rfl⟩
      · -- False
        refine RV.nil ?_
        refine KV.then_n ?_
        refine KV.env [(0, _), (1, _), (2, _), (3, _), (9, _), (10, _), (47, _)] ⟨rfl, rfl, rfl, rfl, rfl, rfl, rfl, trivial⟩ ?_
        refine CV.cond_f rfl ?_
        refine CV.skip ?_
        refine KV.then_n ?_
        refine KV.env [(0, _), (1, _), (2, _), (9, _)] ⟨rfl, rfl, rfl, rfl, trivial⟩ ?_
        refine CV.seq ?_
        -- region 9 ref.go:60
        refine CV.stillTail 16 (by kernel_rfl) (by kernel_rfl) (fun _ h => h.drew) ?_
        refine SV.step gno (Step.move rfl) rfl ?_
        refine SV.step gno (Step.nilCheck rfl) rfl ?_
        refine SV.step gno (Step.fieldAddr rfl (F59_2 _ _)) rfl ?_
        (first | refine SV.step gno (Step.load Try.underlying43 rfl rfl (fun w h => h.cell 0 rfl rfl)) rfl ?_ | refine SV.step gno (Step.load Try.underlying43 rfl rfl (fun w h => (h.os 1 rfl).cell (by first | omega | (simp only [List.length_set]; omega)) rfl)) rfl ?_ | refine SV.step gno (Step.load Try.underlying43 rfl rfl (fun w h => (h.os 1 rfl).cell0 (by first | omega | (simp only [List.length_set]; omega)) rfl)) rfl ?_ | refine SV.step gno (Step.load Try.underlying43 rfl rfl (fun w h => (h.os 2 rfl).cell (by first | omega | (simp only [List.length_set]; omega)) rfl)) rfl ?_ | refine SV.step gno (Step.load Try.underlying43 rfl rfl (fun w h => (h.os 2 rfl).cell0 (by first | omega | (simp only [List.length_set]; omega)) rfl)) rfl ?_ | refine SV.step gno (Step.load Try.underlying43 rfl rfl (fun w h => (h.os 3 rfl).cell (by first | omega | (simp only [List.length_set]; omega)) rfl)) rfl ?_ | refine SV.step gno (Step.load Try.underlying43 rfl rfl (fun w h => (h.os 3 rfl).cell0 (by first | omega | (simp only [List.length_set]; omega)) rfl)) rfl ?_)
        refine SV.step gno (Step.move rfl) rfl ?_
        refine SV.step gno (Step.move rfl) rfl ?_
        refine SV.step gno (Step.move rfl) rfl ?_
        refine SV.step gno (Step.nilCheck rfl) rfl ?_
        refine SV.step gno (Step.fieldAddr rfl (F59_0 _ _)) rfl ?_
        (first | refine SV.step gno (Step.load Try.underlying22 rfl rfl (fun w h => h.cell 0 rfl rfl)) rfl ?_ | refine SV.step gno (Step.load Try.underlying22 rfl rfl (fun w h => (h.os 1 rfl).cell (by first | omega | (simp only [List.length_set]; omega)) rfl)) rfl ?_ | refine SV.step gno (Step.load Try.underlying22 rfl rfl (fun w h => (h.os 1 rfl).cell0 (by first | omega | (simp only [List.length_set]; omega)) rfl)) rfl ?_ | refine SV.step gno (Step.load Try.underlying22 rfl rfl (fun w h => (h.os 2 rfl).cell (by first | omega | (simp only [List.length_set]; omega)) rfl)) rfl ?_ | refine SV.step gno (Step.load Try.underlying22 rfl rfl (fun w h => (h.os 2 rfl).cell0 (by first | omega | (simp only [List.length_set]; omega)) rfl)) rfl ?_ | refine SV.step gno (Step.load Try.underlying22 rfl rfl (fun w h => (h.os 3 rfl).cell (by first | omega | (simp only [List.length_set]; omega)) rfl)) rfl ?_ | refine SV.step gno (Step.load Try.underlying22 rfl rfl (fun w h => (h.os 3 rfl).cell0 (by first | omega | (simp only [List.length_set]; omega)) rfl)) rfl ?_)
        refine SV.step gno (Step.move rfl) rfl ?_
        (first | refine SV.step gno (Step.idx Try.underlying22 I35 (fun w h => h.os 1 rfl) rfl rfl (by first | rfl | omega | (simp only [List.length_set]; omega)) _ rfl (by first | omega | (simp only [List.length_set]; omega))) rfl ?_ | refine SV.step gno (Step.idx Try.underlying22 I35 (fun w h => h.os 2 rfl) rfl rfl (by first | rfl | omega | (simp only [List.length_set]; omega)) _ rfl (by first | omega | (simp only [List.length_set]; omega))) rfl ?_ | refine SV.step gno (Step.idx Try.underlying22 I35 (fun w h => h.os 3 rfl) rfl rfl (by first | rfl | omega | (simp only [List.length_set]; omega)) _ rfl (by first | omega | (simp only [List.length_set]; omega))) rfl ?_)
        refine SV.step gno (Step.fieldAddr rfl (F35_1 _ _)) rfl ?_
        (first | refine SV.step gno (Step.load Try.underlying33 rfl rfl (fun w h => h.cell 0 rfl rfl)) rfl ?_ | refine SV.step gno (Step.load Try.underlying33 rfl rfl (fun w h => (h.os 1 rfl).cell (by first | omega | (simp only [List.length_set]; omega)) rfl)) rfl ?_ | refine SV.step gno (Step.load Try.underlying33 rfl rfl (fun w h => (h.os 1 rfl).cell0 (by first | omega | (simp only [List.length_set]; omega)) rfl)) rfl ?_ | refine SV.step gno (Step.load Try.underlying33 rfl rfl (fun w h => (h.os 2 rfl).cell (by first | omega | (simp only [List.length_set]; omega)) rfl)) rfl ?_ | refine SV.step gno (Step.load Try.underlying33 rfl rfl (fun w h => (h.os 2 rfl).cell0 (by first | omega | (simp only [List.length_set]; omega)) rfl)) rfl ?_ | refine SV.step gno (Step.load Try.underlying33 rfl rfl (fun w h => (h.os 3 rfl).cell (by first | omega | (simp only [List.length_set]; omega)) rfl)) rfl ?_ | refine SV.step gno (Step.load Try.underlying33 rfl rfl (fun w h => (h.os 3 rfl).cell0 (by first | omega | (simp only [List.length_set]; omega)) rfl)) rfl ?_)
        refine SV.step gno (Step.add rfl rfl (rfl)) rfl ?_
        (first | refine SV.step gno (Step.idx Try.underlying43 I33 (fun w h => h.os 1 rfl) rfl rfl (by first | rfl | omega | (simp only [List.length_set]; omega)) _ rfl (by first | omega | (simp only [List.length_set]; omega))) rfl ?_ | refine SV.step gno (Step.idx Try.underlying43 I33 (fun w h => h.os 2 rfl) rfl rfl (by first | rfl | omega | (simp only [List.length_set]; omega)) _ rfl (by first | omega | (simp only [List.length_set]; omega))) rfl ?_ | refine SV.step gno (Step.idx Try.underlying43 I33 (fun w h => h.os 3 rfl) rfl rfl (by first | rfl | omega | (simp only [List.length_set]; omega)) _ rfl (by first | omega | (simp only [List.length_set]; omega))) rfl ?_)
        refine SV.nil ?_
        show KV _ (wpList _ _ _ _) _ _
        refine RV.op (OV.storeE 3 (i) (_) (j := 0) [_] I33 rfl rfl rfl rfl rfl rfl (by first | omega | (simp only [List.length_set]; omega)) rfl (Nat.le_of_ble_eq_true rfl) gno ?_)
        refine RV.nil ?_
        refine KV.then_n ?_
        refine KV.env [(0, _), (1, _), (2, _), (9, _)] ⟨rfl, rfl, rfl, rfl, trivial⟩ ?_
        refine CV.seq ?_
        -- region 10 ref.go:61
        refine CV.region ?_
        refine RV.op (OV.step gno (Step.move rfl) rfl ?_)
        refine RV.op (OV.step gno (Step.move rfl) rfl ?_)
        refine RV.op (OV.step gno (Step.move rfl) rfl ?_)
        refine RV.op (OV.step gno (Step.move rfl) rfl ?_)
        refine RV.op (OV.step gno (Step.nilCheck rfl) rfl ?_)
        refine RV.op (OV.step gno (Step.fieldAddr rfl (F59_2 _ _)) rfl ?_)
        (first | refine RV.op (OV.step gno (Step.load Try.underlying43 rfl rfl (fun w h => h.cell 0 rfl rfl)) rfl ?_) | refine RV.op (OV.step gno (Step.load Try.underlying43 rfl rfl (fun w h => (h.os 1 rfl).cell (by first | omega | (simp only [List.length_set]; omega)) rfl)) rfl ?_) | refine RV.op (OV.step gno (Step.load Try.underlying43 rfl rfl (fun w h => (h.os 1 rfl).cell0 (by first | omega | (simp only [List.length_set]; omega)) rfl)) rfl ?_) | refine RV.op (OV.step gno (Step.load Try.underlying43 rfl rfl (fun w h => (h.os 2 rfl).cell (by first | omega | (simp only [List.length_set]; omega)) rfl)) rfl ?_) | refine RV.op (OV.step gno (Step.load Try.underlying43 rfl rfl (fun w h => (h.os 2 rfl).cell0 (by first | omega | (simp only [List.length_set]; omega)) rfl)) rfl ?_) | refine RV.op (OV.step gno (Step.load Try.underlying43 rfl rfl (fun w h => (h.os 3 rfl).cell (by first | omega | (simp only [List.length_set]; omega)) rfl)) rfl ?_) | refine RV.op (OV.step gno (Step.load Try.underlying43 rfl rfl (fun w h => (h.os 3 rfl).cell0 (by first | omega | (simp only [List.length_set]; omega)) rfl)) rfl ?_))
        refine RV.op (OV.step gno (Step.move rfl) rfl ?_)
        (first | refine RV.op (OV.step gno (Step.idx Try.underlying43 I33 (fun w h => h.os 1 rfl) rfl rfl (by first | rfl | omega | (simp only [List.length_set]; omega)) _ rfl (by first | omega | (simp only [List.length_set]; omega))) rfl ?_) | refine RV.op (OV.step gno (Step.idx Try.underlying43 I33 (fun w h => h.os 2 rfl) rfl rfl (by first | rfl | omega | (simp only [List.length_set]; omega)) _ rfl (by first | omega | (simp only [List.length_set]; omega))) rfl ?_) | refine RV.op (OV.step gno (Step.idx Try.underlying43 I33 (fun w h => h.os 3 rfl) rfl rfl (by first | rfl | omega | (simp only [List.length_set]; omega)) _ rfl (by first | omega | (simp only [List.length_set]; omega))) rfl ?_))
        (first | refine RV.op (OV.step gno (Step.load Try.underlying33 rfl rfl (fun w h => h.cell 0 rfl rfl)) rfl ?_) | refine RV.op (OV.step gno (Step.load Try.underlying33 rfl rfl (fun w h => (h.os 1 rfl).cell (by first | omega | (simp only [List.length_set]; omega)) rfl)) rfl ?_) | refine RV.op (OV.step gno (Step.load Try.underlying33 rfl rfl (fun w h => (h.os 1 rfl).cell0 (by first | omega | (simp only [List.length_set]; omega)) rfl)) rfl ?_) | refine RV.op (OV.step gno (Step.load Try.underlying33 rfl rfl (fun w h => (h.os 2 rfl).cell (by first | omega | (simp only [List.length_set]; omega)) rfl)) rfl ?_) | refine RV.op (OV.step gno (Step.load Try.underlying33 rfl rfl (fun w h => (h.os 2 rfl).cell0 (by first | omega | (simp only [List.length_set]; omega)) rfl)) rfl ?_) | refine RV.op (OV.step gno (Step.load Try.underlying33 rfl rfl (fun w h => (h.os 3 rfl).cell (by first | omega | (simp only [List.length_set]; omega)) rfl)) rfl ?_) | refine RV.op (OV.step gno (Step.load Try.underlying33 rfl rfl (fun w h => (h.os 3 rfl).cell0 (by first | omega | (simp only [List.length_set]; omega)) rfl)) rfl ?_))
        rw [getD_set_self _ _ _ _ (by omega)]
        refine RV.op (OV.step gno (Step.build rfl (Bd45_0_1_2_3 _ _ _ _)) rfl ?_)
        refine RV.op (OV.buildSlice (K := opK) ([⟨_, _, _, _⟩]) rfl (Bs38_1_0 _ _ _ _) rfl rfl (by omega) gno rfl (fun b10_11 => ?_))
        refine RV.op (OV.append 4 Try.underlying38 I45 rfl rfl rfl rfl rfl rfl (fun w h => h.os 5 rfl) (by simp only [List.length_append, List.length_cons, List.length_nil]; omega) (by simp only [List.length_append, List.length_cons, List.length_nil]; omega) gno rfl (fun b10_12a b10_12c => ?_))
        refine KV.sel [0, 0, 0, 0, 0] [_, _, _, _, _] rfl ?_
        refine RV.op (OV.step gno (Step.assign rfl) rfl ?_)
        refine RV.nil ?_
        refine KV.then_n ?_
        refine KV.env [(8, _)] ⟨rfl, trivial⟩ ?_
        refine CV.ret ?_
        -- return at r10
        first | rw [addR_sup hst hc hs2 hq] | rw [addR_neg hst hc hs]
        exact KV.ret1 rfl rfl _ (fun _ h => h) ⟨_, _, rfl, rfl⟩

set_option maxRecDepth 100000 in
set_option maxHeartbeats 1000000 in
theorem drop_fn (b : Nat) (a : RA) (rk : Nat → Nat) (now : Int) (f : Nat) : ∀ (i : Nat) (st : St) (ops : List ROp) (A : Option Addr) (c : Nat) (w : World), st.wf → Acy st.rails rk → i < st.rails.length → rk i < f → ops.length + f ≤ 1000000 → Fx Try.prog 47 [.pointer (some ⟨b, 0, none⟩), .slice A ops.length c, .int .i64 i, .int .u64 now] w (robj 59 b a st ++ [OS 45 opK A c ops]) no (fun v L => ∃ A2 c2, v = .slice A2 (remP f st i now ops).2.length c2 ∧ L = robj 59 b a (remP f st i now ops).1 ++ [OS 45 opK A2 c2 (remP f st i now ops).2]) := by
  induction f with
  | zero => intro i st ops A c w _ _ _ hf; omega
  | succ f ih =>
    intro i st ops A c w wf hg hi hf hops
    have wc := wf.count
    have wd := wf.done
    refine Sv.Fx.body Try.func47 rfl T47 rfl ?_
    intro I hro hI
    refine KV.env [(0, _), (1, _), (2, _), (3, _)] ⟨rfl, rfl, rfl, rfl, trivial⟩ ?_
    refine CV.seq ?_
    -- region 0 ref.go:65
    refine CV.region ?_
    refine RV.op (OV.step gno (Step.assign rfl) rfl ?_)
    refine RV.nil ?_
    refine KV.then_n ?_
    refine KV.env [(0, _), (1, _), (2, _), (3, _)] ⟨rfl, rfl, rfl, rfl, trivial⟩ ?_
    refine CV.seq ?_
    -- region 1 ref.go:66
    refine CV.region ?_
    refine RV.op (OV.step gno (Step.move rfl) rfl ?_)
    refine RV.op (OV.step gno (Step.nilCheck rfl) rfl ?_)
    refine RV.op (OV.step gno (Step.fieldAddr rfl (F59_1 _ _)) rfl ?_)
    (first | refine RV.op (OV.step gno (Step.load Try.underlying57 rfl rfl (fun w h => h.cell 0 rfl rfl)) rfl ?_) | refine RV.op (OV.step gno (Step.load Try.underlying57 rfl rfl (fun w h => (h.os 1 rfl).cell (by first | omega | (simp only [List.length_set]; omega)) rfl)) rfl ?_) | refine RV.op (OV.step gno (Step.load Try.underlying57 rfl rfl (fun w h => (h.os 1 rfl).cell0 (by first | omega | (simp only [List.length_set]; omega)) rfl)) rfl ?_) | refine RV.op (OV.step gno (Step.load Try.underlying57 rfl rfl (fun w h => (h.os 2 rfl).cell (by first | omega | (simp only [List.length_set]; omega)) rfl)) rfl ?_) | refine RV.op (OV.step gno (Step.load Try.underlying57 rfl rfl (fun w h => (h.os 2 rfl).cell0 (by first | omega | (simp only [List.length_set]; omega)) rfl)) rfl ?_) | refine RV.op (OV.step gno (Step.load Try.underlying57 rfl rfl (fun w h => (h.os 3 rfl).cell (by first | omega | (simp only [List.length_set]; omega)) rfl)) rfl ?_) | refine RV.op (OV.step gno (Step.load Try.underlying57 rfl rfl (fun w h => (h.os 3 rfl).cell0 (by first | omega | (simp only [List.length_set]; omega)) rfl)) rfl ?_))
    refine RV.op (OV.step gno (Step.move rfl) rfl ?_)
    (first | refine RV.op (OV.step gno (Step.idx Try.underlying57 I3 (fun w h => h.os 1 rfl) rfl rfl (by first | rfl | omega | (simp only [List.length_set]; omega)) _ rfl (by first | omega | (simp only [List.length_set]; omega))) rfl ?_) | refine RV.op (OV.step gno (Step.idx Try.underlying57 I3 (fun w h => h.os 2 rfl) rfl rfl (by first | rfl | omega | (simp only [List.length_set]; omega)) _ rfl (by first | omega | (simp only [List.length_set]; omega))) rfl ?_) | refine RV.op (OV.step gno (Step.idx Try.underlying57 I3 (fun w h => h.os 3 rfl) rfl rfl (by first | rfl | omega | (simp only [List.length_set]; omega)) _ rfl (by first | omega | (simp only [List.length_set]; omega))) rfl ?_))
    (first | refine RV.op (OV.step gno (Step.load Try.underlying3 rfl rfl (fun w h => h.cell 0 rfl rfl)) rfl ?_) | refine RV.op (OV.step gno (Step.load Try.underlying3 rfl rfl (fun w h => (h.os 1 rfl).cell (by first | omega | (simp only [List.length_set]; omega)) rfl)) rfl ?_) | refine RV.op (OV.step gno (Step.load Try.underlying3 rfl rfl (fun w h => (h.os 1 rfl).cell0 (by first | omega | (simp only [List.length_set]; omega)) rfl)) rfl ?_) | refine RV.op (OV.step gno (Step.load Try.underlying3 rfl rfl (fun w h => (h.os 2 rfl).cell (by first | omega | (simp only [List.length_set]; omega)) rfl)) rfl ?_) | refine RV.op (OV.step gno (Step.load Try.underlying3 rfl rfl (fun w h => (h.os 2 rfl).cell0 (by first | omega | (simp only [List.length_set]; omega)) rfl)) rfl ?_) | refine RV.op (OV.step gno (Step.load Try.underlying3 rfl rfl (fun w h => (h.os 3 rfl).cell (by first | omega | (simp only [List.length_set]; omega)) rfl)) rfl ?_) | refine RV.op (OV.step gno (Step.load Try.underlying3 rfl rfl (fun w h => (h.os 3 rfl).cell0 (by first | omega | (simp only [List.length_set]; omega)) rfl)) rfl ?_))
    refine RV.op (OV.step gno (Step.sub rfl rfl (rfl)) rfl ?_)
    (first | refine RV.op (OV.step gno (Step.idx Try.underlying57 I3 (fun w h => h.os 1 rfl) rfl rfl (by first | rfl | omega | (simp only [List.length_set]; omega)) _ rfl (by first | omega | (simp only [List.length_set]; omega))) rfl ?_) | refine RV.op (OV.step gno (Step.idx Try.underlying57 I3 (fun w h => h.os 2 rfl) rfl rfl (by first | rfl | omega | (simp only [List.length_set]; omega)) _ rfl (by first | omega | (simp only [List.length_set]; omega))) rfl ?_) | refine RV.op (OV.step gno (Step.idx Try.underlying57 I3 (fun w h => h.os 3 rfl) rfl rfl (by first | rfl | omega | (simp only [List.length_set]; omega)) _ rfl (by first | omega | (simp only [List.length_set]; omega))) rfl ?_))
    refine RV.op (OV.storeE 2 (i) (_) (j := 0) [_] I3 rfl rfl rfl rfl rfl rfl (by first | omega | (simp only [List.length_set]; omega)) rfl (Nat.le_of_ble_eq_true rfl) gno ?_)
    obtain ⟨st1, hst⟩ : ∃ s, st.setC i (IntKind.i64.wrap (st.c i - 1)) = s := ⟨_, rfl⟩
    have wf1 : st1.wf := hst ▸ setC_wf wf i _
    have kr : st1.rails = st.rails := by rw [← hst]; rfl
    have krl : st1.rails.length = st.rails.length := by rw [kr]
    have wc1 := wf1.count
    have wd1 := wf1.done
    refine KV.heap (S' := Hp I w (robj 59 b a st1 ++ [OS 45 opK A c ops])) (fun w2 h => by rw [← hst]; exact h) ?_
    refine KV.have (fun w2 h => (h.osCap 1 rfl)) (fun hcap => ?_)
    have hcap2 : st1.rails.length ≤ 9223372036854775807 := by have := hcap.2; unfold maxLen at this; omega
    refine RV.nil ?_
    refine KV.then_n ?_
    refine KV.env [(0, _), (1, _), (2, _), (3, _)] ⟨rfl, rfl, rfl, rfl, trivial⟩ ?_
    refine CV.seq ?_
    refine CV.seq ?_
    -- region 2 ref.go:67
    refine CV.region ?_
    refine RV.op (OV.step gno (Step.move rfl) rfl ?_)
    refine RV.op (OV.step gno (Step.nilCheck rfl) rfl ?_)
    refine RV.op (OV.step gno (Step.fieldAddr rfl (F59_1 _ _)) rfl ?_)
    (first | refine RV.op (OV.step gno (Step.load Try.underlying57 rfl rfl (fun w h => h.cell 0 rfl rfl)) rfl ?_) | refine RV.op (OV.step gno (Step.load Try.underlying57 rfl rfl (fun w h => (h.os 1 rfl).cell (by first | omega | (simp only [List.length_set]; omega)) rfl)) rfl ?_) | refine RV.op (OV.step gno (Step.load Try.underlying57 rfl rfl (fun w h => (h.os 1 rfl).cell0 (by first | omega | (simp only [List.length_set]; omega)) rfl)) rfl ?_) | refine RV.op (OV.step gno (Step.load Try.underlying57 rfl rfl (fun w h => (h.os 2 rfl).cell (by first | omega | (simp only [List.length_set]; omega)) rfl)) rfl ?_) | refine RV.op (OV.step gno (Step.load Try.underlying57 rfl rfl (fun w h => (h.os 2 rfl).cell0 (by first | omega | (simp only [List.length_set]; omega)) rfl)) rfl ?_) | refine RV.op (OV.step gno (Step.load Try.underlying57 rfl rfl (fun w h => (h.os 3 rfl).cell (by first | omega | (simp only [List.length_set]; omega)) rfl)) rfl ?_) | refine RV.op (OV.step gno (Step.load Try.underlying57 rfl rfl (fun w h => (h.os 3 rfl).cell0 (by first | omega | (simp only [List.length_set]; omega)) rfl)) rfl ?_))
    refine RV.op (OV.step gno (Step.move rfl) rfl ?_)
    (first | refine RV.op (OV.step gno (Step.idx Try.underlying57 I3 (fun w h => h.os 1 rfl) rfl rfl (by first | rfl | omega | (simp only [List.length_set]; omega)) _ rfl (by first | omega | (simp only [List.length_set]; omega))) rfl ?_) | refine RV.op (OV.step gno (Step.idx Try.underlying57 I3 (fun w h => h.os 2 rfl) rfl rfl (by first | rfl | omega | (simp only [List.length_set]; omega)) _ rfl (by first | omega | (simp only [List.length_set]; omega))) rfl ?_) | refine RV.op (OV.step gno (Step.idx Try.underlying57 I3 (fun w h => h.os 3 rfl) rfl rfl (by first | rfl | omega | (simp only [List.length_set]; omega)) _ rfl (by first | omega | (simp only [List.length_set]; omega))) rfl ?_))
    (first | refine RV.op (OV.step gno (Step.load Try.underlying3 rfl rfl (fun w h => h.cell 0 rfl rfl)) rfl ?_) | refine RV.op (OV.step gno (Step.load Try.underlying3 rfl rfl (fun w h => (h.os 1 rfl).cell (by first | omega | (simp only [List.length_set]; omega)) rfl)) rfl ?_) | refine RV.op (OV.step gno (Step.load Try.underlying3 rfl rfl (fun w h => (h.os 1 rfl).cell0 (by first | omega | (simp only [List.length_set]; omega)) rfl)) rfl ?_) | refine RV.op (OV.step gno (Step.load Try.underlying3 rfl rfl (fun w h => (h.os 2 rfl).cell (by first | omega | (simp only [List.length_set]; omega)) rfl)) rfl ?_) | refine RV.op (OV.step gno (Step.load Try.underlying3 rfl rfl (fun w h => (h.os 2 rfl).cell0 (by first | omega | (simp only [List.length_set]; omega)) rfl)) rfl ?_) | refine RV.op (OV.step gno (Step.load Try.underlying3 rfl rfl (fun w h => (h.os 3 rfl).cell (by first | omega | (simp only [List.length_set]; omega)) rfl)) rfl ?_) | refine RV.op (OV.step gno (Step.load Try.underlying3 rfl rfl (fun w h => (h.os 3 rfl).cell0 (by first | omega | (simp only [List.length_set]; omega)) rfl)) rfl ?_))
    refine RV.op (OV.split gno (Step.gtr rfl rfl) rfl (fun hc => ?_) (fun hc => ?_))
    · -- True
      refine RV.nil ?_
      refine KV.then_n ?_
      refine KV.env [(0, _), (1, _), (2, _), (3, _), (28, _)] ⟨rfl, rfl, rfl, rfl, rfl, trivial⟩ ?_
      refine CV.cond_t rfl ?_
      refine CV.seq ?_
      -- region 3 ref.go:68
      refine CV.region ?_
      refine RV.op (OV.step gno (Step.move rfl) rfl ?_)
      refine RV.op (OV.step gno (Step.assign rfl) rfl ?_)
      refine RV.nil ?_
      refine KV.then_n ?_
      refine KV.env [(8, _)] ⟨rfl, trivial⟩ ?_
      refine CV.ret ?_
      refine KV.then_ret ?_
      -- return at r3
      rw [remP_pos (by rw [hst]; exact hc)]
      exact KV.ret1 rfl rfl _ (fun _ h => by rw [hst]; exact h) ⟨_, _, rfl, rfl⟩
    · -- False
      refine RV.nil ?_
      refine KV.then_n ?_
      refine KV.env [(0, _), (1, _), (2, _), (3, _), (28, _)] ⟨rfl, rfl, rfl, rfl, rfl, trivial⟩ ?_
      refine CV.cond_f rfl ?_
      refine CV.skip ?_
      refine KV.then_n ?_
      refine KV.env [(0, _), (1, _), (2, _), (3, _)] ⟨rfl, rfl, rfl, rfl, trivial⟩ ?_
      refine CV.seq ?_
      -- region 4 ref.go:70
      refine CV.region ?_
      refine RV.op (OV.step gno (Step.move rfl) rfl ?_)
      refine RV.op (OV.step gno (Step.move rfl) rfl ?_)
      refine RV.op (OV.step gno (Step.nilCheck rfl) rfl ?_)
      refine RV.op (OV.step gno (Step.fieldAddr rfl (F59_2 _ _)) rfl ?_)
      (first | refine RV.op (OV.step gno (Step.load Try.underlying43 rfl rfl (fun w h => h.cell 0 rfl rfl)) rfl ?_) | refine RV.op (OV.step gno (Step.load Try.underlying43 rfl rfl (fun w h => (h.os 1 rfl).cell (by first | omega | (simp only [List.length_set]; omega)) rfl)) rfl ?_) | refine RV.op (OV.step gno (Step.load Try.underlying43 rfl rfl (fun w h => (h.os 1 rfl).cell0 (by first | omega | (simp only [List.length_set]; omega)) rfl)) rfl ?_) | refine RV.op (OV.step gno (Step.load Try.underlying43 rfl rfl (fun w h => (h.os 2 rfl).cell (by first | omega | (simp only [List.length_set]; omega)) rfl)) rfl ?_) | refine RV.op (OV.step gno (Step.load Try.underlying43 rfl rfl (fun w h => (h.os 2 rfl).cell0 (by first | omega | (simp only [List.length_set]; omega)) rfl)) rfl ?_) | refine RV.op (OV.step gno (Step.load Try.underlying43 rfl rfl (fun w h => (h.os 3 rfl).cell (by first | omega | (simp only [List.length_set]; omega)) rfl)) rfl ?_) | refine RV.op (OV.step gno (Step.load Try.underlying43 rfl rfl (fun w h => (h.os 3 rfl).cell0 (by first | omega | (simp only [List.length_set]; omega)) rfl)) rfl ?_))
      refine RV.op (OV.step gno (Step.move rfl) rfl ?_)
      (first | refine RV.op (OV.step gno (Step.idx Try.underlying43 I33 (fun w h => h.os 1 rfl) rfl rfl (by first | rfl | omega | (simp only [List.length_set]; omega)) _ rfl (by first | omega | (simp only [List.length_set]; omega))) rfl ?_) | refine RV.op (OV.step gno (Step.idx Try.underlying43 I33 (fun w h => h.os 2 rfl) rfl rfl (by first | rfl | omega | (simp only [List.length_set]; omega)) _ rfl (by first | omega | (simp only [List.length_set]; omega))) rfl ?_) | refine RV.op (OV.step gno (Step.idx Try.underlying43 I33 (fun w h => h.os 3 rfl) rfl rfl (by first | rfl | omega | (simp only [List.length_set]; omega)) _ rfl (by first | omega | (simp only [List.length_set]; omega))) rfl ?_))
      (first | refine RV.op (OV.step gno (Step.load Try.underlying33 rfl rfl (fun w h => h.cell 0 rfl rfl)) rfl ?_) | refine RV.op (OV.step gno (Step.load Try.underlying33 rfl rfl (fun w h => (h.os 1 rfl).cell (by first | omega | (simp only [List.length_set]; omega)) rfl)) rfl ?_) | refine RV.op (OV.step gno (Step.load Try.underlying33 rfl rfl (fun w h => (h.os 1 rfl).cell0 (by first | omega | (simp only [List.length_set]; omega)) rfl)) rfl ?_) | refine RV.op (OV.step gno (Step.load Try.underlying33 rfl rfl (fun w h => (h.os 2 rfl).cell (by first | omega | (simp only [List.length_set]; omega)) rfl)) rfl ?_) | refine RV.op (OV.step gno (Step.load Try.underlying33 rfl rfl (fun w h => (h.os 2 rfl).cell0 (by first | omega | (simp only [List.length_set]; omega)) rfl)) rfl ?_) | refine RV.op (OV.step gno (Step.load Try.underlying33 rfl rfl (fun w h => (h.os 3 rfl).cell (by first | omega | (simp only [List.length_set]; omega)) rfl)) rfl ?_) | refine RV.op (OV.step gno (Step.load Try.underlying33 rfl rfl (fun w h => (h.os 3 rfl).cell0 (by first | omega | (simp only [List.length_set]; omega)) rfl)) rfl ?_))
      refine RV.op (OV.call [] Try.func51 B51 N51 rfl rfl (fun w h => (later_fn _ _).fn w) (fun _ hb => hb.elim) gno rfl (fun v L' hp => ?_))
      obtain ⟨rfl, rfl⟩ := hp
      simp only [List.append_nil]
      refine RV.op (OV.step gno (Step.assign rfl) rfl ?_)
      refine RV.nil ?_
      refine KV.then_n ?_
      refine KV.env [(0, _), (1, _), (2, _), (3, _), (9, _)] ⟨rfl, rfl, rfl, rfl, rfl, trivial⟩ ?_
      refine CV.seq ?_
      refine CV.seq ?_
      -- region 5 ref.go:71
      refine CV.region ?_
      refine RV.op (OV.step gno (Step.assign rfl) rfl ?_)
      refine RV.nil ?_
      refine KV.then_n ?_
      refine KV.env [(0, _), (1, _), (2, _), (3, _), (9, _), (10, _)] ⟨rfl, rfl, rfl, rfl, rfl, rfl, trivial⟩ ?_
      refine CV.block ?_
      -- loop L6; live [0, 1, 2, 3, 9, 10]
      refine CV.loopI (α := Nat) (fun k => k ≤ st1.rails.length) (fun z => st1.rails.length - z) (fun z => [(0, .pointer (some ⟨b, 0, none⟩)), (1, .slice A ops.length c), (2, .int .i64 i), (3, .int .u64 now), (9, .int .u64 (feedM st1 i z (max now (st1.t i)))), (10, .int .i64 z)]) (fun z => Hp I w (robj 59 b a st1 ++ [OS 45 opK A c ops])) 0 (Nat.zero_le _) ⟨rfl, rfl, rfl, rfl, rfl, rfl, trivial⟩ (fun _ h => h) ?_
      intro k hk
      refine CV.seq ?_
      refine CV.seq ?_
      -- region 6 ref.go:71
      refine CV.region ?_
      refine RV.op (OV.step gno (Step.move rfl) rfl ?_)
      refine RV.op (OV.step gno (Step.move rfl) rfl ?_)
      refine RV.op (OV.step gno (Step.nilCheck rfl) rfl ?_)
      refine RV.op (OV.step gno (Step.fieldAddr rfl (F59_0 _ _)) rfl ?_)
      (first | refine RV.op (OV.step gno (Step.load Try.underlying22 rfl rfl (fun w h => h.cell 0 rfl rfl)) rfl ?_) | refine RV.op (OV.step gno (Step.load Try.underlying22 rfl rfl (fun w h => (h.os 1 rfl).cell (by first | omega | (simp only [List.length_set]; omega)) rfl)) rfl ?_) | refine RV.op (OV.step gno (Step.load Try.underlying22 rfl rfl (fun w h => (h.os 1 rfl).cell0 (by first | omega | (simp only [List.length_set]; omega)) rfl)) rfl ?_) | refine RV.op (OV.step gno (Step.load Try.underlying22 rfl rfl (fun w h => (h.os 2 rfl).cell (by first | omega | (simp only [List.length_set]; omega)) rfl)) rfl ?_) | refine RV.op (OV.step gno (Step.load Try.underlying22 rfl rfl (fun w h => (h.os 2 rfl).cell0 (by first | omega | (simp only [List.length_set]; omega)) rfl)) rfl ?_) | refine RV.op (OV.step gno (Step.load Try.underlying22 rfl rfl (fun w h => (h.os 3 rfl).cell (by first | omega | (simp only [List.length_set]; omega)) rfl)) rfl ?_) | refine RV.op (OV.step gno (Step.load Try.underlying22 rfl rfl (fun w h => (h.os 3 rfl).cell0 (by first | omega | (simp only [List.length_set]; omega)) rfl)) rfl ?_))
      refine RV.op (OV.step gno (Step.lenSl Try.underlying22 rfl) rfl ?_)
      refine RV.op (OV.split gno (Step.lss rfl rfl) rfl (fun hl => ?_) (fun hl => ?_))
      · -- True
        refine RV.nil ?_
        refine KV.then_n ?_
        refine KV.env [(0, _), (1, _), (2, _), (3, _), (9, _), (10, _), (45, _)] ⟨rfl, rfl, rfl, rfl, rfl, rfl, rfl, trivial⟩ ?_
        refine CV.cond_t rfl ?_
        refine CV.skip ?_
        refine KV.then_n ?_
        refine KV.env [(0, _), (1, _), (2, _), (3, _), (9, _), (10, _)] ⟨rfl, rfl, rfl, rfl, rfl, rfl, trivial⟩ ?_
        refine CV.seq ?_
        refine CV.block ?_
        refine CV.seq ?_
        -- region 8 ref.go:72
        refine CV.region ?_
        refine RV.op (OV.step gno (Step.move rfl) rfl ?_)
        refine RV.op (OV.step gno (Step.nilCheck rfl) rfl ?_)
        refine RV.op (OV.step gno (Step.fieldAddr rfl (F59_0 _ _)) rfl ?_)
        (first | refine RV.op (OV.step gno (Step.load Try.underlying22 rfl rfl (fun w h => h.cell 0 rfl rfl)) rfl ?_) | refine RV.op (OV.step gno (Step.load Try.underlying22 rfl rfl (fun w h => (h.os 1 rfl).cell (by first | omega | (simp only [List.length_set]; omega)) rfl)) rfl ?_) | refine RV.op (OV.step gno (Step.load Try.underlying22 rfl rfl (fun w h => (h.os 1 rfl).cell0 (by first | omega | (simp only [List.length_set]; omega)) rfl)) rfl ?_) | refine RV.op (OV.step gno (Step.load Try.underlying22 rfl rfl (fun w h => (h.os 2 rfl).cell (by first | omega | (simp only [List.length_set]; omega)) rfl)) rfl ?_) | refine RV.op (OV.step gno (Step.load Try.underlying22 rfl rfl (fun w h => (h.os 2 rfl).cell0 (by first | omega | (simp only [List.length_set]; omega)) rfl)) rfl ?_) | refine RV.op (OV.step gno (Step.load Try.underlying22 rfl rfl (fun w h => (h.os 3 rfl).cell (by first | omega | (simp only [List.length_set]; omega)) rfl)) rfl ?_) | refine RV.op (OV.step gno (Step.load Try.underlying22 rfl rfl (fun w h => (h.os 3 rfl).cell0 (by first | omega | (simp only [List.length_set]; omega)) rfl)) rfl ?_))
        refine RV.op (OV.step gno (Step.move rfl) rfl ?_)
        (first | refine RV.op (OV.step gno (Step.idx Try.underlying22 I35 (fun w h => h.os 1 rfl) rfl rfl (by first | rfl | omega | (simp only [List.length_set]; omega)) _ rfl (by first | omega | (simp only [List.length_set]; omega))) rfl ?_) | refine RV.op (OV.step gno (Step.idx Try.underlying22 I35 (fun w h => h.os 2 rfl) rfl rfl (by first | rfl | omega | (simp only [List.length_set]; omega)) _ rfl (by first | omega | (simp only [List.length_set]; omega))) rfl ?_) | refine RV.op (OV.step gno (Step.idx Try.underlying22 I35 (fun w h => h.os 3 rfl) rfl rfl (by first | rfl | omega | (simp only [List.length_set]; omega)) _ rfl (by first | omega | (simp only [List.length_set]; omega))) rfl ?_))
        refine RV.op (OV.step gno (Step.fieldAddr rfl (F35_0 _ _)) rfl ?_)
        (first | refine RV.op (OV.step gno (Step.load Try.underlying3 rfl rfl (fun w h => h.cell 0 rfl rfl)) rfl ?_) | refine RV.op (OV.step gno (Step.load Try.underlying3 rfl rfl (fun w h => (h.os 1 rfl).cell (by first | omega | (simp only [List.length_set]; omega)) rfl)) rfl ?_) | refine RV.op (OV.step gno (Step.load Try.underlying3 rfl rfl (fun w h => (h.os 1 rfl).cell0 (by first | omega | (simp only [List.length_set]; omega)) rfl)) rfl ?_) | refine RV.op (OV.step gno (Step.load Try.underlying3 rfl rfl (fun w h => (h.os 2 rfl).cell (by first | omega | (simp only [List.length_set]; omega)) rfl)) rfl ?_) | refine RV.op (OV.step gno (Step.load Try.underlying3 rfl rfl (fun w h => (h.os 2 rfl).cell0 (by first | omega | (simp only [List.length_set]; omega)) rfl)) rfl ?_) | refine RV.op (OV.step gno (Step.load Try.underlying3 rfl rfl (fun w h => (h.os 3 rfl).cell (by first | omega | (simp only [List.length_set]; omega)) rfl)) rfl ?_) | refine RV.op (OV.step gno (Step.load Try.underlying3 rfl rfl (fun w h => (h.os 3 rfl).cell0 (by first | omega | (simp only [List.length_set]; omega)) rfl)) rfl ?_))
        refine RV.op (OV.step gno (Step.move rfl) rfl ?_)
        refine RV.op (OV.split gno (Step.eql rfl rfl) rfl (fun hq => ?_) (fun hq => ?_))
        · -- True
          refine RV.nil ?_
          refine KV.then_n ?_
          refine KV.env [(0, _), (1, _), (2, _), (3, _), (9, _), (10, _), (57, _)] ⟨rfl, rfl, rfl, rfl, rfl, rfl, rfl, trivial⟩ ?_
          refine CV.cond_t rfl ?_
          -- region 9 ref.go:73
          refine CV.region ?_
          refine RV.op (OV.step gno (Step.move rfl) rfl ?_)
          refine RV.op (OV.step gno (Step.move rfl) rfl ?_)
          refine RV.op (OV.step gno (Step.nilCheck rfl) rfl ?_)
          refine RV.op (OV.step gno (Step.fieldAddr rfl (F59_2 _ _)) rfl ?_)
          (first | refine RV.op (OV.step gno (Step.load Try.underlying43 rfl rfl (fun w h => h.cell 0 rfl rfl)) rfl ?_) | refine RV.op (OV.step gno (Step.load Try.underlying43 rfl rfl (fun w h => (h.os 1 rfl).cell (by first | omega | (simp only [List.length_set]; omega)) rfl)) rfl ?_) | refine RV.op (OV.step gno (Step.load Try.underlying43 rfl rfl (fun w h => (h.os 1 rfl).cell0 (by first | omega | (simp only [List.length_set]; omega)) rfl)) rfl ?_) | refine RV.op (OV.step gno (Step.load Try.underlying43 rfl rfl (fun w h => (h.os 2 rfl).cell (by first | omega | (simp only [List.length_set]; omega)) rfl)) rfl ?_) | refine RV.op (OV.step gno (Step.load Try.underlying43 rfl rfl (fun w h => (h.os 2 rfl).cell0 (by first | omega | (simp only [List.length_set]; omega)) rfl)) rfl ?_) | refine RV.op (OV.step gno (Step.load Try.underlying43 rfl rfl (fun w h => (h.os 3 rfl).cell (by first | omega | (simp only [List.length_set]; omega)) rfl)) rfl ?_) | refine RV.op (OV.step gno (Step.load Try.underlying43 rfl rfl (fun w h => (h.os 3 rfl).cell0 (by first | omega | (simp only [List.length_set]; omega)) rfl)) rfl ?_))
          refine RV.op (OV.step gno (Step.move rfl) rfl ?_)
          (first | refine RV.op (OV.step gno (Step.idx Try.underlying43 I33 (fun w h => h.os 1 rfl) rfl rfl (by first | rfl | omega | (simp only [List.length_set]; omega)) _ rfl (by first | omega | (simp only [List.length_set]; omega))) rfl ?_) | refine RV.op (OV.step gno (Step.idx Try.underlying43 I33 (fun w h => h.os 2 rfl) rfl rfl (by first | rfl | omega | (simp only [List.length_set]; omega)) _ rfl (by first | omega | (simp only [List.length_set]; omega))) rfl ?_) | refine RV.op (OV.step gno (Step.idx Try.underlying43 I33 (fun w h => h.os 3 rfl) rfl rfl (by first | rfl | omega | (simp only [List.length_set]; omega)) _ rfl (by first | omega | (simp only [List.length_set]; omega))) rfl ?_))
          (first | refine RV.op (OV.step gno (Step.load Try.underlying33 rfl rfl (fun w h => h.cell 0 rfl rfl)) rfl ?_) | refine RV.op (OV.step gno (Step.load Try.underlying33 rfl rfl (fun w h => (h.os 1 rfl).cell (by first | omega | (simp only [List.length_set]; omega)) rfl)) rfl ?_) | refine RV.op (OV.step gno (Step.load Try.underlying33 rfl rfl (fun w h => (h.os 1 rfl).cell0 (by first | omega | (simp only [List.length_set]; omega)) rfl)) rfl ?_) | refine RV.op (OV.step gno (Step.load Try.underlying33 rfl rfl (fun w h => (h.os 2 rfl).cell (by first | omega | (simp only [List.length_set]; omega)) rfl)) rfl ?_) | refine RV.op (OV.step gno (Step.load Try.underlying33 rfl rfl (fun w h => (h.os 2 rfl).cell0 (by first | omega | (simp only [List.length_set]; omega)) rfl)) rfl ?_) | refine RV.op (OV.step gno (Step.load Try.underlying33 rfl rfl (fun w h => (h.os 3 rfl).cell (by first | omega | (simp only [List.length_set]; omega)) rfl)) rfl ?_) | refine RV.op (OV.step gno (Step.load Try.underlying33 rfl rfl (fun w h => (h.os 3 rfl).cell0 (by first | omega | (simp only [List.length_set]; omega)) rfl)) rfl ?_))
          refine RV.op (OV.call [] Try.func51 B51 N51 rfl rfl (fun w h => (later_fn _ _).fn w) (fun _ hb => hb.elim) gno rfl (fun v L' hp => ?_))
          obtain ⟨rfl, rfl⟩ := hp
          simp only [List.append_nil]
          refine RV.op (OV.step gno (Step.assign rfl) rfl ?_)
          refine RV.nil ?_
          refine KV.block_n ?_
          refine KV.then_n ?_
          refine KV.env [(0, _), (1, _), (2, _), (3, _), (9, _), (10, _)] ⟨rfl, rfl, rfl, rfl, rfl, rfl, trivial⟩ ?_
          -- region 7 ref.go:71
          refine CV.region ?_
          refine RV.op (OV.step gno (Step.move rfl) rfl ?_)
          (first | refine RV.op (OV.step gno (Step.add rfl rfl (wI64 (by omega) (by omega))) rfl ?_) | refine RV.op (OV.step gno (Step.add rfl rfl rfl) rfl ?_))
          refine RV.op (OV.step gno (Step.assign rfl) rfl ?_)
          refine RV.nil ?_
          refine KV.then_n ?_
          refine KV.env [(0, _), (1, _), (2, _), (3, _), (9, _), (10, _)] ⟨rfl, rfl, rfl, rfl, rfl, rfl, trivial⟩ ?_
          refine KV.loopI (k + 1) (by omega) (by omega) ⟨rfl, rfl, rfl, rfl, by first | (rw [feedM_pos (st := st1) hq]; rfl) | (rw [feedM_neg (st := st1) hq]; rfl), rfl, trivial⟩ (fun _ h => h)
        · -- False
          refine RV.nil ?_
          refine KV.then_n ?_
          refine KV.env [(0, _), (1, _), (2, _), (3, _), (9, _), (10, _), (57, _)] ⟨rfl, rfl, rfl, rfl, rfl, rfl, rfl, trivial⟩ ?_
          refine CV.cond_f rfl ?_
          refine CV.skip ?_
          refine KV.block_n ?_
          refine KV.then_n ?_
          refine KV.env [(0, _), (1, _), (2, _), (3, _), (9, _), (10, _)] ⟨rfl, rfl, rfl, rfl, rfl, rfl, trivial⟩ ?_
          -- region 7 ref.go:71
          refine CV.region ?_
          refine RV.op (OV.step gno (Step.move rfl) rfl ?_)
          (first | refine RV.op (OV.step gno (Step.add rfl rfl (wI64 (by omega) (by omega))) rfl ?_) | refine RV.op (OV.step gno (Step.add rfl rfl rfl) rfl ?_))
          refine RV.op (OV.step gno (Step.assign rfl) rfl ?_)
          refine RV.nil ?_
          refine KV.then_n ?_
          refine KV.env [(0, _), (1, _), (2, _), (3, _), (9, _), (10, _)] ⟨rfl, rfl, rfl, rfl, rfl, rfl, trivial⟩ ?_
          refine KV.loopI (k + 1) (by omega) (by omega) ⟨rfl, rfl, rfl, rfl, by first | (rw [feedM_pos (st := st1) hq]; rfl) | (rw [feedM_neg (st := st1) hq]; rfl), rfl, trivial⟩ (fun _ h => h)
      · -- False
        obtain rfl : k = st1.rails.length := by omega
        refine RV.nil ?_
        refine KV.then_n ?_
        refine KV.env [(0, _), (1, _), (2, _), (3, _), (9, _), (10, _), (45, _)] ⟨rfl, rfl, rfl, rfl, rfl, rfl, rfl, trivial⟩ ?_
        refine CV.cond_f rfl ?_
        refine CV.exit ?_
        refine KV.then_exit ?_
        refine KV.then_exit ?_
        refine KV.block_hit ?_
        refine KV.then_n ?_
        refine KV.env [(0, _), (1, _), (2, _), (3, _), (9, _)] ⟨rfl, rfl, rfl, rfl, rfl, trivial⟩ ?_
        refine CV.seq ?_
        -- region 10 ref.go:76
        generalize hm : feedM st1 i st1.rails.length (max now (st1.t i)) = m
        refine CV.stillTail 16 (by kernel_rfl) (by kernel_rfl) (fun _ h => h.drew) ?_
        refine SV.step gno (Step.move rfl) rfl ?_
        refine SV.step gno (Step.nilCheck rfl) rfl ?_
        refine SV.step gno (Step.fieldAddr rfl (F59_2 _ _)) rfl ?_
        (first | refine SV.step gno (Step.load Try.underlying43 rfl rfl (fun w h => h.cell 0 rfl rfl)) rfl ?_ | refine SV.step gno (Step.load Try.underlying43 rfl rfl (fun w h => (h.os 1 rfl).cell (by first | omega | (simp only [List.length_set]; omega)) rfl)) rfl ?_ | refine SV.step gno (Step.load Try.underlying43 rfl rfl (fun w h => (h.os 1 rfl).cell0 (by first | omega | (simp only [List.length_set]; omega)) rfl)) rfl ?_ | refine SV.step gno (Step.load Try.underlying43 rfl rfl (fun w h => (h.os 2 rfl).cell (by first | omega | (simp only [List.length_set]; omega)) rfl)) rfl ?_ | refine SV.step gno (Step.load Try.underlying43 rfl rfl (fun w h => (h.os 2 rfl).cell0 (by first | omega | (simp only [List.length_set]; omega)) rfl)) rfl ?_ | refine SV.step gno (Step.load Try.underlying43 rfl rfl (fun w h => (h.os 3 rfl).cell (by first | omega | (simp only [List.length_set]; omega)) rfl)) rfl ?_ | refine SV.step gno (Step.load Try.underlying43 rfl rfl (fun w h => (h.os 3 rfl).cell0 (by first | omega | (simp only [List.length_set]; omega)) rfl)) rfl ?_)
        refine SV.step gno (Step.move rfl) rfl ?_
        refine SV.step gno (Step.move rfl) rfl ?_
        refine SV.step gno (Step.move rfl) rfl ?_
        refine SV.step gno (Step.nilCheck rfl) rfl ?_
        refine SV.step gno (Step.fieldAddr rfl (F59_0 _ _)) rfl ?_
        (first | refine SV.step gno (Step.load Try.underlying22 rfl rfl (fun w h => h.cell 0 rfl rfl)) rfl ?_ | refine SV.step gno (Step.load Try.underlying22 rfl rfl (fun w h => (h.os 1 rfl).cell (by first | omega | (simp only [List.length_set]; omega)) rfl)) rfl ?_ | refine SV.step gno (Step.load Try.underlying22 rfl rfl (fun w h => (h.os 1 rfl).cell0 (by first | omega | (simp only [List.length_set]; omega)) rfl)) rfl ?_ | refine SV.step gno (Step.load Try.underlying22 rfl rfl (fun w h => (h.os 2 rfl).cell (by first | omega | (simp only [List.length_set]; omega)) rfl)) rfl ?_ | refine SV.step gno (Step.load Try.underlying22 rfl rfl (fun w h => (h.os 2 rfl).cell0 (by first | omega | (simp only [List.length_set]; omega)) rfl)) rfl ?_ | refine SV.step gno (Step.load Try.underlying22 rfl rfl (fun w h => (h.os 3 rfl).cell (by first | omega | (simp only [List.length_set]; omega)) rfl)) rfl ?_ | refine SV.step gno (Step.load Try.underlying22 rfl rfl (fun w h => (h.os 3 rfl).cell0 (by first | omega | (simp only [List.length_set]; omega)) rfl)) rfl ?_)
        refine SV.step gno (Step.move rfl) rfl ?_
        (first | refine SV.step gno (Step.idx Try.underlying22 I35 (fun w h => h.os 1 rfl) rfl rfl (by first | rfl | omega | (simp only [List.length_set]; omega)) _ rfl (by first | omega | (simp only [List.length_set]; omega))) rfl ?_ | refine SV.step gno (Step.idx Try.underlying22 I35 (fun w h => h.os 2 rfl) rfl rfl (by first | rfl | omega | (simp only [List.length_set]; omega)) _ rfl (by first | omega | (simp only [List.length_set]; omega))) rfl ?_ | refine SV.step gno (Step.idx Try.underlying22 I35 (fun w h => h.os 3 rfl) rfl rfl (by first | rfl | omega | (simp only [List.length_set]; omega)) _ rfl (by first | omega | (simp only [List.length_set]; omega))) rfl ?_)
        refine SV.step gno (Step.fieldAddr rfl (F35_2 _ _)) rfl ?_
        (first | refine SV.step gno (Step.load Try.underlying33 rfl rfl (fun w h => h.cell 0 rfl rfl)) rfl ?_ | refine SV.step gno (Step.load Try.underlying33 rfl rfl (fun w h => (h.os 1 rfl).cell (by first | omega | (simp only [List.length_set]; omega)) rfl)) rfl ?_ | refine SV.step gno (Step.load Try.underlying33 rfl rfl (fun w h => (h.os 1 rfl).cell0 (by first | omega | (simp only [List.length_set]; omega)) rfl)) rfl ?_ | refine SV.step gno (Step.load Try.underlying33 rfl rfl (fun w h => (h.os 2 rfl).cell (by first | omega | (simp only [List.length_set]; omega)) rfl)) rfl ?_ | refine SV.step gno (Step.load Try.underlying33 rfl rfl (fun w h => (h.os 2 rfl).cell0 (by first | omega | (simp only [List.length_set]; omega)) rfl)) rfl ?_ | refine SV.step gno (Step.load Try.underlying33 rfl rfl (fun w h => (h.os 3 rfl).cell (by first | omega | (simp only [List.length_set]; omega)) rfl)) rfl ?_ | refine SV.step gno (Step.load Try.underlying33 rfl rfl (fun w h => (h.os 3 rfl).cell0 (by first | omega | (simp only [List.length_set]; omega)) rfl)) rfl ?_)
        refine SV.step gno (Step.add rfl rfl (rfl)) rfl ?_
        (first | refine SV.step gno (Step.idx Try.underlying43 I33 (fun w h => h.os 1 rfl) rfl rfl (by first | rfl | omega | (simp only [List.length_set]; omega)) _ rfl (by first | omega | (simp only [List.length_set]; omega))) rfl ?_ | refine SV.step gno (Step.idx Try.underlying43 I33 (fun w h => h.os 2 rfl) rfl rfl (by first | rfl | omega | (simp only [List.length_set]; omega)) _ rfl (by first | omega | (simp only [List.length_set]; omega))) rfl ?_ | refine SV.step gno (Step.idx Try.underlying43 I33 (fun w h => h.os 3 rfl) rfl rfl (by first | rfl | omega | (simp only [List.length_set]; omega)) _ rfl (by first | omega | (simp only [List.length_set]; omega))) rfl ?_)
        refine SV.nil ?_
        show KV _ (wpList _ _ _ _) _ _
        refine RV.op (OV.storeE 3 (i) (_) (j := 0) [_] I33 rfl rfl rfl rfl rfl rfl (by first | omega | (simp only [List.length_set]; omega)) rfl (Nat.le_of_ble_eq_true rfl) gno ?_)
        refine RV.nil ?_
        refine KV.then_n ?_
        refine KV.env [(0, _), (1, _), (2, _), (3, _), (9, _)] ⟨rfl, rfl, rfl, rfl, rfl, trivial⟩ ?_
        refine CV.seq ?_
        -- region 11 ref.go:77
        refine CV.region ?_
        refine RV.op (OV.step gno (Step.move rfl) rfl ?_)
        refine RV.op (OV.step gno (Step.move rfl) rfl ?_)
        refine RV.op (OV.step gno (Step.move rfl) rfl ?_)
        refine RV.op (OV.step gno (Step.move rfl) rfl ?_)
        refine RV.op (OV.step gno (Step.nilCheck rfl) rfl ?_)
        refine RV.op (OV.step gno (Step.fieldAddr rfl (F59_2 _ _)) rfl ?_)
        (first | refine RV.op (OV.step gno (Step.load Try.underlying43 rfl rfl (fun w h => h.cell 0 rfl rfl)) rfl ?_) | refine RV.op (OV.step gno (Step.load Try.underlying43 rfl rfl (fun w h => (h.os 1 rfl).cell (by first | omega | (simp only [List.length_set]; omega)) rfl)) rfl ?_) | refine RV.op (OV.step gno (Step.load Try.underlying43 rfl rfl (fun w h => (h.os 1 rfl).cell0 (by first | omega | (simp only [List.length_set]; omega)) rfl)) rfl ?_) | refine RV.op (OV.step gno (Step.load Try.underlying43 rfl rfl (fun w h => (h.os 2 rfl).cell (by first | omega | (simp only [List.length_set]; omega)) rfl)) rfl ?_) | refine RV.op (OV.step gno (Step.load Try.underlying43 rfl rfl (fun w h => (h.os 2 rfl).cell0 (by first | omega | (simp only [List.length_set]; omega)) rfl)) rfl ?_) | refine RV.op (OV.step gno (Step.load Try.underlying43 rfl rfl (fun w h => (h.os 3 rfl).cell (by first | omega | (simp only [List.length_set]; omega)) rfl)) rfl ?_) | refine RV.op (OV.step gno (Step.load Try.underlying43 rfl rfl (fun w h => (h.os 3 rfl).cell0 (by first | omega | (simp only [List.length_set]; omega)) rfl)) rfl ?_))
        refine RV.op (OV.step gno (Step.move rfl) rfl ?_)
        (first | refine RV.op (OV.step gno (Step.idx Try.underlying43 I33 (fun w h => h.os 1 rfl) rfl rfl (by first | rfl | omega | (simp only [List.length_set]; omega)) _ rfl (by first | omega | (simp only [List.length_set]; omega))) rfl ?_) | refine RV.op (OV.step gno (Step.idx Try.underlying43 I33 (fun w h => h.os 2 rfl) rfl rfl (by first | rfl | omega | (simp only [List.length_set]; omega)) _ rfl (by first | omega | (simp only [List.length_set]; omega))) rfl ?_) | refine RV.op (OV.step gno (Step.idx Try.underlying43 I33 (fun w h => h.os 3 rfl) rfl rfl (by first | rfl | omega | (simp only [List.length_set]; omega)) _ rfl (by first | omega | (simp only [List.length_set]; omega))) rfl ?_))
        (first | refine RV.op (OV.step gno (Step.load Try.underlying33 rfl rfl (fun w h => h.cell 0 rfl rfl)) rfl ?_) | refine RV.op (OV.step gno (Step.load Try.underlying33 rfl rfl (fun w h => (h.os 1 rfl).cell (by first | omega | (simp only [List.length_set]; omega)) rfl)) rfl ?_) | refine RV.op (OV.step gno (Step.load Try.underlying33 rfl rfl (fun w h => (h.os 1 rfl).cell0 (by first | omega | (simp only [List.length_set]; omega)) rfl)) rfl ?_) | refine RV.op (OV.step gno (Step.load Try.underlying33 rfl rfl (fun w h => (h.os 2 rfl).cell (by first | omega | (simp only [List.length_set]; omega)) rfl)) rfl ?_) | refine RV.op (OV.step gno (Step.load Try.underlying33 rfl rfl (fun w h => (h.os 2 rfl).cell0 (by first | omega | (simp only [List.length_set]; omega)) rfl)) rfl ?_) | refine RV.op (OV.step gno (Step.load Try.underlying33 rfl rfl (fun w h => (h.os 3 rfl).cell (by first | omega | (simp only [List.length_set]; omega)) rfl)) rfl ?_) | refine RV.op (OV.step gno (Step.load Try.underlying33 rfl rfl (fun w h => (h.os 3 rfl).cell0 (by first | omega | (simp only [List.length_set]; omega)) rfl)) rfl ?_))
        rw [getD_set_self _ _ _ _ (by omega)]
        refine RV.op (OV.step gno (Step.build rfl (Bd45_0_2_3 _ _ _)) rfl ?_)
        refine RV.op (OV.buildSlice (K := opK) ([⟨_, _, _, _⟩]) rfl (Bs38_1_0 _ _ _ _) rfl rfl (by omega) gno rfl (fun b11_11 => ?_))
        refine RV.op (OV.append 4 Try.underlying38 I45 rfl rfl rfl rfl rfl rfl (fun w h => h.os 5 rfl) (by simp only [List.length_append, List.length_cons, List.length_nil]; omega) (by simp only [List.length_append, List.length_cons, List.length_nil]; omega) gno rfl (fun b11_12a b11_12c => ?_))
        refine KV.sel [0, 0, 0, 0, 0] [_, _, _, _, _] rfl ?_
        refine RV.op (OV.step gno (Step.assign rfl) rfl ?_)
        refine RV.nil ?_
        refine KV.then_n ?_
        refine KV.env [(0, _), (1, _), (2, _), (3, _)] ⟨rfl, rfl, rfl, rfl, trivial⟩ ?_
        refine CV.seq ?_
        refine CV.seq ?_
        -- region 12 ref.go:78
        refine CV.region ?_
        refine RV.op (OV.step gno (Step.move rfl) rfl ?_)
        refine RV.op (OV.step gno (Step.nilCheck rfl) rfl ?_)
        refine RV.op (OV.step gno (Step.fieldAddr rfl (F59_0 _ _)) rfl ?_)
        (first | refine RV.op (OV.step gno (Step.load Try.underlying22 rfl rfl (fun w h => h.cell 0 rfl rfl)) rfl ?_) | refine RV.op (OV.step gno (Step.load Try.underlying22 rfl rfl (fun w h => (h.os 1 rfl).cell (by first | omega | (simp only [List.length_set]; omega)) rfl)) rfl ?_) | refine RV.op (OV.step gno (Step.load Try.underlying22 rfl rfl (fun w h => (h.os 1 rfl).cell0 (by first | omega | (simp only [List.length_set]; omega)) rfl)) rfl ?_) | refine RV.op (OV.step gno (Step.load Try.underlying22 rfl rfl (fun w h => (h.os 2 rfl).cell (by first | omega | (simp only [List.length_set]; omega)) rfl)) rfl ?_) | refine RV.op (OV.step gno (Step.load Try.underlying22 rfl rfl (fun w h => (h.os 2 rfl).cell0 (by first | omega | (simp only [List.length_set]; omega)) rfl)) rfl ?_) | refine RV.op (OV.step gno (Step.load Try.underlying22 rfl rfl (fun w h => (h.os 3 rfl).cell (by first | omega | (simp only [List.length_set]; omega)) rfl)) rfl ?_) | refine RV.op (OV.step gno (Step.load Try.underlying22 rfl rfl (fun w h => (h.os 3 rfl).cell0 (by first | omega | (simp only [List.length_set]; omega)) rfl)) rfl ?_))
        refine RV.op (OV.step gno (Step.move rfl) rfl ?_)
        (first | refine RV.op (OV.step gno (Step.idx Try.underlying22 I35 (fun w h => h.os 1 rfl) rfl rfl (by first | rfl | omega | (simp only [List.length_set]; omega)) _ rfl (by first | omega | (simp only [List.length_set]; omega))) rfl ?_) | refine RV.op (OV.step gno (Step.idx Try.underlying22 I35 (fun w h => h.os 2 rfl) rfl rfl (by first | rfl | omega | (simp only [List.length_set]; omega)) _ rfl (by first | omega | (simp only [List.length_set]; omega))) rfl ?_) | refine RV.op (OV.step gno (Step.idx Try.underlying22 I35 (fun w h => h.os 3 rfl) rfl rfl (by first | rfl | omega | (simp only [List.length_set]; omega)) _ rfl (by first | omega | (simp only [List.length_set]; omega))) rfl ?_))
        refine RV.op (OV.step gno (Step.fieldAddr rfl (F35_0 _ _)) rfl ?_)
        (first | refine RV.op (OV.step gno (Step.load Try.underlying3 rfl rfl (fun w h => h.cell 0 rfl rfl)) rfl ?_) | refine RV.op (OV.step gno (Step.load Try.underlying3 rfl rfl (fun w h => (h.os 1 rfl).cell (by first | omega | (simp only [List.length_set]; omega)) rfl)) rfl ?_) | refine RV.op (OV.step gno (Step.load Try.underlying3 rfl rfl (fun w h => (h.os 1 rfl).cell0 (by first | omega | (simp only [List.length_set]; omega)) rfl)) rfl ?_) | refine RV.op (OV.step gno (Step.load Try.underlying3 rfl rfl (fun w h => (h.os 2 rfl).cell (by first | omega | (simp only [List.length_set]; omega)) rfl)) rfl ?_) | refine RV.op (OV.step gno (Step.load Try.underlying3 rfl rfl (fun w h => (h.os 2 rfl).cell0 (by first | omega | (simp only [List.length_set]; omega)) rfl)) rfl ?_) | refine RV.op (OV.step gno (Step.load Try.underlying3 rfl rfl (fun w h => (h.os 3 rfl).cell (by first | omega | (simp only [List.length_set]; omega)) rfl)) rfl ?_) | refine RV.op (OV.step gno (Step.load Try.underlying3 rfl rfl (fun w h => (h.os 3 rfl).cell0 (by first | omega | (simp only [List.length_set]; omega)) rfl)) rfl ?_))
        refine RV.op (OV.step gno (Step.assign rfl) rfl ?_)
        refine RV.nil ?_
        refine KV.then_n ?_
        refine KV.env [(0, _), (1, _), (3, _), (11, _)] ⟨rfl, rfl, rfl, rfl, trivial⟩ ?_
        refine CV.seq ?_
        -- region 13 ref.go:78
        refine CV.region ?_
        refine RV.op (OV.step gno (Step.move rfl) rfl ?_)
        refine RV.op (OV.split gno (Step.geq rfl rfl) rfl (fun hs => ?_) (fun hs => ?_))
        · -- True
          refine RV.nil ?_
          refine KV.then_n ?_
          refine KV.env [(0, _), (1, _), (3, _), (11, _), (105, _)] ⟨rfl, rfl, rfl, rfl, rfl, trivial⟩ ?_
          refine CV.cond_t rfl ?_
          -- region 14 ref.go:79
          obtain ⟨s, hs2⟩ := Int.eq_ofNat_of_zero_le hs
          rw [hs2]
          have hg2 := hg i hi s (by rw [← kr]; exact hs2)
          refine CV.region ?_
          refine RV.op (OV.step gno (Step.move rfl) rfl ?_)
          refine RV.op (OV.step gno (Step.move rfl) rfl ?_)
          refine RV.op (OV.step gno (Step.move rfl) rfl ?_)
          refine RV.op (OV.step gno (Step.move rfl) rfl ?_)
          refine RV.op (OV.call [0, 0, 0, 0, 0] (F := []) Try.func47 B47 N47 rfl rfl (fun w h => ih s (st1.setD i (IntKind.u64.wrap (m + (st1.r i).down))) _ _ _ w (setD_wf wf1 i _) (by show Acy st1.rails rk; rw [kr]; exact hg) (by show s < st1.rails.length; omega) (by omega) (by simp only [List.length_append, List.length_cons, List.length_nil]; omega)) (fun _ hb => hb.elim) gno rfl (fun v L' hp => ?_))
          obtain ⟨A2, c2, rfl, rfl⟩ := hp
          refine RV.op (OV.step gno (Step.assign rfl) rfl ?_)
          refine RV.nil ?_
          refine KV.then_n ?_
          refine KV.env [(1, _)] ⟨rfl, trivial⟩ ?_
          refine CV.seq ?_
          -- region 15 ref.go:81
          refine CV.region ?_
          refine RV.op (OV.step gno (Step.move rfl) rfl ?_)
          refine RV.op (OV.step gno (Step.assign rfl) rfl ?_)
          refine RV.nil ?_
          refine KV.then_n ?_
          refine KV.env [(8, _)] ⟨rfl, trivial⟩ ?_
          refine CV.ret ?_
          -- return at r15
          first | rw [remP_sup hst hc hs2 hm] | rw [remP_neg hst hc hs hm]
          exact KV.ret1 rfl rfl _ (fun _ h => h) ⟨_, _, rfl, rfl⟩
        · -- False
          refine RV.nil ?_
          refine KV.then_n ?_
          refine KV.env [(0, _), (1, _), (3, _), (11, _), (105, _)] ⟨rfl, rfl, rfl, rfl, rfl, trivial⟩ ?_
          refine CV.cond_f rfl ?_
          refine CV.skip ?_
          refine KV.then_n ?_
          refine KV.env [(1, _)] ⟨rfl, trivial⟩ ?_
          refine CV.seq ?_
          -- region 15 ref.go:81
          refine CV.region ?_
          refine RV.op (OV.step gno (Step.move rfl) rfl ?_)
          refine RV.op (OV.step gno (Step.assign rfl) rfl ?_)
          refine RV.nil ?_
          refine KV.then_n ?_
          refine KV.env [(8, _)] ⟨rfl, trivial⟩ ?_
          refine CV.ret ?_
          -- return at r15
          first | rw [remP_sup hst hc hs2 hm] | rw [remP_neg hst hc hs hm]
          exact KV.ret1 rfl rfl _ (fun _ h => h) ⟨_, _, rfl, rfl⟩

set_option maxRecDepth 100000 in
set_option maxHeartbeats 1000000 in
theorem acquireR_fn (b : Nat) (a : RA) (st : St) (x now : Int) (w : World) (f : Nat) (rk : Nat → Nat) (wf : st.wf) (hg : Acy st.rails rk) (hf : ∀ i, i < st.rails.length → rk i < f) (hf2 : f ≤ 1000000) : Fx Try.prog 37 [.pointer (some ⟨b, 0, none⟩), .int .i64 x, .int .u64 now] w (robj 59 b a st) no (fun v L => ∃ A c, v = .tuple #[.slice A (acqR f st x now).ops.length c, .int .i64 (acqR f st x now).err] ∧ L = robj 59 b a (acqR f st x now).st ++ [OS 45 opK A c (acqR f st x now).ops]) := by
  refine Sv.Fx.body Try.func37 rfl T37 rfl ?_
  intro I hro hI
  refine KV.env [(0, _), (1, _), (2, _)] ⟨rfl, rfl, rfl, trivial⟩ ?_
  refine CV.seq ?_
  -- region 0 ref.go:96
  refine CV.region ?_
  refine RV.op (OV.step gno (Step.assign rfl) rfl ?_)
  refine RV.op (OV.step gno (Step.assign rfl) rfl ?_)
  refine RV.nil ?_
  refine KV.then_n ?_
  refine KV.env [(0, _), (1, _), (2, _)] ⟨rfl, rfl, rfl, trivial⟩ ?_
  refine CV.seq ?_
  refine CV.seq ?_
  -- region 1 ref.go:97
  refine CV.region ?_
  refine RV.op (OV.step gno (Step.move rfl) rfl ?_)
  refine RV.op (OV.step gno (Step.move rfl) rfl ?_)
  refine RV.op (OV.step gno (Step.move rfl) rfl ?_)
  refine RV.op (OV.call [0, 0, 0, 0] (F := []) Try.func45 B45 N45 rfl rfl (fun w h => bad_fn b a st x now w) (fun _ hb => hb.elim) gno rfl (fun v L' hp => ?_))
  obtain ⟨rfl, rfl⟩ := hp
  by_cases hx : ¬ ((0 ≤ x ∧ x < st.rails.length) ∧ st.clock ≤ now ∧ now ≤ 1152921504606846976)
  · rw [decide_eq_true hx]
    refine RV.nil ?_
    refine KV.then_n ?_
    refine KV.env [(0, _), (1, _), (2, _), (11, _)] ⟨rfl, rfl, rfl, rfl, trivial⟩ ?_
    refine CV.cond_t rfl ?_
    refine CV.seq ?_
    -- region 2 ref.go:98
    refine CV.region ?_
    refine RV.op (OV.step gno (Step.assign rfl) rfl ?_)
    refine RV.op (OV.step gno (Step.assign rfl) rfl ?_)
    refine RV.nil ?_
    refine KV.then_n ?_
    refine KV.env [(6, _), (7, _)] ⟨rfl, rfl, trivial⟩ ?_
    refine CV.ret ?_
    refine KV.then_ret ?_
    -- return at r2
    rw [acqR_no (st := st) hx]
    exact KV.ret2 rfl rfl rfl _ (fun _ h => h.nilOS) ⟨none, 0, rfl, rfl⟩
  · rw [decide_eq_false hx]
    replace hx := Decidable.not_not.1 hx
    obtain ⟨k, rfl⟩ := Int.eq_ofNat_of_zero_le hx.1.1
    have hk : k < st.rails.length := by omega
    refine RV.nil ?_
    refine KV.then_n ?_
    refine KV.env [(0, _), (1, _), (2, _), (11, _)] ⟨rfl, rfl, rfl, rfl, trivial⟩ ?_
    refine CV.cond_f rfl ?_
    refine CV.skip ?_
    refine KV.then_n ?_
    refine KV.env [(0, _), (1, _), (2, _)] ⟨rfl, rfl, rfl, trivial⟩ ?_
    refine CV.seq ?_
    -- region 3 ref.go:100
    refine CV.region ?_
    refine RV.op (OV.step gno (Step.move rfl) rfl ?_)
    refine RV.op (OV.step gno (Step.move rfl) rfl ?_)
    refine RV.op (OV.step gno (Step.nilCheck rfl) rfl ?_)
    refine RV.op (OV.step gno (Step.fieldAddr rfl (F59_3 _ _)) rfl ?_)
    refine RV.op (OV.store 0 [_] #[_, _, _, _] I33 rfl rfl rfl rfl rfl (Nat.le_of_ble_eq_true rfl) (by simp [Value.oneCell']) rfl gno ?_)
    refine RV.nil ?_
    refine KV.then_n ?_
    refine KV.env [(0, _), (1, _), (2, _)] ⟨rfl, rfl, rfl, trivial⟩ ?_
    refine CV.seq ?_
    -- region 4 ref.go:101
    refine KV.heap (fun w2 h => h.nilOS (e := 45) (K := opK)) ?_
    refine CV.region ?_
    refine RV.op (OV.step gno (Step.move rfl) rfl ?_)
    refine RV.op (OV.step gno (Step.move rfl) rfl ?_)
    refine RV.op (OV.step gno (Step.move rfl) rfl ?_)
    refine RV.op (OV.call [0, 0, 0, 0, 0] (F := []) Try.func48 B48 N48 rfl rfl (fun w h => addR_fn b a rk now f k (st.tick now) [] none 0 w ⟨wf.count, wf.done⟩ hg hk (hf k hk) (by simp; omega)) (fun _ hb => hb.elim) gno rfl (fun v L' hp => ?_))
    obtain ⟨A2, c2, rfl, rfl⟩ := hp
    refine RV.op (OV.step gno (Step.assign rfl) rfl ?_)
    refine RV.op (OV.step gno (Step.assign rfl) rfl ?_)
    refine RV.nil ?_
    refine KV.then_n ?_
    refine KV.env [(6, _), (7, _)] ⟨rfl, rfl, trivial⟩ ?_
    refine CV.ret ?_
    -- return at r4
    rw [acqR_yes (st := st) hx]
    exact KV.ret2 rfl rfl rfl _ (fun _ h => h) ⟨_, _, rfl, rfl⟩

set_option maxRecDepth 100000 in
set_option maxHeartbeats 1000000 in
theorem releaseR_fn (b : Nat) (a : RA) (st : St) (x now : Int) (w : World) (f : Nat) (rk : Nat → Nat) (wf : st.wf) (hg : Acy st.rails rk) (hf : ∀ i, i < st.rails.length → rk i < f) (hf2 : f ≤ 1000000) : Fx Try.prog 36 [.pointer (some ⟨b, 0, none⟩), .int .i64 x, .int .u64 now] w (robj 59 b a st) no (fun v L => ∃ A c, v = .tuple #[.slice A (relR f st x now).ops.length c, .int .i64 (relR f st x now).err] ∧ L = robj 59 b a (relR f st x now).st ++ [OS 45 opK A c (relR f st x now).ops]) := by
  refine Sv.Fx.body Try.func36 rfl T36 rfl ?_
  intro I hro hI
  refine KV.env [(0, _), (1, _), (2, _)] ⟨rfl, rfl, rfl, trivial⟩ ?_
  refine CV.seq ?_
  -- region 0 ref.go:103
  refine CV.region ?_
  refine RV.op (OV.step gno (Step.assign rfl) rfl ?_)
  refine RV.op (OV.step gno (Step.assign rfl) rfl ?_)
  refine RV.nil ?_
  refine KV.then_n ?_
  refine KV.env [(0, _), (1, _), (2, _)] ⟨rfl, rfl, rfl, trivial⟩ ?_
  refine CV.seq ?_
  refine CV.seq ?_
  -- region 1 ref.go:104
  refine CV.region ?_
  refine RV.op (OV.step gno (Step.move rfl) rfl ?_)
  refine RV.op (OV.step gno (Step.move rfl) rfl ?_)
  refine RV.op (OV.step gno (Step.move rfl) rfl ?_)
  refine RV.op (OV.call [0, 0, 0, 0] (F := []) Try.func45 B45 N45 rfl rfl (fun w h => bad_fn b a st x now w) (fun _ hb => hb.elim) gno rfl (fun v L' hp => ?_))
  obtain ⟨rfl, rfl⟩ := hp
  by_cases hx : ¬ ((0 ≤ x ∧ x < st.rails.length) ∧ st.clock ≤ now ∧ now ≤ 1152921504606846976)
  · rw [decide_eq_true hx]
    refine RV.nil ?_
    refine KV.then_n ?_
    refine KV.env [(0, _), (1, _), (2, _), (11, _)] ⟨rfl, rfl, rfl, rfl, trivial⟩ ?_
    refine CV.cond_t rfl ?_
    refine CV.seq ?_
    -- region 2 ref.go:105
    refine CV.region ?_
    refine RV.op (OV.step gno (Step.assign rfl) rfl ?_)
    refine RV.op (OV.step gno (Step.assign rfl) rfl ?_)
    refine RV.nil ?_
    refine KV.then_n ?_
    refine KV.env [(6, _), (7, _)] ⟨rfl, rfl, trivial⟩ ?_
    refine CV.ret ?_
    refine KV.then_ret ?_
    -- return at r2
    rw [relR_no (st := st) hx]
    exact KV.ret2 rfl rfl rfl _ (fun _ h => h.nilOS) ⟨none, 0, rfl, rfl⟩
  · rw [decide_eq_false hx]
    replace hx := Decidable.not_not.1 hx
    obtain ⟨k, rfl⟩ := Int.eq_ofNat_of_zero_le hx.1.1
    have hk : k < st.rails.length := by omega
    refine RV.nil ?_
    refine KV.then_n ?_
    refine KV.env [(0, _), (1, _), (2, _), (11, _)] ⟨rfl, rfl, rfl, rfl, trivial⟩ ?_
    refine CV.cond_f rfl ?_
    refine CV.skip ?_
    refine KV.then_n ?_
    refine KV.env [(0, _), (1, _), (2, _)] ⟨rfl, rfl, rfl, trivial⟩ ?_
    refine CV.seq ?_
    refine CV.seq ?_
    -- region 3 ref.go:107
    refine CV.region ?_
    refine RV.op (OV.step gno (Step.move rfl) rfl ?_)
    refine RV.op (OV.step gno (Step.move rfl) rfl ?_)
    refine RV.op (OV.call [0, 0, 0, 0] (F := []) Try.func46 B46 N46 rfl rfl (fun w h => own_fn b a st k w wf hk) (fun _ hb => hb.elim) gno rfl (fun v L' hp => ?_))
    obtain ⟨rfl, rfl⟩ := hp
    refine RV.op (OV.split gno (Step.eql rfl rfl) rfl (fun hh => ?_) (fun hh => ?_))
    · -- True
      refine RV.nil ?_
      refine KV.then_n ?_
      refine KV.env [(0, _), (1, _), (2, _), (15, _)] ⟨rfl, rfl, rfl, rfl, trivial⟩ ?_
      refine CV.cond_t rfl ?_
      refine CV.seq ?_
      -- region 4 ref.go:108
      refine CV.region ?_
      refine RV.op (OV.step gno (Step.assign rfl) rfl ?_)
      refine RV.op (OV.step gno (Step.assign rfl) rfl ?_)
      refine RV.nil ?_
      refine KV.then_n ?_
      refine KV.env [(6, _), (7, _)] ⟨rfl, rfl, trivial⟩ ?_
      refine CV.ret ?_
      refine KV.then_ret ?_
      -- return at r4
      rw [relR_own (st := st) hx hh]
      exact KV.ret2 rfl rfl rfl _ (fun _ h => h.nilOS) ⟨none, 0, rfl, rfl⟩
    · -- False
      refine RV.nil ?_
      refine KV.then_n ?_
      refine KV.env [(0, _), (1, _), (2, _), (15, _)] ⟨rfl, rfl, rfl, rfl, trivial⟩ ?_
      refine CV.cond_f rfl ?_
      refine CV.skip ?_
      refine KV.then_n ?_
      refine KV.env [(0, _), (1, _), (2, _)] ⟨rfl, rfl, rfl, trivial⟩ ?_
      refine CV.seq ?_
      -- region 5 ref.go:110
      refine CV.region ?_
      refine RV.op (OV.step gno (Step.move rfl) rfl ?_)
      refine RV.op (OV.step gno (Step.move rfl) rfl ?_)
      refine RV.op (OV.step gno (Step.nilCheck rfl) rfl ?_)
      refine RV.op (OV.step gno (Step.fieldAddr rfl (F59_3 _ _)) rfl ?_)
      refine RV.op (OV.store 0 [_] #[_, _, _, _] I33 rfl rfl rfl rfl rfl (Nat.le_of_ble_eq_true rfl) (by simp [Value.oneCell']) rfl gno ?_)
      refine RV.nil ?_
      refine KV.then_n ?_
      refine KV.env [(0, _), (1, _), (2, _)] ⟨rfl, rfl, rfl, trivial⟩ ?_
      refine CV.seq ?_
      -- region 6 ref.go:111
      refine KV.heap (fun w2 h => h.nilOS (e := 45) (K := opK)) ?_
      refine CV.region ?_
      refine RV.op (OV.step gno (Step.move rfl) rfl ?_)
      refine RV.op (OV.step gno (Step.move rfl) rfl ?_)
      refine RV.op (OV.step gno (Step.move rfl) rfl ?_)
      refine RV.op (OV.call [0, 0, 0, 0, 0] (F := []) Try.func47 B47 N47 rfl rfl (fun w h => drop_fn b a rk now f k (st.tick now) [] none 0 w ⟨wf.count, wf.done⟩ hg hk (hf k hk) (by simp; omega)) (fun _ hb => hb.elim) gno rfl (fun v L' hp => ?_))
      obtain ⟨A2, c2, rfl, rfl⟩ := hp
      refine RV.op (OV.step gno (Step.assign rfl) rfl ?_)
      refine RV.op (OV.step gno (Step.assign rfl) rfl ?_)
      refine RV.nil ?_
      refine KV.then_n ?_
      refine KV.env [(6, _), (7, _)] ⟨rfl, rfl, trivial⟩ ?_
      refine CV.ret ?_
      -- return at r6
      rw [relR_yes (st := st) hx hh]
      exact KV.ret2 rfl rfl rfl _ (fun _ h => h) ⟨_, _, rfl, rfl⟩
end Go.Proofs.Ytcmalbkflbfidaa
