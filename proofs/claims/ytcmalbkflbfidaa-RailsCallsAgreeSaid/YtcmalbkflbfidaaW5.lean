/-
  Walks, part 5.
-/
import Derived.Test.YtcmalbkflbfidaaTab5
import Derived.Test.YtcmalbkflbfidaaW4
import Derived.Test.YtcmalbkflbfidaaW2
set_option linter.unusedSimpArgs false
set_option linter.unusedVariables false
namespace Go.Proofs.Ytcmalbkflbfidaa
open Go.Sv Go.Rails
set_option maxRecDepth 100000 in
set_option maxHeartbeats 1000000 in
theorem new_fn {A : Option Addr} {n c : Nat} {ys : List Rail} {w : World} (hr : RS w railK A ys) (hn : n = ys.length) : Fx Try.prog 13 [.slice A n c] w [] no (fun v L => (newE ys = 0 → ∃ b a, v = .tuple #[.pointer (some ⟨b, 0, none⟩), .int .i64 0] ∧ L = robj 73 b a (new0 ys)) ∧ (newE ys ≠ 0 → v = .tuple #[.pointer none, .int .i64 (newE ys)] ∧ L = [])) := by
  subst hn
  refine Sv.Fx.body Try.func13 rfl T13 rfl ?_
  intro I hro hI
  refine KV.env [(0, _)] ⟨rfl, trivial⟩ ?_
  refine CV.seq ?_
  -- region 0 rails.go:20
  refine CV.region ?_
  refine RV.op (OV.step gno (Step.assign rfl) rfl ?_)
  refine RV.op (OV.step gno (Step.assign rfl) rfl ?_)
  refine RV.nil ?_
  refine KV.then_n ?_
  refine KV.env [(0, _)] ⟨rfl, trivial⟩ ?_
  refine CV.seq ?_
  refine CV.seq ?_
  -- region 1 rails.go:21
  refine CV.region ?_
  refine RV.op (OV.step gno (Step.move rfl) rfl ?_)
  refine RV.op (OV.step gno (Step.lenSl Try.underlying22 rfl) rfl ?_)
  refine RV.op (OV.split gno (Step.gtr rfl rfl) rfl (fun hlong => ?_) (fun hlong => ?_))
  · -- True
    refine RV.nil ?_
    refine KV.then_n ?_
    refine KV.env [(0, _), (10, _)] ⟨rfl, rfl, trivial⟩ ?_
    refine CV.cond_t rfl ?_
    refine CV.seq ?_
    -- region 2 rails.go:22
    refine CV.region ?_
    refine RV.op (OV.step gno (Step.assign rfl) rfl ?_)
    refine RV.op (OV.step gno (Step.assign rfl) rfl ?_)
    refine RV.nil ?_
    refine KV.then_n ?_
    refine KV.env [(2, _), (3, _)] ⟨rfl, rfl, trivial⟩ ?_
    refine CV.ret ?_
    refine KV.then_ret ?_
    -- return at r2
    refine KV.sel [] [] rfl ?_
    have hE : newE ys = 1 := newE_long hlong
    exact KV.ret2 rfl rfl rfl _ (fun _ h => h) ⟨fun h0 => absurd h0 (by rw [hE]; decide), fun _ => ⟨by rw [hE], rfl⟩⟩
  · -- False
    refine RV.nil ?_
    refine KV.then_n ?_
    refine KV.env [(0, _), (10, _)] ⟨rfl, rfl, trivial⟩ ?_
    refine CV.cond_f rfl ?_
    refine CV.skip ?_
    refine KV.then_n ?_
    refine KV.env [(0, _)] ⟨rfl, trivial⟩ ?_
    refine CV.seq ?_
    -- region 3 rails.go:24
    refine CV.region ?_
    refine RV.op (OV.step gno (Step.assign rfl) rfl ?_)
    refine RV.nil ?_
    refine KV.then_n ?_
    refine KV.env [(0, _), (4, _)] ⟨rfl, rfl, trivial⟩ ?_
    refine CV.seq ?_
    refine CV.seq ?_
    -- region 4 rails.go:25
    refine KV.heap (fun w h => h.nilOS (e := 70) (K := linkK)) ?_
    refine CV.region ?_
    refine RV.op (OV.step gno (Step.move rfl) rfl ?_)
    refine RV.op (OV.step gno (Step.lenSl Try.underlying22 rfl) rfl ?_)
    refine RV.op (OV.step gno (Step.move rfl) rfl ?_)
    refine RV.nil ?_
    refine KV.then_n ?_
    refine KV.env [(0, _), (4, _), (11, _), (12, _), (13, _)] ⟨rfl, rfl, rfl, rfl, rfl, trivial⟩ ?_
    refine CV.block ?_
    -- loop L5; live [0, 4, 11, 12, 13]
    refine KV.sel [0] [_] rfl ?_
    refine CV.loop3 (fun j (_ : Option Addr) (_ : Nat) => j ≤ ys.length ∧ ∀ i, i < j → ¬ badR ys.length (ys.getD i railK.d)) (fun j _ _ => ys.length - j) (fun j A1 c1 => [(0, .slice A ys.length c), (4, .slice A1 (lkM ys j).length c1), (11, .slice A ys.length c), (12, .int .i64 ys.length), (13, .int .i64 j)]) (fun j A1 c1 => Hp I w [OS 70 linkK A1 c1 (lkM ys j)]) 0 none 0 ⟨Nat.zero_le _, fun _ h => by omega⟩ ⟨rfl, rfl, rfl, rfl, rfl, trivial⟩ (fun _ h => h) ?_
    intro j A1 c1 hj
    have hll := lkM_length ys j
    refine CV.seq ?_
    -- region 5 rails.go:25
    refine CV.region ?_
    refine RV.op (OV.split gno (Step.lss rfl rfl) rfl (fun hlt2 => ?_) (fun hlt2 => ?_))
    · -- True
      refine RV.nil ?_
      refine KV.then_n ?_
      refine KV.env [(0, _), (4, _), (11, _), (12, _), (13, _), (14, _)] ⟨rfl, rfl, rfl, rfl, rfl, rfl, trivial⟩ ?_
      refine CV.seq ?_
      refine CV.cond_t rfl ?_
      refine CV.skip ?_
      refine KV.then_n ?_
      refine KV.env [(0, _), (4, _), (11, _), (12, _), (13, _)] ⟨rfl, rfl, rfl, rfl, rfl, trivial⟩ ?_
      refine CV.seq ?_
      refine CV.block ?_
      refine CV.seq ?_
      -- region 6 rails.go:25
      refine CV.region ?_
      refine RV.op (OV.step gno (Step.move rfl) rfl ?_)
      refine RV.op (OV.step gno (Step.idx Try.underlying22 I35 (fun w h => h.rs hr (fun _ => hI _)) rfl rfl (rfl) _ rfl (by omega)) rfl ?_)
      refine RV.op (OV.step gno (Step.loadN _ Try.underlying35 rfl I35 rfl rfl (fun w h => (h.rs hr (fun _ => hI _)).cells (by omega))) rfl ?_)
      refine RV.op (OV.alloc #[.int .i64 0, .int .u64 0, .int .u64 0] I35 rfl gno rfl (fun b6_3 => ?_))
      refine RV.op (OV.step gno (Step.assign rfl) rfl ?_)
      refine RV.op (OV.store 1 [_, _, _] #[_, _, _] I35 rfl rfl rfl rfl rfl (Nat.le_of_ble_eq_true rfl) (by simp [Value.oneCell']) rfl gno ?_)
      refine RV.nil ?_
      refine KV.then_n ?_
      refine KV.env [(0, _), (4, _), (5, _), (6, _), (11, _), (12, _), (13, _)] ⟨rfl, rfl, rfl, rfl, rfl, rfl, rfl, trivial⟩ ?_
      refine CV.seq ?_
      refine CV.seq ?_
      -- region 7 rails.go:26
      refine CV.region ?_
      refine RV.op (OV.step gno (Step.fieldAddr rfl (F35_0 _ _)) rfl ?_)
      (first | refine RV.op (OV.step gno (Step.load Try.underlying3 rfl rfl (fun w h => h.cell 1 rfl rfl)) rfl ?_) | refine RV.op (OV.step gno (Step.load Try.underlying3 rfl rfl (fun w h => (h.rs hr (fun _ => hI _)).cell (by omega) rfl)) rfl ?_) | refine RV.op (OV.step gno (Step.load Try.underlying3 rfl rfl (fun w h => (h.rs hr (fun _ => hI _)).cell0 (by omega) rfl)) rfl ?_))
      refine RV.op (OV.split gno (Step.lss rfl rfl) rfl (fun cc1 => ?_) (fun cc1 => ?_))
      · -- True
        refine RV.op (OV.step gno (Step.move rfl) rfl ?_)
        refine RV.op (OV.skip rfl rfl ?_)
        refine RV.op (OV.skip rfl rfl ?_)
        refine RV.op (OV.skip rfl rfl ?_)
        refine RV.op (OV.skip rfl rfl ?_)
        refine RV.op (OV.skip rfl rfl ?_)
        refine RV.op (OV.step gno (Step.pick_t rfl rfl) rfl ?_)
        refine RV.op (OV.step gno (Step.move rfl) rfl ?_)
        refine RV.op (OV.skip rfl rfl ?_)
        refine RV.op (OV.skip rfl rfl ?_)
        refine RV.op (OV.skip rfl rfl ?_)
        refine RV.op (OV.step gno (Step.pick_t rfl rfl) rfl ?_)
        refine RV.op (OV.step gno (Step.move rfl) rfl ?_)
        refine RV.op (OV.skip rfl rfl ?_)
        refine RV.op (OV.skip rfl rfl ?_)
        refine RV.op (OV.skip rfl rfl ?_)
        refine RV.op (OV.step gno (Step.pick_t rfl rfl) rfl ?_)
        refine RV.nil ?_
        refine KV.then_n ?_
        refine KV.env [(0, _), (4, _), (5, _), (6, _), (11, _), (12, _), (13, _), (37, _)] ⟨rfl, rfl, rfl, rfl, rfl, rfl, rfl, rfl, trivial⟩ ?_
        refine CV.cond_t rfl ?_
        refine CV.seq ?_
        -- region 8 rails.go:27
        refine CV.region ?_
        refine RV.op (OV.step gno (Step.assign rfl) rfl ?_)
        refine RV.op (OV.step gno (Step.assign rfl) rfl ?_)
        refine RV.nil ?_
        refine KV.then_n ?_
        refine KV.env [(2, _), (3, _)] ⟨rfl, rfl, trivial⟩ ?_
        refine CV.ret ?_
        refine KV.then_ret ?_
        refine KV.block_ret ?_
        refine KV.then_ret ?_
        refine KV.then_ret ?_
        refine KV.block_ret ?_
        refine KV.then_ret ?_
        -- return at r8
        refine KV.sel [] [] rfl ?_
        have hE : newE ys = 1 := newE_bad hlong (j := j) (by omega) (by unfold badR; omega)
        exact KV.ret2 rfl rfl rfl _ (fun _ h => h) ⟨fun h0 => absurd h0 (by rw [hE]; decide), fun _ => ⟨by rw [hE], rfl⟩⟩
      · -- False
        refine RV.op (OV.step gno (Step.move rfl) rfl ?_)
        refine RV.op (OV.step (gyes rfl) (Step.fieldAddr rfl (F35_0 _ _)) rfl ?_)
        (first | refine RV.op (OV.step (gyes rfl) (Step.load Try.underlying3 rfl rfl (fun w h => h.cell 1 rfl rfl)) rfl ?_) | refine RV.op (OV.step (gyes rfl) (Step.load Try.underlying3 rfl rfl (fun w h => (h.rs hr (fun _ => hI _)).cell (by omega) rfl)) rfl ?_) | refine RV.op (OV.step (gyes rfl) (Step.load Try.underlying3 rfl rfl (fun w h => (h.rs hr (fun _ => hI _)).cell0 (by omega) rfl)) rfl ?_))
        refine RV.op (OV.step (gyes rfl) (Step.move rfl) rfl ?_)
        refine RV.op (OV.step (gyes rfl) (Step.lenSl Try.underlying22 rfl) rfl ?_)
        refine RV.op (OV.split (gyes rfl) (Step.geq rfl rfl) rfl (fun cc2 => ?_) (fun cc2 => ?_))
        · -- True
          refine RV.op (OV.step gno (Step.pick_f rfl rfl) rfl ?_)
          refine RV.op (OV.step gno (Step.move rfl) rfl ?_)
          refine RV.op (OV.skip rfl rfl ?_)
          refine RV.op (OV.skip rfl rfl ?_)
          refine RV.op (OV.skip rfl rfl ?_)
          refine RV.op (OV.step gno (Step.pick_t rfl rfl) rfl ?_)
          refine RV.op (OV.step gno (Step.move rfl) rfl ?_)
          refine RV.op (OV.skip rfl rfl ?_)
          refine RV.op (OV.skip rfl rfl ?_)
          refine RV.op (OV.skip rfl rfl ?_)
          refine RV.op (OV.step gno (Step.pick_t rfl rfl) rfl ?_)
          refine RV.nil ?_
          refine KV.then_n ?_
          refine KV.env [(0, _), (4, _), (5, _), (6, _), (11, _), (12, _), (13, _), (37, _)] ⟨rfl, rfl, rfl, rfl, rfl, rfl, rfl, rfl, trivial⟩ ?_
          refine CV.cond_t rfl ?_
          refine CV.seq ?_
          -- region 8 rails.go:27
          refine CV.region ?_
          refine RV.op (OV.step gno (Step.assign rfl) rfl ?_)
          refine RV.op (OV.step gno (Step.assign rfl) rfl ?_)
          refine RV.nil ?_
          refine KV.then_n ?_
          refine KV.env [(2, _), (3, _)] ⟨rfl, rfl, trivial⟩ ?_
          refine CV.ret ?_
          refine KV.then_ret ?_
          refine KV.block_ret ?_
          refine KV.then_ret ?_
          refine KV.then_ret ?_
          refine KV.block_ret ?_
          refine KV.then_ret ?_
          -- return at r8
          refine KV.sel [] [] rfl ?_
          have hE : newE ys = 1 := newE_bad hlong (j := j) (by omega) (by unfold badR; omega)
          exact KV.ret2 rfl rfl rfl _ (fun _ h => h) ⟨fun h0 => absurd h0 (by rw [hE]; decide), fun _ => ⟨by rw [hE], rfl⟩⟩
        · -- False
          refine RV.op (OV.step gno (Step.pick_f rfl rfl) rfl ?_)
          refine RV.op (OV.step gno (Step.move rfl) rfl ?_)
          refine RV.op (OV.step (gyes rfl) (Step.fieldAddr rfl (F35_1 _ _)) rfl ?_)
          (first | refine RV.op (OV.step (gyes rfl) (Step.load Try.underlying33 rfl rfl (fun w h => h.cell 1 rfl rfl)) rfl ?_) | refine RV.op (OV.step (gyes rfl) (Step.load Try.underlying33 rfl rfl (fun w h => (h.rs hr (fun _ => hI _)).cell (by omega) rfl)) rfl ?_) | refine RV.op (OV.step (gyes rfl) (Step.load Try.underlying33 rfl rfl (fun w h => (h.rs hr (fun _ => hI _)).cell0 (by omega) rfl)) rfl ?_))
          refine RV.op (OV.split (gyes rfl) (Step.gtr rfl rfl) rfl (fun cc3 => ?_) (fun cc3 => ?_))
          · -- True
            refine RV.op (OV.step gno (Step.pick_f rfl rfl) rfl ?_)
            refine RV.op (OV.step gno (Step.move rfl) rfl ?_)
            refine RV.op (OV.skip rfl rfl ?_)
            refine RV.op (OV.skip rfl rfl ?_)
            refine RV.op (OV.skip rfl rfl ?_)
            refine RV.op (OV.step gno (Step.pick_t rfl rfl) rfl ?_)
            refine RV.nil ?_
            refine KV.then_n ?_
            refine KV.env [(0, _), (4, _), (5, _), (6, _), (11, _), (12, _), (13, _), (37, _)] ⟨rfl, rfl, rfl, rfl, rfl, rfl, rfl, rfl, trivial⟩ ?_
            refine CV.cond_t rfl ?_
            refine CV.seq ?_
            -- region 8 rails.go:27
            refine CV.region ?_
            refine RV.op (OV.step gno (Step.assign rfl) rfl ?_)
            refine RV.op (OV.step gno (Step.assign rfl) rfl ?_)
            refine RV.nil ?_
            refine KV.then_n ?_
            refine KV.env [(2, _), (3, _)] ⟨rfl, rfl, trivial⟩ ?_
            refine CV.ret ?_
            refine KV.then_ret ?_
            refine KV.block_ret ?_
            refine KV.then_ret ?_
            refine KV.then_ret ?_
            refine KV.block_ret ?_
            refine KV.then_ret ?_
            -- return at r8
            refine KV.sel [] [] rfl ?_
            have hE : newE ys = 1 := newE_bad hlong (j := j) (by omega) (by unfold badR; omega)
            exact KV.ret2 rfl rfl rfl _ (fun _ h => h) ⟨fun h0 => absurd h0 (by rw [hE]; decide), fun _ => ⟨by rw [hE], rfl⟩⟩
          · -- False
            refine RV.op (OV.step gno (Step.pick_f rfl rfl) rfl ?_)
            refine RV.op (OV.step gno (Step.move rfl) rfl ?_)
            refine RV.op (OV.step (gyes rfl) (Step.fieldAddr rfl (F35_2 _ _)) rfl ?_)
            (first | refine RV.op (OV.step (gyes rfl) (Step.load Try.underlying33 rfl rfl (fun w h => h.cell 1 rfl rfl)) rfl ?_) | refine RV.op (OV.step (gyes rfl) (Step.load Try.underlying33 rfl rfl (fun w h => (h.rs hr (fun _ => hI _)).cell (by omega) rfl)) rfl ?_) | refine RV.op (OV.step (gyes rfl) (Step.load Try.underlying33 rfl rfl (fun w h => (h.rs hr (fun _ => hI _)).cell0 (by omega) rfl)) rfl ?_))
            refine RV.op (OV.split (gyes rfl) (Step.gtr rfl rfl) rfl (fun cc4 => ?_) (fun cc4 => ?_))
            · -- True
              refine RV.op (OV.step gno (Step.pick_f rfl rfl) rfl ?_)
              refine RV.nil ?_
              refine KV.then_n ?_
              refine KV.env [(0, _), (4, _), (5, _), (6, _), (11, _), (12, _), (13, _), (37, _)] ⟨rfl, rfl, rfl, rfl, rfl, rfl, rfl, rfl, trivial⟩ ?_
              refine CV.cond_t rfl ?_
              refine CV.seq ?_
              -- region 8 rails.go:27
              refine CV.region ?_
              refine RV.op (OV.step gno (Step.assign rfl) rfl ?_)
              refine RV.op (OV.step gno (Step.assign rfl) rfl ?_)
              refine RV.nil ?_
              refine KV.then_n ?_
              refine KV.env [(2, _), (3, _)] ⟨rfl, rfl, trivial⟩ ?_
              refine CV.ret ?_
              refine KV.then_ret ?_
              refine KV.block_ret ?_
              refine KV.then_ret ?_
              refine KV.then_ret ?_
              refine KV.block_ret ?_
              refine KV.then_ret ?_
              -- return at r8
              refine KV.sel [] [] rfl ?_
              have hE : newE ys = 1 := newE_bad hlong (j := j) (by omega) (by unfold badR; omega)
              exact KV.ret2 rfl rfl rfl _ (fun _ h => h) ⟨fun h0 => absurd h0 (by rw [hE]; decide), fun _ => ⟨by rw [hE], rfl⟩⟩
            · -- False
              refine RV.op (OV.step gno (Step.pick_f rfl rfl) rfl ?_)
              refine RV.nil ?_
              refine KV.then_n ?_
              refine KV.env [(0, _), (4, _), (5, _), (6, _), (11, _), (12, _), (13, _), (37, _)] ⟨rfl, rfl, rfl, rfl, rfl, rfl, rfl, rfl, trivial⟩ ?_
              refine CV.cond_f rfl ?_
              refine CV.skip ?_
              refine KV.then_n ?_
              refine KV.env [(0, _), (4, _), (5, _), (6, _), (11, _), (12, _), (13, _)] ⟨rfl, rfl, rfl, rfl, rfl, rfl, rfl, trivial⟩ ?_
              refine CV.seq ?_
              -- region 9 rails.go:29
              refine CV.region ?_
              refine RV.op (OV.step gno (Step.fieldAddr rfl (F35_0 _ _)) rfl ?_)
              (first | refine RV.op (OV.step gno (Step.load Try.underlying3 rfl rfl (fun w h => h.cell 1 rfl rfl)) rfl ?_) | refine RV.op (OV.step gno (Step.load Try.underlying3 rfl rfl (fun w h => (h.rs hr (fun _ => hI _)).cell (by omega) rfl)) rfl ?_) | refine RV.op (OV.step gno (Step.load Try.underlying3 rfl rfl (fun w h => (h.rs hr (fun _ => hI _)).cell0 (by omega) rfl)) rfl ?_))
              refine RV.op (OV.split gno (Step.geq rfl rfl) rfl (fun hsu => ?_) (fun hsu => ?_))
              · -- True
                refine RV.nil ?_
                refine KV.then_n ?_
                refine KV.env [(0, _), (4, _), (5, _), (6, _), (11, _), (12, _), (13, _), (40, _)] ⟨rfl, rfl, rfl, rfl, rfl, rfl, rfl, rfl, trivial⟩ ?_
                refine CV.cond_t rfl ?_
                -- region 10 rails.go:30
                refine CV.region ?_
                refine RV.op (OV.step gno (Step.move rfl) rfl ?_)
                refine RV.op (OV.step gno (Step.move rfl) rfl ?_)
                refine RV.op (OV.step gno (Step.fieldAddr rfl (F35_0 _ _)) rfl ?_)
                (first | refine RV.op (OV.step gno (Step.load Try.underlying3 rfl rfl (fun w h => h.cell 1 rfl rfl)) rfl ?_) | refine RV.op (OV.step gno (Step.load Try.underlying3 rfl rfl (fun w h => (h.rs hr (fun _ => hI _)).cell (by omega) rfl)) rfl ?_) | refine RV.op (OV.step gno (Step.load Try.underlying3 rfl rfl (fun w h => (h.rs hr (fun _ => hI _)).cell0 (by omega) rfl)) rfl ?_))
                refine RV.op (OV.step gno (Step.build rfl (Bd70_0_1 _ _)) rfl ?_)
                refine RV.op (OV.buildSlice (K := linkK) ([⟨_, _⟩]) rfl (Bs68_1_0 _ _) rfl rfl (by omega) gno rfl (fun b10_5 => ?_))
                refine RV.op (OV.append 0 Try.underlying68 I70 rfl rfl rfl rfl rfl rfl (fun w h => h.os 2 rfl) (by simp only [List.length_cons, List.length_nil]; omega) (by simp only [List.length_cons, List.length_nil]; omega) gno rfl (fun b10_6a b10_6c => ?_))
                refine RV.op (OV.step gno (Step.assign rfl) rfl ?_)
                refine RV.nil ?_
                refine KV.block_n ?_
                refine KV.then_n ?_
                refine KV.env [(0, _), (4, _), (11, _), (12, _), (13, _)] ⟨rfl, rfl, rfl, rfl, rfl, trivial⟩ ?_
                -- region 11 rails.go:25
                refine CV.region ?_
                (first | refine RV.op (OV.step gno (Step.add rfl rfl (wI64 (by omega) (by omega))) rfl ?_) | refine RV.op (OV.step gno (Step.add rfl rfl rfl) rfl ?_))
                refine RV.op (OV.step gno (Step.move rfl) rfl ?_)
                refine RV.nil ?_
                refine KV.then_n ?_
                refine KV.env [(0, _), (4, _), (11, _), (12, _), (13, _)] ⟨rfl, rfl, rfl, rfl, rfl, trivial⟩ ?_
                refine KV.sel [0] [_] rfl ?_
                have hnb : ¬ badR ys.length (ys.getD j railK.d) := by unfold badR; omega
                have hst : ∀ i, i < j + 1 → ¬ badR ys.length (ys.getD i railK.d) := fun i hi => by by_cases e : i = j; (subst e; exact hnb); exact hj.2 i (by omega)
                first | exact KV.loop3 (y := A1) (z := c1) (j + 1) b10_6a b10_6c ⟨by omega, hst⟩ (by omega) ⟨rfl, by rw [lkM, if_pos hsu]; rfl, rfl, rfl, rfl, trivial⟩ (fun _ h => by rw [lkM, if_pos hsu]; exact h) | exact KV.loop3 (y := A1) (z := c1) (j + 1) A1 c1 ⟨by omega, hst⟩ (by omega) ⟨rfl, by rw [lkM, if_neg hsu]; rfl, rfl, rfl, rfl, trivial⟩ (fun _ h => by rw [lkM, if_neg hsu]; exact h)
              · -- False
                refine RV.nil ?_
                refine KV.then_n ?_
                refine KV.env [(0, _), (4, _), (5, _), (6, _), (11, _), (12, _), (13, _), (40, _)] ⟨rfl, rfl, rfl, rfl, rfl, rfl, rfl, rfl, trivial⟩ ?_
                refine CV.cond_f rfl ?_
                refine CV.skip ?_
                refine KV.block_n ?_
                refine KV.then_n ?_
                refine KV.env [(0, _), (4, _), (11, _), (12, _), (13, _)] ⟨rfl, rfl, rfl, rfl, rfl, trivial⟩ ?_
                -- region 11 rails.go:25
                refine CV.region ?_
                (first | refine RV.op (OV.step gno (Step.add rfl rfl (wI64 (by omega) (by omega))) rfl ?_) | refine RV.op (OV.step gno (Step.add rfl rfl rfl) rfl ?_))
                refine RV.op (OV.step gno (Step.move rfl) rfl ?_)
                refine RV.nil ?_
                refine KV.then_n ?_
                refine KV.env [(0, _), (4, _), (11, _), (12, _), (13, _)] ⟨rfl, rfl, rfl, rfl, rfl, trivial⟩ ?_
                refine KV.sel [0] [_] rfl ?_
                have hnb : ¬ badR ys.length (ys.getD j railK.d) := by unfold badR; omega
                have hst : ∀ i, i < j + 1 → ¬ badR ys.length (ys.getD i railK.d) := fun i hi => by by_cases e : i = j; (subst e; exact hnb); exact hj.2 i (by omega)
                first | exact KV.loop3 (y := A1) (z := c1) (j + 1) b10_6a b10_6c ⟨by omega, hst⟩ (by omega) ⟨rfl, by rw [lkM, if_pos hsu]; rfl, rfl, rfl, rfl, trivial⟩ (fun _ h => by rw [lkM, if_pos hsu]; exact h) | exact KV.loop3 (y := A1) (z := c1) (j + 1) A1 c1 ⟨by omega, hst⟩ (by omega) ⟨rfl, by rw [lkM, if_neg hsu]; rfl, rfl, rfl, rfl, trivial⟩ (fun _ h => by rw [lkM, if_neg hsu]; exact h)
    · -- False
      obtain rfl : j = ys.length := by omega
      refine RV.nil ?_
      refine KV.then_n ?_
      refine KV.env [(0, _), (4, _), (11, _), (12, _), (13, _), (14, _)] ⟨rfl, rfl, rfl, rfl, rfl, rfl, trivial⟩ ?_
      refine CV.seq ?_
      refine CV.cond_f rfl ?_
      refine CV.exit ?_
      refine KV.then_exit ?_
      refine KV.then_exit ?_
      refine KV.block_hit ?_
      refine KV.then_n ?_
      refine KV.env [(0, _), (4, _)] ⟨rfl, rfl, trivial⟩ ?_
      refine CV.seq ?_
      refine CV.seq ?_
      -- region 12 rails.go:33
      refine CV.region ?_
      refine RV.op (OV.step gno (Step.move rfl) rfl ?_)
      refine RV.op (OV.step gno (Step.lenSl Try.underlying22 rfl) rfl ?_)
      refine RV.op (OV.step gno (Step.move rfl) rfl ?_)
      refine RV.op (OV.call [] (F := [_]) Try.func33 B33 N33 rfl rfl (fun w h => check_fn ys.length (h.os 0 rfl) (by omega)) (fun _ hb => hb.elim) gno rfl (fun v L' hp => ?_))
      obtain ⟨rfl, rfl⟩ := hp
      simp only [List.append_nil]
      refine RV.op (OV.step gno (Step.assign rfl) rfl ?_)
      refine RV.nil ?_
      refine KV.then_n ?_
      refine KV.env [(0, _), (7, _)] ⟨rfl, rfl, trivial⟩ ?_
      refine CV.seq ?_
      -- region 13 rails.go:33
      refine CV.region ?_
      refine RV.op (OV.step gno (Step.move rfl) rfl ?_)
      refine RV.op (OV.split gno (Step.neq rfl rfl) rfl (fun hc => ?_) (fun hc => ?_))
      · -- True
        refine RV.nil ?_
        refine KV.then_n ?_
        refine KV.env [(0, _), (7, _), (54, _)] ⟨rfl, rfl, rfl, trivial⟩ ?_
        refine CV.cond_t rfl ?_
        refine CV.seq ?_
        -- region 14 rails.go:34
        refine CV.region ?_
        refine RV.op (OV.step gno (Step.move rfl) rfl ?_)
        refine RV.op (OV.step gno (Step.assign rfl) rfl ?_)
        refine RV.op (OV.step gno (Step.assign rfl) rfl ?_)
        refine RV.nil ?_
        refine KV.then_n ?_
        refine KV.env [(2, _), (3, _)] ⟨rfl, rfl, trivial⟩ ?_
        refine CV.ret ?_
        refine KV.then_ret ?_
        -- return at r14
        refine KV.sel [] [] rfl ?_
        have hE : newE ys = chkM ys.length (lkM ys ys.length) := newE_chk hlong hj.2
        exact KV.ret2 rfl rfl rfl _ (fun _ h => h) ⟨fun h0 => absurd (hE.symm.trans h0) hc, fun _ => ⟨by rw [hE], rfl⟩⟩
      · -- False
        refine RV.nil ?_
        refine KV.then_n ?_
        refine KV.env [(0, _), (7, _), (54, _)] ⟨rfl, rfl, rfl, trivial⟩ ?_
        refine CV.cond_f rfl ?_
        refine CV.skip ?_
        refine KV.then_n ?_
        refine KV.env [(0, _)] ⟨rfl, trivial⟩ ?_
        refine CV.seq ?_
        -- region 15 rails.go:36
        refine CV.any (Hp I w []) (by kernel_rfl) (fun _ h => h.drew) 12 rfl ?_
        refine AV.take 0 #[true, false, false, false, false, false, false, false, false, false, false, false] rfl (by kernel_rfl) (by kernel_rfl) (by kernel_rfl) (fun _ _ _ h => h) gno (Step.move rfl) rfl (fun _ h => h.sel [] rfl) (by kernel_rfl) ?_
        refine AV.take 2 #[true, false, true, false, false, false, false, false, false, false, false, false] rfl (by kernel_rfl) (by kernel_rfl) (by kernel_rfl) (fun _ _ _ h => h) gno (Step.move rfl) rfl (fun _ h => h.sel [] rfl) (by kernel_rfl) ?_
        refine AV.take 3 #[true, false, true, true, false, false, false, false, false, false, false, false] rfl (by kernel_rfl) (by kernel_rfl) (by kernel_rfl) (fun _ _ _ h => h) gno (Step.lenSl Try.underlying22 rfl) rfl (fun _ h => h.sel [] rfl) (by kernel_rfl) ?_
        refine AV.take 5 #[true, false, true, true, false, true, false, false, false, false, false, false] rfl (by kernel_rfl) (by kernel_rfl) (by kernel_rfl) (fun _ _ _ h => h) gno (Step.move rfl) rfl (fun _ h => h.sel [] rfl) (by kernel_rfl) ?_
        refine AV.take 6 #[true, false, true, true, false, true, true, false, false, false, false, false] rfl (by kernel_rfl) (by kernel_rfl) (by kernel_rfl) (fun _ _ _ h => h) gno (Step.lenSl Try.underlying22 rfl) rfl (fun _ h => h.sel [] rfl) (by kernel_rfl) ?_
        refine AV.all [1, 4, 7] (by kernel_rfl) (by decide) ?_
        refine ⟨⟨_, rfl, ?_⟩, ⟨⟨_, rfl, ?_⟩, ⟨⟨_, rfl, ?_⟩, trivial⟩⟩⟩
        · -- 1 comes up
          refine OV.call [] (F := [_]) Try.func34 B34 N34 rfl rfl (fun w h => cloneRail_fn (h.rs hr (fun _ => hI _)) (by omega) rfl) (fun _ hb => hb.elim) gno rfl (fun v L' hp => ?_)
          obtain ⟨A0, c0, rfl, rfl⟩ := hp
          refine AV.next #[true, true, true, true, false, true, true, false, false, false, false, false] (by kernel_rfl) (fun _ h => h.sel [] rfl) ?_
          refine AV.all [4, 7] (by kernel_rfl) (by decide) ?_
          refine ⟨⟨_, rfl, ?_⟩, ⟨⟨_, rfl, ?_⟩, trivial⟩⟩
          · -- 4 comes up
            refine OV.make (K := intK .i64) (ys.length) (ys.length) (0) Try.underlying57 I3 rfl rfl rfl rfl rfl (by omega) (by omega) (by omega) gno rfl (fun b15_4 => ?_)
            refine AV.next #[true, true, true, true, true, true, true, false, false, false, false, false] (by kernel_rfl) (fun _ h => h.sel [] rfl) ?_
            refine AV.all [7] (by kernel_rfl) (by decide) ?_
            refine ⟨⟨_, rfl, ?_⟩, trivial⟩
            · -- 7 comes up
              refine OV.make (K := intK .u64) (ys.length) (ys.length) (0) Try.underlying43 I33 rfl rfl rfl rfl rfl (by omega) (by omega) (by omega) gno rfl (fun b15_7 => ?_)
              refine AV.next #[true, true, true, true, true, true, true, true, false, false, false, false] (by kernel_rfl) (fun _ h => h.sel [] rfl) ?_
              refine AV.take 8 #[true, true, true, true, true, true, true, true, true, false, false, false] rfl (by kernel_rfl) (by kernel_rfl) (by kernel_rfl) (fun _ _ _ h => h) gno (Step.build rfl (Bd73_0_1_2 _ _ _ _ _ _ _ _ _)) rfl (fun _ h => h.sel [] rfl) (by kernel_rfl) ?_
              refine AV.all [9] (by kernel_rfl) (by decide) ?_
              refine ⟨⟨_, rfl, ?_⟩, trivial⟩
              · -- 9 comes up
                refine OV.box (t := 73) #[_, _, _, _] rfl rfl gno rfl (fun b15_9 => ?_)
                refine AV.next #[true, true, true, true, true, true, true, true, true, true, false, false] (by kernel_rfl) (fun _ h => h.sel [] rfl) ?_
                refine AV.take 10 #[true, true, true, true, true, true, true, true, true, true, true, false] rfl (by kernel_rfl) (by kernel_rfl) (by kernel_rfl) (fun _ _ _ h => h) gno (Step.assign rfl) rfl (fun _ h => h.sel [] rfl) (by kernel_rfl) ?_
                refine AV.take 11 #[true, true, true, true, true, true, true, true, true, true, true, true] rfl (by kernel_rfl) (by kernel_rfl) (by kernel_rfl) (fun _ _ _ h => h) gno (Step.assign rfl) rfl (fun _ h => h.sel [] rfl) (by kernel_rfl) ?_
                refine AV.done (by kernel_rfl) ?_
                refine KV.then_n ?_
                refine KV.env [(2, _), (3, _)] ⟨rfl, rfl, trivial⟩ ?_
                refine CV.ret ?_
                -- return at r15
                refine KV.sel [4, 1, 1, 1] [_, _, _, _] rfl ?_
                have hE : newE ys = 0 := (newE_chk hlong hj.2).trans (Decidable.not_not.1 hc)
                exact KV.ret2 rfl rfl rfl _ (fun _ h => h) ⟨fun _ => ⟨_, ⟨_, _, _, _, _, _⟩, rfl, rfl⟩, fun h0 => absurd hE h0⟩
          · -- 7 comes up
            refine OV.make (K := intK .u64) (ys.length) (ys.length) (0) Try.underlying43 I33 rfl rfl rfl rfl rfl (by omega) (by omega) (by omega) gno rfl (fun b15_7 => ?_)
            refine AV.next #[true, true, true, true, false, true, true, true, false, false, false, false] (by kernel_rfl) (fun _ h => h.sel [] rfl) ?_
            refine AV.all [4] (by kernel_rfl) (by decide) ?_
            refine ⟨⟨_, rfl, ?_⟩, trivial⟩
            · -- 4 comes up
              refine OV.make (K := intK .i64) (ys.length) (ys.length) (0) Try.underlying57 I3 rfl rfl rfl rfl rfl (by omega) (by omega) (by omega) gno rfl (fun b15_4 => ?_)
              refine AV.next #[true, true, true, true, true, true, true, true, false, false, false, false] (by kernel_rfl) (fun _ h => h.sel [] rfl) ?_
              refine AV.take 8 #[true, true, true, true, true, true, true, true, true, false, false, false] rfl (by kernel_rfl) (by kernel_rfl) (by kernel_rfl) (fun _ _ _ h => h) gno (Step.build rfl (Bd73_0_1_2 _ _ _ _ _ _ _ _ _)) rfl (fun _ h => h.sel [] rfl) (by kernel_rfl) ?_
              refine AV.all [9] (by kernel_rfl) (by decide) ?_
              refine ⟨⟨_, rfl, ?_⟩, trivial⟩
              · -- 9 comes up
                refine OV.box (t := 73) #[_, _, _, _] rfl rfl gno rfl (fun b15_9 => ?_)
                refine AV.next #[true, true, true, true, true, true, true, true, true, true, false, false] (by kernel_rfl) (fun _ h => h.sel [] rfl) ?_
                refine AV.take 10 #[true, true, true, true, true, true, true, true, true, true, true, false] rfl (by kernel_rfl) (by kernel_rfl) (by kernel_rfl) (fun _ _ _ h => h) gno (Step.assign rfl) rfl (fun _ h => h.sel [] rfl) (by kernel_rfl) ?_
                refine AV.take 11 #[true, true, true, true, true, true, true, true, true, true, true, true] rfl (by kernel_rfl) (by kernel_rfl) (by kernel_rfl) (fun _ _ _ h => h) gno (Step.assign rfl) rfl (fun _ h => h.sel [] rfl) (by kernel_rfl) ?_
                refine AV.done (by kernel_rfl) ?_
                refine KV.then_n ?_
                refine KV.env [(2, _), (3, _)] ⟨rfl, rfl, trivial⟩ ?_
                refine CV.ret ?_
                -- return at r15
                refine KV.sel [4, 1, 2, 1] [_, _, _, _] rfl ?_
                have hE : newE ys = 0 := (newE_chk hlong hj.2).trans (Decidable.not_not.1 hc)
                exact KV.ret2 rfl rfl rfl _ (fun _ h => h) ⟨fun _ => ⟨_, ⟨_, _, _, _, _, _⟩, rfl, rfl⟩, fun h0 => absurd hE h0⟩
        · -- 4 comes up
          refine OV.make (K := intK .i64) (ys.length) (ys.length) (0) Try.underlying57 I3 rfl rfl rfl rfl rfl (by omega) (by omega) (by omega) gno rfl (fun b15_4 => ?_)
          refine AV.next #[true, false, true, true, true, true, true, false, false, false, false, false] (by kernel_rfl) (fun _ h => h.sel [] rfl) ?_
          refine AV.all [1, 7] (by kernel_rfl) (by decide) ?_
          refine ⟨⟨_, rfl, ?_⟩, ⟨⟨_, rfl, ?_⟩, trivial⟩⟩
          · -- 1 comes up
            refine OV.call [] (F := [_, _]) Try.func34 B34 N34 rfl rfl (fun w h => cloneRail_fn (h.rs hr (fun _ => hI _)) (by omega) rfl) (fun _ hb => hb.elim) gno rfl (fun v L' hp => ?_)
            obtain ⟨A0, c0, rfl, rfl⟩ := hp
            refine AV.next #[true, true, true, true, true, true, true, false, false, false, false, false] (by kernel_rfl) (fun _ h => h.sel [] rfl) ?_
            refine AV.all [7] (by kernel_rfl) (by decide) ?_
            refine ⟨⟨_, rfl, ?_⟩, trivial⟩
            · -- 7 comes up
              refine OV.make (K := intK .u64) (ys.length) (ys.length) (0) Try.underlying43 I33 rfl rfl rfl rfl rfl (by omega) (by omega) (by omega) gno rfl (fun b15_7 => ?_)
              refine AV.next #[true, true, true, true, true, true, true, true, false, false, false, false] (by kernel_rfl) (fun _ h => h.sel [] rfl) ?_
              refine AV.take 8 #[true, true, true, true, true, true, true, true, true, false, false, false] rfl (by kernel_rfl) (by kernel_rfl) (by kernel_rfl) (fun _ _ _ h => h) gno (Step.build rfl (Bd73_0_1_2 _ _ _ _ _ _ _ _ _)) rfl (fun _ h => h.sel [] rfl) (by kernel_rfl) ?_
              refine AV.all [9] (by kernel_rfl) (by decide) ?_
              refine ⟨⟨_, rfl, ?_⟩, trivial⟩
              · -- 9 comes up
                refine OV.box (t := 73) #[_, _, _, _] rfl rfl gno rfl (fun b15_9 => ?_)
                refine AV.next #[true, true, true, true, true, true, true, true, true, true, false, false] (by kernel_rfl) (fun _ h => h.sel [] rfl) ?_
                refine AV.take 10 #[true, true, true, true, true, true, true, true, true, true, true, false] rfl (by kernel_rfl) (by kernel_rfl) (by kernel_rfl) (fun _ _ _ h => h) gno (Step.assign rfl) rfl (fun _ h => h.sel [] rfl) (by kernel_rfl) ?_
                refine AV.take 11 #[true, true, true, true, true, true, true, true, true, true, true, true] rfl (by kernel_rfl) (by kernel_rfl) (by kernel_rfl) (fun _ _ _ h => h) gno (Step.assign rfl) rfl (fun _ h => h.sel [] rfl) (by kernel_rfl) ?_
                refine AV.done (by kernel_rfl) ?_
                refine KV.then_n ?_
                refine KV.env [(2, _), (3, _)] ⟨rfl, rfl, trivial⟩ ?_
                refine CV.ret ?_
                -- return at r15
                refine KV.sel [4, 2, 1, 1] [_, _, _, _] rfl ?_
                have hE : newE ys = 0 := (newE_chk hlong hj.2).trans (Decidable.not_not.1 hc)
                exact KV.ret2 rfl rfl rfl _ (fun _ h => h) ⟨fun _ => ⟨_, ⟨_, _, _, _, _, _⟩, rfl, rfl⟩, fun h0 => absurd hE h0⟩
          · -- 7 comes up
            refine OV.make (K := intK .u64) (ys.length) (ys.length) (0) Try.underlying43 I33 rfl rfl rfl rfl rfl (by omega) (by omega) (by omega) gno rfl (fun b15_7 => ?_)
            refine AV.next #[true, false, true, true, true, true, true, true, false, false, false, false] (by kernel_rfl) (fun _ h => h.sel [] rfl) ?_
            refine AV.all [1] (by kernel_rfl) (by decide) ?_
            refine ⟨⟨_, rfl, ?_⟩, trivial⟩
            · -- 1 comes up
              refine OV.call [] (F := [_, _, _]) Try.func34 B34 N34 rfl rfl (fun w h => cloneRail_fn (h.rs hr (fun _ => hI _)) (by omega) rfl) (fun _ hb => hb.elim) gno rfl (fun v L' hp => ?_)
              obtain ⟨A0, c0, rfl, rfl⟩ := hp
              refine AV.next #[true, true, true, true, true, true, true, true, false, false, false, false] (by kernel_rfl) (fun _ h => h.sel [] rfl) ?_
              refine AV.take 8 #[true, true, true, true, true, true, true, true, true, false, false, false] rfl (by kernel_rfl) (by kernel_rfl) (by kernel_rfl) (fun _ _ _ h => h) gno (Step.build rfl (Bd73_0_1_2 _ _ _ _ _ _ _ _ _)) rfl (fun _ h => h.sel [] rfl) (by kernel_rfl) ?_
              refine AV.all [9] (by kernel_rfl) (by decide) ?_
              refine ⟨⟨_, rfl, ?_⟩, trivial⟩
              · -- 9 comes up
                refine OV.box (t := 73) #[_, _, _, _] rfl rfl gno rfl (fun b15_9 => ?_)
                refine AV.next #[true, true, true, true, true, true, true, true, true, true, false, false] (by kernel_rfl) (fun _ h => h.sel [] rfl) ?_
                refine AV.take 10 #[true, true, true, true, true, true, true, true, true, true, true, false] rfl (by kernel_rfl) (by kernel_rfl) (by kernel_rfl) (fun _ _ _ h => h) gno (Step.assign rfl) rfl (fun _ h => h.sel [] rfl) (by kernel_rfl) ?_
                refine AV.take 11 #[true, true, true, true, true, true, true, true, true, true, true, true] rfl (by kernel_rfl) (by kernel_rfl) (by kernel_rfl) (fun _ _ _ h => h) gno (Step.assign rfl) rfl (fun _ h => h.sel [] rfl) (by kernel_rfl) ?_
                refine AV.done (by kernel_rfl) ?_
                refine KV.then_n ?_
                refine KV.env [(2, _), (3, _)] ⟨rfl, rfl, trivial⟩ ?_
                refine CV.ret ?_
                -- return at r15
                refine KV.sel [4, 3, 1, 1] [_, _, _, _] rfl ?_
                have hE : newE ys = 0 := (newE_chk hlong hj.2).trans (Decidable.not_not.1 hc)
                exact KV.ret2 rfl rfl rfl _ (fun _ h => h) ⟨fun _ => ⟨_, ⟨_, _, _, _, _, _⟩, rfl, rfl⟩, fun h0 => absurd hE h0⟩
        · -- 7 comes up
          refine OV.make (K := intK .u64) (ys.length) (ys.length) (0) Try.underlying43 I33 rfl rfl rfl rfl rfl (by omega) (by omega) (by omega) gno rfl (fun b15_7 => ?_)
          refine AV.next #[true, false, true, true, false, true, true, true, false, false, false, false] (by kernel_rfl) (fun _ h => h.sel [] rfl) ?_
          refine AV.all [1, 4] (by kernel_rfl) (by decide) ?_
          refine ⟨⟨_, rfl, ?_⟩, ⟨⟨_, rfl, ?_⟩, trivial⟩⟩
          · -- 1 comes up
            refine OV.call [] (F := [_, _]) Try.func34 B34 N34 rfl rfl (fun w h => cloneRail_fn (h.rs hr (fun _ => hI _)) (by omega) rfl) (fun _ hb => hb.elim) gno rfl (fun v L' hp => ?_)
            obtain ⟨A0, c0, rfl, rfl⟩ := hp
            refine AV.next #[true, true, true, true, false, true, true, true, false, false, false, false] (by kernel_rfl) (fun _ h => h.sel [] rfl) ?_
            refine AV.all [4] (by kernel_rfl) (by decide) ?_
            refine ⟨⟨_, rfl, ?_⟩, trivial⟩
            · -- 4 comes up
              refine OV.make (K := intK .i64) (ys.length) (ys.length) (0) Try.underlying57 I3 rfl rfl rfl rfl rfl (by omega) (by omega) (by omega) gno rfl (fun b15_4 => ?_)
              refine AV.next #[true, true, true, true, true, true, true, true, false, false, false, false] (by kernel_rfl) (fun _ h => h.sel [] rfl) ?_
              refine AV.take 8 #[true, true, true, true, true, true, true, true, true, false, false, false] rfl (by kernel_rfl) (by kernel_rfl) (by kernel_rfl) (fun _ _ _ h => h) gno (Step.build rfl (Bd73_0_1_2 _ _ _ _ _ _ _ _ _)) rfl (fun _ h => h.sel [] rfl) (by kernel_rfl) ?_
              refine AV.all [9] (by kernel_rfl) (by decide) ?_
              refine ⟨⟨_, rfl, ?_⟩, trivial⟩
              · -- 9 comes up
                refine OV.box (t := 73) #[_, _, _, _] rfl rfl gno rfl (fun b15_9 => ?_)
                refine AV.next #[true, true, true, true, true, true, true, true, true, true, false, false] (by kernel_rfl) (fun _ h => h.sel [] rfl) ?_
                refine AV.take 10 #[true, true, true, true, true, true, true, true, true, true, true, false] rfl (by kernel_rfl) (by kernel_rfl) (by kernel_rfl) (fun _ _ _ h => h) gno (Step.assign rfl) rfl (fun _ h => h.sel [] rfl) (by kernel_rfl) ?_
                refine AV.take 11 #[true, true, true, true, true, true, true, true, true, true, true, true] rfl (by kernel_rfl) (by kernel_rfl) (by kernel_rfl) (fun _ _ _ h => h) gno (Step.assign rfl) rfl (fun _ h => h.sel [] rfl) (by kernel_rfl) ?_
                refine AV.done (by kernel_rfl) ?_
                refine KV.then_n ?_
                refine KV.env [(2, _), (3, _)] ⟨rfl, rfl, trivial⟩ ?_
                refine CV.ret ?_
                -- return at r15
                refine KV.sel [4, 2, 2, 1] [_, _, _, _] rfl ?_
                have hE : newE ys = 0 := (newE_chk hlong hj.2).trans (Decidable.not_not.1 hc)
                exact KV.ret2 rfl rfl rfl _ (fun _ h => h) ⟨fun _ => ⟨_, ⟨_, _, _, _, _, _⟩, rfl, rfl⟩, fun h0 => absurd hE h0⟩
          · -- 4 comes up
            refine OV.make (K := intK .i64) (ys.length) (ys.length) (0) Try.underlying57 I3 rfl rfl rfl rfl rfl (by omega) (by omega) (by omega) gno rfl (fun b15_4 => ?_)
            refine AV.next #[true, false, true, true, true, true, true, true, false, false, false, false] (by kernel_rfl) (fun _ h => h.sel [] rfl) ?_
            refine AV.all [1] (by kernel_rfl) (by decide) ?_
            refine ⟨⟨_, rfl, ?_⟩, trivial⟩
            · -- 1 comes up
              refine OV.call [] (F := [_, _, _]) Try.func34 B34 N34 rfl rfl (fun w h => cloneRail_fn (h.rs hr (fun _ => hI _)) (by omega) rfl) (fun _ hb => hb.elim) gno rfl (fun v L' hp => ?_)
              obtain ⟨A0, c0, rfl, rfl⟩ := hp
              refine AV.next #[true, true, true, true, true, true, true, true, false, false, false, false] (by kernel_rfl) (fun _ h => h.sel [] rfl) ?_
              refine AV.take 8 #[true, true, true, true, true, true, true, true, true, false, false, false] rfl (by kernel_rfl) (by kernel_rfl) (by kernel_rfl) (fun _ _ _ h => h) gno (Step.build rfl (Bd73_0_1_2 _ _ _ _ _ _ _ _ _)) rfl (fun _ h => h.sel [] rfl) (by kernel_rfl) ?_
              refine AV.all [9] (by kernel_rfl) (by decide) ?_
              refine ⟨⟨_, rfl, ?_⟩, trivial⟩
              · -- 9 comes up
                refine OV.box (t := 73) #[_, _, _, _] rfl rfl gno rfl (fun b15_9 => ?_)
                refine AV.next #[true, true, true, true, true, true, true, true, true, true, false, false] (by kernel_rfl) (fun _ h => h.sel [] rfl) ?_
                refine AV.take 10 #[true, true, true, true, true, true, true, true, true, true, true, false] rfl (by kernel_rfl) (by kernel_rfl) (by kernel_rfl) (fun _ _ _ h => h) gno (Step.assign rfl) rfl (fun _ h => h.sel [] rfl) (by kernel_rfl) ?_
                refine AV.take 11 #[true, true, true, true, true, true, true, true, true, true, true, true] rfl (by kernel_rfl) (by kernel_rfl) (by kernel_rfl) (fun _ _ _ h => h) gno (Step.assign rfl) rfl (fun _ h => h.sel [] rfl) (by kernel_rfl) ?_
                refine AV.done (by kernel_rfl) ?_
                refine KV.then_n ?_
                refine KV.env [(2, _), (3, _)] ⟨rfl, rfl, trivial⟩ ?_
                refine CV.ret ?_
                -- return at r15
                refine KV.sel [4, 3, 2, 1] [_, _, _, _] rfl ?_
                have hE : newE ys = 0 := (newE_chk hlong hj.2).trans (Decidable.not_not.1 hc)
                exact KV.ret2 rfl rfl rfl _ (fun _ h => h) ⟨fun _ => ⟨_, ⟨_, _, _, _, _, _⟩, rfl, rfl⟩, fun h0 => absurd hE h0⟩

set_option maxRecDepth 100000 in
set_option maxHeartbeats 1000000 in
theorem newR_fn {A : Option Addr} {n c : Nat} {ys : List Rail} {w : World} (hr : RS w railK A ys) (hn : n = ys.length) : Fx Try.prog 14 [.slice A n c] w [] no (fun v L => (newRE ys = 0 → ∃ b a, v = .tuple #[.pointer (some ⟨b, 0, none⟩), .int .i64 0] ∧ L = robj 59 b a (new0 ys)) ∧ (newRE ys ≠ 0 → v = .tuple #[.pointer none, .int .i64 (newRE ys)] ∧ L = [])) := by
  subst hn
  refine Sv.Fx.body Try.func14 rfl T14 rfl ?_
  intro I hro hI
  refine KV.env [(0, _)] ⟨rfl, trivial⟩ ?_
  refine CV.seq ?_
  -- region 0 ref.go:15
  refine CV.region ?_
  refine RV.op (OV.step gno (Step.assign rfl) rfl ?_)
  refine RV.op (OV.step gno (Step.assign rfl) rfl ?_)
  refine RV.nil ?_
  refine KV.then_n ?_
  refine KV.env [(0, _)] ⟨rfl, trivial⟩ ?_
  refine CV.seq ?_
  refine CV.seq ?_
  -- region 1 ref.go:16
  refine CV.region ?_
  refine RV.op (OV.step gno (Step.move rfl) rfl ?_)
  refine RV.op (OV.step gno (Step.lenSl Try.underlying22 rfl) rfl ?_)
  refine RV.op (OV.split gno (Step.gtr rfl rfl) rfl (fun hlong => ?_) (fun hlong => ?_))
  · -- True
    refine RV.nil ?_
    refine KV.then_n ?_
    refine KV.env [(0, _), (10, _)] ⟨rfl, rfl, trivial⟩ ?_
    refine CV.cond_t rfl ?_
    refine CV.seq ?_
    -- region 2 ref.go:17
    refine CV.region ?_
    refine RV.op (OV.step gno (Step.assign rfl) rfl ?_)
    refine RV.op (OV.step gno (Step.assign rfl) rfl ?_)
    refine RV.nil ?_
    refine KV.then_n ?_
    refine KV.env [(2, _), (3, _)] ⟨rfl, rfl, trivial⟩ ?_
    refine CV.ret ?_
    refine KV.then_ret ?_
    -- return at r2
    refine KV.sel [] [] rfl ?_
    have hE : newRE ys = 1 := newRE_long hlong
    exact KV.ret2 rfl rfl rfl _ (fun _ h => h) ⟨fun h0 => absurd h0 (by rw [hE]; decide), fun _ => ⟨by rw [hE], rfl⟩⟩
  · -- False
    refine RV.nil ?_
    refine KV.then_n ?_
    refine KV.env [(0, _), (10, _)] ⟨rfl, rfl, trivial⟩ ?_
    refine CV.cond_f rfl ?_
    refine CV.skip ?_
    refine KV.then_n ?_
    refine KV.env [(0, _)] ⟨rfl, trivial⟩ ?_
    refine CV.seq ?_
    refine CV.seq ?_
    -- region 3 ref.go:19
    refine CV.region ?_
    refine RV.op (OV.step gno (Step.assign rfl) rfl ?_)
    refine RV.nil ?_
    refine KV.then_n ?_
    refine KV.env [(0, _), (4, _)] ⟨rfl, rfl, trivial⟩ ?_
    refine CV.block ?_
    -- loop L4; live [0, 4]
    refine KV.sel [] [] rfl ?_
    refine CV.loopI (α := Nat) (fun j => j ≤ ys.length ∧ ∀ i, i < j → ¬ badR ys.length (ys.getD i railK.d)) (fun j => ys.length - j) (fun j => [(0, .slice A ys.length c), (4, .int .i64 j)]) (fun _ => Hp I w []) 0 ⟨Nat.zero_le _, fun _ h => by omega⟩ ⟨rfl, rfl, trivial⟩ (fun _ h => h) ?_
    intro j hj
    refine CV.seq ?_
    refine CV.seq ?_
    -- region 4 ref.go:19
    refine CV.region ?_
    refine RV.op (OV.step gno (Step.move rfl) rfl ?_)
    refine RV.op (OV.step gno (Step.move rfl) rfl ?_)
    refine RV.op (OV.step gno (Step.lenSl Try.underlying22 rfl) rfl ?_)
    refine RV.op (OV.split gno (Step.lss rfl rfl) rfl (fun hlt2 => ?_) (fun hlt2 => ?_))
    · -- True
      refine RV.nil ?_
      refine KV.then_n ?_
      refine KV.env [(0, _), (4, _), (14, _)] ⟨rfl, rfl, rfl, trivial⟩ ?_
      refine CV.cond_t rfl ?_
      refine CV.skip ?_
      refine KV.then_n ?_
      refine KV.env [(0, _), (4, _)] ⟨rfl, rfl, trivial⟩ ?_
      refine CV.seq ?_
      refine CV.block ?_
      refine CV.seq ?_
      -- region 6 ref.go:20
      refine CV.region ?_
      refine RV.op (OV.step gno (Step.move rfl) rfl ?_)
      refine RV.op (OV.step gno (Step.move rfl) rfl ?_)
      refine RV.op (OV.step gno (Step.idx Try.underlying22 I35 (fun w h => h.rs hr (fun _ => hI _)) rfl rfl (rfl) _ rfl (by omega)) rfl ?_)
      refine RV.op (OV.step gno (Step.fieldAddr rfl (F35_0 _ _)) rfl ?_)
      (first | refine RV.op (OV.step gno (Step.load Try.underlying3 rfl rfl (fun w h => (h.rs hr (fun _ => hI _)).cell (by omega) rfl)) rfl ?_) | refine RV.op (OV.step gno (Step.load Try.underlying3 rfl rfl (fun w h => (h.rs hr (fun _ => hI _)).cell0 (by omega) rfl)) rfl ?_))
      refine RV.op (OV.split gno (Step.lss rfl rfl) rfl (fun cc1 => ?_) (fun cc1 => ?_))
      · -- True
        refine RV.op (OV.step gno (Step.move rfl) rfl ?_)
        refine RV.op (OV.skip rfl rfl ?_)
        refine RV.op (OV.skip rfl rfl ?_)
        refine RV.op (OV.skip rfl rfl ?_)
        refine RV.op (OV.skip rfl rfl ?_)
        refine RV.op (OV.skip rfl rfl ?_)
        refine RV.op (OV.skip rfl rfl ?_)
        refine RV.op (OV.skip rfl rfl ?_)
        refine RV.op (OV.skip rfl rfl ?_)
        refine RV.op (OV.step gno (Step.pick_t rfl rfl) rfl ?_)
        refine RV.op (OV.step gno (Step.move rfl) rfl ?_)
        refine RV.op (OV.skip rfl rfl ?_)
        refine RV.op (OV.skip rfl rfl ?_)
        refine RV.op (OV.skip rfl rfl ?_)
        refine RV.op (OV.skip rfl rfl ?_)
        refine RV.op (OV.skip rfl rfl ?_)
        refine RV.op (OV.skip rfl rfl ?_)
        refine RV.op (OV.step gno (Step.pick_t rfl rfl) rfl ?_)
        refine RV.op (OV.step gno (Step.move rfl) rfl ?_)
        refine RV.op (OV.skip rfl rfl ?_)
        refine RV.op (OV.skip rfl rfl ?_)
        refine RV.op (OV.skip rfl rfl ?_)
        refine RV.op (OV.skip rfl rfl ?_)
        refine RV.op (OV.skip rfl rfl ?_)
        refine RV.op (OV.skip rfl rfl ?_)
        refine RV.op (OV.step gno (Step.pick_t rfl rfl) rfl ?_)
        refine RV.nil ?_
        refine KV.then_n ?_
        refine KV.env [(0, _), (4, _), (48, _)] ⟨rfl, rfl, rfl, trivial⟩ ?_
        refine CV.cond_t rfl ?_
        refine CV.seq ?_
        -- region 7 ref.go:21
        refine CV.region ?_
        refine RV.op (OV.step gno (Step.assign rfl) rfl ?_)
        refine RV.op (OV.step gno (Step.assign rfl) rfl ?_)
        refine RV.nil ?_
        refine KV.then_n ?_
        refine KV.env [(2, _), (3, _)] ⟨rfl, rfl, trivial⟩ ?_
        refine CV.ret ?_
        refine KV.block_ret ?_
        refine KV.then_ret ?_
        refine KV.then_ret ?_
        refine KV.block_ret ?_
        refine KV.then_ret ?_
        -- return at r7
        refine KV.sel [] [] rfl ?_
        have hE : newRE ys = 1 := newRE_bad hlong (j := j) (by omega) (by unfold badR; omega)
        exact KV.ret2 rfl rfl rfl _ (fun _ h => h) ⟨fun h0 => absurd h0 (by rw [hE]; decide), fun _ => ⟨by rw [hE], rfl⟩⟩
      · -- False
        refine RV.op (OV.step gno (Step.move rfl) rfl ?_)
        refine RV.op (OV.step (gyes rfl) (Step.move rfl) rfl ?_)
        refine RV.op (OV.step (gyes rfl) (Step.move rfl) rfl ?_)
        refine RV.op (OV.step (gyes rfl) (Step.idx Try.underlying22 I35 (fun w h => h.rs hr (fun _ => hI _)) rfl rfl (rfl) _ rfl (by omega)) rfl ?_)
        refine RV.op (OV.step (gyes rfl) (Step.fieldAddr rfl (F35_0 _ _)) rfl ?_)
        (first | refine RV.op (OV.step (gyes rfl) (Step.load Try.underlying3 rfl rfl (fun w h => (h.rs hr (fun _ => hI _)).cell (by omega) rfl)) rfl ?_) | refine RV.op (OV.step (gyes rfl) (Step.load Try.underlying3 rfl rfl (fun w h => (h.rs hr (fun _ => hI _)).cell0 (by omega) rfl)) rfl ?_))
        refine RV.op (OV.step (gyes rfl) (Step.move rfl) rfl ?_)
        refine RV.op (OV.step (gyes rfl) (Step.lenSl Try.underlying22 rfl) rfl ?_)
        refine RV.op (OV.split (gyes rfl) (Step.geq rfl rfl) rfl (fun cc2 => ?_) (fun cc2 => ?_))
        · -- True
          refine RV.op (OV.step gno (Step.pick_f rfl rfl) rfl ?_)
          refine RV.op (OV.step gno (Step.move rfl) rfl ?_)
          refine RV.op (OV.skip rfl rfl ?_)
          refine RV.op (OV.skip rfl rfl ?_)
          refine RV.op (OV.skip rfl rfl ?_)
          refine RV.op (OV.skip rfl rfl ?_)
          refine RV.op (OV.skip rfl rfl ?_)
          refine RV.op (OV.skip rfl rfl ?_)
          refine RV.op (OV.step gno (Step.pick_t rfl rfl) rfl ?_)
          refine RV.op (OV.step gno (Step.move rfl) rfl ?_)
          refine RV.op (OV.skip rfl rfl ?_)
          refine RV.op (OV.skip rfl rfl ?_)
          refine RV.op (OV.skip rfl rfl ?_)
          refine RV.op (OV.skip rfl rfl ?_)
          refine RV.op (OV.skip rfl rfl ?_)
          refine RV.op (OV.skip rfl rfl ?_)
          refine RV.op (OV.step gno (Step.pick_t rfl rfl) rfl ?_)
          refine RV.nil ?_
          refine KV.then_n ?_
          refine KV.env [(0, _), (4, _), (48, _)] ⟨rfl, rfl, rfl, trivial⟩ ?_
          refine CV.cond_t rfl ?_
          refine CV.seq ?_
          -- region 7 ref.go:21
          refine CV.region ?_
          refine RV.op (OV.step gno (Step.assign rfl) rfl ?_)
          refine RV.op (OV.step gno (Step.assign rfl) rfl ?_)
          refine RV.nil ?_
          refine KV.then_n ?_
          refine KV.env [(2, _), (3, _)] ⟨rfl, rfl, trivial⟩ ?_
          refine CV.ret ?_
          refine KV.block_ret ?_
          refine KV.then_ret ?_
          refine KV.then_ret ?_
          refine KV.block_ret ?_
          refine KV.then_ret ?_
          -- return at r7
          refine KV.sel [] [] rfl ?_
          have hE : newRE ys = 1 := newRE_bad hlong (j := j) (by omega) (by unfold badR; omega)
          exact KV.ret2 rfl rfl rfl _ (fun _ h => h) ⟨fun h0 => absurd h0 (by rw [hE]; decide), fun _ => ⟨by rw [hE], rfl⟩⟩
        · -- False
          refine RV.op (OV.step gno (Step.pick_f rfl rfl) rfl ?_)
          refine RV.op (OV.step gno (Step.move rfl) rfl ?_)
          refine RV.op (OV.step (gyes rfl) (Step.move rfl) rfl ?_)
          refine RV.op (OV.step (gyes rfl) (Step.move rfl) rfl ?_)
          refine RV.op (OV.step (gyes rfl) (Step.idx Try.underlying22 I35 (fun w h => h.rs hr (fun _ => hI _)) rfl rfl (rfl) _ rfl (by omega)) rfl ?_)
          refine RV.op (OV.step (gyes rfl) (Step.fieldAddr rfl (F35_1 _ _)) rfl ?_)
          (first | refine RV.op (OV.step (gyes rfl) (Step.load Try.underlying33 rfl rfl (fun w h => (h.rs hr (fun _ => hI _)).cell (by omega) rfl)) rfl ?_) | refine RV.op (OV.step (gyes rfl) (Step.load Try.underlying33 rfl rfl (fun w h => (h.rs hr (fun _ => hI _)).cell0 (by omega) rfl)) rfl ?_))
          refine RV.op (OV.split (gyes rfl) (Step.gtr rfl rfl) rfl (fun cc3 => ?_) (fun cc3 => ?_))
          · -- True
            refine RV.op (OV.step gno (Step.pick_f rfl rfl) rfl ?_)
            refine RV.op (OV.step gno (Step.move rfl) rfl ?_)
            refine RV.op (OV.skip rfl rfl ?_)
            refine RV.op (OV.skip rfl rfl ?_)
            refine RV.op (OV.skip rfl rfl ?_)
            refine RV.op (OV.skip rfl rfl ?_)
            refine RV.op (OV.skip rfl rfl ?_)
            refine RV.op (OV.skip rfl rfl ?_)
            refine RV.op (OV.step gno (Step.pick_t rfl rfl) rfl ?_)
            refine RV.nil ?_
            refine KV.then_n ?_
            refine KV.env [(0, _), (4, _), (48, _)] ⟨rfl, rfl, rfl, trivial⟩ ?_
            refine CV.cond_t rfl ?_
            refine CV.seq ?_
            -- region 7 ref.go:21
            refine CV.region ?_
            refine RV.op (OV.step gno (Step.assign rfl) rfl ?_)
            refine RV.op (OV.step gno (Step.assign rfl) rfl ?_)
            refine RV.nil ?_
            refine KV.then_n ?_
            refine KV.env [(2, _), (3, _)] ⟨rfl, rfl, trivial⟩ ?_
            refine CV.ret ?_
            refine KV.block_ret ?_
            refine KV.then_ret ?_
            refine KV.then_ret ?_
            refine KV.block_ret ?_
            refine KV.then_ret ?_
            -- return at r7
            refine KV.sel [] [] rfl ?_
            have hE : newRE ys = 1 := newRE_bad hlong (j := j) (by omega) (by unfold badR; omega)
            exact KV.ret2 rfl rfl rfl _ (fun _ h => h) ⟨fun h0 => absurd h0 (by rw [hE]; decide), fun _ => ⟨by rw [hE], rfl⟩⟩
          · -- False
            refine RV.op (OV.step gno (Step.pick_f rfl rfl) rfl ?_)
            refine RV.op (OV.step gno (Step.move rfl) rfl ?_)
            refine RV.op (OV.step (gyes rfl) (Step.move rfl) rfl ?_)
            refine RV.op (OV.step (gyes rfl) (Step.move rfl) rfl ?_)
            refine RV.op (OV.step (gyes rfl) (Step.idx Try.underlying22 I35 (fun w h => h.rs hr (fun _ => hI _)) rfl rfl (rfl) _ rfl (by omega)) rfl ?_)
            refine RV.op (OV.step (gyes rfl) (Step.fieldAddr rfl (F35_2 _ _)) rfl ?_)
            (first | refine RV.op (OV.step (gyes rfl) (Step.load Try.underlying33 rfl rfl (fun w h => (h.rs hr (fun _ => hI _)).cell (by omega) rfl)) rfl ?_) | refine RV.op (OV.step (gyes rfl) (Step.load Try.underlying33 rfl rfl (fun w h => (h.rs hr (fun _ => hI _)).cell0 (by omega) rfl)) rfl ?_))
            refine RV.op (OV.split (gyes rfl) (Step.gtr rfl rfl) rfl (fun cc4 => ?_) (fun cc4 => ?_))
            · -- True
              refine RV.op (OV.step gno (Step.pick_f rfl rfl) rfl ?_)
              refine RV.nil ?_
              refine KV.then_n ?_
              refine KV.env [(0, _), (4, _), (48, _)] ⟨rfl, rfl, rfl, trivial⟩ ?_
              refine CV.cond_t rfl ?_
              refine CV.seq ?_
              -- region 7 ref.go:21
              refine CV.region ?_
              refine RV.op (OV.step gno (Step.assign rfl) rfl ?_)
              refine RV.op (OV.step gno (Step.assign rfl) rfl ?_)
              refine RV.nil ?_
              refine KV.then_n ?_
              refine KV.env [(2, _), (3, _)] ⟨rfl, rfl, trivial⟩ ?_
              refine CV.ret ?_
              refine KV.block_ret ?_
              refine KV.then_ret ?_
              refine KV.then_ret ?_
              refine KV.block_ret ?_
              refine KV.then_ret ?_
              -- return at r7
              refine KV.sel [] [] rfl ?_
              have hE : newRE ys = 1 := newRE_bad hlong (j := j) (by omega) (by unfold badR; omega)
              exact KV.ret2 rfl rfl rfl _ (fun _ h => h) ⟨fun h0 => absurd h0 (by rw [hE]; decide), fun _ => ⟨by rw [hE], rfl⟩⟩
            · -- False
              refine RV.op (OV.step gno (Step.pick_f rfl rfl) rfl ?_)
              refine RV.nil ?_
              refine KV.then_n ?_
              refine KV.env [(0, _), (4, _), (48, _)] ⟨rfl, rfl, rfl, trivial⟩ ?_
              refine CV.cond_f rfl ?_
              refine CV.skip ?_
              refine KV.block_n ?_
              refine KV.then_n ?_
              refine KV.env [(0, _), (4, _)] ⟨rfl, rfl, trivial⟩ ?_
              -- region 5 ref.go:19
              refine CV.region ?_
              refine RV.op (OV.step gno (Step.move rfl) rfl ?_)
              (first | refine RV.op (OV.step gno (Step.add rfl rfl (wI64 (by omega) (by omega))) rfl ?_) | refine RV.op (OV.step gno (Step.add rfl rfl rfl) rfl ?_))
              refine RV.op (OV.step gno (Step.assign rfl) rfl ?_)
              refine RV.nil ?_
              refine KV.then_n ?_
              refine KV.env [(0, _), (4, _)] ⟨rfl, rfl, trivial⟩ ?_
              refine KV.sel [] [] rfl ?_
              have hnb : ¬ badR ys.length (ys.getD j railK.d) := by unfold badR; omega
              refine KV.loopI (j + 1) ⟨by omega, fun i hi => by by_cases e : i = j; (subst e; exact hnb); exact hj.2 i (by omega)⟩ (by omega) ⟨rfl, rfl, trivial⟩ (fun _ h => h)
    · -- False
      obtain rfl : j = ys.length := by omega
      refine RV.nil ?_
      refine KV.then_n ?_
      refine KV.env [(0, _), (4, _), (14, _)] ⟨rfl, rfl, rfl, trivial⟩ ?_
      refine CV.cond_f rfl ?_
      refine CV.exit ?_
      refine KV.then_exit ?_
      refine KV.then_exit ?_
      refine KV.block_hit ?_
      refine KV.then_n ?_
      refine KV.env [(0, _)] ⟨rfl, trivial⟩ ?_
      refine CV.seq ?_
      refine CV.seq ?_
      -- region 8 ref.go:24
      refine CV.region ?_
      refine RV.op (OV.step gno (Step.assign rfl) rfl ?_)
      refine RV.nil ?_
      refine KV.then_n ?_
      refine KV.env [(0, _), (5, _)] ⟨rfl, rfl, trivial⟩ ?_
      refine CV.block ?_
      -- loop L9; live [0, 5]
      refine KV.sel [] [] rfl ?_
      refine CV.loopI (α := Nat) (fun j => j ≤ ys.length ∧ ∀ i, i < j → itM ys i ys.length < 0) (fun j => ys.length - j) (fun j => [(0, .slice A ys.length c), (5, .int .i64 j)]) (fun _ => Hp I w []) 0 ⟨Nat.zero_le _, fun _ h => by omega⟩ ⟨rfl, rfl, trivial⟩ (fun _ h => h) ?_
      intro i hi
      refine CV.seq ?_
      refine CV.seq ?_
      -- region 9 ref.go:24
      refine CV.region ?_
      refine RV.op (OV.step gno (Step.move rfl) rfl ?_)
      refine RV.op (OV.step gno (Step.move rfl) rfl ?_)
      refine RV.op (OV.step gno (Step.lenSl Try.underlying22 rfl) rfl ?_)
      refine RV.op (OV.split gno (Step.lss rfl rfl) rfl (fun hlt3 => ?_) (fun hlt3 => ?_))
      · -- True
        refine RV.nil ?_
        refine KV.then_n ?_
        refine KV.env [(0, _), (5, _), (52, _)] ⟨rfl, rfl, rfl, trivial⟩ ?_
        refine CV.cond_t rfl ?_
        refine CV.skip ?_
        refine KV.then_n ?_
        refine KV.env [(0, _), (5, _)] ⟨rfl, rfl, trivial⟩ ?_
        refine CV.seq ?_
        refine CV.block ?_
        refine CV.seq ?_
        -- region 11 ref.go:25
        refine CV.region ?_
        refine RV.op (OV.step gno (Step.move rfl) rfl ?_)
        refine RV.op (OV.step gno (Step.assign rfl) rfl ?_)
        refine RV.nil ?_
        refine KV.then_n ?_
        refine KV.env [(0, _), (5, _), (6, _)] ⟨rfl, rfl, rfl, trivial⟩ ?_
        refine CV.seq ?_
        refine CV.seq ?_
        -- region 12 ref.go:26
        refine CV.region ?_
        refine RV.op (OV.step gno (Step.assign rfl) rfl ?_)
        refine RV.nil ?_
        refine KV.then_n ?_
        refine KV.env [(0, _), (5, _), (6, _), (7, _)] ⟨rfl, rfl, rfl, rfl, trivial⟩ ?_
        refine CV.block ?_
        -- loop L13; live [0, 5, 6, 7]
        refine KV.sel [] [] rfl ?_
        refine CV.loopI (α := Nat) (fun k => k ≤ ys.length) (fun k => ys.length - k) (fun k => [(0, .slice A ys.length c), (5, .int .i64 i), (6, .int .i64 (itM ys i k)), (7, .int .i64 k)]) (fun _ => Hp I w []) 0 (Nat.zero_le _) ⟨rfl, rfl, rfl, rfl, trivial⟩ (fun _ h => h) ?_
        intro k hk
        refine CV.seq ?_
        refine CV.seq ?_
        -- region 13 ref.go:26
        refine CV.region ?_
        refine RV.op (OV.step gno (Step.move rfl) rfl ?_)
        refine RV.op (OV.step gno (Step.move rfl) rfl ?_)
        refine RV.op (OV.step gno (Step.lenSl Try.underlying22 rfl) rfl ?_)
        refine RV.op (OV.split gno (Step.lss rfl rfl) rfl (fun hlk => ?_) (fun hlk => ?_))
        · -- True
          refine RV.op (OV.step gno (Step.move rfl) rfl ?_)
          refine RV.op (OV.step (gyes rfl) (Step.move rfl) rfl ?_)
          refine RV.op (OV.split (gyes rfl) (Step.geq rfl rfl) rfl (fun hat => ?_) (fun hat => ?_))
          · -- True
            refine RV.op (OV.step gno (Step.pick_t rfl rfl) rfl ?_)
            refine RV.nil ?_
            refine KV.then_n ?_
            refine KV.env [(0, _), (5, _), (6, _), (7, _), (63, _)] ⟨rfl, rfl, rfl, rfl, rfl, trivial⟩ ?_
            refine CV.cond_t rfl ?_
            refine CV.skip ?_
            refine KV.then_n ?_
            refine KV.env [(0, _), (5, _), (6, _), (7, _)] ⟨rfl, rfl, rfl, rfl, trivial⟩ ?_
            refine CV.seq ?_
            refine CV.block ?_
            -- region 15 ref.go:27
            obtain ⟨m, hm2⟩ := Int.eq_ofNat_of_zero_le hat
            have hm3 := itM_lt (rails := ys) (i := i) (by omega) hj.2 k
            rw [hm2] at hm3
            rw [hm2]
            refine CV.region ?_
            refine RV.op (OV.step gno (Step.move rfl) rfl ?_)
            refine RV.op (OV.step gno (Step.move rfl) rfl ?_)
            refine RV.op (OV.step gno (Step.idx Try.underlying22 I35 (fun w h => h.rs hr (fun _ => hI _)) rfl rfl (rfl) _ rfl (by omega)) rfl ?_)
            refine RV.op (OV.step gno (Step.fieldAddr rfl (F35_0 _ _)) rfl ?_)
            (first | refine RV.op (OV.step gno (Step.load Try.underlying3 rfl rfl (fun w h => (h.rs hr (fun _ => hI _)).cell (by omega) rfl)) rfl ?_) | refine RV.op (OV.step gno (Step.load Try.underlying3 rfl rfl (fun w h => (h.rs hr (fun _ => hI _)).cell0 (by omega) rfl)) rfl ?_))
            refine RV.op (OV.step gno (Step.assign rfl) rfl ?_)
            refine RV.nil ?_
            refine KV.block_n ?_
            refine KV.then_n ?_
            refine KV.env [(0, _), (5, _), (6, _), (7, _)] ⟨rfl, rfl, rfl, rfl, trivial⟩ ?_
            -- region 14 ref.go:26
            refine CV.region ?_
            refine RV.op (OV.step gno (Step.move rfl) rfl ?_)
            (first | refine RV.op (OV.step gno (Step.add rfl rfl (wI64 (by omega) (by omega))) rfl ?_) | refine RV.op (OV.step gno (Step.add rfl rfl rfl) rfl ?_))
            refine RV.op (OV.step gno (Step.assign rfl) rfl ?_)
            refine RV.nil ?_
            refine KV.then_n ?_
            refine KV.env [(0, _), (5, _), (6, _), (7, _)] ⟨rfl, rfl, rfl, rfl, trivial⟩ ?_
            refine KV.sel [] [] rfl ?_
            refine KV.loopI (k + 1) (by omega) (by omega) ⟨rfl, rfl, by rw [itM_pos hm2]; rfl, rfl, trivial⟩ (fun _ h => h)
          · -- False
            have hfin : itM ys i ys.length = itM ys i k := by have := itM_stay (rails := ys) (i := i) (k := k) (by omega) (ys.length - k); rw [show k + (ys.length - k) = ys.length from by omega] at this; exact this
            refine RV.op (OV.step gno (Step.pick_t rfl rfl) rfl ?_)
            refine RV.nil ?_
            refine KV.then_n ?_
            refine KV.env [(0, _), (5, _), (6, _), (7, _), (63, _)] ⟨rfl, rfl, rfl, rfl, rfl, trivial⟩ ?_
            refine CV.cond_f rfl ?_
            refine CV.exit ?_
            refine KV.then_exit ?_
            refine KV.then_exit ?_
            refine KV.block_hit ?_
            refine KV.then_n ?_
            refine KV.env [(0, _), (5, _), (6, _)] ⟨rfl, rfl, rfl, trivial⟩ ?_
            refine CV.seq ?_
            -- region 16 ref.go:29
            refine CV.region ?_
            refine RV.op (OV.step gno (Step.move rfl) rfl ?_)
            refine RV.op (OV.split gno (Step.geq rfl rfl) rfl (fun hc => ?_) (fun hc => ?_))
            · -- True
              refine RV.nil ?_
              refine KV.then_n ?_
              refine KV.env [(0, _), (5, _), (72, _)] ⟨rfl, rfl, rfl, trivial⟩ ?_
              refine CV.cond_t rfl ?_
              refine CV.seq ?_
              -- region 17 ref.go:30
              refine CV.region ?_
              refine RV.op (OV.step gno (Step.assign rfl) rfl ?_)
              refine RV.op (OV.step gno (Step.assign rfl) rfl ?_)
              refine RV.nil ?_
              refine KV.then_n ?_
              refine KV.env [(2, _), (3, _)] ⟨rfl, rfl, trivial⟩ ?_
              refine CV.ret ?_
              refine KV.block_ret ?_
              refine KV.then_ret ?_
              refine KV.then_ret ?_
              refine KV.block_ret ?_
              refine KV.then_ret ?_
              -- return at r17
              refine KV.sel [] [] rfl ?_
              have hE : newRE ys = 18 := newRE_cyc hlong hj.2 (j := i) (by omega) (by omega)
              exact KV.ret2 rfl rfl rfl _ (fun _ h => h) ⟨fun h0 => absurd h0 (by rw [hE]; decide), fun _ => ⟨by rw [hE], rfl⟩⟩
            · -- False
              refine RV.nil ?_
              refine KV.then_n ?_
              refine KV.env [(0, _), (5, _), (72, _)] ⟨rfl, rfl, rfl, trivial⟩ ?_
              refine CV.cond_f rfl ?_
              refine CV.skip ?_
              refine KV.block_n ?_
              refine KV.then_n ?_
              refine KV.env [(0, _), (5, _)] ⟨rfl, rfl, trivial⟩ ?_
              -- region 10 ref.go:24
              refine CV.region ?_
              refine RV.op (OV.step gno (Step.move rfl) rfl ?_)
              (first | refine RV.op (OV.step gno (Step.add rfl rfl (wI64 (by omega) (by omega))) rfl ?_) | refine RV.op (OV.step gno (Step.add rfl rfl rfl) rfl ?_))
              refine RV.op (OV.step gno (Step.assign rfl) rfl ?_)
              refine RV.nil ?_
              refine KV.then_n ?_
              refine KV.env [(0, _), (5, _)] ⟨rfl, rfl, trivial⟩ ?_
              refine KV.sel [] [] rfl ?_
              refine KV.loopI (i + 1) ⟨by omega, fun e he => by by_cases e2 : e = i; (subst e2; omega); exact hi.2 e (by omega)⟩ (by omega) ⟨rfl, rfl, trivial⟩ (fun _ h => h)
        · -- False
          have hfin : itM ys i ys.length = itM ys i k := by rw [show k = ys.length from by omega]
          refine RV.op (OV.step gno (Step.move rfl) rfl ?_)
          refine RV.op (OV.skip rfl rfl ?_)
          refine RV.op (OV.skip rfl rfl ?_)
          refine RV.op (OV.step gno (Step.pick_f rfl rfl) rfl ?_)
          refine RV.nil ?_
          refine KV.then_n ?_
          refine KV.env [(0, _), (5, _), (6, _), (7, _), (63, _)] ⟨rfl, rfl, rfl, rfl, rfl, trivial⟩ ?_
          refine CV.cond_f rfl ?_
          refine CV.exit ?_
          refine KV.then_exit ?_
          refine KV.then_exit ?_
          refine KV.block_hit ?_
          refine KV.then_n ?_
          refine KV.env [(0, _), (5, _), (6, _)] ⟨rfl, rfl, rfl, trivial⟩ ?_
          refine CV.seq ?_
          -- region 16 ref.go:29
          refine CV.region ?_
          refine RV.op (OV.step gno (Step.move rfl) rfl ?_)
          refine RV.op (OV.split gno (Step.geq rfl rfl) rfl (fun hc => ?_) (fun hc => ?_))
          · -- True
            refine RV.nil ?_
            refine KV.then_n ?_
            refine KV.env [(0, _), (5, _), (72, _)] ⟨rfl, rfl, rfl, trivial⟩ ?_
            refine CV.cond_t rfl ?_
            refine CV.seq ?_
            -- region 17 ref.go:30
            refine CV.region ?_
            refine RV.op (OV.step gno (Step.assign rfl) rfl ?_)
            refine RV.op (OV.step gno (Step.assign rfl) rfl ?_)
            refine RV.nil ?_
            refine KV.then_n ?_
            refine KV.env [(2, _), (3, _)] ⟨rfl, rfl, trivial⟩ ?_
            refine CV.ret ?_
            refine KV.block_ret ?_
            refine KV.then_ret ?_
            refine KV.then_ret ?_
            refine KV.block_ret ?_
            refine KV.then_ret ?_
            -- return at r17
            refine KV.sel [] [] rfl ?_
            have hE : newRE ys = 18 := newRE_cyc hlong hj.2 (j := i) (by omega) (by omega)
            exact KV.ret2 rfl rfl rfl _ (fun _ h => h) ⟨fun h0 => absurd h0 (by rw [hE]; decide), fun _ => ⟨by rw [hE], rfl⟩⟩
          · -- False
            refine RV.nil ?_
            refine KV.then_n ?_
            refine KV.env [(0, _), (5, _), (72, _)] ⟨rfl, rfl, rfl, trivial⟩ ?_
            refine CV.cond_f rfl ?_
            refine CV.skip ?_
            refine KV.block_n ?_
            refine KV.then_n ?_
            refine KV.env [(0, _), (5, _)] ⟨rfl, rfl, trivial⟩ ?_
            -- region 10 ref.go:24
            refine CV.region ?_
            refine RV.op (OV.step gno (Step.move rfl) rfl ?_)
            (first | refine RV.op (OV.step gno (Step.add rfl rfl (wI64 (by omega) (by omega))) rfl ?_) | refine RV.op (OV.step gno (Step.add rfl rfl rfl) rfl ?_))
            refine RV.op (OV.step gno (Step.assign rfl) rfl ?_)
            refine RV.nil ?_
            refine KV.then_n ?_
            refine KV.env [(0, _), (5, _)] ⟨rfl, rfl, trivial⟩ ?_
            refine KV.sel [] [] rfl ?_
            refine KV.loopI (i + 1) ⟨by omega, fun e he => by by_cases e2 : e = i; (subst e2; omega); exact hi.2 e (by omega)⟩ (by omega) ⟨rfl, rfl, trivial⟩ (fun _ h => h)
      · -- False
        obtain rfl : i = ys.length := by omega
        refine RV.nil ?_
        refine KV.then_n ?_
        refine KV.env [(0, _), (5, _), (52, _)] ⟨rfl, rfl, rfl, trivial⟩ ?_
        refine CV.cond_f rfl ?_
        refine CV.exit ?_
        refine KV.then_exit ?_
        refine KV.then_exit ?_
        refine KV.block_hit ?_
        refine KV.then_n ?_
        refine KV.env [(0, _)] ⟨rfl, trivial⟩ ?_
        refine CV.seq ?_
        -- region 18 ref.go:33
        refine CV.any (Hp I w []) (by kernel_rfl) (fun _ h => h.drew) 13 rfl ?_
        refine AV.take 1 #[false, true, false, false, false, false, false, false, false, false, false, false, false] rfl (by kernel_rfl) (by kernel_rfl) (by kernel_rfl) (fun _ _ _ h => h) gno (Step.move rfl) rfl (fun _ h => h.sel [] rfl) (by kernel_rfl) ?_
        refine AV.take 3 #[false, true, false, true, false, false, false, false, false, false, false, false, false] rfl (by kernel_rfl) (by kernel_rfl) (by kernel_rfl) (fun _ _ _ h => h) gno (Step.move rfl) rfl (fun _ h => h.sel [] rfl) (by kernel_rfl) ?_
        refine AV.take 4 #[false, true, false, true, true, false, false, false, false, false, false, false, false] rfl (by kernel_rfl) (by kernel_rfl) (by kernel_rfl) (fun _ _ _ h => h) gno (Step.lenSl Try.underlying22 rfl) rfl (fun _ h => h.sel [] rfl) (by kernel_rfl) ?_
        refine AV.take 6 #[false, true, false, true, true, false, true, false, false, false, false, false, false] rfl (by kernel_rfl) (by kernel_rfl) (by kernel_rfl) (fun _ _ _ h => h) gno (Step.move rfl) rfl (fun _ h => h.sel [] rfl) (by kernel_rfl) ?_
        refine AV.take 7 #[false, true, false, true, true, false, true, true, false, false, false, false, false] rfl (by kernel_rfl) (by kernel_rfl) (by kernel_rfl) (fun _ _ _ h => h) gno (Step.lenSl Try.underlying22 rfl) rfl (fun _ h => h.sel [] rfl) (by kernel_rfl) ?_
        refine AV.all [0, 5, 8] (by kernel_rfl) (by decide) ?_
        refine ⟨⟨_, rfl, ?_⟩, ⟨⟨_, rfl, ?_⟩, ⟨⟨_, rfl, ?_⟩, trivial⟩⟩⟩
        · -- 0 comes up
          refine OV.buildSlice (K := railK) ([]) rfl (Bs22_0_) rfl rfl (by omega) gno rfl (fun b18_0 => ?_)
          refine AV.next #[true, true, false, true, true, false, true, true, false, false, false, false, false] (by kernel_rfl) (fun _ h => h.sel [] rfl) ?_
          refine AV.all [2, 5, 8] (by kernel_rfl) (by decide) ?_
          refine ⟨⟨_, rfl, ?_⟩, ⟨⟨_, rfl, ?_⟩, ⟨⟨_, rfl, ?_⟩, trivial⟩⟩⟩
          · -- 2 comes up
            refine OV.append 0 Try.underlying22 I35 rfl rfl rfl rfl rfl rfl (fun w h => h.rs hr (fun _ => hI _)) (by simp only [List.length_nil]; omega) (by simp only [List.length_nil]; omega) gno rfl (fun b18_2a b18_2c => ?_)
            refine AV.next #[true, true, true, true, true, false, true, true, false, false, false, false, false] (by kernel_rfl) (fun _ h => h.sel [] rfl) ?_
            refine AV.all [5, 8] (by kernel_rfl) (by decide) ?_
            refine ⟨⟨_, rfl, ?_⟩, ⟨⟨_, rfl, ?_⟩, trivial⟩⟩
            · -- 5 comes up
              refine OV.make (K := intK .i64) (ys.length) (ys.length) (0) Try.underlying57 I3 rfl rfl rfl rfl rfl (by omega) (by omega) (by omega) gno rfl (fun b18_5 => ?_)
              refine AV.next #[true, true, true, true, true, true, true, true, false, false, false, false, false] (by kernel_rfl) (fun _ h => h.sel [] rfl) ?_
              refine AV.all [8] (by kernel_rfl) (by decide) ?_
              refine ⟨⟨_, rfl, ?_⟩, trivial⟩
              · -- 8 comes up
                refine OV.make (K := intK .u64) (ys.length) (ys.length) (0) Try.underlying43 I33 rfl rfl rfl rfl rfl (by omega) (by omega) (by omega) gno rfl (fun b18_8 => ?_)
                refine AV.next #[true, true, true, true, true, true, true, true, true, false, false, false, false] (by kernel_rfl) (fun _ h => h.sel [] rfl) ?_
                refine AV.take 9 #[true, true, true, true, true, true, true, true, true, true, false, false, false] rfl (by kernel_rfl) (by kernel_rfl) (by kernel_rfl) (fun _ _ _ h => h) gno (Step.build rfl (Bd59_0_1_2 _ _ _ _ _ _ _ _ _)) rfl (fun _ h => h.sel [] rfl) (by kernel_rfl) ?_
                refine AV.all [10] (by kernel_rfl) (by decide) ?_
                refine ⟨⟨_, rfl, ?_⟩, trivial⟩
                · -- 10 comes up
                  refine OV.box (t := 59) #[_, _, _, _] rfl rfl gno rfl (fun b18_10 => ?_)
                  refine AV.next #[true, true, true, true, true, true, true, true, true, true, true, false, false] (by kernel_rfl) (fun _ h => h.sel [] rfl) ?_
                  refine AV.take 11 #[true, true, true, true, true, true, true, true, true, true, true, true, false] rfl (by kernel_rfl) (by kernel_rfl) (by kernel_rfl) (fun _ _ _ h => h) gno (Step.assign rfl) rfl (fun _ h => h.sel [] rfl) (by kernel_rfl) ?_
                  refine AV.take 12 #[true, true, true, true, true, true, true, true, true, true, true, true, true] rfl (by kernel_rfl) (by kernel_rfl) (by kernel_rfl) (fun _ _ _ h => h) gno (Step.assign rfl) rfl (fun _ h => h.sel [] rfl) (by kernel_rfl) ?_
                  refine AV.done (by kernel_rfl) ?_
                  refine KV.then_n ?_
                  refine KV.env [(2, _), (3, _)] ⟨rfl, rfl, trivial⟩ ?_
                  refine CV.ret ?_
                  -- return at r18
                  refine KV.sel [3, 0, 0, 0] [_, _, _, _] rfl ?_
                  have hE : newRE ys = 0 := newRE_ok hlong hj.2 hi.2
                  exact KV.ret2 rfl rfl rfl _ (fun _ h => h) ⟨fun _ => ⟨_, ⟨_, _, _, _, _, _⟩, rfl, rfl⟩, fun h0 => absurd hE h0⟩
            · -- 8 comes up
              refine OV.make (K := intK .u64) (ys.length) (ys.length) (0) Try.underlying43 I33 rfl rfl rfl rfl rfl (by omega) (by omega) (by omega) gno rfl (fun b18_8 => ?_)
              refine AV.next #[true, true, true, true, true, false, true, true, true, false, false, false, false] (by kernel_rfl) (fun _ h => h.sel [] rfl) ?_
              refine AV.all [5] (by kernel_rfl) (by decide) ?_
              refine ⟨⟨_, rfl, ?_⟩, trivial⟩
              · -- 5 comes up
                refine OV.make (K := intK .i64) (ys.length) (ys.length) (0) Try.underlying57 I3 rfl rfl rfl rfl rfl (by omega) (by omega) (by omega) gno rfl (fun b18_5 => ?_)
                refine AV.next #[true, true, true, true, true, true, true, true, true, false, false, false, false] (by kernel_rfl) (fun _ h => h.sel [] rfl) ?_
                refine AV.take 9 #[true, true, true, true, true, true, true, true, true, true, false, false, false] rfl (by kernel_rfl) (by kernel_rfl) (by kernel_rfl) (fun _ _ _ h => h) gno (Step.build rfl (Bd59_0_1_2 _ _ _ _ _ _ _ _ _)) rfl (fun _ h => h.sel [] rfl) (by kernel_rfl) ?_
                refine AV.all [10] (by kernel_rfl) (by decide) ?_
                refine ⟨⟨_, rfl, ?_⟩, trivial⟩
                · -- 10 comes up
                  refine OV.box (t := 59) #[_, _, _, _] rfl rfl gno rfl (fun b18_10 => ?_)
                  refine AV.next #[true, true, true, true, true, true, true, true, true, true, true, false, false] (by kernel_rfl) (fun _ h => h.sel [] rfl) ?_
                  refine AV.take 11 #[true, true, true, true, true, true, true, true, true, true, true, true, false] rfl (by kernel_rfl) (by kernel_rfl) (by kernel_rfl) (fun _ _ _ h => h) gno (Step.assign rfl) rfl (fun _ h => h.sel [] rfl) (by kernel_rfl) ?_
                  refine AV.take 12 #[true, true, true, true, true, true, true, true, true, true, true, true, true] rfl (by kernel_rfl) (by kernel_rfl) (by kernel_rfl) (fun _ _ _ h => h) gno (Step.assign rfl) rfl (fun _ h => h.sel [] rfl) (by kernel_rfl) ?_
                  refine AV.done (by kernel_rfl) ?_
                  refine KV.then_n ?_
                  refine KV.env [(2, _), (3, _)] ⟨rfl, rfl, trivial⟩ ?_
                  refine CV.ret ?_
                  -- return at r18
                  refine KV.sel [3, 0, 1, 0] [_, _, _, _] rfl ?_
                  have hE : newRE ys = 0 := newRE_ok hlong hj.2 hi.2
                  exact KV.ret2 rfl rfl rfl _ (fun _ h => h) ⟨fun _ => ⟨_, ⟨_, _, _, _, _, _⟩, rfl, rfl⟩, fun h0 => absurd hE h0⟩
          · -- 5 comes up
            refine OV.make (K := intK .i64) (ys.length) (ys.length) (0) Try.underlying57 I3 rfl rfl rfl rfl rfl (by omega) (by omega) (by omega) gno rfl (fun b18_5 => ?_)
            refine AV.next #[true, true, false, true, true, true, true, true, false, false, false, false, false] (by kernel_rfl) (fun _ h => h.sel [] rfl) ?_
            refine AV.all [2, 8] (by kernel_rfl) (by decide) ?_
            refine ⟨⟨_, rfl, ?_⟩, ⟨⟨_, rfl, ?_⟩, trivial⟩⟩
            · -- 2 comes up
              refine OV.append 0 Try.underlying22 I35 rfl rfl rfl rfl rfl rfl (fun w h => h.rs hr (fun _ => hI _)) (by simp only [List.length_nil]; omega) (by simp only [List.length_nil]; omega) gno rfl (fun b18_2a b18_2c => ?_)
              refine AV.next #[true, true, true, true, true, true, true, true, false, false, false, false, false] (by kernel_rfl) (fun _ h => h.sel [] rfl) ?_
              refine AV.all [8] (by kernel_rfl) (by decide) ?_
              refine ⟨⟨_, rfl, ?_⟩, trivial⟩
              · -- 8 comes up
                refine OV.make (K := intK .u64) (ys.length) (ys.length) (0) Try.underlying43 I33 rfl rfl rfl rfl rfl (by omega) (by omega) (by omega) gno rfl (fun b18_8 => ?_)
                refine AV.next #[true, true, true, true, true, true, true, true, true, false, false, false, false] (by kernel_rfl) (fun _ h => h.sel [] rfl) ?_
                refine AV.take 9 #[true, true, true, true, true, true, true, true, true, true, false, false, false] rfl (by kernel_rfl) (by kernel_rfl) (by kernel_rfl) (fun _ _ _ h => h) gno (Step.build rfl (Bd59_0_1_2 _ _ _ _ _ _ _ _ _)) rfl (fun _ h => h.sel [] rfl) (by kernel_rfl) ?_
                refine AV.all [10] (by kernel_rfl) (by decide) ?_
                refine ⟨⟨_, rfl, ?_⟩, trivial⟩
                · -- 10 comes up
                  refine OV.box (t := 59) #[_, _, _, _] rfl rfl gno rfl (fun b18_10 => ?_)
                  refine AV.next #[true, true, true, true, true, true, true, true, true, true, true, false, false] (by kernel_rfl) (fun _ h => h.sel [] rfl) ?_
                  refine AV.take 11 #[true, true, true, true, true, true, true, true, true, true, true, true, false] rfl (by kernel_rfl) (by kernel_rfl) (by kernel_rfl) (fun _ _ _ h => h) gno (Step.assign rfl) rfl (fun _ h => h.sel [] rfl) (by kernel_rfl) ?_
                  refine AV.take 12 #[true, true, true, true, true, true, true, true, true, true, true, true, true] rfl (by kernel_rfl) (by kernel_rfl) (by kernel_rfl) (fun _ _ _ h => h) gno (Step.assign rfl) rfl (fun _ h => h.sel [] rfl) (by kernel_rfl) ?_
                  refine AV.done (by kernel_rfl) ?_
                  refine KV.then_n ?_
                  refine KV.env [(2, _), (3, _)] ⟨rfl, rfl, trivial⟩ ?_
                  refine CV.ret ?_
                  -- return at r18
                  refine KV.sel [3, 0, 0, 0] [_, _, _, _] rfl ?_
                  have hE : newRE ys = 0 := newRE_ok hlong hj.2 hi.2
                  exact KV.ret2 rfl rfl rfl _ (fun _ h => h) ⟨fun _ => ⟨_, ⟨_, _, _, _, _, _⟩, rfl, rfl⟩, fun h0 => absurd hE h0⟩
            · -- 8 comes up
              refine OV.make (K := intK .u64) (ys.length) (ys.length) (0) Try.underlying43 I33 rfl rfl rfl rfl rfl (by omega) (by omega) (by omega) gno rfl (fun b18_8 => ?_)
              refine AV.next #[true, true, false, true, true, true, true, true, true, false, false, false, false] (by kernel_rfl) (fun _ h => h.sel [] rfl) ?_
              refine AV.all [2] (by kernel_rfl) (by decide) ?_
              refine ⟨⟨_, rfl, ?_⟩, trivial⟩
              · -- 2 comes up
                refine OV.append 0 Try.underlying22 I35 rfl rfl rfl rfl rfl rfl (fun w h => h.rs hr (fun _ => hI _)) (by simp only [List.length_nil]; omega) (by simp only [List.length_nil]; omega) gno rfl (fun b18_2a b18_2c => ?_)
                refine AV.next #[true, true, true, true, true, true, true, true, true, false, false, false, false] (by kernel_rfl) (fun _ h => h.sel [] rfl) ?_
                refine AV.take 9 #[true, true, true, true, true, true, true, true, true, true, false, false, false] rfl (by kernel_rfl) (by kernel_rfl) (by kernel_rfl) (fun _ _ _ h => h) gno (Step.build rfl (Bd59_0_1_2 _ _ _ _ _ _ _ _ _)) rfl (fun _ h => h.sel [] rfl) (by kernel_rfl) ?_
                refine AV.all [10] (by kernel_rfl) (by decide) ?_
                refine ⟨⟨_, rfl, ?_⟩, trivial⟩
                · -- 10 comes up
                  refine OV.box (t := 59) #[_, _, _, _] rfl rfl gno rfl (fun b18_10 => ?_)
                  refine AV.next #[true, true, true, true, true, true, true, true, true, true, true, false, false] (by kernel_rfl) (fun _ h => h.sel [] rfl) ?_
                  refine AV.take 11 #[true, true, true, true, true, true, true, true, true, true, true, true, false] rfl (by kernel_rfl) (by kernel_rfl) (by kernel_rfl) (fun _ _ _ h => h) gno (Step.assign rfl) rfl (fun _ h => h.sel [] rfl) (by kernel_rfl) ?_
                  refine AV.take 12 #[true, true, true, true, true, true, true, true, true, true, true, true, true] rfl (by kernel_rfl) (by kernel_rfl) (by kernel_rfl) (fun _ _ _ h => h) gno (Step.assign rfl) rfl (fun _ h => h.sel [] rfl) (by kernel_rfl) ?_
                  refine AV.done (by kernel_rfl) ?_
                  refine KV.then_n ?_
                  refine KV.env [(2, _), (3, _)] ⟨rfl, rfl, trivial⟩ ?_
                  refine CV.ret ?_
                  -- return at r18
                  refine KV.sel [3, 0, 0, 0] [_, _, _, _] rfl ?_
                  have hE : newRE ys = 0 := newRE_ok hlong hj.2 hi.2
                  exact KV.ret2 rfl rfl rfl _ (fun _ h => h) ⟨fun _ => ⟨_, ⟨_, _, _, _, _, _⟩, rfl, rfl⟩, fun h0 => absurd hE h0⟩
          · -- 8 comes up
            refine OV.make (K := intK .u64) (ys.length) (ys.length) (0) Try.underlying43 I33 rfl rfl rfl rfl rfl (by omega) (by omega) (by omega) gno rfl (fun b18_8 => ?_)
            refine AV.next #[true, true, false, true, true, false, true, true, true, false, false, false, false] (by kernel_rfl) (fun _ h => h.sel [] rfl) ?_
            refine AV.all [2, 5] (by kernel_rfl) (by decide) ?_
            refine ⟨⟨_, rfl, ?_⟩, ⟨⟨_, rfl, ?_⟩, trivial⟩⟩
            · -- 2 comes up
              refine OV.append 0 Try.underlying22 I35 rfl rfl rfl rfl rfl rfl (fun w h => h.rs hr (fun _ => hI _)) (by simp only [List.length_nil]; omega) (by simp only [List.length_nil]; omega) gno rfl (fun b18_2a b18_2c => ?_)
              refine AV.next #[true, true, true, true, true, false, true, true, true, false, false, false, false] (by kernel_rfl) (fun _ h => h.sel [] rfl) ?_
              refine AV.all [5] (by kernel_rfl) (by decide) ?_
              refine ⟨⟨_, rfl, ?_⟩, trivial⟩
              · -- 5 comes up
                refine OV.make (K := intK .i64) (ys.length) (ys.length) (0) Try.underlying57 I3 rfl rfl rfl rfl rfl (by omega) (by omega) (by omega) gno rfl (fun b18_5 => ?_)
                refine AV.next #[true, true, true, true, true, true, true, true, true, false, false, false, false] (by kernel_rfl) (fun _ h => h.sel [] rfl) ?_
                refine AV.take 9 #[true, true, true, true, true, true, true, true, true, true, false, false, false] rfl (by kernel_rfl) (by kernel_rfl) (by kernel_rfl) (fun _ _ _ h => h) gno (Step.build rfl (Bd59_0_1_2 _ _ _ _ _ _ _ _ _)) rfl (fun _ h => h.sel [] rfl) (by kernel_rfl) ?_
                refine AV.all [10] (by kernel_rfl) (by decide) ?_
                refine ⟨⟨_, rfl, ?_⟩, trivial⟩
                · -- 10 comes up
                  refine OV.box (t := 59) #[_, _, _, _] rfl rfl gno rfl (fun b18_10 => ?_)
                  refine AV.next #[true, true, true, true, true, true, true, true, true, true, true, false, false] (by kernel_rfl) (fun _ h => h.sel [] rfl) ?_
                  refine AV.take 11 #[true, true, true, true, true, true, true, true, true, true, true, true, false] rfl (by kernel_rfl) (by kernel_rfl) (by kernel_rfl) (fun _ _ _ h => h) gno (Step.assign rfl) rfl (fun _ h => h.sel [] rfl) (by kernel_rfl) ?_
                  refine AV.take 12 #[true, true, true, true, true, true, true, true, true, true, true, true, true] rfl (by kernel_rfl) (by kernel_rfl) (by kernel_rfl) (fun _ _ _ h => h) gno (Step.assign rfl) rfl (fun _ h => h.sel [] rfl) (by kernel_rfl) ?_
                  refine AV.done (by kernel_rfl) ?_
                  refine KV.then_n ?_
                  refine KV.env [(2, _), (3, _)] ⟨rfl, rfl, trivial⟩ ?_
                  refine CV.ret ?_
                  -- return at r18
                  refine KV.sel [3, 0, 1, 0] [_, _, _, _] rfl ?_
                  have hE : newRE ys = 0 := newRE_ok hlong hj.2 hi.2
                  exact KV.ret2 rfl rfl rfl _ (fun _ h => h) ⟨fun _ => ⟨_, ⟨_, _, _, _, _, _⟩, rfl, rfl⟩, fun h0 => absurd hE h0⟩
            · -- 5 comes up
              refine OV.make (K := intK .i64) (ys.length) (ys.length) (0) Try.underlying57 I3 rfl rfl rfl rfl rfl (by omega) (by omega) (by omega) gno rfl (fun b18_5 => ?_)
              refine AV.next #[true, true, false, true, true, true, true, true, true, false, false, false, false] (by kernel_rfl) (fun _ h => h.sel [] rfl) ?_
              refine AV.all [2] (by kernel_rfl) (by decide) ?_
              refine ⟨⟨_, rfl, ?_⟩, trivial⟩
              · -- 2 comes up
                refine OV.append 0 Try.underlying22 I35 rfl rfl rfl rfl rfl rfl (fun w h => h.rs hr (fun _ => hI _)) (by simp only [List.length_nil]; omega) (by simp only [List.length_nil]; omega) gno rfl (fun b18_2a b18_2c => ?_)
                refine AV.next #[true, true, true, true, true, true, true, true, true, false, false, false, false] (by kernel_rfl) (fun _ h => h.sel [] rfl) ?_
                refine AV.take 9 #[true, true, true, true, true, true, true, true, true, true, false, false, false] rfl (by kernel_rfl) (by kernel_rfl) (by kernel_rfl) (fun _ _ _ h => h) gno (Step.build rfl (Bd59_0_1_2 _ _ _ _ _ _ _ _ _)) rfl (fun _ h => h.sel [] rfl) (by kernel_rfl) ?_
                refine AV.all [10] (by kernel_rfl) (by decide) ?_
                refine ⟨⟨_, rfl, ?_⟩, trivial⟩
                · -- 10 comes up
                  refine OV.box (t := 59) #[_, _, _, _] rfl rfl gno rfl (fun b18_10 => ?_)
                  refine AV.next #[true, true, true, true, true, true, true, true, true, true, true, false, false] (by kernel_rfl) (fun _ h => h.sel [] rfl) ?_
                  refine AV.take 11 #[true, true, true, true, true, true, true, true, true, true, true, true, false] rfl (by kernel_rfl) (by kernel_rfl) (by kernel_rfl) (fun _ _ _ h => h) gno (Step.assign rfl) rfl (fun _ h => h.sel [] rfl) (by kernel_rfl) ?_
                  refine AV.take 12 #[true, true, true, true, true, true, true, true, true, true, true, true, true] rfl (by kernel_rfl) (by kernel_rfl) (by kernel_rfl) (fun _ _ _ h => h) gno (Step.assign rfl) rfl (fun _ h => h.sel [] rfl) (by kernel_rfl) ?_
                  refine AV.done (by kernel_rfl) ?_
                  refine KV.then_n ?_
                  refine KV.env [(2, _), (3, _)] ⟨rfl, rfl, trivial⟩ ?_
                  refine CV.ret ?_
                  -- return at r18
                  refine KV.sel [3, 0, 1, 0] [_, _, _, _] rfl ?_
                  have hE : newRE ys = 0 := newRE_ok hlong hj.2 hi.2
                  exact KV.ret2 rfl rfl rfl _ (fun _ h => h) ⟨fun _ => ⟨_, ⟨_, _, _, _, _, _⟩, rfl, rfl⟩, fun h0 => absurd hE h0⟩
        · -- 5 comes up
          refine OV.make (K := intK .i64) (ys.length) (ys.length) (0) Try.underlying57 I3 rfl rfl rfl rfl rfl (by omega) (by omega) (by omega) gno rfl (fun b18_5 => ?_)
          refine AV.next #[false, true, false, true, true, true, true, true, false, false, false, false, false] (by kernel_rfl) (fun _ h => h.sel [] rfl) ?_
          refine AV.all [0, 8] (by kernel_rfl) (by decide) ?_
          refine ⟨⟨_, rfl, ?_⟩, ⟨⟨_, rfl, ?_⟩, trivial⟩⟩
          · -- 0 comes up
            refine OV.buildSlice (K := railK) ([]) rfl (Bs22_0_) rfl rfl (by omega) gno rfl (fun b18_0 => ?_)
            refine AV.next #[true, true, false, true, true, true, true, true, false, false, false, false, false] (by kernel_rfl) (fun _ h => h.sel [] rfl) ?_
            refine AV.all [2, 8] (by kernel_rfl) (by decide) ?_
            refine ⟨⟨_, rfl, ?_⟩, ⟨⟨_, rfl, ?_⟩, trivial⟩⟩
            · -- 2 comes up
              refine OV.append 1 Try.underlying22 I35 rfl rfl rfl rfl rfl rfl (fun w h => h.rs hr (fun _ => hI _)) (by simp only [List.length_nil]; omega) (by simp only [List.length_nil]; omega) gno rfl (fun b18_2a b18_2c => ?_)
              refine AV.next #[true, true, true, true, true, true, true, true, false, false, false, false, false] (by kernel_rfl) (fun _ h => h.sel [] rfl) ?_
              refine AV.all [8] (by kernel_rfl) (by decide) ?_
              refine ⟨⟨_, rfl, ?_⟩, trivial⟩
              · -- 8 comes up
                refine OV.make (K := intK .u64) (ys.length) (ys.length) (0) Try.underlying43 I33 rfl rfl rfl rfl rfl (by omega) (by omega) (by omega) gno rfl (fun b18_8 => ?_)
                refine AV.next #[true, true, true, true, true, true, true, true, true, false, false, false, false] (by kernel_rfl) (fun _ h => h.sel [] rfl) ?_
                refine AV.take 9 #[true, true, true, true, true, true, true, true, true, true, false, false, false] rfl (by kernel_rfl) (by kernel_rfl) (by kernel_rfl) (fun _ _ _ h => h) gno (Step.build rfl (Bd59_0_1_2 _ _ _ _ _ _ _ _ _)) rfl (fun _ h => h.sel [] rfl) (by kernel_rfl) ?_
                refine AV.all [10] (by kernel_rfl) (by decide) ?_
                refine ⟨⟨_, rfl, ?_⟩, trivial⟩
                · -- 10 comes up
                  refine OV.box (t := 59) #[_, _, _, _] rfl rfl gno rfl (fun b18_10 => ?_)
                  refine AV.next #[true, true, true, true, true, true, true, true, true, true, true, false, false] (by kernel_rfl) (fun _ h => h.sel [] rfl) ?_
                  refine AV.take 11 #[true, true, true, true, true, true, true, true, true, true, true, true, false] rfl (by kernel_rfl) (by kernel_rfl) (by kernel_rfl) (fun _ _ _ h => h) gno (Step.assign rfl) rfl (fun _ h => h.sel [] rfl) (by kernel_rfl) ?_
                  refine AV.take 12 #[true, true, true, true, true, true, true, true, true, true, true, true, true] rfl (by kernel_rfl) (by kernel_rfl) (by kernel_rfl) (fun _ _ _ h => h) gno (Step.assign rfl) rfl (fun _ h => h.sel [] rfl) (by kernel_rfl) ?_
                  refine AV.done (by kernel_rfl) ?_
                  refine KV.then_n ?_
                  refine KV.env [(2, _), (3, _)] ⟨rfl, rfl, trivial⟩ ?_
                  refine CV.ret ?_
                  -- return at r18
                  refine KV.sel [3, 1, 0, 0] [_, _, _, _] rfl ?_
                  have hE : newRE ys = 0 := newRE_ok hlong hj.2 hi.2
                  exact KV.ret2 rfl rfl rfl _ (fun _ h => h) ⟨fun _ => ⟨_, ⟨_, _, _, _, _, _⟩, rfl, rfl⟩, fun h0 => absurd hE h0⟩
            · -- 8 comes up
              refine OV.make (K := intK .u64) (ys.length) (ys.length) (0) Try.underlying43 I33 rfl rfl rfl rfl rfl (by omega) (by omega) (by omega) gno rfl (fun b18_8 => ?_)
              refine AV.next #[true, true, false, true, true, true, true, true, true, false, false, false, false] (by kernel_rfl) (fun _ h => h.sel [] rfl) ?_
              refine AV.all [2] (by kernel_rfl) (by decide) ?_
              refine ⟨⟨_, rfl, ?_⟩, trivial⟩
              · -- 2 comes up
                refine OV.append 1 Try.underlying22 I35 rfl rfl rfl rfl rfl rfl (fun w h => h.rs hr (fun _ => hI _)) (by simp only [List.length_nil]; omega) (by simp only [List.length_nil]; omega) gno rfl (fun b18_2a b18_2c => ?_)
                refine AV.next #[true, true, true, true, true, true, true, true, true, false, false, false, false] (by kernel_rfl) (fun _ h => h.sel [] rfl) ?_
                refine AV.take 9 #[true, true, true, true, true, true, true, true, true, true, false, false, false] rfl (by kernel_rfl) (by kernel_rfl) (by kernel_rfl) (fun _ _ _ h => h) gno (Step.build rfl (Bd59_0_1_2 _ _ _ _ _ _ _ _ _)) rfl (fun _ h => h.sel [] rfl) (by kernel_rfl) ?_
                refine AV.all [10] (by kernel_rfl) (by decide) ?_
                refine ⟨⟨_, rfl, ?_⟩, trivial⟩
                · -- 10 comes up
                  refine OV.box (t := 59) #[_, _, _, _] rfl rfl gno rfl (fun b18_10 => ?_)
                  refine AV.next #[true, true, true, true, true, true, true, true, true, true, true, false, false] (by kernel_rfl) (fun _ h => h.sel [] rfl) ?_
                  refine AV.take 11 #[true, true, true, true, true, true, true, true, true, true, true, true, false] rfl (by kernel_rfl) (by kernel_rfl) (by kernel_rfl) (fun _ _ _ h => h) gno (Step.assign rfl) rfl (fun _ h => h.sel [] rfl) (by kernel_rfl) ?_
                  refine AV.take 12 #[true, true, true, true, true, true, true, true, true, true, true, true, true] rfl (by kernel_rfl) (by kernel_rfl) (by kernel_rfl) (fun _ _ _ h => h) gno (Step.assign rfl) rfl (fun _ h => h.sel [] rfl) (by kernel_rfl) ?_
                  refine AV.done (by kernel_rfl) ?_
                  refine KV.then_n ?_
                  refine KV.env [(2, _), (3, _)] ⟨rfl, rfl, trivial⟩ ?_
                  refine CV.ret ?_
                  -- return at r18
                  refine KV.sel [3, 1, 0, 0] [_, _, _, _] rfl ?_
                  have hE : newRE ys = 0 := newRE_ok hlong hj.2 hi.2
                  exact KV.ret2 rfl rfl rfl _ (fun _ h => h) ⟨fun _ => ⟨_, ⟨_, _, _, _, _, _⟩, rfl, rfl⟩, fun h0 => absurd hE h0⟩
          · -- 8 comes up
            refine OV.make (K := intK .u64) (ys.length) (ys.length) (0) Try.underlying43 I33 rfl rfl rfl rfl rfl (by omega) (by omega) (by omega) gno rfl (fun b18_8 => ?_)
            refine AV.next #[false, true, false, true, true, true, true, true, true, false, false, false, false] (by kernel_rfl) (fun _ h => h.sel [] rfl) ?_
            refine AV.all [0] (by kernel_rfl) (by decide) ?_
            refine ⟨⟨_, rfl, ?_⟩, trivial⟩
            · -- 0 comes up
              refine OV.buildSlice (K := railK) ([]) rfl (Bs22_0_) rfl rfl (by omega) gno rfl (fun b18_0 => ?_)
              refine AV.next #[true, true, false, true, true, true, true, true, true, false, false, false, false] (by kernel_rfl) (fun _ h => h.sel [] rfl) ?_
              refine AV.all [2] (by kernel_rfl) (by decide) ?_
              refine ⟨⟨_, rfl, ?_⟩, trivial⟩
              · -- 2 comes up
                refine OV.append 2 Try.underlying22 I35 rfl rfl rfl rfl rfl rfl (fun w h => h.rs hr (fun _ => hI _)) (by simp only [List.length_nil]; omega) (by simp only [List.length_nil]; omega) gno rfl (fun b18_2a b18_2c => ?_)
                refine AV.next #[true, true, true, true, true, true, true, true, true, false, false, false, false] (by kernel_rfl) (fun _ h => h.sel [] rfl) ?_
                refine AV.take 9 #[true, true, true, true, true, true, true, true, true, true, false, false, false] rfl (by kernel_rfl) (by kernel_rfl) (by kernel_rfl) (fun _ _ _ h => h) gno (Step.build rfl (Bd59_0_1_2 _ _ _ _ _ _ _ _ _)) rfl (fun _ h => h.sel [] rfl) (by kernel_rfl) ?_
                refine AV.all [10] (by kernel_rfl) (by decide) ?_
                refine ⟨⟨_, rfl, ?_⟩, trivial⟩
                · -- 10 comes up
                  refine OV.box (t := 59) #[_, _, _, _] rfl rfl gno rfl (fun b18_10 => ?_)
                  refine AV.next #[true, true, true, true, true, true, true, true, true, true, true, false, false] (by kernel_rfl) (fun _ h => h.sel [] rfl) ?_
                  refine AV.take 11 #[true, true, true, true, true, true, true, true, true, true, true, true, false] rfl (by kernel_rfl) (by kernel_rfl) (by kernel_rfl) (fun _ _ _ h => h) gno (Step.assign rfl) rfl (fun _ h => h.sel [] rfl) (by kernel_rfl) ?_
                  refine AV.take 12 #[true, true, true, true, true, true, true, true, true, true, true, true, true] rfl (by kernel_rfl) (by kernel_rfl) (by kernel_rfl) (fun _ _ _ h => h) gno (Step.assign rfl) rfl (fun _ h => h.sel [] rfl) (by kernel_rfl) ?_
                  refine AV.done (by kernel_rfl) ?_
                  refine KV.then_n ?_
                  refine KV.env [(2, _), (3, _)] ⟨rfl, rfl, trivial⟩ ?_
                  refine CV.ret ?_
                  -- return at r18
                  refine KV.sel [3, 2, 0, 0] [_, _, _, _] rfl ?_
                  have hE : newRE ys = 0 := newRE_ok hlong hj.2 hi.2
                  exact KV.ret2 rfl rfl rfl _ (fun _ h => h) ⟨fun _ => ⟨_, ⟨_, _, _, _, _, _⟩, rfl, rfl⟩, fun h0 => absurd hE h0⟩
        · -- 8 comes up
          refine OV.make (K := intK .u64) (ys.length) (ys.length) (0) Try.underlying43 I33 rfl rfl rfl rfl rfl (by omega) (by omega) (by omega) gno rfl (fun b18_8 => ?_)
          refine AV.next #[false, true, false, true, true, false, true, true, true, false, false, false, false] (by kernel_rfl) (fun _ h => h.sel [] rfl) ?_
          refine AV.all [0, 5] (by kernel_rfl) (by decide) ?_
          refine ⟨⟨_, rfl, ?_⟩, ⟨⟨_, rfl, ?_⟩, trivial⟩⟩
          · -- 0 comes up
            refine OV.buildSlice (K := railK) ([]) rfl (Bs22_0_) rfl rfl (by omega) gno rfl (fun b18_0 => ?_)
            refine AV.next #[true, true, false, true, true, false, true, true, true, false, false, false, false] (by kernel_rfl) (fun _ h => h.sel [] rfl) ?_
            refine AV.all [2, 5] (by kernel_rfl) (by decide) ?_
            refine ⟨⟨_, rfl, ?_⟩, ⟨⟨_, rfl, ?_⟩, trivial⟩⟩
            · -- 2 comes up
              refine OV.append 1 Try.underlying22 I35 rfl rfl rfl rfl rfl rfl (fun w h => h.rs hr (fun _ => hI _)) (by simp only [List.length_nil]; omega) (by simp only [List.length_nil]; omega) gno rfl (fun b18_2a b18_2c => ?_)
              refine AV.next #[true, true, true, true, true, false, true, true, true, false, false, false, false] (by kernel_rfl) (fun _ h => h.sel [] rfl) ?_
              refine AV.all [5] (by kernel_rfl) (by decide) ?_
              refine ⟨⟨_, rfl, ?_⟩, trivial⟩
              · -- 5 comes up
                refine OV.make (K := intK .i64) (ys.length) (ys.length) (0) Try.underlying57 I3 rfl rfl rfl rfl rfl (by omega) (by omega) (by omega) gno rfl (fun b18_5 => ?_)
                refine AV.next #[true, true, true, true, true, true, true, true, true, false, false, false, false] (by kernel_rfl) (fun _ h => h.sel [] rfl) ?_
                refine AV.take 9 #[true, true, true, true, true, true, true, true, true, true, false, false, false] rfl (by kernel_rfl) (by kernel_rfl) (by kernel_rfl) (fun _ _ _ h => h) gno (Step.build rfl (Bd59_0_1_2 _ _ _ _ _ _ _ _ _)) rfl (fun _ h => h.sel [] rfl) (by kernel_rfl) ?_
                refine AV.all [10] (by kernel_rfl) (by decide) ?_
                refine ⟨⟨_, rfl, ?_⟩, trivial⟩
                · -- 10 comes up
                  refine OV.box (t := 59) #[_, _, _, _] rfl rfl gno rfl (fun b18_10 => ?_)
                  refine AV.next #[true, true, true, true, true, true, true, true, true, true, true, false, false] (by kernel_rfl) (fun _ h => h.sel [] rfl) ?_
                  refine AV.take 11 #[true, true, true, true, true, true, true, true, true, true, true, true, false] rfl (by kernel_rfl) (by kernel_rfl) (by kernel_rfl) (fun _ _ _ h => h) gno (Step.assign rfl) rfl (fun _ h => h.sel [] rfl) (by kernel_rfl) ?_
                  refine AV.take 12 #[true, true, true, true, true, true, true, true, true, true, true, true, true] rfl (by kernel_rfl) (by kernel_rfl) (by kernel_rfl) (fun _ _ _ h => h) gno (Step.assign rfl) rfl (fun _ h => h.sel [] rfl) (by kernel_rfl) ?_
                  refine AV.done (by kernel_rfl) ?_
                  refine KV.then_n ?_
                  refine KV.env [(2, _), (3, _)] ⟨rfl, rfl, trivial⟩ ?_
                  refine CV.ret ?_
                  -- return at r18
                  refine KV.sel [3, 1, 1, 0] [_, _, _, _] rfl ?_
                  have hE : newRE ys = 0 := newRE_ok hlong hj.2 hi.2
                  exact KV.ret2 rfl rfl rfl _ (fun _ h => h) ⟨fun _ => ⟨_, ⟨_, _, _, _, _, _⟩, rfl, rfl⟩, fun h0 => absurd hE h0⟩
            · -- 5 comes up
              refine OV.make (K := intK .i64) (ys.length) (ys.length) (0) Try.underlying57 I3 rfl rfl rfl rfl rfl (by omega) (by omega) (by omega) gno rfl (fun b18_5 => ?_)
              refine AV.next #[true, true, false, true, true, true, true, true, true, false, false, false, false] (by kernel_rfl) (fun _ h => h.sel [] rfl) ?_
              refine AV.all [2] (by kernel_rfl) (by decide) ?_
              refine ⟨⟨_, rfl, ?_⟩, trivial⟩
              · -- 2 comes up
                refine OV.append 1 Try.underlying22 I35 rfl rfl rfl rfl rfl rfl (fun w h => h.rs hr (fun _ => hI _)) (by simp only [List.length_nil]; omega) (by simp only [List.length_nil]; omega) gno rfl (fun b18_2a b18_2c => ?_)
                refine AV.next #[true, true, true, true, true, true, true, true, true, false, false, false, false] (by kernel_rfl) (fun _ h => h.sel [] rfl) ?_
                refine AV.take 9 #[true, true, true, true, true, true, true, true, true, true, false, false, false] rfl (by kernel_rfl) (by kernel_rfl) (by kernel_rfl) (fun _ _ _ h => h) gno (Step.build rfl (Bd59_0_1_2 _ _ _ _ _ _ _ _ _)) rfl (fun _ h => h.sel [] rfl) (by kernel_rfl) ?_
                refine AV.all [10] (by kernel_rfl) (by decide) ?_
                refine ⟨⟨_, rfl, ?_⟩, trivial⟩
                · -- 10 comes up
                  refine OV.box (t := 59) #[_, _, _, _] rfl rfl gno rfl (fun b18_10 => ?_)
                  refine AV.next #[true, true, true, true, true, true, true, true, true, true, true, false, false] (by kernel_rfl) (fun _ h => h.sel [] rfl) ?_
                  refine AV.take 11 #[true, true, true, true, true, true, true, true, true, true, true, true, false] rfl (by kernel_rfl) (by kernel_rfl) (by kernel_rfl) (fun _ _ _ h => h) gno (Step.assign rfl) rfl (fun _ h => h.sel [] rfl) (by kernel_rfl) ?_
                  refine AV.take 12 #[true, true, true, true, true, true, true, true, true, true, true, true, true] rfl (by kernel_rfl) (by kernel_rfl) (by kernel_rfl) (fun _ _ _ h => h) gno (Step.assign rfl) rfl (fun _ h => h.sel [] rfl) (by kernel_rfl) ?_
                  refine AV.done (by kernel_rfl) ?_
                  refine KV.then_n ?_
                  refine KV.env [(2, _), (3, _)] ⟨rfl, rfl, trivial⟩ ?_
                  refine CV.ret ?_
                  -- return at r18
                  refine KV.sel [3, 1, 1, 0] [_, _, _, _] rfl ?_
                  have hE : newRE ys = 0 := newRE_ok hlong hj.2 hi.2
                  exact KV.ret2 rfl rfl rfl _ (fun _ h => h) ⟨fun _ => ⟨_, ⟨_, _, _, _, _, _⟩, rfl, rfl⟩, fun h0 => absurd hE h0⟩
          · -- 5 comes up
            refine OV.make (K := intK .i64) (ys.length) (ys.length) (0) Try.underlying57 I3 rfl rfl rfl rfl rfl (by omega) (by omega) (by omega) gno rfl (fun b18_5 => ?_)
            refine AV.next #[false, true, false, true, true, true, true, true, true, false, false, false, false] (by kernel_rfl) (fun _ h => h.sel [] rfl) ?_
            refine AV.all [0] (by kernel_rfl) (by decide) ?_
            refine ⟨⟨_, rfl, ?_⟩, trivial⟩
            · -- 0 comes up
              refine OV.buildSlice (K := railK) ([]) rfl (Bs22_0_) rfl rfl (by omega) gno rfl (fun b18_0 => ?_)
              refine AV.next #[true, true, false, true, true, true, true, true, true, false, false, false, false] (by kernel_rfl) (fun _ h => h.sel [] rfl) ?_
              refine AV.all [2] (by kernel_rfl) (by decide) ?_
              refine ⟨⟨_, rfl, ?_⟩, trivial⟩
              · -- 2 comes up
                refine OV.append 2 Try.underlying22 I35 rfl rfl rfl rfl rfl rfl (fun w h => h.rs hr (fun _ => hI _)) (by simp only [List.length_nil]; omega) (by simp only [List.length_nil]; omega) gno rfl (fun b18_2a b18_2c => ?_)
                refine AV.next #[true, true, true, true, true, true, true, true, true, false, false, false, false] (by kernel_rfl) (fun _ h => h.sel [] rfl) ?_
                refine AV.take 9 #[true, true, true, true, true, true, true, true, true, true, false, false, false] rfl (by kernel_rfl) (by kernel_rfl) (by kernel_rfl) (fun _ _ _ h => h) gno (Step.build rfl (Bd59_0_1_2 _ _ _ _ _ _ _ _ _)) rfl (fun _ h => h.sel [] rfl) (by kernel_rfl) ?_
                refine AV.all [10] (by kernel_rfl) (by decide) ?_
                refine ⟨⟨_, rfl, ?_⟩, trivial⟩
                · -- 10 comes up
                  refine OV.box (t := 59) #[_, _, _, _] rfl rfl gno rfl (fun b18_10 => ?_)
                  refine AV.next #[true, true, true, true, true, true, true, true, true, true, true, false, false] (by kernel_rfl) (fun _ h => h.sel [] rfl) ?_
                  refine AV.take 11 #[true, true, true, true, true, true, true, true, true, true, true, true, false] rfl (by kernel_rfl) (by kernel_rfl) (by kernel_rfl) (fun _ _ _ h => h) gno (Step.assign rfl) rfl (fun _ h => h.sel [] rfl) (by kernel_rfl) ?_
                  refine AV.take 12 #[true, true, true, true, true, true, true, true, true, true, true, true, true] rfl (by kernel_rfl) (by kernel_rfl) (by kernel_rfl) (fun _ _ _ h => h) gno (Step.assign rfl) rfl (fun _ h => h.sel [] rfl) (by kernel_rfl) ?_
                  refine AV.done (by kernel_rfl) ?_
                  refine KV.then_n ?_
                  refine KV.env [(2, _), (3, _)] ⟨rfl, rfl, trivial⟩ ?_
                  refine CV.ret ?_
                  -- return at r18
                  refine KV.sel [3, 2, 1, 0] [_, _, _, _] rfl ?_
                  have hE : newRE ys = 0 := newRE_ok hlong hj.2 hi.2
                  exact KV.ret2 rfl rfl rfl _ (fun _ h => h) ⟨fun _ => ⟨_, ⟨_, _, _, _, _, _⟩, rfl, rfl⟩, fun h0 => absurd hE h0⟩

set_option maxRecDepth 100000 in
set_option maxHeartbeats 1000000 in
theorem copy_fn (b : Nat) (a : RA) (st : St) {w : World} (wf : st.wf) (hl : st.rails.length ≤ 1000000) : Fx Try.prog 29 [.pointer (some ⟨b, 0, none⟩)] w (robj 73 b a st) no (fun v L => ∃ b2 a2, v = .pointer (some ⟨b2, 0, none⟩) ∧ L = robj 73 b a st ++ robj 73 b2 a2 st) := by
  refine Sv.Fx.body Try.func29 rfl T29 rfl ?_
  intro I hro hI
  refine KV.env [(0, _)] ⟨rfl, trivial⟩ ?_
  have wc := wf.count
  have wd := wf.done
  refine CV.seq ?_
  -- region 0 rails.go:89
  refine CV.region ?_
  refine RV.op (OV.step gno (Step.assign rfl) rfl ?_)
  refine RV.nil ?_
  refine KV.then_n ?_
  refine KV.env [(0, _)] ⟨rfl, trivial⟩ ?_
  refine CV.seq ?_
  -- region 1 rails.go:90
  refine CV.any (Hp I w [Blk b (.cells #[.slice a.A0 st.rails.length a.c0, .slice a.A1 st.rails.length a.c1, .slice a.A2 st.rails.length a.c2, .int .u64 st.clock] 73 (0, 0))]) (by kernel_rfl) (fun _ h => h.drew) 22 rfl ?_
  refine AV.take 0 #[true, false, false, false, false, false, false, false, false, false, false, false, false, false, false, false, false, false, false, false, false, false] rfl (by kernel_rfl) (by kernel_rfl) (by kernel_rfl) (fun _ _ _ h => h) gno (Step.move rfl) rfl (fun _ h => h.sel [0] rfl) (by kernel_rfl) ?_
  refine AV.take 1 #[true, true, false, false, false, false, false, false, false, false, false, false, false, false, false, false, false, false, false, false, false, false] rfl (by kernel_rfl) (by kernel_rfl) (by kernel_rfl) (fun _ _ _ h => h) gno (Step.nilCheck rfl) rfl (fun _ h => h.sel [0] rfl) (by kernel_rfl) ?_
  refine AV.take 2 #[true, true, true, false, false, false, false, false, false, false, false, false, false, false, false, false, false, false, false, false, false, false] rfl (by kernel_rfl) (by kernel_rfl) (by kernel_rfl) (fun _ _ _ h => h) gno (Step.fieldAddr rfl (F73_0 _ _)) rfl (fun _ h => h.sel [0] rfl) (by kernel_rfl) ?_
  refine AV.take 3 #[true, true, true, true, false, false, false, false, false, false, false, false, false, false, false, false, false, false, false, false, false, false] rfl (by kernel_rfl) (by kernel_rfl) (by kernel_rfl) (fun _ _ _ h => h) gno (Step.load Try.underlying22 rfl rfl (fun w h => h.cell 0 rfl rfl)) rfl (fun _ h => h.sel [0] rfl) (by kernel_rfl) ?_
  refine AV.take 5 #[true, true, true, true, false, true, false, false, false, false, false, false, false, false, false, false, false, false, false, false, false, false] rfl (by kernel_rfl) (by kernel_rfl) (by kernel_rfl) (fun _ _ _ h => h) gno (Step.move rfl) rfl (fun _ h => h.sel [0] rfl) (by kernel_rfl) ?_
  refine AV.take 6 #[true, true, true, true, false, true, true, false, false, false, false, false, false, false, false, false, false, false, false, false, false, false] rfl (by kernel_rfl) (by kernel_rfl) (by kernel_rfl) (fun _ _ _ h => h) gno (Step.nilCheck rfl) rfl (fun _ h => h.sel [0] rfl) (by kernel_rfl) ?_
  refine AV.take 7 #[true, true, true, true, false, true, true, true, false, false, false, false, false, false, false, false, false, false, false, false, false, false] rfl (by kernel_rfl) (by kernel_rfl) (by kernel_rfl) (fun _ _ _ h => h) gno (Step.fieldAddr rfl (F73_1 _ _)) rfl (fun _ h => h.sel [0] rfl) (by kernel_rfl) ?_
  refine AV.take 8 #[true, true, true, true, false, true, true, true, true, false, false, false, false, false, false, false, false, false, false, false, false, false] rfl (by kernel_rfl) (by kernel_rfl) (by kernel_rfl) (fun _ _ _ h => h) gno (Step.load Try.underlying57 rfl rfl (fun w h => h.cell 0 rfl rfl)) rfl (fun _ h => h.sel [0] rfl) (by kernel_rfl) ?_
  refine AV.take 10 #[true, true, true, true, false, true, true, true, true, false, true, false, false, false, false, false, false, false, false, false, false, false] rfl (by kernel_rfl) (by kernel_rfl) (by kernel_rfl) (fun _ _ _ h => h) gno (Step.move rfl) rfl (fun _ h => h.sel [0] rfl) (by kernel_rfl) ?_
  refine AV.take 11 #[true, true, true, true, false, true, true, true, true, false, true, true, false, false, false, false, false, false, false, false, false, false] rfl (by kernel_rfl) (by kernel_rfl) (by kernel_rfl) (fun _ _ _ h => h) gno (Step.nilCheck rfl) rfl (fun _ h => h.sel [0] rfl) (by kernel_rfl) ?_
  refine AV.take 12 #[true, true, true, true, false, true, true, true, true, false, true, true, true, false, false, false, false, false, false, false, false, false] rfl (by kernel_rfl) (by kernel_rfl) (by kernel_rfl) (fun _ _ _ h => h) gno (Step.fieldAddr rfl (F73_2 _ _)) rfl (fun _ h => h.sel [0] rfl) (by kernel_rfl) ?_
  refine AV.take 13 #[true, true, true, true, false, true, true, true, true, false, true, true, true, true, false, false, false, false, false, false, false, false] rfl (by kernel_rfl) (by kernel_rfl) (by kernel_rfl) (fun _ _ _ h => h) gno (Step.load Try.underlying43 rfl rfl (fun w h => h.cell 0 rfl rfl)) rfl (fun _ h => h.sel [0] rfl) (by kernel_rfl) ?_
  refine AV.take 15 #[true, true, true, true, false, true, true, true, true, false, true, true, true, true, false, true, false, false, false, false, false, false] rfl (by kernel_rfl) (by kernel_rfl) (by kernel_rfl) (fun _ _ _ h => h) gno (Step.move rfl) rfl (fun _ h => h.sel [0] rfl) (by kernel_rfl) ?_
  refine AV.take 16 #[true, true, true, true, false, true, true, true, true, false, true, true, true, true, false, true, true, false, false, false, false, false] rfl (by kernel_rfl) (by kernel_rfl) (by kernel_rfl) (fun _ _ _ h => h) gno (Step.nilCheck rfl) rfl (fun _ h => h.sel [0] rfl) (by kernel_rfl) ?_
  refine AV.take 17 #[true, true, true, true, false, true, true, true, true, false, true, true, true, true, false, true, true, true, false, false, false, false] rfl (by kernel_rfl) (by kernel_rfl) (by kernel_rfl) (fun _ _ _ h => h) gno (Step.fieldAddr rfl (F73_3 _ _)) rfl (fun _ h => h.sel [0] rfl) (by kernel_rfl) ?_
  refine AV.take 18 #[true, true, true, true, false, true, true, true, true, false, true, true, true, true, false, true, true, true, true, false, false, false] rfl (by kernel_rfl) (by kernel_rfl) (by kernel_rfl) (fun _ _ _ h => h) gno (Step.load Try.underlying33 rfl rfl (fun w h => h.cell 0 rfl rfl)) rfl (fun _ h => h.sel [0] rfl) (by kernel_rfl) ?_
  refine AV.all [4] (by kernel_rfl) (by decide) ?_
  refine ⟨⟨_, rfl, ?_⟩, trivial⟩
  · -- 4 comes up
    refine OV.call [] (F := [_, _, _, _]) Try.func34 B34 N34 rfl rfl (fun w h => cloneRail_fn (h.os 1 rfl) (by omega) rfl) (fun _ hb => hb.elim) gno rfl (fun v L' hp => ?_)
    obtain ⟨A0, c0, rfl, rfl⟩ := hp
    refine AV.next #[true, true, true, true, true, true, true, true, true, false, true, true, true, true, false, true, true, true, true, false, false, false] (by kernel_rfl) (fun _ h => h.sel [0] rfl) ?_
    refine AV.all [9] (by kernel_rfl) (by decide) ?_
    refine ⟨⟨_, rfl, ?_⟩, trivial⟩
    · -- 9 comes up
      refine OV.call [] (F := [_, _, _, _, _]) Try.func38 B38 N38 rfl rfl (fun w h => cloneInt_fn (h.os 2 rfl) (by omega) (by omega)) (fun _ hb => hb.elim) gno rfl (fun v L' hp => ?_)
      obtain ⟨A1, c1, rfl, rfl⟩ := hp
      refine AV.next #[true, true, true, true, true, true, true, true, true, true, true, true, true, true, false, true, true, true, true, false, false, false] (by kernel_rfl) (fun _ h => h.sel [0] rfl) ?_
      refine AV.all [14] (by kernel_rfl) (by decide) ?_
      refine ⟨⟨_, rfl, ?_⟩, trivial⟩
      · -- 14 comes up
        refine OV.call [] (F := [_, _, _, _, _, _]) Try.func39 B39 N39 rfl rfl (fun w h => cloneU_fn (h.os 3 rfl) (by omega) (by omega)) (fun _ hb => hb.elim) gno rfl (fun v L' hp => ?_)
        obtain ⟨A2, c2, rfl, rfl⟩ := hp
        refine AV.next #[true, true, true, true, true, true, true, true, true, true, true, true, true, true, true, true, true, true, true, false, false, false] (by kernel_rfl) (fun _ h => h.sel [0] rfl) ?_
        refine AV.take 19 #[true, true, true, true, true, true, true, true, true, true, true, true, true, true, true, true, true, true, true, true, false, false] rfl (by kernel_rfl) (by kernel_rfl) (by kernel_rfl) (fun _ _ _ h => h) gno (Step.build rfl (Bd73_0_1_2_3 _ _ _ _ _ _ _ _ _ _)) rfl (fun _ h => h.sel [0] rfl) (by kernel_rfl) ?_
        refine AV.all [20] (by kernel_rfl) (by decide) ?_
        refine ⟨⟨_, rfl, ?_⟩, trivial⟩
        · -- 20 comes up
          refine OV.box (t := 73) #[_, _, _, _] rfl rfl gno rfl (fun b1_20 => ?_)
          refine AV.next #[true, true, true, true, true, true, true, true, true, true, true, true, true, true, true, true, true, true, true, true, true, false] (by kernel_rfl) (fun _ h => h.sel [0] rfl) ?_
          refine AV.take 21 #[true, true, true, true, true, true, true, true, true, true, true, true, true, true, true, true, true, true, true, true, true, true] rfl (by kernel_rfl) (by kernel_rfl) (by kernel_rfl) (fun _ _ _ h => h) gno (Step.assign rfl) rfl (fun _ h => h.sel [0] rfl) (by kernel_rfl) ?_
          refine AV.done (by kernel_rfl) ?_
          refine KV.then_n ?_
          refine KV.env [(2, _)] ⟨rfl, trivial⟩ ?_
          refine CV.ret ?_
          -- return at r1
          refine KV.sel [0, 0, 0, 0, 3, 0, 0, 0] [_, _, _, _, _, _, _, _] rfl ?_
          exact KV.ret1 rfl rfl _ (fun _ h => h) ⟨_, ⟨_, _, _, _, _, _⟩, rfl, rfl⟩

set_option maxRecDepth 100000 in
set_option maxHeartbeats 4000000 in
theorem copyR_fn (b : Nat) (a : RA) (st : St) {w : World} (wf : st.wf) (hl : st.rails.length ≤ 1000000) : Fx Try.prog 30 [.pointer (some ⟨b, 0, none⟩)] w (robj 59 b a st) no (fun v L => ∃ b2 a2, v = .pointer (some ⟨b2, 0, none⟩) ∧ L = robj 59 b a st ++ robj 59 b2 a2 st) := by
  refine Sv.Fx.body Try.func30 rfl T30 rfl ?_
  intro I hro hI
  refine KV.env [(0, _)] ⟨rfl, trivial⟩ ?_
  have wc := wf.count
  have wd := wf.done
  refine CV.seq ?_
  -- region 0 ref.go:130
  refine CV.region ?_
  refine RV.op (OV.step gno (Step.assign rfl) rfl ?_)
  refine RV.nil ?_
  refine KV.then_n ?_
  refine KV.env [(0, _)] ⟨rfl, trivial⟩ ?_
  refine CV.seq ?_
  -- region 1 ref.go:131
  refine CV.any (Hp I w [Blk b (.cells #[.slice a.A0 st.rails.length a.c0, .slice a.A1 st.rails.length a.c1, .slice a.A2 st.rails.length a.c2, .int .u64 st.clock] 59 (0, 0))]) (by kernel_rfl) (fun _ h => h.drew) 25 rfl ?_
  refine AV.take 1 #[false, true, false, false, false, false, false, false, false, false, false, false, false, false, false, false, false, false, false, false, false, false, false, false, false] rfl (by kernel_rfl) (by kernel_rfl) (by kernel_rfl) (fun _ _ _ h => h) gno (Step.move rfl) rfl (fun _ h => h.sel [0] rfl) (by kernel_rfl) ?_
  refine AV.take 2 #[false, true, true, false, false, false, false, false, false, false, false, false, false, false, false, false, false, false, false, false, false, false, false, false, false] rfl (by kernel_rfl) (by kernel_rfl) (by kernel_rfl) (fun _ _ _ h => h) gno (Step.nilCheck rfl) rfl (fun _ h => h.sel [0] rfl) (by kernel_rfl) ?_
  refine AV.take 3 #[false, true, true, true, false, false, false, false, false, false, false, false, false, false, false, false, false, false, false, false, false, false, false, false, false] rfl (by kernel_rfl) (by kernel_rfl) (by kernel_rfl) (fun _ _ _ h => h) gno (Step.fieldAddr rfl (F59_0 _ _)) rfl (fun _ h => h.sel [0] rfl) (by kernel_rfl) ?_
  refine AV.take 4 #[false, true, true, true, true, false, false, false, false, false, false, false, false, false, false, false, false, false, false, false, false, false, false, false, false] rfl (by kernel_rfl) (by kernel_rfl) (by kernel_rfl) (fun _ _ _ h => h) gno (Step.load Try.underlying22 rfl rfl (fun w h => h.cell 0 rfl rfl)) rfl (fun _ h => h.sel [0] rfl) (by kernel_rfl) ?_
  refine AV.take 7 #[false, true, true, true, true, false, false, true, false, false, false, false, false, false, false, false, false, false, false, false, false, false, false, false, false] rfl (by kernel_rfl) (by kernel_rfl) (by kernel_rfl) (fun _ _ _ h => h) gno (Step.move rfl) rfl (fun _ h => h.sel [0] rfl) (by kernel_rfl) ?_
  refine AV.take 8 #[false, true, true, true, true, false, false, true, true, false, false, false, false, false, false, false, false, false, false, false, false, false, false, false, false] rfl (by kernel_rfl) (by kernel_rfl) (by kernel_rfl) (fun _ _ _ h => h) gno (Step.nilCheck rfl) rfl (fun _ h => h.sel [0] rfl) (by kernel_rfl) ?_
  refine AV.take 9 #[false, true, true, true, true, false, false, true, true, true, false, false, false, false, false, false, false, false, false, false, false, false, false, false, false] rfl (by kernel_rfl) (by kernel_rfl) (by kernel_rfl) (fun _ _ _ h => h) gno (Step.fieldAddr rfl (F59_1 _ _)) rfl (fun _ h => h.sel [0] rfl) (by kernel_rfl) ?_
  refine AV.take 10 #[false, true, true, true, true, false, false, true, true, true, true, false, false, false, false, false, false, false, false, false, false, false, false, false, false] rfl (by kernel_rfl) (by kernel_rfl) (by kernel_rfl) (fun _ _ _ h => h) gno (Step.load Try.underlying57 rfl rfl (fun w h => h.cell 0 rfl rfl)) rfl (fun _ h => h.sel [0] rfl) (by kernel_rfl) ?_
  refine AV.take 13 #[false, true, true, true, true, false, false, true, true, true, true, false, false, true, false, false, false, false, false, false, false, false, false, false, false] rfl (by kernel_rfl) (by kernel_rfl) (by kernel_rfl) (fun _ _ _ h => h) gno (Step.move rfl) rfl (fun _ h => h.sel [0] rfl) (by kernel_rfl) ?_
  refine AV.take 14 #[false, true, true, true, true, false, false, true, true, true, true, false, false, true, true, false, false, false, false, false, false, false, false, false, false] rfl (by kernel_rfl) (by kernel_rfl) (by kernel_rfl) (fun _ _ _ h => h) gno (Step.nilCheck rfl) rfl (fun _ h => h.sel [0] rfl) (by kernel_rfl) ?_
  refine AV.take 15 #[false, true, true, true, true, false, false, true, true, true, true, false, false, true, true, true, false, false, false, false, false, false, false, false, false] rfl (by kernel_rfl) (by kernel_rfl) (by kernel_rfl) (fun _ _ _ h => h) gno (Step.fieldAddr rfl (F59_2 _ _)) rfl (fun _ h => h.sel [0] rfl) (by kernel_rfl) ?_
  refine AV.take 16 #[false, true, true, true, true, false, false, true, true, true, true, false, false, true, true, true, true, false, false, false, false, false, false, false, false] rfl (by kernel_rfl) (by kernel_rfl) (by kernel_rfl) (fun _ _ _ h => h) gno (Step.load Try.underlying43 rfl rfl (fun w h => h.cell 0 rfl rfl)) rfl (fun _ h => h.sel [0] rfl) (by kernel_rfl) ?_
  refine AV.take 18 #[false, true, true, true, true, false, false, true, true, true, true, false, false, true, true, true, true, false, true, false, false, false, false, false, false] rfl (by kernel_rfl) (by kernel_rfl) (by kernel_rfl) (fun _ _ _ h => h) gno (Step.move rfl) rfl (fun _ h => h.sel [0] rfl) (by kernel_rfl) ?_
  refine AV.take 19 #[false, true, true, true, true, false, false, true, true, true, true, false, false, true, true, true, true, false, true, true, false, false, false, false, false] rfl (by kernel_rfl) (by kernel_rfl) (by kernel_rfl) (fun _ _ _ h => h) gno (Step.nilCheck rfl) rfl (fun _ h => h.sel [0] rfl) (by kernel_rfl) ?_
  refine AV.take 20 #[false, true, true, true, true, false, false, true, true, true, true, false, false, true, true, true, true, false, true, true, true, false, false, false, false] rfl (by kernel_rfl) (by kernel_rfl) (by kernel_rfl) (fun _ _ _ h => h) gno (Step.fieldAddr rfl (F59_3 _ _)) rfl (fun _ h => h.sel [0] rfl) (by kernel_rfl) ?_
  refine AV.take 21 #[false, true, true, true, true, false, false, true, true, true, true, false, false, true, true, true, true, false, true, true, true, true, false, false, false] rfl (by kernel_rfl) (by kernel_rfl) (by kernel_rfl) (fun _ _ _ h => h) gno (Step.load Try.underlying33 rfl rfl (fun w h => h.cell 0 rfl rfl)) rfl (fun _ h => h.sel [0] rfl) (by kernel_rfl) ?_
  refine AV.all [0, 6, 12] (by kernel_rfl) (by decide) ?_
  refine ⟨⟨_, rfl, ?_⟩, ⟨⟨_, rfl, ?_⟩, ⟨⟨_, rfl, ?_⟩, trivial⟩⟩⟩
  · -- 0 comes up
    refine OV.buildSlice (K := railK) ([]) rfl (Bs22_0_) rfl rfl (by omega) gno rfl (fun b1_0 => ?_)
    refine AV.next #[true, true, true, true, true, false, false, true, true, true, true, false, false, true, true, true, true, false, true, true, true, true, false, false, false] (by kernel_rfl) (fun _ h => h.sel [0] rfl) ?_
    refine AV.all [5, 6, 12] (by kernel_rfl) (by decide) ?_
    refine ⟨⟨_, rfl, ?_⟩, ⟨⟨_, rfl, ?_⟩, ⟨⟨_, rfl, ?_⟩, trivial⟩⟩⟩
    · -- 5 comes up
      refine OV.append 4 Try.underlying22 I35 rfl rfl rfl rfl (by omega) rfl (fun w h => h.os 1 rfl) (by simp only [List.length_nil]; omega) (by simp only [List.length_nil]; omega) gno rfl (fun b5a b5c => ?_)
      refine AV.next #[true, true, true, true, true, true, false, true, true, true, true, false, false, true, true, true, true, false, true, true, true, true, false, false, false] (by kernel_rfl) (fun _ h => h.sel [0] rfl) ?_
      refine AV.all [6, 12] (by kernel_rfl) (by decide) ?_
      refine ⟨⟨_, rfl, ?_⟩, ⟨⟨_, rfl, ?_⟩, trivial⟩⟩
      · -- 6 comes up
        refine OV.buildSlice (K := (intK .i64)) ([]) rfl (Bs57_0_) rfl rfl (by omega) gno rfl (fun b1_6 => ?_)
        refine AV.next #[true, true, true, true, true, true, true, true, true, true, true, false, false, true, true, true, true, false, true, true, true, true, false, false, false] (by kernel_rfl) (fun _ h => h.sel [0] rfl) ?_
        refine AV.all [11, 12] (by kernel_rfl) (by decide) ?_
        refine ⟨⟨_, rfl, ?_⟩, ⟨⟨_, rfl, ?_⟩, trivial⟩⟩
        · -- 11 comes up
          refine OV.append 5 Try.underlying57 I3 rfl rfl rfl rfl (by omega) rfl (fun w h => h.os 2 rfl) (by simp only [List.length_nil]; omega) (by simp only [List.length_nil]; omega) gno rfl (fun b11a b11c => ?_)
          refine AV.next #[true, true, true, true, true, true, true, true, true, true, true, true, false, true, true, true, true, false, true, true, true, true, false, false, false] (by kernel_rfl) (fun _ h => h.sel [0] rfl) ?_
          refine AV.all [12] (by kernel_rfl) (by decide) ?_
          refine ⟨⟨_, rfl, ?_⟩, trivial⟩
          · -- 12 comes up
            refine OV.buildSlice (K := (intK .u64)) ([]) rfl (Bs43_0_) rfl rfl (by omega) gno rfl (fun b1_12 => ?_)
            refine AV.next #[true, true, true, true, true, true, true, true, true, true, true, true, true, true, true, true, true, false, true, true, true, true, false, false, false] (by kernel_rfl) (fun _ h => h.sel [0] rfl) ?_
            refine AV.all [17] (by kernel_rfl) (by decide) ?_
            refine ⟨⟨_, rfl, ?_⟩, trivial⟩
            · -- 17 comes up
              refine OV.append 6 Try.underlying43 I33 rfl rfl rfl rfl (by omega) rfl (fun w h => h.os 3 rfl) (by simp only [List.length_nil]; omega) (by simp only [List.length_nil]; omega) gno rfl (fun b17a b17c => ?_)
              refine AV.next #[true, true, true, true, true, true, true, true, true, true, true, true, true, true, true, true, true, true, true, true, true, true, false, false, false] (by kernel_rfl) (fun _ h => h.sel [0] rfl) ?_
              refine AV.take 22 #[true, true, true, true, true, true, true, true, true, true, true, true, true, true, true, true, true, true, true, true, true, true, true, false, false] rfl (by kernel_rfl) (by kernel_rfl) (by kernel_rfl) (fun _ _ _ h => h) gno (Step.build rfl (Bd59_0_1_2_3 _ _ _ _ _ _ _ _ _ _)) rfl (fun _ h => h.sel [0] rfl) (by kernel_rfl) ?_
              refine AV.all [23] (by kernel_rfl) (by decide) ?_
              refine ⟨⟨_, rfl, ?_⟩, trivial⟩
              · -- 23 comes up
                refine OV.box (t := 59) #[_, _, _, _] rfl rfl gno rfl (fun b1_23 => ?_)
                refine AV.next #[true, true, true, true, true, true, true, true, true, true, true, true, true, true, true, true, true, true, true, true, true, true, true, true, false] (by kernel_rfl) (fun _ h => h.sel [0] rfl) ?_
                refine AV.take 24 #[true, true, true, true, true, true, true, true, true, true, true, true, true, true, true, true, true, true, true, true, true, true, true, true, true] rfl (by kernel_rfl) (by kernel_rfl) (by kernel_rfl) (fun _ _ _ h => h) gno (Step.assign rfl) rfl (fun _ h => h.sel [0] rfl) (by kernel_rfl) ?_
                refine AV.done (by kernel_rfl) ?_
                refine KV.then_n ?_
                refine KV.env [(2, _)] ⟨rfl, trivial⟩ ?_
                refine CV.ret ?_
                -- return at r1
                refine KV.sel [0, 0, 0, 0, 3, 0, 0, 0] [_, _, _, _, _, _, _, _] rfl ?_
                simp only [List.nil_append, wc, wd]
                exact KV.ret1 rfl rfl _ (fun _ h => h) ⟨_, ⟨_, _, _, _, _, _⟩, rfl, rfl⟩
        · -- 12 comes up
          refine OV.buildSlice (K := (intK .u64)) ([]) rfl (Bs43_0_) rfl rfl (by omega) gno rfl (fun b1_12 => ?_)
          refine AV.next #[true, true, true, true, true, true, true, true, true, true, true, false, true, true, true, true, true, false, true, true, true, true, false, false, false] (by kernel_rfl) (fun _ h => h.sel [0] rfl) ?_
          refine AV.all [11] (by kernel_rfl) (by decide) ?_
          refine ⟨⟨_, rfl, ?_⟩, trivial⟩
          · -- 11 comes up
            refine OV.append 5 Try.underlying57 I3 rfl rfl rfl rfl (by omega) rfl (fun w h => h.os 2 rfl) (by simp only [List.length_nil]; omega) (by simp only [List.length_nil]; omega) gno rfl (fun b11a b11c => ?_)
            refine AV.next #[true, true, true, true, true, true, true, true, true, true, true, true, true, true, true, true, true, false, true, true, true, true, false, false, false] (by kernel_rfl) (fun _ h => h.sel [0] rfl) ?_
            refine AV.all [17] (by kernel_rfl) (by decide) ?_
            refine ⟨⟨_, rfl, ?_⟩, trivial⟩
            · -- 17 comes up
              refine OV.append 6 Try.underlying43 I33 rfl rfl rfl rfl (by omega) rfl (fun w h => h.os 3 rfl) (by simp only [List.length_nil]; omega) (by simp only [List.length_nil]; omega) gno rfl (fun b17a b17c => ?_)
              refine AV.next #[true, true, true, true, true, true, true, true, true, true, true, true, true, true, true, true, true, true, true, true, true, true, false, false, false] (by kernel_rfl) (fun _ h => h.sel [0] rfl) ?_
              refine AV.take 22 #[true, true, true, true, true, true, true, true, true, true, true, true, true, true, true, true, true, true, true, true, true, true, true, false, false] rfl (by kernel_rfl) (by kernel_rfl) (by kernel_rfl) (fun _ _ _ h => h) gno (Step.build rfl (Bd59_0_1_2_3 _ _ _ _ _ _ _ _ _ _)) rfl (fun _ h => h.sel [0] rfl) (by kernel_rfl) ?_
              refine AV.all [23] (by kernel_rfl) (by decide) ?_
              refine ⟨⟨_, rfl, ?_⟩, trivial⟩
              · -- 23 comes up
                refine OV.box (t := 59) #[_, _, _, _] rfl rfl gno rfl (fun b1_23 => ?_)
                refine AV.next #[true, true, true, true, true, true, true, true, true, true, true, true, true, true, true, true, true, true, true, true, true, true, true, true, false] (by kernel_rfl) (fun _ h => h.sel [0] rfl) ?_
                refine AV.take 24 #[true, true, true, true, true, true, true, true, true, true, true, true, true, true, true, true, true, true, true, true, true, true, true, true, true] rfl (by kernel_rfl) (by kernel_rfl) (by kernel_rfl) (fun _ _ _ h => h) gno (Step.assign rfl) rfl (fun _ h => h.sel [0] rfl) (by kernel_rfl) ?_
                refine AV.done (by kernel_rfl) ?_
                refine KV.then_n ?_
                refine KV.env [(2, _)] ⟨rfl, trivial⟩ ?_
                refine CV.ret ?_
                -- return at r1
                refine KV.sel [0, 0, 0, 0, 3, 0, 0, 0] [_, _, _, _, _, _, _, _] rfl ?_
                simp only [List.nil_append, wc, wd]
                exact KV.ret1 rfl rfl _ (fun _ h => h) ⟨_, ⟨_, _, _, _, _, _⟩, rfl, rfl⟩
      · -- 12 comes up
        refine OV.buildSlice (K := (intK .u64)) ([]) rfl (Bs43_0_) rfl rfl (by omega) gno rfl (fun b1_12 => ?_)
        refine AV.next #[true, true, true, true, true, true, false, true, true, true, true, false, true, true, true, true, true, false, true, true, true, true, false, false, false] (by kernel_rfl) (fun _ h => h.sel [0] rfl) ?_
        refine AV.all [6] (by kernel_rfl) (by decide) ?_
        refine ⟨⟨_, rfl, ?_⟩, trivial⟩
        · -- 6 comes up
          refine OV.buildSlice (K := (intK .i64)) ([]) rfl (Bs57_0_) rfl rfl (by omega) gno rfl (fun b1_6 => ?_)
          refine AV.next #[true, true, true, true, true, true, true, true, true, true, true, false, true, true, true, true, true, false, true, true, true, true, false, false, false] (by kernel_rfl) (fun _ h => h.sel [0] rfl) ?_
          refine AV.all [11] (by kernel_rfl) (by decide) ?_
          refine ⟨⟨_, rfl, ?_⟩, trivial⟩
          · -- 11 comes up
            refine OV.append 6 Try.underlying57 I3 rfl rfl rfl rfl (by omega) rfl (fun w h => h.os 2 rfl) (by simp only [List.length_nil]; omega) (by simp only [List.length_nil]; omega) gno rfl (fun b11a b11c => ?_)
            refine AV.next #[true, true, true, true, true, true, true, true, true, true, true, true, true, true, true, true, true, false, true, true, true, true, false, false, false] (by kernel_rfl) (fun _ h => h.sel [0] rfl) ?_
            refine AV.all [17] (by kernel_rfl) (by decide) ?_
            refine ⟨⟨_, rfl, ?_⟩, trivial⟩
            · -- 17 comes up
              refine OV.append 5 Try.underlying43 I33 rfl rfl rfl rfl (by omega) rfl (fun w h => h.os 3 rfl) (by simp only [List.length_nil]; omega) (by simp only [List.length_nil]; omega) gno rfl (fun b17a b17c => ?_)
              refine AV.next #[true, true, true, true, true, true, true, true, true, true, true, true, true, true, true, true, true, true, true, true, true, true, false, false, false] (by kernel_rfl) (fun _ h => h.sel [0] rfl) ?_
              refine AV.take 22 #[true, true, true, true, true, true, true, true, true, true, true, true, true, true, true, true, true, true, true, true, true, true, true, false, false] rfl (by kernel_rfl) (by kernel_rfl) (by kernel_rfl) (fun _ _ _ h => h) gno (Step.build rfl (Bd59_0_1_2_3 _ _ _ _ _ _ _ _ _ _)) rfl (fun _ h => h.sel [0] rfl) (by kernel_rfl) ?_
              refine AV.all [23] (by kernel_rfl) (by decide) ?_
              refine ⟨⟨_, rfl, ?_⟩, trivial⟩
              · -- 23 comes up
                refine OV.box (t := 59) #[_, _, _, _] rfl rfl gno rfl (fun b1_23 => ?_)
                refine AV.next #[true, true, true, true, true, true, true, true, true, true, true, true, true, true, true, true, true, true, true, true, true, true, true, true, false] (by kernel_rfl) (fun _ h => h.sel [0] rfl) ?_
                refine AV.take 24 #[true, true, true, true, true, true, true, true, true, true, true, true, true, true, true, true, true, true, true, true, true, true, true, true, true] rfl (by kernel_rfl) (by kernel_rfl) (by kernel_rfl) (fun _ _ _ h => h) gno (Step.assign rfl) rfl (fun _ h => h.sel [0] rfl) (by kernel_rfl) ?_
                refine AV.done (by kernel_rfl) ?_
                refine KV.then_n ?_
                refine KV.env [(2, _)] ⟨rfl, trivial⟩ ?_
                refine CV.ret ?_
                -- return at r1
                refine KV.sel [0, 0, 0, 0, 3, 0, 1, 0] [_, _, _, _, _, _, _, _] rfl ?_
                simp only [List.nil_append, wc, wd]
                exact KV.ret1 rfl rfl _ (fun _ h => h) ⟨_, ⟨_, _, _, _, _, _⟩, rfl, rfl⟩
    · -- 6 comes up
      refine OV.buildSlice (K := (intK .i64)) ([]) rfl (Bs57_0_) rfl rfl (by omega) gno rfl (fun b1_6 => ?_)
      refine AV.next #[true, true, true, true, true, false, true, true, true, true, true, false, false, true, true, true, true, false, true, true, true, true, false, false, false] (by kernel_rfl) (fun _ h => h.sel [0] rfl) ?_
      refine AV.all [5, 12] (by kernel_rfl) (by decide) ?_
      refine ⟨⟨_, rfl, ?_⟩, ⟨⟨_, rfl, ?_⟩, trivial⟩⟩
      · -- 5 comes up
        refine OV.append 4 Try.underlying22 I35 rfl rfl rfl rfl (by omega) rfl (fun w h => h.os 1 rfl) (by simp only [List.length_nil]; omega) (by simp only [List.length_nil]; omega) gno rfl (fun b5a b5c => ?_)
        refine AV.next #[true, true, true, true, true, true, true, true, true, true, true, false, false, true, true, true, true, false, true, true, true, true, false, false, false] (by kernel_rfl) (fun _ h => h.sel [0] rfl) ?_
        refine AV.all [11, 12] (by kernel_rfl) (by decide) ?_
        refine ⟨⟨_, rfl, ?_⟩, ⟨⟨_, rfl, ?_⟩, trivial⟩⟩
        · -- 11 comes up
          refine OV.append 5 Try.underlying57 I3 rfl rfl rfl rfl (by omega) rfl (fun w h => h.os 2 rfl) (by simp only [List.length_nil]; omega) (by simp only [List.length_nil]; omega) gno rfl (fun b11a b11c => ?_)
          refine AV.next #[true, true, true, true, true, true, true, true, true, true, true, true, false, true, true, true, true, false, true, true, true, true, false, false, false] (by kernel_rfl) (fun _ h => h.sel [0] rfl) ?_
          refine AV.all [12] (by kernel_rfl) (by decide) ?_
          refine ⟨⟨_, rfl, ?_⟩, trivial⟩
          · -- 12 comes up
            refine OV.buildSlice (K := (intK .u64)) ([]) rfl (Bs43_0_) rfl rfl (by omega) gno rfl (fun b1_12 => ?_)
            refine AV.next #[true, true, true, true, true, true, true, true, true, true, true, true, true, true, true, true, true, false, true, true, true, true, false, false, false] (by kernel_rfl) (fun _ h => h.sel [0] rfl) ?_
            refine AV.all [17] (by kernel_rfl) (by decide) ?_
            refine ⟨⟨_, rfl, ?_⟩, trivial⟩
            · -- 17 comes up
              refine OV.append 6 Try.underlying43 I33 rfl rfl rfl rfl (by omega) rfl (fun w h => h.os 3 rfl) (by simp only [List.length_nil]; omega) (by simp only [List.length_nil]; omega) gno rfl (fun b17a b17c => ?_)
              refine AV.next #[true, true, true, true, true, true, true, true, true, true, true, true, true, true, true, true, true, true, true, true, true, true, false, false, false] (by kernel_rfl) (fun _ h => h.sel [0] rfl) ?_
              refine AV.take 22 #[true, true, true, true, true, true, true, true, true, true, true, true, true, true, true, true, true, true, true, true, true, true, true, false, false] rfl (by kernel_rfl) (by kernel_rfl) (by kernel_rfl) (fun _ _ _ h => h) gno (Step.build rfl (Bd59_0_1_2_3 _ _ _ _ _ _ _ _ _ _)) rfl (fun _ h => h.sel [0] rfl) (by kernel_rfl) ?_
              refine AV.all [23] (by kernel_rfl) (by decide) ?_
              refine ⟨⟨_, rfl, ?_⟩, trivial⟩
              · -- 23 comes up
                refine OV.box (t := 59) #[_, _, _, _] rfl rfl gno rfl (fun b1_23 => ?_)
                refine AV.next #[true, true, true, true, true, true, true, true, true, true, true, true, true, true, true, true, true, true, true, true, true, true, true, true, false] (by kernel_rfl) (fun _ h => h.sel [0] rfl) ?_
                refine AV.take 24 #[true, true, true, true, true, true, true, true, true, true, true, true, true, true, true, true, true, true, true, true, true, true, true, true, true] rfl (by kernel_rfl) (by kernel_rfl) (by kernel_rfl) (fun _ _ _ h => h) gno (Step.assign rfl) rfl (fun _ h => h.sel [0] rfl) (by kernel_rfl) ?_
                refine AV.done (by kernel_rfl) ?_
                refine KV.then_n ?_
                refine KV.env [(2, _)] ⟨rfl, trivial⟩ ?_
                refine CV.ret ?_
                -- return at r1
                refine KV.sel [0, 0, 0, 0, 3, 0, 0, 0] [_, _, _, _, _, _, _, _] rfl ?_
                simp only [List.nil_append, wc, wd]
                exact KV.ret1 rfl rfl _ (fun _ h => h) ⟨_, ⟨_, _, _, _, _, _⟩, rfl, rfl⟩
        · -- 12 comes up
          refine OV.buildSlice (K := (intK .u64)) ([]) rfl (Bs43_0_) rfl rfl (by omega) gno rfl (fun b1_12 => ?_)
          refine AV.next #[true, true, true, true, true, true, true, true, true, true, true, false, true, true, true, true, true, false, true, true, true, true, false, false, false] (by kernel_rfl) (fun _ h => h.sel [0] rfl) ?_
          refine AV.all [11] (by kernel_rfl) (by decide) ?_
          refine ⟨⟨_, rfl, ?_⟩, trivial⟩
          · -- 11 comes up
            refine OV.append 5 Try.underlying57 I3 rfl rfl rfl rfl (by omega) rfl (fun w h => h.os 2 rfl) (by simp only [List.length_nil]; omega) (by simp only [List.length_nil]; omega) gno rfl (fun b11a b11c => ?_)
            refine AV.next #[true, true, true, true, true, true, true, true, true, true, true, true, true, true, true, true, true, false, true, true, true, true, false, false, false] (by kernel_rfl) (fun _ h => h.sel [0] rfl) ?_
            refine AV.all [17] (by kernel_rfl) (by decide) ?_
            refine ⟨⟨_, rfl, ?_⟩, trivial⟩
            · -- 17 comes up
              refine OV.append 6 Try.underlying43 I33 rfl rfl rfl rfl (by omega) rfl (fun w h => h.os 3 rfl) (by simp only [List.length_nil]; omega) (by simp only [List.length_nil]; omega) gno rfl (fun b17a b17c => ?_)
              refine AV.next #[true, true, true, true, true, true, true, true, true, true, true, true, true, true, true, true, true, true, true, true, true, true, false, false, false] (by kernel_rfl) (fun _ h => h.sel [0] rfl) ?_
              refine AV.take 22 #[true, true, true, true, true, true, true, true, true, true, true, true, true, true, true, true, true, true, true, true, true, true, true, false, false] rfl (by kernel_rfl) (by kernel_rfl) (by kernel_rfl) (fun _ _ _ h => h) gno (Step.build rfl (Bd59_0_1_2_3 _ _ _ _ _ _ _ _ _ _)) rfl (fun _ h => h.sel [0] rfl) (by kernel_rfl) ?_
              refine AV.all [23] (by kernel_rfl) (by decide) ?_
              refine ⟨⟨_, rfl, ?_⟩, trivial⟩
              · -- 23 comes up
                refine OV.box (t := 59) #[_, _, _, _] rfl rfl gno rfl (fun b1_23 => ?_)
                refine AV.next #[true, true, true, true, true, true, true, true, true, true, true, true, true, true, true, true, true, true, true, true, true, true, true, true, false] (by kernel_rfl) (fun _ h => h.sel [0] rfl) ?_
                refine AV.take 24 #[true, true, true, true, true, true, true, true, true, true, true, true, true, true, true, true, true, true, true, true, true, true, true, true, true] rfl (by kernel_rfl) (by kernel_rfl) (by kernel_rfl) (fun _ _ _ h => h) gno (Step.assign rfl) rfl (fun _ h => h.sel [0] rfl) (by kernel_rfl) ?_
                refine AV.done (by kernel_rfl) ?_
                refine KV.then_n ?_
                refine KV.env [(2, _)] ⟨rfl, trivial⟩ ?_
                refine CV.ret ?_
                -- return at r1
                refine KV.sel [0, 0, 0, 0, 3, 0, 0, 0] [_, _, _, _, _, _, _, _] rfl ?_
                simp only [List.nil_append, wc, wd]
                exact KV.ret1 rfl rfl _ (fun _ h => h) ⟨_, ⟨_, _, _, _, _, _⟩, rfl, rfl⟩
      · -- 12 comes up
        refine OV.buildSlice (K := (intK .u64)) ([]) rfl (Bs43_0_) rfl rfl (by omega) gno rfl (fun b1_12 => ?_)
        refine AV.next #[true, true, true, true, true, false, true, true, true, true, true, false, true, true, true, true, true, false, true, true, true, true, false, false, false] (by kernel_rfl) (fun _ h => h.sel [0] rfl) ?_
        refine AV.all [5] (by kernel_rfl) (by decide) ?_
        refine ⟨⟨_, rfl, ?_⟩, trivial⟩
        · -- 5 comes up
          refine OV.append 4 Try.underlying22 I35 rfl rfl rfl rfl (by omega) rfl (fun w h => h.os 1 rfl) (by simp only [List.length_nil]; omega) (by simp only [List.length_nil]; omega) gno rfl (fun b5a b5c => ?_)
          refine AV.next #[true, true, true, true, true, true, true, true, true, true, true, false, true, true, true, true, true, false, true, true, true, true, false, false, false] (by kernel_rfl) (fun _ h => h.sel [0] rfl) ?_
          refine AV.all [11] (by kernel_rfl) (by decide) ?_
          refine ⟨⟨_, rfl, ?_⟩, trivial⟩
          · -- 11 comes up
            refine OV.append 5 Try.underlying57 I3 rfl rfl rfl rfl (by omega) rfl (fun w h => h.os 2 rfl) (by simp only [List.length_nil]; omega) (by simp only [List.length_nil]; omega) gno rfl (fun b11a b11c => ?_)
            refine AV.next #[true, true, true, true, true, true, true, true, true, true, true, true, true, true, true, true, true, false, true, true, true, true, false, false, false] (by kernel_rfl) (fun _ h => h.sel [0] rfl) ?_
            refine AV.all [17] (by kernel_rfl) (by decide) ?_
            refine ⟨⟨_, rfl, ?_⟩, trivial⟩
            · -- 17 comes up
              refine OV.append 6 Try.underlying43 I33 rfl rfl rfl rfl (by omega) rfl (fun w h => h.os 3 rfl) (by simp only [List.length_nil]; omega) (by simp only [List.length_nil]; omega) gno rfl (fun b17a b17c => ?_)
              refine AV.next #[true, true, true, true, true, true, true, true, true, true, true, true, true, true, true, true, true, true, true, true, true, true, false, false, false] (by kernel_rfl) (fun _ h => h.sel [0] rfl) ?_
              refine AV.take 22 #[true, true, true, true, true, true, true, true, true, true, true, true, true, true, true, true, true, true, true, true, true, true, true, false, false] rfl (by kernel_rfl) (by kernel_rfl) (by kernel_rfl) (fun _ _ _ h => h) gno (Step.build rfl (Bd59_0_1_2_3 _ _ _ _ _ _ _ _ _ _)) rfl (fun _ h => h.sel [0] rfl) (by kernel_rfl) ?_
              refine AV.all [23] (by kernel_rfl) (by decide) ?_
              refine ⟨⟨_, rfl, ?_⟩, trivial⟩
              · -- 23 comes up
                refine OV.box (t := 59) #[_, _, _, _] rfl rfl gno rfl (fun b1_23 => ?_)
                refine AV.next #[true, true, true, true, true, true, true, true, true, true, true, true, true, true, true, true, true, true, true, true, true, true, true, true, false] (by kernel_rfl) (fun _ h => h.sel [0] rfl) ?_
                refine AV.take 24 #[true, true, true, true, true, true, true, true, true, true, true, true, true, true, true, true, true, true, true, true, true, true, true, true, true] rfl (by kernel_rfl) (by kernel_rfl) (by kernel_rfl) (fun _ _ _ h => h) gno (Step.assign rfl) rfl (fun _ h => h.sel [0] rfl) (by kernel_rfl) ?_
                refine AV.done (by kernel_rfl) ?_
                refine KV.then_n ?_
                refine KV.env [(2, _)] ⟨rfl, trivial⟩ ?_
                refine CV.ret ?_
                -- return at r1
                refine KV.sel [0, 0, 0, 0, 3, 0, 0, 0] [_, _, _, _, _, _, _, _] rfl ?_
                simp only [List.nil_append, wc, wd]
                exact KV.ret1 rfl rfl _ (fun _ h => h) ⟨_, ⟨_, _, _, _, _, _⟩, rfl, rfl⟩
    · -- 12 comes up
      refine OV.buildSlice (K := (intK .u64)) ([]) rfl (Bs43_0_) rfl rfl (by omega) gno rfl (fun b1_12 => ?_)
      refine AV.next #[true, true, true, true, true, false, false, true, true, true, true, false, true, true, true, true, true, false, true, true, true, true, false, false, false] (by kernel_rfl) (fun _ h => h.sel [0] rfl) ?_
      refine AV.all [5, 6] (by kernel_rfl) (by decide) ?_
      refine ⟨⟨_, rfl, ?_⟩, ⟨⟨_, rfl, ?_⟩, trivial⟩⟩
      · -- 5 comes up
        refine OV.append 4 Try.underlying22 I35 rfl rfl rfl rfl (by omega) rfl (fun w h => h.os 1 rfl) (by simp only [List.length_nil]; omega) (by simp only [List.length_nil]; omega) gno rfl (fun b5a b5c => ?_)
        refine AV.next #[true, true, true, true, true, true, false, true, true, true, true, false, true, true, true, true, true, false, true, true, true, true, false, false, false] (by kernel_rfl) (fun _ h => h.sel [0] rfl) ?_
        refine AV.all [6] (by kernel_rfl) (by decide) ?_
        refine ⟨⟨_, rfl, ?_⟩, trivial⟩
        · -- 6 comes up
          refine OV.buildSlice (K := (intK .i64)) ([]) rfl (Bs57_0_) rfl rfl (by omega) gno rfl (fun b1_6 => ?_)
          refine AV.next #[true, true, true, true, true, true, true, true, true, true, true, false, true, true, true, true, true, false, true, true, true, true, false, false, false] (by kernel_rfl) (fun _ h => h.sel [0] rfl) ?_
          refine AV.all [11] (by kernel_rfl) (by decide) ?_
          refine ⟨⟨_, rfl, ?_⟩, trivial⟩
          · -- 11 comes up
            refine OV.append 6 Try.underlying57 I3 rfl rfl rfl rfl (by omega) rfl (fun w h => h.os 2 rfl) (by simp only [List.length_nil]; omega) (by simp only [List.length_nil]; omega) gno rfl (fun b11a b11c => ?_)
            refine AV.next #[true, true, true, true, true, true, true, true, true, true, true, true, true, true, true, true, true, false, true, true, true, true, false, false, false] (by kernel_rfl) (fun _ h => h.sel [0] rfl) ?_
            refine AV.all [17] (by kernel_rfl) (by decide) ?_
            refine ⟨⟨_, rfl, ?_⟩, trivial⟩
            · -- 17 comes up
              refine OV.append 5 Try.underlying43 I33 rfl rfl rfl rfl (by omega) rfl (fun w h => h.os 3 rfl) (by simp only [List.length_nil]; omega) (by simp only [List.length_nil]; omega) gno rfl (fun b17a b17c => ?_)
              refine AV.next #[true, true, true, true, true, true, true, true, true, true, true, true, true, true, true, true, true, true, true, true, true, true, false, false, false] (by kernel_rfl) (fun _ h => h.sel [0] rfl) ?_
              refine AV.take 22 #[true, true, true, true, true, true, true, true, true, true, true, true, true, true, true, true, true, true, true, true, true, true, true, false, false] rfl (by kernel_rfl) (by kernel_rfl) (by kernel_rfl) (fun _ _ _ h => h) gno (Step.build rfl (Bd59_0_1_2_3 _ _ _ _ _ _ _ _ _ _)) rfl (fun _ h => h.sel [0] rfl) (by kernel_rfl) ?_
              refine AV.all [23] (by kernel_rfl) (by decide) ?_
              refine ⟨⟨_, rfl, ?_⟩, trivial⟩
              · -- 23 comes up
                refine OV.box (t := 59) #[_, _, _, _] rfl rfl gno rfl (fun b1_23 => ?_)
                refine AV.next #[true, true, true, true, true, true, true, true, true, true, true, true, true, true, true, true, true, true, true, true, true, true, true, true, false] (by kernel_rfl) (fun _ h => h.sel [0] rfl) ?_
                refine AV.take 24 #[true, true, true, true, true, true, true, true, true, true, true, true, true, true, true, true, true, true, true, true, true, true, true, true, true] rfl (by kernel_rfl) (by kernel_rfl) (by kernel_rfl) (fun _ _ _ h => h) gno (Step.assign rfl) rfl (fun _ h => h.sel [0] rfl) (by kernel_rfl) ?_
                refine AV.done (by kernel_rfl) ?_
                refine KV.then_n ?_
                refine KV.env [(2, _)] ⟨rfl, trivial⟩ ?_
                refine CV.ret ?_
                -- return at r1
                refine KV.sel [0, 0, 0, 0, 3, 0, 1, 0] [_, _, _, _, _, _, _, _] rfl ?_
                simp only [List.nil_append, wc, wd]
                exact KV.ret1 rfl rfl _ (fun _ h => h) ⟨_, ⟨_, _, _, _, _, _⟩, rfl, rfl⟩
      · -- 6 comes up
        refine OV.buildSlice (K := (intK .i64)) ([]) rfl (Bs57_0_) rfl rfl (by omega) gno rfl (fun b1_6 => ?_)
        refine AV.next #[true, true, true, true, true, false, true, true, true, true, true, false, true, true, true, true, true, false, true, true, true, true, false, false, false] (by kernel_rfl) (fun _ h => h.sel [0] rfl) ?_
        refine AV.all [5] (by kernel_rfl) (by decide) ?_
        refine ⟨⟨_, rfl, ?_⟩, trivial⟩
        · -- 5 comes up
          refine OV.append 4 Try.underlying22 I35 rfl rfl rfl rfl (by omega) rfl (fun w h => h.os 1 rfl) (by simp only [List.length_nil]; omega) (by simp only [List.length_nil]; omega) gno rfl (fun b5a b5c => ?_)
          refine AV.next #[true, true, true, true, true, true, true, true, true, true, true, false, true, true, true, true, true, false, true, true, true, true, false, false, false] (by kernel_rfl) (fun _ h => h.sel [0] rfl) ?_
          refine AV.all [11] (by kernel_rfl) (by decide) ?_
          refine ⟨⟨_, rfl, ?_⟩, trivial⟩
          · -- 11 comes up
            refine OV.append 6 Try.underlying57 I3 rfl rfl rfl rfl (by omega) rfl (fun w h => h.os 2 rfl) (by simp only [List.length_nil]; omega) (by simp only [List.length_nil]; omega) gno rfl (fun b11a b11c => ?_)
            refine AV.next #[true, true, true, true, true, true, true, true, true, true, true, true, true, true, true, true, true, false, true, true, true, true, false, false, false] (by kernel_rfl) (fun _ h => h.sel [0] rfl) ?_
            refine AV.all [17] (by kernel_rfl) (by decide) ?_
            refine ⟨⟨_, rfl, ?_⟩, trivial⟩
            · -- 17 comes up
              refine OV.append 5 Try.underlying43 I33 rfl rfl rfl rfl (by omega) rfl (fun w h => h.os 3 rfl) (by simp only [List.length_nil]; omega) (by simp only [List.length_nil]; omega) gno rfl (fun b17a b17c => ?_)
              refine AV.next #[true, true, true, true, true, true, true, true, true, true, true, true, true, true, true, true, true, true, true, true, true, true, false, false, false] (by kernel_rfl) (fun _ h => h.sel [0] rfl) ?_
              refine AV.take 22 #[true, true, true, true, true, true, true, true, true, true, true, true, true, true, true, true, true, true, true, true, true, true, true, false, false] rfl (by kernel_rfl) (by kernel_rfl) (by kernel_rfl) (fun _ _ _ h => h) gno (Step.build rfl (Bd59_0_1_2_3 _ _ _ _ _ _ _ _ _ _)) rfl (fun _ h => h.sel [0] rfl) (by kernel_rfl) ?_
              refine AV.all [23] (by kernel_rfl) (by decide) ?_
              refine ⟨⟨_, rfl, ?_⟩, trivial⟩
              · -- 23 comes up
                refine OV.box (t := 59) #[_, _, _, _] rfl rfl gno rfl (fun b1_23 => ?_)
                refine AV.next #[true, true, true, true, true, true, true, true, true, true, true, true, true, true, true, true, true, true, true, true, true, true, true, true, false] (by kernel_rfl) (fun _ h => h.sel [0] rfl) ?_
                refine AV.take 24 #[true, true, true, true, true, true, true, true, true, true, true, true, true, true, true, true, true, true, true, true, true, true, true, true, true] rfl (by kernel_rfl) (by kernel_rfl) (by kernel_rfl) (fun _ _ _ h => h) gno (Step.assign rfl) rfl (fun _ h => h.sel [0] rfl) (by kernel_rfl) ?_
                refine AV.done (by kernel_rfl) ?_
                refine KV.then_n ?_
                refine KV.env [(2, _)] ⟨rfl, trivial⟩ ?_
                refine CV.ret ?_
                -- return at r1
                refine KV.sel [0, 0, 0, 0, 3, 0, 1, 0] [_, _, _, _, _, _, _, _] rfl ?_
                simp only [List.nil_append, wc, wd]
                exact KV.ret1 rfl rfl _ (fun _ h => h) ⟨_, ⟨_, _, _, _, _, _⟩, rfl, rfl⟩
  · -- 6 comes up
    refine OV.buildSlice (K := (intK .i64)) ([]) rfl (Bs57_0_) rfl rfl (by omega) gno rfl (fun b1_6 => ?_)
    refine AV.next #[false, true, true, true, true, false, true, true, true, true, true, false, false, true, true, true, true, false, true, true, true, true, false, false, false] (by kernel_rfl) (fun _ h => h.sel [0] rfl) ?_
    refine AV.all [0, 12] (by kernel_rfl) (by decide) ?_
    refine ⟨⟨_, rfl, ?_⟩, ⟨⟨_, rfl, ?_⟩, trivial⟩⟩
    · -- 0 comes up
      refine OV.buildSlice (K := railK) ([]) rfl (Bs22_0_) rfl rfl (by omega) gno rfl (fun b1_0 => ?_)
      refine AV.next #[true, true, true, true, true, false, true, true, true, true, true, false, false, true, true, true, true, false, true, true, true, true, false, false, false] (by kernel_rfl) (fun _ h => h.sel [0] rfl) ?_
      refine AV.all [5, 12] (by kernel_rfl) (by decide) ?_
      refine ⟨⟨_, rfl, ?_⟩, ⟨⟨_, rfl, ?_⟩, trivial⟩⟩
      · -- 5 comes up
        refine OV.append 5 Try.underlying22 I35 rfl rfl rfl rfl (by omega) rfl (fun w h => h.os 1 rfl) (by simp only [List.length_nil]; omega) (by simp only [List.length_nil]; omega) gno rfl (fun b5a b5c => ?_)
        refine AV.next #[true, true, true, true, true, true, true, true, true, true, true, false, false, true, true, true, true, false, true, true, true, true, false, false, false] (by kernel_rfl) (fun _ h => h.sel [0] rfl) ?_
        refine AV.all [11, 12] (by kernel_rfl) (by decide) ?_
        refine ⟨⟨_, rfl, ?_⟩, ⟨⟨_, rfl, ?_⟩, trivial⟩⟩
        · -- 11 comes up
          refine OV.append 4 Try.underlying57 I3 rfl rfl rfl rfl (by omega) rfl (fun w h => h.os 2 rfl) (by simp only [List.length_nil]; omega) (by simp only [List.length_nil]; omega) gno rfl (fun b11a b11c => ?_)
          refine AV.next #[true, true, true, true, true, true, true, true, true, true, true, true, false, true, true, true, true, false, true, true, true, true, false, false, false] (by kernel_rfl) (fun _ h => h.sel [0] rfl) ?_
          refine AV.all [12] (by kernel_rfl) (by decide) ?_
          refine ⟨⟨_, rfl, ?_⟩, trivial⟩
          · -- 12 comes up
            refine OV.buildSlice (K := (intK .u64)) ([]) rfl (Bs43_0_) rfl rfl (by omega) gno rfl (fun b1_12 => ?_)
            refine AV.next #[true, true, true, true, true, true, true, true, true, true, true, true, true, true, true, true, true, false, true, true, true, true, false, false, false] (by kernel_rfl) (fun _ h => h.sel [0] rfl) ?_
            refine AV.all [17] (by kernel_rfl) (by decide) ?_
            refine ⟨⟨_, rfl, ?_⟩, trivial⟩
            · -- 17 comes up
              refine OV.append 6 Try.underlying43 I33 rfl rfl rfl rfl (by omega) rfl (fun w h => h.os 3 rfl) (by simp only [List.length_nil]; omega) (by simp only [List.length_nil]; omega) gno rfl (fun b17a b17c => ?_)
              refine AV.next #[true, true, true, true, true, true, true, true, true, true, true, true, true, true, true, true, true, true, true, true, true, true, false, false, false] (by kernel_rfl) (fun _ h => h.sel [0] rfl) ?_
              refine AV.take 22 #[true, true, true, true, true, true, true, true, true, true, true, true, true, true, true, true, true, true, true, true, true, true, true, false, false] rfl (by kernel_rfl) (by kernel_rfl) (by kernel_rfl) (fun _ _ _ h => h) gno (Step.build rfl (Bd59_0_1_2_3 _ _ _ _ _ _ _ _ _ _)) rfl (fun _ h => h.sel [0] rfl) (by kernel_rfl) ?_
              refine AV.all [23] (by kernel_rfl) (by decide) ?_
              refine ⟨⟨_, rfl, ?_⟩, trivial⟩
              · -- 23 comes up
                refine OV.box (t := 59) #[_, _, _, _] rfl rfl gno rfl (fun b1_23 => ?_)
                refine AV.next #[true, true, true, true, true, true, true, true, true, true, true, true, true, true, true, true, true, true, true, true, true, true, true, true, false] (by kernel_rfl) (fun _ h => h.sel [0] rfl) ?_
                refine AV.take 24 #[true, true, true, true, true, true, true, true, true, true, true, true, true, true, true, true, true, true, true, true, true, true, true, true, true] rfl (by kernel_rfl) (by kernel_rfl) (by kernel_rfl) (fun _ _ _ h => h) gno (Step.assign rfl) rfl (fun _ h => h.sel [0] rfl) (by kernel_rfl) ?_
                refine AV.done (by kernel_rfl) ?_
                refine KV.then_n ?_
                refine KV.env [(2, _)] ⟨rfl, trivial⟩ ?_
                refine CV.ret ?_
                -- return at r1
                refine KV.sel [0, 0, 0, 0, 3, 1, 0, 0] [_, _, _, _, _, _, _, _] rfl ?_
                simp only [List.nil_append, wc, wd]
                exact KV.ret1 rfl rfl _ (fun _ h => h) ⟨_, ⟨_, _, _, _, _, _⟩, rfl, rfl⟩
        · -- 12 comes up
          refine OV.buildSlice (K := (intK .u64)) ([]) rfl (Bs43_0_) rfl rfl (by omega) gno rfl (fun b1_12 => ?_)
          refine AV.next #[true, true, true, true, true, true, true, true, true, true, true, false, true, true, true, true, true, false, true, true, true, true, false, false, false] (by kernel_rfl) (fun _ h => h.sel [0] rfl) ?_
          refine AV.all [11] (by kernel_rfl) (by decide) ?_
          refine ⟨⟨_, rfl, ?_⟩, trivial⟩
          · -- 11 comes up
            refine OV.append 4 Try.underlying57 I3 rfl rfl rfl rfl (by omega) rfl (fun w h => h.os 2 rfl) (by simp only [List.length_nil]; omega) (by simp only [List.length_nil]; omega) gno rfl (fun b11a b11c => ?_)
            refine AV.next #[true, true, true, true, true, true, true, true, true, true, true, true, true, true, true, true, true, false, true, true, true, true, false, false, false] (by kernel_rfl) (fun _ h => h.sel [0] rfl) ?_
            refine AV.all [17] (by kernel_rfl) (by decide) ?_
            refine ⟨⟨_, rfl, ?_⟩, trivial⟩
            · -- 17 comes up
              refine OV.append 6 Try.underlying43 I33 rfl rfl rfl rfl (by omega) rfl (fun w h => h.os 3 rfl) (by simp only [List.length_nil]; omega) (by simp only [List.length_nil]; omega) gno rfl (fun b17a b17c => ?_)
              refine AV.next #[true, true, true, true, true, true, true, true, true, true, true, true, true, true, true, true, true, true, true, true, true, true, false, false, false] (by kernel_rfl) (fun _ h => h.sel [0] rfl) ?_
              refine AV.take 22 #[true, true, true, true, true, true, true, true, true, true, true, true, true, true, true, true, true, true, true, true, true, true, true, false, false] rfl (by kernel_rfl) (by kernel_rfl) (by kernel_rfl) (fun _ _ _ h => h) gno (Step.build rfl (Bd59_0_1_2_3 _ _ _ _ _ _ _ _ _ _)) rfl (fun _ h => h.sel [0] rfl) (by kernel_rfl) ?_
              refine AV.all [23] (by kernel_rfl) (by decide) ?_
              refine ⟨⟨_, rfl, ?_⟩, trivial⟩
              · -- 23 comes up
                refine OV.box (t := 59) #[_, _, _, _] rfl rfl gno rfl (fun b1_23 => ?_)
                refine AV.next #[true, true, true, true, true, true, true, true, true, true, true, true, true, true, true, true, true, true, true, true, true, true, true, true, false] (by kernel_rfl) (fun _ h => h.sel [0] rfl) ?_
                refine AV.take 24 #[true, true, true, true, true, true, true, true, true, true, true, true, true, true, true, true, true, true, true, true, true, true, true, true, true] rfl (by kernel_rfl) (by kernel_rfl) (by kernel_rfl) (fun _ _ _ h => h) gno (Step.assign rfl) rfl (fun _ h => h.sel [0] rfl) (by kernel_rfl) ?_
                refine AV.done (by kernel_rfl) ?_
                refine KV.then_n ?_
                refine KV.env [(2, _)] ⟨rfl, trivial⟩ ?_
                refine CV.ret ?_
                -- return at r1
                refine KV.sel [0, 0, 0, 0, 3, 1, 0, 0] [_, _, _, _, _, _, _, _] rfl ?_
                simp only [List.nil_append, wc, wd]
                exact KV.ret1 rfl rfl _ (fun _ h => h) ⟨_, ⟨_, _, _, _, _, _⟩, rfl, rfl⟩
      · -- 12 comes up
        refine OV.buildSlice (K := (intK .u64)) ([]) rfl (Bs43_0_) rfl rfl (by omega) gno rfl (fun b1_12 => ?_)
        refine AV.next #[true, true, true, true, true, false, true, true, true, true, true, false, true, true, true, true, true, false, true, true, true, true, false, false, false] (by kernel_rfl) (fun _ h => h.sel [0] rfl) ?_
        refine AV.all [5] (by kernel_rfl) (by decide) ?_
        refine ⟨⟨_, rfl, ?_⟩, trivial⟩
        · -- 5 comes up
          refine OV.append 5 Try.underlying22 I35 rfl rfl rfl rfl (by omega) rfl (fun w h => h.os 1 rfl) (by simp only [List.length_nil]; omega) (by simp only [List.length_nil]; omega) gno rfl (fun b5a b5c => ?_)
          refine AV.next #[true, true, true, true, true, true, true, true, true, true, true, false, true, true, true, true, true, false, true, true, true, true, false, false, false] (by kernel_rfl) (fun _ h => h.sel [0] rfl) ?_
          refine AV.all [11] (by kernel_rfl) (by decide) ?_
          refine ⟨⟨_, rfl, ?_⟩, trivial⟩
          · -- 11 comes up
            refine OV.append 4 Try.underlying57 I3 rfl rfl rfl rfl (by omega) rfl (fun w h => h.os 2 rfl) (by simp only [List.length_nil]; omega) (by simp only [List.length_nil]; omega) gno rfl (fun b11a b11c => ?_)
            refine AV.next #[true, true, true, true, true, true, true, true, true, true, true, true, true, true, true, true, true, false, true, true, true, true, false, false, false] (by kernel_rfl) (fun _ h => h.sel [0] rfl) ?_
            refine AV.all [17] (by kernel_rfl) (by decide) ?_
            refine ⟨⟨_, rfl, ?_⟩, trivial⟩
            · -- 17 comes up
              refine OV.append 6 Try.underlying43 I33 rfl rfl rfl rfl (by omega) rfl (fun w h => h.os 3 rfl) (by simp only [List.length_nil]; omega) (by simp only [List.length_nil]; omega) gno rfl (fun b17a b17c => ?_)
              refine AV.next #[true, true, true, true, true, true, true, true, true, true, true, true, true, true, true, true, true, true, true, true, true, true, false, false, false] (by kernel_rfl) (fun _ h => h.sel [0] rfl) ?_
              refine AV.take 22 #[true, true, true, true, true, true, true, true, true, true, true, true, true, true, true, true, true, true, true, true, true, true, true, false, false] rfl (by kernel_rfl) (by kernel_rfl) (by kernel_rfl) (fun _ _ _ h => h) gno (Step.build rfl (Bd59_0_1_2_3 _ _ _ _ _ _ _ _ _ _)) rfl (fun _ h => h.sel [0] rfl) (by kernel_rfl) ?_
              refine AV.all [23] (by kernel_rfl) (by decide) ?_
              refine ⟨⟨_, rfl, ?_⟩, trivial⟩
              · -- 23 comes up
                refine OV.box (t := 59) #[_, _, _, _] rfl rfl gno rfl (fun b1_23 => ?_)
                refine AV.next #[true, true, true, true, true, true, true, true, true, true, true, true, true, true, true, true, true, true, true, true, true, true, true, true, false] (by kernel_rfl) (fun _ h => h.sel [0] rfl) ?_
                refine AV.take 24 #[true, true, true, true, true, true, true, true, true, true, true, true, true, true, true, true, true, true, true, true, true, true, true, true, true] rfl (by kernel_rfl) (by kernel_rfl) (by kernel_rfl) (fun _ _ _ h => h) gno (Step.assign rfl) rfl (fun _ h => h.sel [0] rfl) (by kernel_rfl) ?_
                refine AV.done (by kernel_rfl) ?_
                refine KV.then_n ?_
                refine KV.env [(2, _)] ⟨rfl, trivial⟩ ?_
                refine CV.ret ?_
                -- return at r1
                refine KV.sel [0, 0, 0, 0, 3, 1, 0, 0] [_, _, _, _, _, _, _, _] rfl ?_
                simp only [List.nil_append, wc, wd]
                exact KV.ret1 rfl rfl _ (fun _ h => h) ⟨_, ⟨_, _, _, _, _, _⟩, rfl, rfl⟩
    · -- 12 comes up
      refine OV.buildSlice (K := (intK .u64)) ([]) rfl (Bs43_0_) rfl rfl (by omega) gno rfl (fun b1_12 => ?_)
      refine AV.next #[false, true, true, true, true, false, true, true, true, true, true, false, true, true, true, true, true, false, true, true, true, true, false, false, false] (by kernel_rfl) (fun _ h => h.sel [0] rfl) ?_
      refine AV.all [0] (by kernel_rfl) (by decide) ?_
      refine ⟨⟨_, rfl, ?_⟩, trivial⟩
      · -- 0 comes up
        refine OV.buildSlice (K := railK) ([]) rfl (Bs22_0_) rfl rfl (by omega) gno rfl (fun b1_0 => ?_)
        refine AV.next #[true, true, true, true, true, false, true, true, true, true, true, false, true, true, true, true, true, false, true, true, true, true, false, false, false] (by kernel_rfl) (fun _ h => h.sel [0] rfl) ?_
        refine AV.all [5] (by kernel_rfl) (by decide) ?_
        refine ⟨⟨_, rfl, ?_⟩, trivial⟩
        · -- 5 comes up
          refine OV.append 6 Try.underlying22 I35 rfl rfl rfl rfl (by omega) rfl (fun w h => h.os 1 rfl) (by simp only [List.length_nil]; omega) (by simp only [List.length_nil]; omega) gno rfl (fun b5a b5c => ?_)
          refine AV.next #[true, true, true, true, true, true, true, true, true, true, true, false, true, true, true, true, true, false, true, true, true, true, false, false, false] (by kernel_rfl) (fun _ h => h.sel [0] rfl) ?_
          refine AV.all [11] (by kernel_rfl) (by decide) ?_
          refine ⟨⟨_, rfl, ?_⟩, trivial⟩
          · -- 11 comes up
            refine OV.append 4 Try.underlying57 I3 rfl rfl rfl rfl (by omega) rfl (fun w h => h.os 2 rfl) (by simp only [List.length_nil]; omega) (by simp only [List.length_nil]; omega) gno rfl (fun b11a b11c => ?_)
            refine AV.next #[true, true, true, true, true, true, true, true, true, true, true, true, true, true, true, true, true, false, true, true, true, true, false, false, false] (by kernel_rfl) (fun _ h => h.sel [0] rfl) ?_
            refine AV.all [17] (by kernel_rfl) (by decide) ?_
            refine ⟨⟨_, rfl, ?_⟩, trivial⟩
            · -- 17 comes up
              refine OV.append 5 Try.underlying43 I33 rfl rfl rfl rfl (by omega) rfl (fun w h => h.os 3 rfl) (by simp only [List.length_nil]; omega) (by simp only [List.length_nil]; omega) gno rfl (fun b17a b17c => ?_)
              refine AV.next #[true, true, true, true, true, true, true, true, true, true, true, true, true, true, true, true, true, true, true, true, true, true, false, false, false] (by kernel_rfl) (fun _ h => h.sel [0] rfl) ?_
              refine AV.take 22 #[true, true, true, true, true, true, true, true, true, true, true, true, true, true, true, true, true, true, true, true, true, true, true, false, false] rfl (by kernel_rfl) (by kernel_rfl) (by kernel_rfl) (fun _ _ _ h => h) gno (Step.build rfl (Bd59_0_1_2_3 _ _ _ _ _ _ _ _ _ _)) rfl (fun _ h => h.sel [0] rfl) (by kernel_rfl) ?_
              refine AV.all [23] (by kernel_rfl) (by decide) ?_
              refine ⟨⟨_, rfl, ?_⟩, trivial⟩
              · -- 23 comes up
                refine OV.box (t := 59) #[_, _, _, _] rfl rfl gno rfl (fun b1_23 => ?_)
                refine AV.next #[true, true, true, true, true, true, true, true, true, true, true, true, true, true, true, true, true, true, true, true, true, true, true, true, false] (by kernel_rfl) (fun _ h => h.sel [0] rfl) ?_
                refine AV.take 24 #[true, true, true, true, true, true, true, true, true, true, true, true, true, true, true, true, true, true, true, true, true, true, true, true, true] rfl (by kernel_rfl) (by kernel_rfl) (by kernel_rfl) (fun _ _ _ h => h) gno (Step.assign rfl) rfl (fun _ h => h.sel [0] rfl) (by kernel_rfl) ?_
                refine AV.done (by kernel_rfl) ?_
                refine KV.then_n ?_
                refine KV.env [(2, _)] ⟨rfl, trivial⟩ ?_
                refine CV.ret ?_
                -- return at r1
                refine KV.sel [0, 0, 0, 0, 3, 2, 0, 0] [_, _, _, _, _, _, _, _] rfl ?_
                simp only [List.nil_append, wc, wd]
                exact KV.ret1 rfl rfl _ (fun _ h => h) ⟨_, ⟨_, _, _, _, _, _⟩, rfl, rfl⟩
  · -- 12 comes up
    refine OV.buildSlice (K := (intK .u64)) ([]) rfl (Bs43_0_) rfl rfl (by omega) gno rfl (fun b1_12 => ?_)
    refine AV.next #[false, true, true, true, true, false, false, true, true, true, true, false, true, true, true, true, true, false, true, true, true, true, false, false, false] (by kernel_rfl) (fun _ h => h.sel [0] rfl) ?_
    refine AV.all [0, 6] (by kernel_rfl) (by decide) ?_
    refine ⟨⟨_, rfl, ?_⟩, ⟨⟨_, rfl, ?_⟩, trivial⟩⟩
    · -- 0 comes up
      refine OV.buildSlice (K := railK) ([]) rfl (Bs22_0_) rfl rfl (by omega) gno rfl (fun b1_0 => ?_)
      refine AV.next #[true, true, true, true, true, false, false, true, true, true, true, false, true, true, true, true, true, false, true, true, true, true, false, false, false] (by kernel_rfl) (fun _ h => h.sel [0] rfl) ?_
      refine AV.all [5, 6] (by kernel_rfl) (by decide) ?_
      refine ⟨⟨_, rfl, ?_⟩, ⟨⟨_, rfl, ?_⟩, trivial⟩⟩
      · -- 5 comes up
        refine OV.append 5 Try.underlying22 I35 rfl rfl rfl rfl (by omega) rfl (fun w h => h.os 1 rfl) (by simp only [List.length_nil]; omega) (by simp only [List.length_nil]; omega) gno rfl (fun b5a b5c => ?_)
        refine AV.next #[true, true, true, true, true, true, false, true, true, true, true, false, true, true, true, true, true, false, true, true, true, true, false, false, false] (by kernel_rfl) (fun _ h => h.sel [0] rfl) ?_
        refine AV.all [6] (by kernel_rfl) (by decide) ?_
        refine ⟨⟨_, rfl, ?_⟩, trivial⟩
        · -- 6 comes up
          refine OV.buildSlice (K := (intK .i64)) ([]) rfl (Bs57_0_) rfl rfl (by omega) gno rfl (fun b1_6 => ?_)
          refine AV.next #[true, true, true, true, true, true, true, true, true, true, true, false, true, true, true, true, true, false, true, true, true, true, false, false, false] (by kernel_rfl) (fun _ h => h.sel [0] rfl) ?_
          refine AV.all [11] (by kernel_rfl) (by decide) ?_
          refine ⟨⟨_, rfl, ?_⟩, trivial⟩
          · -- 11 comes up
            refine OV.append 6 Try.underlying57 I3 rfl rfl rfl rfl (by omega) rfl (fun w h => h.os 2 rfl) (by simp only [List.length_nil]; omega) (by simp only [List.length_nil]; omega) gno rfl (fun b11a b11c => ?_)
            refine AV.next #[true, true, true, true, true, true, true, true, true, true, true, true, true, true, true, true, true, false, true, true, true, true, false, false, false] (by kernel_rfl) (fun _ h => h.sel [0] rfl) ?_
            refine AV.all [17] (by kernel_rfl) (by decide) ?_
            refine ⟨⟨_, rfl, ?_⟩, trivial⟩
            · -- 17 comes up
              refine OV.append 4 Try.underlying43 I33 rfl rfl rfl rfl (by omega) rfl (fun w h => h.os 3 rfl) (by simp only [List.length_nil]; omega) (by simp only [List.length_nil]; omega) gno rfl (fun b17a b17c => ?_)
              refine AV.next #[true, true, true, true, true, true, true, true, true, true, true, true, true, true, true, true, true, true, true, true, true, true, false, false, false] (by kernel_rfl) (fun _ h => h.sel [0] rfl) ?_
              refine AV.take 22 #[true, true, true, true, true, true, true, true, true, true, true, true, true, true, true, true, true, true, true, true, true, true, true, false, false] rfl (by kernel_rfl) (by kernel_rfl) (by kernel_rfl) (fun _ _ _ h => h) gno (Step.build rfl (Bd59_0_1_2_3 _ _ _ _ _ _ _ _ _ _)) rfl (fun _ h => h.sel [0] rfl) (by kernel_rfl) ?_
              refine AV.all [23] (by kernel_rfl) (by decide) ?_
              refine ⟨⟨_, rfl, ?_⟩, trivial⟩
              · -- 23 comes up
                refine OV.box (t := 59) #[_, _, _, _] rfl rfl gno rfl (fun b1_23 => ?_)
                refine AV.next #[true, true, true, true, true, true, true, true, true, true, true, true, true, true, true, true, true, true, true, true, true, true, true, true, false] (by kernel_rfl) (fun _ h => h.sel [0] rfl) ?_
                refine AV.take 24 #[true, true, true, true, true, true, true, true, true, true, true, true, true, true, true, true, true, true, true, true, true, true, true, true, true] rfl (by kernel_rfl) (by kernel_rfl) (by kernel_rfl) (fun _ _ _ h => h) gno (Step.assign rfl) rfl (fun _ h => h.sel [0] rfl) (by kernel_rfl) ?_
                refine AV.done (by kernel_rfl) ?_
                refine KV.then_n ?_
                refine KV.env [(2, _)] ⟨rfl, trivial⟩ ?_
                refine CV.ret ?_
                -- return at r1
                refine KV.sel [0, 0, 0, 0, 3, 1, 1, 0] [_, _, _, _, _, _, _, _] rfl ?_
                simp only [List.nil_append, wc, wd]
                exact KV.ret1 rfl rfl _ (fun _ h => h) ⟨_, ⟨_, _, _, _, _, _⟩, rfl, rfl⟩
      · -- 6 comes up
        refine OV.buildSlice (K := (intK .i64)) ([]) rfl (Bs57_0_) rfl rfl (by omega) gno rfl (fun b1_6 => ?_)
        refine AV.next #[true, true, true, true, true, false, true, true, true, true, true, false, true, true, true, true, true, false, true, true, true, true, false, false, false] (by kernel_rfl) (fun _ h => h.sel [0] rfl) ?_
        refine AV.all [5] (by kernel_rfl) (by decide) ?_
        refine ⟨⟨_, rfl, ?_⟩, trivial⟩
        · -- 5 comes up
          refine OV.append 5 Try.underlying22 I35 rfl rfl rfl rfl (by omega) rfl (fun w h => h.os 1 rfl) (by simp only [List.length_nil]; omega) (by simp only [List.length_nil]; omega) gno rfl (fun b5a b5c => ?_)
          refine AV.next #[true, true, true, true, true, true, true, true, true, true, true, false, true, true, true, true, true, false, true, true, true, true, false, false, false] (by kernel_rfl) (fun _ h => h.sel [0] rfl) ?_
          refine AV.all [11] (by kernel_rfl) (by decide) ?_
          refine ⟨⟨_, rfl, ?_⟩, trivial⟩
          · -- 11 comes up
            refine OV.append 6 Try.underlying57 I3 rfl rfl rfl rfl (by omega) rfl (fun w h => h.os 2 rfl) (by simp only [List.length_nil]; omega) (by simp only [List.length_nil]; omega) gno rfl (fun b11a b11c => ?_)
            refine AV.next #[true, true, true, true, true, true, true, true, true, true, true, true, true, true, true, true, true, false, true, true, true, true, false, false, false] (by kernel_rfl) (fun _ h => h.sel [0] rfl) ?_
            refine AV.all [17] (by kernel_rfl) (by decide) ?_
            refine ⟨⟨_, rfl, ?_⟩, trivial⟩
            · -- 17 comes up
              refine OV.append 4 Try.underlying43 I33 rfl rfl rfl rfl (by omega) rfl (fun w h => h.os 3 rfl) (by simp only [List.length_nil]; omega) (by simp only [List.length_nil]; omega) gno rfl (fun b17a b17c => ?_)
              refine AV.next #[true, true, true, true, true, true, true, true, true, true, true, true, true, true, true, true, true, true, true, true, true, true, false, false, false] (by kernel_rfl) (fun _ h => h.sel [0] rfl) ?_
              refine AV.take 22 #[true, true, true, true, true, true, true, true, true, true, true, true, true, true, true, true, true, true, true, true, true, true, true, false, false] rfl (by kernel_rfl) (by kernel_rfl) (by kernel_rfl) (fun _ _ _ h => h) gno (Step.build rfl (Bd59_0_1_2_3 _ _ _ _ _ _ _ _ _ _)) rfl (fun _ h => h.sel [0] rfl) (by kernel_rfl) ?_
              refine AV.all [23] (by kernel_rfl) (by decide) ?_
              refine ⟨⟨_, rfl, ?_⟩, trivial⟩
              · -- 23 comes up
                refine OV.box (t := 59) #[_, _, _, _] rfl rfl gno rfl (fun b1_23 => ?_)
                refine AV.next #[true, true, true, true, true, true, true, true, true, true, true, true, true, true, true, true, true, true, true, true, true, true, true, true, false] (by kernel_rfl) (fun _ h => h.sel [0] rfl) ?_
                refine AV.take 24 #[true, true, true, true, true, true, true, true, true, true, true, true, true, true, true, true, true, true, true, true, true, true, true, true, true] rfl (by kernel_rfl) (by kernel_rfl) (by kernel_rfl) (fun _ _ _ h => h) gno (Step.assign rfl) rfl (fun _ h => h.sel [0] rfl) (by kernel_rfl) ?_
                refine AV.done (by kernel_rfl) ?_
                refine KV.then_n ?_
                refine KV.env [(2, _)] ⟨rfl, trivial⟩ ?_
                refine CV.ret ?_
                -- return at r1
                refine KV.sel [0, 0, 0, 0, 3, 1, 1, 0] [_, _, _, _, _, _, _, _] rfl ?_
                simp only [List.nil_append, wc, wd]
                exact KV.ret1 rfl rfl _ (fun _ h => h) ⟨_, ⟨_, _, _, _, _, _⟩, rfl, rfl⟩
    · -- 6 comes up
      refine OV.buildSlice (K := (intK .i64)) ([]) rfl (Bs57_0_) rfl rfl (by omega) gno rfl (fun b1_6 => ?_)
      refine AV.next #[false, true, true, true, true, false, true, true, true, true, true, false, true, true, true, true, true, false, true, true, true, true, false, false, false] (by kernel_rfl) (fun _ h => h.sel [0] rfl) ?_
      refine AV.all [0] (by kernel_rfl) (by decide) ?_
      refine ⟨⟨_, rfl, ?_⟩, trivial⟩
      · -- 0 comes up
        refine OV.buildSlice (K := railK) ([]) rfl (Bs22_0_) rfl rfl (by omega) gno rfl (fun b1_0 => ?_)
        refine AV.next #[true, true, true, true, true, false, true, true, true, true, true, false, true, true, true, true, true, false, true, true, true, true, false, false, false] (by kernel_rfl) (fun _ h => h.sel [0] rfl) ?_
        refine AV.all [5] (by kernel_rfl) (by decide) ?_
        refine ⟨⟨_, rfl, ?_⟩, trivial⟩
        · -- 5 comes up
          refine OV.append 6 Try.underlying22 I35 rfl rfl rfl rfl (by omega) rfl (fun w h => h.os 1 rfl) (by simp only [List.length_nil]; omega) (by simp only [List.length_nil]; omega) gno rfl (fun b5a b5c => ?_)
          refine AV.next #[true, true, true, true, true, true, true, true, true, true, true, false, true, true, true, true, true, false, true, true, true, true, false, false, false] (by kernel_rfl) (fun _ h => h.sel [0] rfl) ?_
          refine AV.all [11] (by kernel_rfl) (by decide) ?_
          refine ⟨⟨_, rfl, ?_⟩, trivial⟩
          · -- 11 comes up
            refine OV.append 5 Try.underlying57 I3 rfl rfl rfl rfl (by omega) rfl (fun w h => h.os 2 rfl) (by simp only [List.length_nil]; omega) (by simp only [List.length_nil]; omega) gno rfl (fun b11a b11c => ?_)
            refine AV.next #[true, true, true, true, true, true, true, true, true, true, true, true, true, true, true, true, true, false, true, true, true, true, false, false, false] (by kernel_rfl) (fun _ h => h.sel [0] rfl) ?_
            refine AV.all [17] (by kernel_rfl) (by decide) ?_
            refine ⟨⟨_, rfl, ?_⟩, trivial⟩
            · -- 17 comes up
              refine OV.append 4 Try.underlying43 I33 rfl rfl rfl rfl (by omega) rfl (fun w h => h.os 3 rfl) (by simp only [List.length_nil]; omega) (by simp only [List.length_nil]; omega) gno rfl (fun b17a b17c => ?_)
              refine AV.next #[true, true, true, true, true, true, true, true, true, true, true, true, true, true, true, true, true, true, true, true, true, true, false, false, false] (by kernel_rfl) (fun _ h => h.sel [0] rfl) ?_
              refine AV.take 22 #[true, true, true, true, true, true, true, true, true, true, true, true, true, true, true, true, true, true, true, true, true, true, true, false, false] rfl (by kernel_rfl) (by kernel_rfl) (by kernel_rfl) (fun _ _ _ h => h) gno (Step.build rfl (Bd59_0_1_2_3 _ _ _ _ _ _ _ _ _ _)) rfl (fun _ h => h.sel [0] rfl) (by kernel_rfl) ?_
              refine AV.all [23] (by kernel_rfl) (by decide) ?_
              refine ⟨⟨_, rfl, ?_⟩, trivial⟩
              · -- 23 comes up
                refine OV.box (t := 59) #[_, _, _, _] rfl rfl gno rfl (fun b1_23 => ?_)
                refine AV.next #[true, true, true, true, true, true, true, true, true, true, true, true, true, true, true, true, true, true, true, true, true, true, true, true, false] (by kernel_rfl) (fun _ h => h.sel [0] rfl) ?_
                refine AV.take 24 #[true, true, true, true, true, true, true, true, true, true, true, true, true, true, true, true, true, true, true, true, true, true, true, true, true] rfl (by kernel_rfl) (by kernel_rfl) (by kernel_rfl) (fun _ _ _ h => h) gno (Step.assign rfl) rfl (fun _ h => h.sel [0] rfl) (by kernel_rfl) ?_
                refine AV.done (by kernel_rfl) ?_
                refine KV.then_n ?_
                refine KV.env [(2, _)] ⟨rfl, trivial⟩ ?_
                refine CV.ret ?_
                -- return at r1
                refine KV.sel [0, 0, 0, 0, 3, 2, 1, 0] [_, _, _, _, _, _, _, _] rfl ?_
                simp only [List.nil_append, wc, wd]
                exact KV.ret1 rfl rfl _ (fun _ h => h) ⟨_, ⟨_, _, _, _, _, _⟩, rfl, rfl⟩
end Go.Proofs.Ytcmalbkflbfidaa
