/-
  Walks, part 1.
-/
import Derived.Test.YtaafpnoffdcbnaaTab1
import Derived.Test.YtaafpnoffdcbnaaMdl2
set_option linter.unusedSimpArgs false
set_option linter.unusedVariables false
namespace Go.Proofs.Ytaafpnoffdcbnaa
open Go.Sv Go.Perf
set_option maxRecDepth 100000 in
set_option maxHeartbeats 1000000 in
theorem mod_fn (v : Int) (n : Nat) (hn : 0 < n) (hn2 : n ≤ 1000000) : FxP Try.prog 14 [.int .i64 v, .int .i64 n] (.int .i64 (modM v n)) := by
  refine Sv.FxP.body Try.func14 rfl T14 rfl ?_
  intro wp
  refine KV.env [(0, _), (1, _)] ⟨rfl, rfl, trivial⟩ ?_
  refine CV.seq ?_
  -- region 0 help.go:60
  refine CV.region ?_
  refine RV.op (OV.step gno (Step.assign rfl) rfl ?_)
  refine RV.nil ?_
  refine KV.then_n ?_
  refine KV.env [(0, _), (1, _)] ⟨rfl, rfl, trivial⟩ ?_
  refine CV.seq ?_
  -- region 1 help.go:60
  refine CV.region ?_
  refine RV.op (OV.step gno (Step.move rfl) rfl ?_)
  refine RV.op (OV.step gno (Step.convI Try.underlying3 Try.underlying60 rfl (rfl)) rfl ?_)
  refine RV.op (OV.step gno (Step.move rfl) rfl ?_)
  refine RV.op (OV.step gno (Step.convI Try.underlying3 Try.underlying60 rfl (wU64 (by omega) (by omega))) rfl ?_)
  refine RV.op (OV.step gno (Step.rem rfl rfl (by omega) (rfl)) rfl ?_)
  refine RV.op (OV.step gno (Step.convI Try.underlying60 Try.underlying3 rfl (wI64 (by have := modT v hn; omega) (by have := modT v hn; omega))) rfl ?_)
  refine RV.op (OV.step gno (Step.assign rfl) rfl ?_)
  refine RV.nil ?_
  refine KV.then_n ?_
  refine KV.env [(4, _)] ⟨rfl, trivial⟩ ?_
  refine CV.ret ?_
  -- return at r1
  exact KV.retP1 rfl rfl (by rw [modM_t v hn])

set_option maxRecDepth 100000 in
set_option maxHeartbeats 1000000 in
theorem check_fn {A : Option Addr} {n c : Nat} {ys : List Pt} {w : World} (hr : RS w ptK A ys) (hn : n = ys.length) (hl : ys.length ≤ 1000000) : Fx Try.prog 17 [.slice A n c] w [] no (fun v L => v = .int .i64 (chkM ys) ∧ L = []) := by
  subst hn
  refine Sv.Fx.body Try.func17 rfl T17 rfl ?_
  intro I hro hI
  refine KV.env [(0, _)] ⟨rfl, trivial⟩ ?_
  refine CV.seq ?_
  -- region 0 perf.go:16
  refine CV.region ?_
  refine RV.op (OV.step gno (Step.assign rfl) rfl ?_)
  refine RV.nil ?_
  refine KV.then_n ?_
  refine KV.env [(0, _)] ⟨rfl, trivial⟩ ?_
  refine CV.seq ?_
  refine CV.seq ?_
  -- region 1 perf.go:17
  refine CV.region ?_
  refine RV.op (OV.step gno (Step.move rfl) rfl ?_)
  refine RV.op (OV.step gno (Step.lenSl Try.underlying22 rfl) rfl ?_)
  refine RV.op (OV.split gno (Step.lss rfl rfl) rfl (fun cc1 => ?_) (fun cc1 => ?_))
  · -- True
    refine RV.op (OV.step gno (Step.move rfl) rfl ?_)
    refine RV.op (OV.skip rfl rfl ?_)
    refine RV.op (OV.skip rfl rfl ?_)
    refine RV.op (OV.skip rfl rfl ?_)
    refine RV.op (OV.step gno (Step.pick_t rfl rfl) rfl ?_)
    refine RV.nil ?_
    refine KV.then_n ?_
    refine KV.env [(0, _), (13, _)] ⟨rfl, rfl, trivial⟩ ?_
    refine CV.cond_t rfl ?_
    refine CV.seq ?_
    -- region 2 perf.go:18
    refine CV.region ?_
    refine RV.op (OV.step gno (Step.assign rfl) rfl ?_)
    refine RV.nil ?_
    refine KV.then_n ?_
    refine KV.env [(2, _)] ⟨rfl, trivial⟩ ?_
    refine CV.ret ?_
    refine KV.then_ret ?_
    -- return at r2
    refine KV.sel [] [] rfl ?_
    exact KV.ret1 rfl rfl _ (fun _ h => h) ⟨by rw [chkM_short (by omega)], rfl⟩
  · -- False
    refine RV.op (OV.step gno (Step.move rfl) rfl ?_)
    refine RV.op (OV.step (gyes rfl) (Step.move rfl) rfl ?_)
    refine RV.op (OV.step (gyes rfl) (Step.lenSl Try.underlying22 rfl) rfl ?_)
    refine RV.op (OV.split (gyes rfl) (Step.gtr rfl rfl) rfl (fun cc2 => ?_) (fun cc2 => ?_))
    · -- True
      refine RV.op (OV.step gno (Step.pick_f rfl rfl) rfl ?_)
      refine RV.nil ?_
      refine KV.then_n ?_
      refine KV.env [(0, _), (13, _)] ⟨rfl, rfl, trivial⟩ ?_
      refine CV.cond_t rfl ?_
      refine CV.seq ?_
      -- region 2 perf.go:18
      refine CV.region ?_
      refine RV.op (OV.step gno (Step.assign rfl) rfl ?_)
      refine RV.nil ?_
      refine KV.then_n ?_
      refine KV.env [(2, _)] ⟨rfl, trivial⟩ ?_
      refine CV.ret ?_
      refine KV.then_ret ?_
      -- return at r2
      refine KV.sel [] [] rfl ?_
      exact KV.ret1 rfl rfl _ (fun _ h => h) ⟨by rw [chkM_short (by omega)], rfl⟩
    · -- False
      refine RV.op (OV.step gno (Step.pick_f rfl rfl) rfl ?_)
      refine RV.nil ?_
      refine KV.then_n ?_
      refine KV.env [(0, _), (13, _)] ⟨rfl, rfl, trivial⟩ ?_
      refine CV.cond_f rfl ?_
      refine CV.skip ?_
      refine KV.then_n ?_
      refine KV.env [(0, _)] ⟨rfl, trivial⟩ ?_
      refine CV.seq ?_
      refine CV.seq ?_
      -- region 3 perf.go:20
      refine CV.region ?_
      refine RV.op (OV.step gno (Step.move rfl) rfl ?_)
      refine RV.op (OV.step gno (Step.lenSl Try.underlying22 rfl) rfl ?_)
      refine RV.op (OV.step gno (Step.move rfl) rfl ?_)
      refine RV.nil ?_
      refine KV.then_n ?_
      refine KV.env [(0, _), (14, _), (15, _), (16, _)] ⟨rfl, rfl, rfl, rfl, trivial⟩ ?_
      refine CV.block ?_
      -- loop L4; live [0, 14, 15, 16]
      refine KV.sel [] [] rfl ?_
      refine CV.loopI (fun (j : Nat) => j ≤ ys.length ∧ ∀ i, i < j → ¬ badAt ys i) (fun (j : Nat) => ys.length - j) (fun (j : Nat) => [(0, .slice A ys.length c), (14, .slice A ys.length c), (15, .int .i64 ys.length), (16, .int .i64 j)]) (fun (j : Nat) => Hp I w []) (0) ⟨Nat.zero_le _, fun _ h => by omega⟩ ⟨rfl, rfl, rfl, rfl, trivial⟩ (fun _ h => h) ?_
      intro j hinv
      refine CV.seq ?_
      -- region 4 perf.go:20
      refine CV.region ?_
      refine RV.op (OV.split gno (Step.lss rfl rfl) rfl (fun cc3 => ?_) (fun cc3 => ?_))
      · -- True
        refine RV.nil ?_
        refine KV.then_n ?_
        refine KV.env [(0, _), (14, _), (15, _), (16, _), (17, _)] ⟨rfl, rfl, rfl, rfl, rfl, trivial⟩ ?_
        refine CV.seq ?_
        refine CV.cond_t rfl ?_
        refine CV.skip ?_
        refine KV.then_n ?_
        refine KV.env [(0, _), (14, _), (15, _), (16, _)] ⟨rfl, rfl, rfl, rfl, trivial⟩ ?_
        refine CV.seq ?_
        refine CV.block ?_
        refine CV.seq ?_
        -- region 5 perf.go:20
        refine CV.region ?_
        refine RV.op (OV.step gno (Step.move rfl) rfl ?_)
        refine RV.op (OV.step gno (Step.idx Try.underlying22 I25 (fun w h => h.rs hr (fun _ => hI _)) rfl rfl (rfl) _ rfl (by omega)) rfl ?_)
        refine RV.op (OV.step gno (Step.loadN _ Try.underlying25 rfl I25 rfl rfl (fun w h => (h.rs hr (fun _ => hI _)).cells (by omega))) rfl ?_)
        refine RV.op (OV.alloc #[.int .u64 0, .int .u64 0, .int .u64 0] I25 rfl gno rfl (fun b5_3 => ?_))
        refine RV.op (OV.step gno (Step.assign rfl) rfl ?_)
        refine RV.op (OV.store 0 [_, _, _] #[_, _, _] I25 rfl rfl rfl rfl rfl (Nat.le_of_ble_eq_true rfl) (by simp [Value.oneCell']) rfl gno ?_)
        refine RV.nil ?_
        refine KV.then_n ?_
        refine KV.env [(0, _), (3, _), (4, _), (14, _), (15, _), (16, _)] ⟨rfl, rfl, rfl, rfl, rfl, rfl, trivial⟩ ?_
        refine CV.seq ?_
        refine CV.seq ?_
        -- region 6 perf.go:21
        refine CV.region ?_
        refine RV.op (OV.step gno (Step.fieldAddr rfl (F25_0 _ _)) rfl ?_)
        (first | refine RV.op (OV.step gno (Step.load Try.underlying23 rfl rfl (fun w h => h.cell 0 rfl rfl)) rfl ?_) | refine RV.op (OV.step gno (Step.load Try.underlying23 rfl rfl (fun w h => (h.rs hr (fun _ => hI _)).cell (by omega) rfl)) rfl ?_) | refine RV.op (OV.step gno (Step.load Try.underlying23 rfl rfl (fun w h => (h.rs hr (fun _ => hI _)).cell0 (by omega) rfl)) rfl ?_))
        refine RV.op (OV.split gno (Step.lss rfl rfl) rfl (fun cc4 => ?_) (fun cc4 => ?_))
        · -- True
          refine RV.op (OV.step gno (Step.move rfl) rfl ?_)
          refine RV.op (OV.skip rfl rfl ?_)
          refine RV.op (OV.skip rfl rfl ?_)
          refine RV.op (OV.skip rfl rfl ?_)
          refine RV.op (OV.step gno (Step.pick_t rfl rfl) rfl ?_)
          refine RV.op (OV.step gno (Step.move rfl) rfl ?_)
          refine RV.op (OV.skip rfl rfl ?_)
          refine RV.op (OV.skip rfl rfl ?_)
          refine RV.op (OV.skip rfl rfl ?_)
          refine RV.op (OV.step gno (Step.pick_t rfl rfl) rfl ?_)
          refine RV.op (OV.step gno (Step.move rfl) rfl ?_)
          refine RV.op (OV.skip rfl rfl ?_)
          refine RV.op (OV.skip rfl rfl ?_)
          refine RV.op (OV.skip rfl rfl ?_)
          refine RV.op (OV.step gno (Step.pick_t rfl rfl) rfl ?_)
          refine RV.nil ?_
          refine KV.then_n ?_
          refine KV.env [(0, _), (3, _), (4, _), (14, _), (15, _), (16, _), (38, _)] ⟨rfl, rfl, rfl, rfl, rfl, rfl, rfl, trivial⟩ ?_
          refine CV.cond_t rfl ?_
          refine CV.seq ?_
          -- region 7 perf.go:22
          refine CV.region ?_
          refine RV.op (OV.step gno (Step.assign rfl) rfl ?_)
          refine RV.nil ?_
          refine KV.then_n ?_
          refine KV.env [(2, _)] ⟨rfl, trivial⟩ ?_
          refine CV.ret ?_
          refine KV.then_ret ?_
          refine KV.block_ret ?_
          refine KV.then_ret ?_
          refine KV.then_ret ?_
          refine KV.block_ret ?_
          refine KV.then_ret ?_
          -- return at r7
          refine KV.sel [] [] rfl ?_
          exact KV.ret1 rfl rfl _ (fun _ h => h) ⟨by rw [chkM_bad (i := j) (by omega) (by unfold badAt bigP lowP pt; omega)], rfl⟩
        · -- False
          refine RV.op (OV.step gno (Step.move rfl) rfl ?_)
          refine RV.op (OV.step (gyes rfl) (Step.fieldAddr rfl (F25_0 _ _)) rfl ?_)
          (first | refine RV.op (OV.step (gyes rfl) (Step.load Try.underlying23 rfl rfl (fun w h => h.cell 0 rfl rfl)) rfl ?_) | refine RV.op (OV.step (gyes rfl) (Step.load Try.underlying23 rfl rfl (fun w h => (h.rs hr (fun _ => hI _)).cell (by omega) rfl)) rfl ?_) | refine RV.op (OV.step (gyes rfl) (Step.load Try.underlying23 rfl rfl (fun w h => (h.rs hr (fun _ => hI _)).cell0 (by omega) rfl)) rfl ?_))
          refine RV.op (OV.split (gyes rfl) (Step.gtr rfl rfl) rfl (fun cc5 => ?_) (fun cc5 => ?_))
          · -- True
            refine RV.op (OV.step gno (Step.pick_f rfl rfl) rfl ?_)
            refine RV.op (OV.step gno (Step.move rfl) rfl ?_)
            refine RV.op (OV.skip rfl rfl ?_)
            refine RV.op (OV.skip rfl rfl ?_)
            refine RV.op (OV.skip rfl rfl ?_)
            refine RV.op (OV.step gno (Step.pick_t rfl rfl) rfl ?_)
            refine RV.op (OV.step gno (Step.move rfl) rfl ?_)
            refine RV.op (OV.skip rfl rfl ?_)
            refine RV.op (OV.skip rfl rfl ?_)
            refine RV.op (OV.skip rfl rfl ?_)
            refine RV.op (OV.step gno (Step.pick_t rfl rfl) rfl ?_)
            refine RV.nil ?_
            refine KV.then_n ?_
            refine KV.env [(0, _), (3, _), (4, _), (14, _), (15, _), (16, _), (38, _)] ⟨rfl, rfl, rfl, rfl, rfl, rfl, rfl, trivial⟩ ?_
            refine CV.cond_t rfl ?_
            refine CV.seq ?_
            -- region 7 perf.go:22
            refine CV.region ?_
            refine RV.op (OV.step gno (Step.assign rfl) rfl ?_)
            refine RV.nil ?_
            refine KV.then_n ?_
            refine KV.env [(2, _)] ⟨rfl, trivial⟩ ?_
            refine CV.ret ?_
            refine KV.then_ret ?_
            refine KV.block_ret ?_
            refine KV.then_ret ?_
            refine KV.then_ret ?_
            refine KV.block_ret ?_
            refine KV.then_ret ?_
            -- return at r7
            refine KV.sel [] [] rfl ?_
            exact KV.ret1 rfl rfl _ (fun _ h => h) ⟨by rw [chkM_bad (i := j) (by omega) (by unfold badAt bigP lowP pt; omega)], rfl⟩
          · -- False
            refine RV.op (OV.step gno (Step.pick_f rfl rfl) rfl ?_)
            refine RV.op (OV.step gno (Step.move rfl) rfl ?_)
            refine RV.op (OV.step (gyes rfl) (Step.fieldAddr rfl (F25_1 _ _)) rfl ?_)
            (first | refine RV.op (OV.step (gyes rfl) (Step.load Try.underlying23 rfl rfl (fun w h => h.cell 0 rfl rfl)) rfl ?_) | refine RV.op (OV.step (gyes rfl) (Step.load Try.underlying23 rfl rfl (fun w h => (h.rs hr (fun _ => hI _)).cell (by omega) rfl)) rfl ?_) | refine RV.op (OV.step (gyes rfl) (Step.load Try.underlying23 rfl rfl (fun w h => (h.rs hr (fun _ => hI _)).cell0 (by omega) rfl)) rfl ?_))
            refine RV.op (OV.split (gyes rfl) (Step.gtr rfl rfl) rfl (fun cc6 => ?_) (fun cc6 => ?_))
            · -- True
              refine RV.op (OV.step gno (Step.pick_f rfl rfl) rfl ?_)
              refine RV.op (OV.step gno (Step.move rfl) rfl ?_)
              refine RV.op (OV.skip rfl rfl ?_)
              refine RV.op (OV.skip rfl rfl ?_)
              refine RV.op (OV.skip rfl rfl ?_)
              refine RV.op (OV.step gno (Step.pick_t rfl rfl) rfl ?_)
              refine RV.nil ?_
              refine KV.then_n ?_
              refine KV.env [(0, _), (3, _), (4, _), (14, _), (15, _), (16, _), (38, _)] ⟨rfl, rfl, rfl, rfl, rfl, rfl, rfl, trivial⟩ ?_
              refine CV.cond_t rfl ?_
              refine CV.seq ?_
              -- region 7 perf.go:22
              refine CV.region ?_
              refine RV.op (OV.step gno (Step.assign rfl) rfl ?_)
              refine RV.nil ?_
              refine KV.then_n ?_
              refine KV.env [(2, _)] ⟨rfl, trivial⟩ ?_
              refine CV.ret ?_
              refine KV.then_ret ?_
              refine KV.block_ret ?_
              refine KV.then_ret ?_
              refine KV.then_ret ?_
              refine KV.block_ret ?_
              refine KV.then_ret ?_
              -- return at r7
              refine KV.sel [] [] rfl ?_
              exact KV.ret1 rfl rfl _ (fun _ h => h) ⟨by rw [chkM_bad (i := j) (by omega) (by unfold badAt bigP lowP pt; omega)], rfl⟩
            · -- False
              refine RV.op (OV.step gno (Step.pick_f rfl rfl) rfl ?_)
              refine RV.op (OV.step gno (Step.move rfl) rfl ?_)
              refine RV.op (OV.step (gyes rfl) (Step.fieldAddr rfl (F25_2 _ _)) rfl ?_)
              (first | refine RV.op (OV.step (gyes rfl) (Step.load Try.underlying23 rfl rfl (fun w h => h.cell 0 rfl rfl)) rfl ?_) | refine RV.op (OV.step (gyes rfl) (Step.load Try.underlying23 rfl rfl (fun w h => (h.rs hr (fun _ => hI _)).cell (by omega) rfl)) rfl ?_) | refine RV.op (OV.step (gyes rfl) (Step.load Try.underlying23 rfl rfl (fun w h => (h.rs hr (fun _ => hI _)).cell0 (by omega) rfl)) rfl ?_))
              refine RV.op (OV.split (gyes rfl) (Step.gtr rfl rfl) rfl (fun cc7 => ?_) (fun cc7 => ?_))
              · -- True
                refine RV.op (OV.step gno (Step.pick_f rfl rfl) rfl ?_)
                refine RV.nil ?_
                refine KV.then_n ?_
                refine KV.env [(0, _), (3, _), (4, _), (14, _), (15, _), (16, _), (38, _)] ⟨rfl, rfl, rfl, rfl, rfl, rfl, rfl, trivial⟩ ?_
                refine CV.cond_t rfl ?_
                refine CV.seq ?_
                -- region 7 perf.go:22
                refine CV.region ?_
                refine RV.op (OV.step gno (Step.assign rfl) rfl ?_)
                refine RV.nil ?_
                refine KV.then_n ?_
                refine KV.env [(2, _)] ⟨rfl, trivial⟩ ?_
                refine CV.ret ?_
                refine KV.then_ret ?_
                refine KV.block_ret ?_
                refine KV.then_ret ?_
                refine KV.then_ret ?_
                refine KV.block_ret ?_
                refine KV.then_ret ?_
                -- return at r7
                refine KV.sel [] [] rfl ?_
                exact KV.ret1 rfl rfl _ (fun _ h => h) ⟨by rw [chkM_bad (i := j) (by omega) (by unfold badAt bigP lowP pt; omega)], rfl⟩
              · -- False
                refine RV.op (OV.step gno (Step.pick_f rfl rfl) rfl ?_)
                refine RV.nil ?_
                refine KV.then_n ?_
                refine KV.env [(0, _), (3, _), (4, _), (14, _), (15, _), (16, _), (38, _)] ⟨rfl, rfl, rfl, rfl, rfl, rfl, rfl, trivial⟩ ?_
                refine CV.cond_f rfl ?_
                refine CV.skip ?_
                refine KV.then_n ?_
                refine KV.env [(0, _), (3, _), (4, _), (14, _), (15, _), (16, _)] ⟨rfl, rfl, rfl, rfl, rfl, rfl, trivial⟩ ?_
                refine CV.seq ?_
                refine CV.seq ?_
                -- region 8 perf.go:24
                refine CV.region ?_
                refine RV.op (OV.step gno (Step.move rfl) rfl ?_)
                refine RV.op (OV.split gno (Step.eql rfl rfl) rfl (fun cc8 => ?_) (fun cc8 => ?_))
                · -- True
                  refine RV.nil ?_
                  refine KV.then_n ?_
                  refine KV.env [(0, _), (3, _), (4, _), (14, _), (15, _), (16, _), (40, _)] ⟨rfl, rfl, rfl, rfl, rfl, rfl, rfl, trivial⟩ ?_
                  refine CV.cond_t rfl ?_
                  refine CV.exit ?_
                  refine KV.then_exit ?_
                  refine KV.block_hit ?_
                  refine KV.then_n ?_
                  refine KV.env [(0, _), (14, _), (15, _), (16, _)] ⟨rfl, rfl, rfl, rfl, trivial⟩ ?_
                  -- region 12 perf.go:20
                  refine CV.region ?_
                  (first | refine RV.op (OV.step gno (Step.add rfl rfl (wI64 (by omega) (by omega))) rfl ?_) | refine RV.op (OV.step gno (Step.add rfl rfl rfl) rfl ?_))
                  refine RV.op (OV.step gno (Step.move rfl) rfl ?_)
                  refine RV.nil ?_
                  refine KV.then_n ?_
                  refine KV.env [(0, _), (14, _), (15, _), (16, _)] ⟨rfl, rfl, rfl, rfl, trivial⟩ ?_
                  refine KV.sel [] [] rfl ?_
                  have hnb : ¬ badAt ys j := by unfold badAt bigP lowP pt; omega
                  exact KV.loopI (z := j) (j + 1) ⟨by omega, fun i hi => by by_cases e : i = j; (subst e; exact hnb); exact hinv.2 i (by omega)⟩ (by omega) ⟨rfl, rfl, rfl, rfl, trivial⟩ (fun _ h => h)
                · -- False
                  refine RV.nil ?_
                  refine KV.then_n ?_
                  refine KV.env [(0, _), (3, _), (4, _), (14, _), (15, _), (16, _), (40, _)] ⟨rfl, rfl, rfl, rfl, rfl, rfl, rfl, trivial⟩ ?_
                  refine CV.cond_f rfl ?_
                  refine CV.skip ?_
                  refine KV.then_n ?_
                  refine KV.env [(0, _), (3, _), (4, _), (14, _), (15, _), (16, _)] ⟨rfl, rfl, rfl, rfl, rfl, rfl, trivial⟩ ?_
                  refine CV.seq ?_
                  -- region 9 perf.go:27
                  refine CV.region ?_
                  refine RV.op (OV.step gno (Step.move rfl) rfl ?_)
                  refine RV.op (OV.step gno (Step.move rfl) rfl ?_)
                  (first | refine RV.op (OV.step gno (Step.sub rfl rfl (wI64 (by omega) (by omega))) rfl ?_) | refine RV.op (OV.step gno (Step.sub rfl rfl rfl) rfl ?_))
                  refine RV.op (OV.step gno (Step.idx Try.underlying22 I25 (fun w h => h.rs hr (fun _ => hI _)) rfl rfl (rfl) _ (show (j : Int) - 1 = ((j - 1 : Nat) : Int) by omega) (by omega)) rfl ?_)
                  (first | refine RV.op (OV.step gno (Step.loadN _ Try.underlying25 rfl I25 rfl rfl (fun w h => h.cells 0 rfl)) rfl ?_) | refine RV.op (OV.step gno (Step.loadN _ Try.underlying25 rfl I25 rfl rfl (fun w h => (h.rs hr (fun _ => hI _)).cells (by omega))) rfl ?_))
                  refine RV.op (OV.alloc #[.int .u64 0, .int .u64 0, .int .u64 0] I25 rfl gno rfl (fun b9_5 => ?_))
                  refine RV.op (OV.store 1 [_, _, _] #[_, _, _] I25 rfl rfl rfl rfl rfl (Nat.le_of_ble_eq_true rfl) (by simp [Value.oneCell']) rfl gno ?_)
                  refine RV.nil ?_
                  refine KV.then_n ?_
                  refine KV.env [(0, _), (4, _), (5, _), (14, _), (15, _), (16, _)] ⟨rfl, rfl, rfl, rfl, rfl, rfl, trivial⟩ ?_
                  refine CV.seq ?_
                  -- region 10 perf.go:28
                  refine CV.region ?_
                  refine RV.op (OV.step gno (Step.fieldAddr rfl (F25_0 _ _)) rfl ?_)
                  (first | refine RV.op (OV.step gno (Step.load Try.underlying23 rfl rfl (fun w h => h.cell 0 rfl rfl)) rfl ?_) | refine RV.op (OV.step gno (Step.load Try.underlying23 rfl rfl (fun w h => h.cell 1 rfl rfl)) rfl ?_) | refine RV.op (OV.step gno (Step.load Try.underlying23 rfl rfl (fun w h => (h.rs hr (fun _ => hI _)).cell (by omega) rfl)) rfl ?_) | refine RV.op (OV.step gno (Step.load Try.underlying23 rfl rfl (fun w h => (h.rs hr (fun _ => hI _)).cell0 (by omega) rfl)) rfl ?_))
                  refine RV.op (OV.step gno (Step.fieldAddr rfl (F25_0 _ _)) rfl ?_)
                  (first | refine RV.op (OV.step gno (Step.load Try.underlying23 rfl rfl (fun w h => h.cell 0 rfl rfl)) rfl ?_) | refine RV.op (OV.step gno (Step.load Try.underlying23 rfl rfl (fun w h => h.cell 1 rfl rfl)) rfl ?_) | refine RV.op (OV.step gno (Step.load Try.underlying23 rfl rfl (fun w h => (h.rs hr (fun _ => hI _)).cell (by omega) rfl)) rfl ?_) | refine RV.op (OV.step gno (Step.load Try.underlying23 rfl rfl (fun w h => (h.rs hr (fun _ => hI _)).cell0 (by omega) rfl)) rfl ?_))
                  refine RV.op (OV.split gno (Step.leq rfl rfl) rfl (fun cc9 => ?_) (fun cc9 => ?_))
                  · -- True
                    refine RV.op (OV.step gno (Step.move rfl) rfl ?_)
                    refine RV.op (OV.skip rfl rfl ?_)
                    refine RV.op (OV.skip rfl rfl ?_)
                    refine RV.op (OV.skip rfl rfl ?_)
                    refine RV.op (OV.skip rfl rfl ?_)
                    refine RV.op (OV.skip rfl rfl ?_)
                    refine RV.op (OV.step gno (Step.pick_t rfl rfl) rfl ?_)
                    refine RV.op (OV.step gno (Step.move rfl) rfl ?_)
                    refine RV.op (OV.skip rfl rfl ?_)
                    refine RV.op (OV.skip rfl rfl ?_)
                    refine RV.op (OV.skip rfl rfl ?_)
                    refine RV.op (OV.skip rfl rfl ?_)
                    refine RV.op (OV.skip rfl rfl ?_)
                    refine RV.op (OV.step gno (Step.pick_t rfl rfl) rfl ?_)
                    refine RV.nil ?_
                    refine KV.then_n ?_
                    refine KV.env [(0, _), (14, _), (15, _), (16, _), (64, _)] ⟨rfl, rfl, rfl, rfl, rfl, trivial⟩ ?_
                    refine CV.cond_t rfl ?_
                    refine CV.seq ?_
                    -- region 11 perf.go:29
                    refine CV.region ?_
                    refine RV.op (OV.step gno (Step.assign rfl) rfl ?_)
                    refine RV.nil ?_
                    refine KV.then_n ?_
                    refine KV.env [(2, _)] ⟨rfl, trivial⟩ ?_
                    refine CV.ret ?_
                    refine KV.block_ret ?_
                    refine KV.then_ret ?_
                    refine KV.then_ret ?_
                    refine KV.block_ret ?_
                    refine KV.then_ret ?_
                    -- return at r11
                    refine KV.sel [] [] rfl ?_
                    exact KV.ret1 rfl rfl _ (fun _ h => h) ⟨by rw [chkM_bad (i := j) (by omega) (by unfold badAt bigP lowP pt; omega)], rfl⟩
                  · -- False
                    refine RV.op (OV.step gno (Step.move rfl) rfl ?_)
                    refine RV.op (OV.step (gyes rfl) (Step.fieldAddr rfl (F25_1 _ _)) rfl ?_)
                    (first | refine RV.op (OV.step (gyes rfl) (Step.load Try.underlying23 rfl rfl (fun w h => h.cell 0 rfl rfl)) rfl ?_) | refine RV.op (OV.step (gyes rfl) (Step.load Try.underlying23 rfl rfl (fun w h => h.cell 1 rfl rfl)) rfl ?_) | refine RV.op (OV.step (gyes rfl) (Step.load Try.underlying23 rfl rfl (fun w h => (h.rs hr (fun _ => hI _)).cell (by omega) rfl)) rfl ?_) | refine RV.op (OV.step (gyes rfl) (Step.load Try.underlying23 rfl rfl (fun w h => (h.rs hr (fun _ => hI _)).cell0 (by omega) rfl)) rfl ?_))
                    refine RV.op (OV.step (gyes rfl) (Step.fieldAddr rfl (F25_1 _ _)) rfl ?_)
                    (first | refine RV.op (OV.step (gyes rfl) (Step.load Try.underlying23 rfl rfl (fun w h => h.cell 0 rfl rfl)) rfl ?_) | refine RV.op (OV.step (gyes rfl) (Step.load Try.underlying23 rfl rfl (fun w h => h.cell 1 rfl rfl)) rfl ?_) | refine RV.op (OV.step (gyes rfl) (Step.load Try.underlying23 rfl rfl (fun w h => (h.rs hr (fun _ => hI _)).cell (by omega) rfl)) rfl ?_) | refine RV.op (OV.step (gyes rfl) (Step.load Try.underlying23 rfl rfl (fun w h => (h.rs hr (fun _ => hI _)).cell0 (by omega) rfl)) rfl ?_))
                    refine RV.op (OV.split (gyes rfl) (Step.lss rfl rfl) rfl (fun cc10 => ?_) (fun cc10 => ?_))
                    · -- True
                      refine RV.op (OV.step gno (Step.pick_f rfl rfl) rfl ?_)
                      refine RV.op (OV.step gno (Step.move rfl) rfl ?_)
                      refine RV.op (OV.skip rfl rfl ?_)
                      refine RV.op (OV.skip rfl rfl ?_)
                      refine RV.op (OV.skip rfl rfl ?_)
                      refine RV.op (OV.skip rfl rfl ?_)
                      refine RV.op (OV.skip rfl rfl ?_)
                      refine RV.op (OV.step gno (Step.pick_t rfl rfl) rfl ?_)
                      refine RV.nil ?_
                      refine KV.then_n ?_
                      refine KV.env [(0, _), (14, _), (15, _), (16, _), (64, _)] ⟨rfl, rfl, rfl, rfl, rfl, trivial⟩ ?_
                      refine CV.cond_t rfl ?_
                      refine CV.seq ?_
                      -- region 11 perf.go:29
                      refine CV.region ?_
                      refine RV.op (OV.step gno (Step.assign rfl) rfl ?_)
                      refine RV.nil ?_
                      refine KV.then_n ?_
                      refine KV.env [(2, _)] ⟨rfl, trivial⟩ ?_
                      refine CV.ret ?_
                      refine KV.block_ret ?_
                      refine KV.then_ret ?_
                      refine KV.then_ret ?_
                      refine KV.block_ret ?_
                      refine KV.then_ret ?_
                      -- return at r11
                      refine KV.sel [] [] rfl ?_
                      exact KV.ret1 rfl rfl _ (fun _ h => h) ⟨by rw [chkM_bad (i := j) (by omega) (by unfold badAt bigP lowP pt; omega)], rfl⟩
                    · -- False
                      refine RV.op (OV.step gno (Step.pick_f rfl rfl) rfl ?_)
                      refine RV.op (OV.step gno (Step.move rfl) rfl ?_)
                      refine RV.op (OV.step (gyes rfl) (Step.fieldAddr rfl (F25_2 _ _)) rfl ?_)
                      (first | refine RV.op (OV.step (gyes rfl) (Step.load Try.underlying23 rfl rfl (fun w h => h.cell 0 rfl rfl)) rfl ?_) | refine RV.op (OV.step (gyes rfl) (Step.load Try.underlying23 rfl rfl (fun w h => h.cell 1 rfl rfl)) rfl ?_) | refine RV.op (OV.step (gyes rfl) (Step.load Try.underlying23 rfl rfl (fun w h => (h.rs hr (fun _ => hI _)).cell (by omega) rfl)) rfl ?_) | refine RV.op (OV.step (gyes rfl) (Step.load Try.underlying23 rfl rfl (fun w h => (h.rs hr (fun _ => hI _)).cell0 (by omega) rfl)) rfl ?_))
                      refine RV.op (OV.step (gyes rfl) (Step.fieldAddr rfl (F25_2 _ _)) rfl ?_)
                      (first | refine RV.op (OV.step (gyes rfl) (Step.load Try.underlying23 rfl rfl (fun w h => h.cell 0 rfl rfl)) rfl ?_) | refine RV.op (OV.step (gyes rfl) (Step.load Try.underlying23 rfl rfl (fun w h => h.cell 1 rfl rfl)) rfl ?_) | refine RV.op (OV.step (gyes rfl) (Step.load Try.underlying23 rfl rfl (fun w h => (h.rs hr (fun _ => hI _)).cell (by omega) rfl)) rfl ?_) | refine RV.op (OV.step (gyes rfl) (Step.load Try.underlying23 rfl rfl (fun w h => (h.rs hr (fun _ => hI _)).cell0 (by omega) rfl)) rfl ?_))
                      refine RV.op (OV.split (gyes rfl) (Step.lss rfl rfl) rfl (fun cc11 => ?_) (fun cc11 => ?_))
                      · -- True
                        refine RV.op (OV.step gno (Step.pick_f rfl rfl) rfl ?_)
                        refine RV.nil ?_
                        refine KV.then_n ?_
                        refine KV.env [(0, _), (14, _), (15, _), (16, _), (64, _)] ⟨rfl, rfl, rfl, rfl, rfl, trivial⟩ ?_
                        refine CV.cond_t rfl ?_
                        refine CV.seq ?_
                        -- region 11 perf.go:29
                        refine CV.region ?_
                        refine RV.op (OV.step gno (Step.assign rfl) rfl ?_)
                        refine RV.nil ?_
                        refine KV.then_n ?_
                        refine KV.env [(2, _)] ⟨rfl, trivial⟩ ?_
                        refine CV.ret ?_
                        refine KV.block_ret ?_
                        refine KV.then_ret ?_
                        refine KV.then_ret ?_
                        refine KV.block_ret ?_
                        refine KV.then_ret ?_
                        -- return at r11
                        refine KV.sel [] [] rfl ?_
                        exact KV.ret1 rfl rfl _ (fun _ h => h) ⟨by rw [chkM_bad (i := j) (by omega) (by unfold badAt bigP lowP pt; omega)], rfl⟩
                      · -- False
                        refine RV.op (OV.step gno (Step.pick_f rfl rfl) rfl ?_)
                        refine RV.nil ?_
                        refine KV.then_n ?_
                        refine KV.env [(0, _), (14, _), (15, _), (16, _), (64, _)] ⟨rfl, rfl, rfl, rfl, rfl, trivial⟩ ?_
                        refine CV.cond_f rfl ?_
                        refine CV.skip ?_
                        refine KV.block_n ?_
                        refine KV.then_n ?_
                        refine KV.env [(0, _), (14, _), (15, _), (16, _)] ⟨rfl, rfl, rfl, rfl, trivial⟩ ?_
                        -- region 12 perf.go:20
                        refine CV.region ?_
                        (first | refine RV.op (OV.step gno (Step.add rfl rfl (wI64 (by omega) (by omega))) rfl ?_) | refine RV.op (OV.step gno (Step.add rfl rfl rfl) rfl ?_))
                        refine RV.op (OV.step gno (Step.move rfl) rfl ?_)
                        refine RV.nil ?_
                        refine KV.then_n ?_
                        refine KV.env [(0, _), (14, _), (15, _), (16, _)] ⟨rfl, rfl, rfl, rfl, trivial⟩ ?_
                        refine KV.sel [] [] rfl ?_
                        have hnb : ¬ badAt ys j := by unfold badAt bigP lowP pt; omega
                        exact KV.loopI (z := j) (j + 1) ⟨by omega, fun i hi => by by_cases e : i = j; (subst e; exact hnb); exact hinv.2 i (by omega)⟩ (by omega) ⟨rfl, rfl, rfl, rfl, trivial⟩ (fun _ h => h)
      · -- False
        refine RV.nil ?_
        refine KV.then_n ?_
        refine KV.env [(0, _), (14, _), (15, _), (16, _), (17, _)] ⟨rfl, rfl, rfl, rfl, rfl, trivial⟩ ?_
        refine CV.seq ?_
        refine CV.cond_f rfl ?_
        refine CV.exit ?_
        refine KV.then_exit ?_
        refine KV.then_exit ?_
        refine KV.block_hit ?_
        refine KV.then_n ?_
        refine KV.env [] trivial ?_
        refine CV.seq ?_
        -- region 13 perf.go:32
        refine CV.region ?_
        refine RV.op (OV.step gno (Step.assign rfl) rfl ?_)
        refine RV.nil ?_
        refine KV.then_n ?_
        refine KV.env [(2, _)] ⟨rfl, trivial⟩ ?_
        refine CV.ret ?_
        -- return at r13
        refine KV.sel [] [] rfl ?_
        exact KV.ret1 rfl rfl _ (fun _ h => h) ⟨by rw [chkM_ok (by omega) (fun i hi => hinv.2 i (by omega))], rfl⟩

set_option maxRecDepth 100000 in
set_option maxHeartbeats 1000000 in
theorem checkR_fn {A : Option Addr} {n c : Nat} {ys : List Pt} {w : World} (hr : RS w ptK A ys) (hn : n = ys.length) (hl : ys.length ≤ 1000000) : Fx Try.prog 18 [.slice A n c] w [] no (fun v L => v = .int .i64 (chkM ys) ∧ L = []) := by
  subst hn
  refine Sv.Fx.body Try.func18 rfl T18 rfl ?_
  intro I hro hI
  refine KV.env [(0, _)] ⟨rfl, trivial⟩ ?_
  refine CV.seq ?_
  -- region 0 ref.go:7
  refine CV.region ?_
  refine RV.op (OV.step gno (Step.assign rfl) rfl ?_)
  refine RV.nil ?_
  refine KV.then_n ?_
  refine KV.env [(0, _)] ⟨rfl, trivial⟩ ?_
  refine CV.seq ?_
  refine CV.seq ?_
  -- region 1 ref.go:8
  refine CV.region ?_
  refine RV.op (OV.step gno (Step.move rfl) rfl ?_)
  refine RV.op (OV.step gno (Step.lenSl Try.underlying22 rfl) rfl ?_)
  refine RV.op (OV.split gno (Step.lss rfl rfl) rfl (fun cc1 => ?_) (fun cc1 => ?_))
  · -- True
    refine RV.op (OV.step gno (Step.move rfl) rfl ?_)
    refine RV.op (OV.skip rfl rfl ?_)
    refine RV.op (OV.skip rfl rfl ?_)
    refine RV.op (OV.skip rfl rfl ?_)
    refine RV.op (OV.step gno (Step.pick_t rfl rfl) rfl ?_)
    refine RV.nil ?_
    refine KV.then_n ?_
    refine KV.env [(0, _), (12, _)] ⟨rfl, rfl, trivial⟩ ?_
    refine CV.cond_t rfl ?_
    refine CV.seq ?_
    -- region 2 ref.go:9
    refine CV.region ?_
    refine RV.op (OV.step gno (Step.assign rfl) rfl ?_)
    refine RV.nil ?_
    refine KV.then_n ?_
    refine KV.env [(2, _)] ⟨rfl, trivial⟩ ?_
    refine CV.ret ?_
    refine KV.then_ret ?_
    -- return at r2
    refine KV.sel [] [] rfl ?_
    exact KV.ret1 rfl rfl _ (fun _ h => h) ⟨by rw [chkM_short (by omega)], rfl⟩
  · -- False
    refine RV.op (OV.step gno (Step.move rfl) rfl ?_)
    refine RV.op (OV.step (gyes rfl) (Step.move rfl) rfl ?_)
    refine RV.op (OV.step (gyes rfl) (Step.lenSl Try.underlying22 rfl) rfl ?_)
    refine RV.op (OV.split (gyes rfl) (Step.gtr rfl rfl) rfl (fun cc2 => ?_) (fun cc2 => ?_))
    · -- True
      refine RV.op (OV.step gno (Step.pick_f rfl rfl) rfl ?_)
      refine RV.nil ?_
      refine KV.then_n ?_
      refine KV.env [(0, _), (12, _)] ⟨rfl, rfl, trivial⟩ ?_
      refine CV.cond_t rfl ?_
      refine CV.seq ?_
      -- region 2 ref.go:9
      refine CV.region ?_
      refine RV.op (OV.step gno (Step.assign rfl) rfl ?_)
      refine RV.nil ?_
      refine KV.then_n ?_
      refine KV.env [(2, _)] ⟨rfl, trivial⟩ ?_
      refine CV.ret ?_
      refine KV.then_ret ?_
      -- return at r2
      refine KV.sel [] [] rfl ?_
      exact KV.ret1 rfl rfl _ (fun _ h => h) ⟨by rw [chkM_short (by omega)], rfl⟩
    · -- False
      refine RV.op (OV.step gno (Step.pick_f rfl rfl) rfl ?_)
      refine RV.nil ?_
      refine KV.then_n ?_
      refine KV.env [(0, _), (12, _)] ⟨rfl, rfl, trivial⟩ ?_
      refine CV.cond_f rfl ?_
      refine CV.skip ?_
      refine KV.then_n ?_
      refine KV.env [(0, _)] ⟨rfl, trivial⟩ ?_
      refine CV.seq ?_
      refine CV.seq ?_
      -- region 3 ref.go:11
      refine CV.region ?_
      refine RV.op (OV.step gno (Step.assign rfl) rfl ?_)
      refine RV.nil ?_
      refine KV.then_n ?_
      refine KV.env [(0, _), (3, _)] ⟨rfl, rfl, trivial⟩ ?_
      refine CV.block ?_
      -- loop L4; live [0, 3]
      refine KV.sel [] [] rfl ?_
      refine CV.loopI (fun (j : Nat) => j ≤ ys.length ∧ ∀ i, i < j → ¬ badAt ys i) (fun (j : Nat) => ys.length - j) (fun (j : Nat) => [(0, .slice A ys.length c), (3, .int .i64 j)]) (fun (j : Nat) => Hp I w []) (0) ⟨Nat.zero_le _, fun _ h => by omega⟩ ⟨rfl, rfl, trivial⟩ (fun _ h => h) ?_
      intro j hinv
      refine CV.seq ?_
      refine CV.seq ?_
      -- region 4 ref.go:11
      refine CV.region ?_
      refine RV.op (OV.step gno (Step.move rfl) rfl ?_)
      refine RV.op (OV.step gno (Step.move rfl) rfl ?_)
      refine RV.op (OV.step gno (Step.lenSl Try.underlying22 rfl) rfl ?_)
      refine RV.op (OV.split gno (Step.lss rfl rfl) rfl (fun cc3 => ?_) (fun cc3 => ?_))
      · -- True
        refine RV.nil ?_
        refine KV.then_n ?_
        refine KV.env [(0, _), (3, _), (16, _)] ⟨rfl, rfl, rfl, trivial⟩ ?_
        refine CV.cond_t rfl ?_
        refine CV.skip ?_
        refine KV.then_n ?_
        refine KV.env [(0, _), (3, _)] ⟨rfl, rfl, trivial⟩ ?_
        refine CV.seq ?_
        refine CV.block ?_
        refine CV.seq ?_
        -- region 6 ref.go:12
        refine CV.region ?_
        refine RV.op (OV.step gno (Step.move rfl) rfl ?_)
        refine RV.op (OV.step gno (Step.move rfl) rfl ?_)
        refine RV.op (OV.step gno (Step.idx Try.underlying22 I25 (fun w h => h.rs hr (fun _ => hI _)) rfl rfl (rfl) _ rfl (by omega)) rfl ?_)
        refine RV.op (OV.step gno (Step.loadN _ Try.underlying25 rfl I25 rfl rfl (fun w h => (h.rs hr (fun _ => hI _)).cells (by omega))) rfl ?_)
        refine RV.op (OV.alloc #[.int .u64 0, .int .u64 0, .int .u64 0] I25 rfl gno rfl (fun b6_4 => ?_))
        refine RV.op (OV.store 0 [_, _, _] #[_, _, _] I25 rfl rfl rfl rfl rfl (Nat.le_of_ble_eq_true rfl) (by simp [Value.oneCell']) rfl gno ?_)
        refine RV.nil ?_
        refine KV.then_n ?_
        refine KV.env [(0, _), (3, _), (4, _)] ⟨rfl, rfl, rfl, trivial⟩ ?_
        refine CV.seq ?_
        refine CV.seq ?_
        -- region 7 ref.go:13
        refine CV.region ?_
        refine RV.op (OV.step gno (Step.fieldAddr rfl (F25_0 _ _)) rfl ?_)
        (first | refine RV.op (OV.step gno (Step.load Try.underlying23 rfl rfl (fun w h => h.cell 0 rfl rfl)) rfl ?_) | refine RV.op (OV.step gno (Step.load Try.underlying23 rfl rfl (fun w h => (h.rs hr (fun _ => hI _)).cell (by omega) rfl)) rfl ?_) | refine RV.op (OV.step gno (Step.load Try.underlying23 rfl rfl (fun w h => (h.rs hr (fun _ => hI _)).cell0 (by omega) rfl)) rfl ?_))
        refine RV.op (OV.split gno (Step.lss rfl rfl) rfl (fun cc4 => ?_) (fun cc4 => ?_))
        · -- True
          refine RV.op (OV.step gno (Step.move rfl) rfl ?_)
          refine RV.op (OV.skip rfl rfl ?_)
          refine RV.op (OV.skip rfl rfl ?_)
          refine RV.op (OV.skip rfl rfl ?_)
          refine RV.op (OV.step gno (Step.pick_t rfl rfl) rfl ?_)
          refine RV.op (OV.step gno (Step.move rfl) rfl ?_)
          refine RV.op (OV.skip rfl rfl ?_)
          refine RV.op (OV.skip rfl rfl ?_)
          refine RV.op (OV.skip rfl rfl ?_)
          refine RV.op (OV.step gno (Step.pick_t rfl rfl) rfl ?_)
          refine RV.op (OV.step gno (Step.move rfl) rfl ?_)
          refine RV.op (OV.skip rfl rfl ?_)
          refine RV.op (OV.skip rfl rfl ?_)
          refine RV.op (OV.skip rfl rfl ?_)
          refine RV.op (OV.step gno (Step.pick_t rfl rfl) rfl ?_)
          refine RV.nil ?_
          refine KV.then_n ?_
          refine KV.env [(0, _), (3, _), (4, _), (40, _)] ⟨rfl, rfl, rfl, rfl, trivial⟩ ?_
          refine CV.cond_t rfl ?_
          refine CV.seq ?_
          -- region 8 ref.go:14
          refine CV.region ?_
          refine RV.op (OV.step gno (Step.assign rfl) rfl ?_)
          refine RV.nil ?_
          refine KV.then_n ?_
          refine KV.env [(2, _)] ⟨rfl, trivial⟩ ?_
          refine CV.ret ?_
          refine KV.then_ret ?_
          refine KV.block_ret ?_
          refine KV.then_ret ?_
          refine KV.then_ret ?_
          refine KV.block_ret ?_
          refine KV.then_ret ?_
          -- return at r8
          refine KV.sel [] [] rfl ?_
          exact KV.ret1 rfl rfl _ (fun _ h => h) ⟨by rw [chkM_bad (i := j) (by omega) (by unfold badAt bigP lowP pt; omega)], rfl⟩
        · -- False
          refine RV.op (OV.step gno (Step.move rfl) rfl ?_)
          refine RV.op (OV.step (gyes rfl) (Step.fieldAddr rfl (F25_0 _ _)) rfl ?_)
          (first | refine RV.op (OV.step (gyes rfl) (Step.load Try.underlying23 rfl rfl (fun w h => h.cell 0 rfl rfl)) rfl ?_) | refine RV.op (OV.step (gyes rfl) (Step.load Try.underlying23 rfl rfl (fun w h => (h.rs hr (fun _ => hI _)).cell (by omega) rfl)) rfl ?_) | refine RV.op (OV.step (gyes rfl) (Step.load Try.underlying23 rfl rfl (fun w h => (h.rs hr (fun _ => hI _)).cell0 (by omega) rfl)) rfl ?_))
          refine RV.op (OV.split (gyes rfl) (Step.gtr rfl rfl) rfl (fun cc5 => ?_) (fun cc5 => ?_))
          · -- True
            refine RV.op (OV.step gno (Step.pick_f rfl rfl) rfl ?_)
            refine RV.op (OV.step gno (Step.move rfl) rfl ?_)
            refine RV.op (OV.skip rfl rfl ?_)
            refine RV.op (OV.skip rfl rfl ?_)
            refine RV.op (OV.skip rfl rfl ?_)
            refine RV.op (OV.step gno (Step.pick_t rfl rfl) rfl ?_)
            refine RV.op (OV.step gno (Step.move rfl) rfl ?_)
            refine RV.op (OV.skip rfl rfl ?_)
            refine RV.op (OV.skip rfl rfl ?_)
            refine RV.op (OV.skip rfl rfl ?_)
            refine RV.op (OV.step gno (Step.pick_t rfl rfl) rfl ?_)
            refine RV.nil ?_
            refine KV.then_n ?_
            refine KV.env [(0, _), (3, _), (4, _), (40, _)] ⟨rfl, rfl, rfl, rfl, trivial⟩ ?_
            refine CV.cond_t rfl ?_
            refine CV.seq ?_
            -- region 8 ref.go:14
            refine CV.region ?_
            refine RV.op (OV.step gno (Step.assign rfl) rfl ?_)
            refine RV.nil ?_
            refine KV.then_n ?_
            refine KV.env [(2, _)] ⟨rfl, trivial⟩ ?_
            refine CV.ret ?_
            refine KV.then_ret ?_
            refine KV.block_ret ?_
            refine KV.then_ret ?_
            refine KV.then_ret ?_
            refine KV.block_ret ?_
            refine KV.then_ret ?_
            -- return at r8
            refine KV.sel [] [] rfl ?_
            exact KV.ret1 rfl rfl _ (fun _ h => h) ⟨by rw [chkM_bad (i := j) (by omega) (by unfold badAt bigP lowP pt; omega)], rfl⟩
          · -- False
            refine RV.op (OV.step gno (Step.pick_f rfl rfl) rfl ?_)
            refine RV.op (OV.step gno (Step.move rfl) rfl ?_)
            refine RV.op (OV.step (gyes rfl) (Step.fieldAddr rfl (F25_1 _ _)) rfl ?_)
            (first | refine RV.op (OV.step (gyes rfl) (Step.load Try.underlying23 rfl rfl (fun w h => h.cell 0 rfl rfl)) rfl ?_) | refine RV.op (OV.step (gyes rfl) (Step.load Try.underlying23 rfl rfl (fun w h => (h.rs hr (fun _ => hI _)).cell (by omega) rfl)) rfl ?_) | refine RV.op (OV.step (gyes rfl) (Step.load Try.underlying23 rfl rfl (fun w h => (h.rs hr (fun _ => hI _)).cell0 (by omega) rfl)) rfl ?_))
            refine RV.op (OV.split (gyes rfl) (Step.gtr rfl rfl) rfl (fun cc6 => ?_) (fun cc6 => ?_))
            · -- True
              refine RV.op (OV.step gno (Step.pick_f rfl rfl) rfl ?_)
              refine RV.op (OV.step gno (Step.move rfl) rfl ?_)
              refine RV.op (OV.skip rfl rfl ?_)
              refine RV.op (OV.skip rfl rfl ?_)
              refine RV.op (OV.skip rfl rfl ?_)
              refine RV.op (OV.step gno (Step.pick_t rfl rfl) rfl ?_)
              refine RV.nil ?_
              refine KV.then_n ?_
              refine KV.env [(0, _), (3, _), (4, _), (40, _)] ⟨rfl, rfl, rfl, rfl, trivial⟩ ?_
              refine CV.cond_t rfl ?_
              refine CV.seq ?_
              -- region 8 ref.go:14
              refine CV.region ?_
              refine RV.op (OV.step gno (Step.assign rfl) rfl ?_)
              refine RV.nil ?_
              refine KV.then_n ?_
              refine KV.env [(2, _)] ⟨rfl, trivial⟩ ?_
              refine CV.ret ?_
              refine KV.then_ret ?_
              refine KV.block_ret ?_
              refine KV.then_ret ?_
              refine KV.then_ret ?_
              refine KV.block_ret ?_
              refine KV.then_ret ?_
              -- return at r8
              refine KV.sel [] [] rfl ?_
              exact KV.ret1 rfl rfl _ (fun _ h => h) ⟨by rw [chkM_bad (i := j) (by omega) (by unfold badAt bigP lowP pt; omega)], rfl⟩
            · -- False
              refine RV.op (OV.step gno (Step.pick_f rfl rfl) rfl ?_)
              refine RV.op (OV.step gno (Step.move rfl) rfl ?_)
              refine RV.op (OV.step (gyes rfl) (Step.fieldAddr rfl (F25_2 _ _)) rfl ?_)
              (first | refine RV.op (OV.step (gyes rfl) (Step.load Try.underlying23 rfl rfl (fun w h => h.cell 0 rfl rfl)) rfl ?_) | refine RV.op (OV.step (gyes rfl) (Step.load Try.underlying23 rfl rfl (fun w h => (h.rs hr (fun _ => hI _)).cell (by omega) rfl)) rfl ?_) | refine RV.op (OV.step (gyes rfl) (Step.load Try.underlying23 rfl rfl (fun w h => (h.rs hr (fun _ => hI _)).cell0 (by omega) rfl)) rfl ?_))
              refine RV.op (OV.split (gyes rfl) (Step.gtr rfl rfl) rfl (fun cc7 => ?_) (fun cc7 => ?_))
              · -- True
                refine RV.op (OV.step gno (Step.pick_f rfl rfl) rfl ?_)
                refine RV.nil ?_
                refine KV.then_n ?_
                refine KV.env [(0, _), (3, _), (4, _), (40, _)] ⟨rfl, rfl, rfl, rfl, trivial⟩ ?_
                refine CV.cond_t rfl ?_
                refine CV.seq ?_
                -- region 8 ref.go:14
                refine CV.region ?_
                refine RV.op (OV.step gno (Step.assign rfl) rfl ?_)
                refine RV.nil ?_
                refine KV.then_n ?_
                refine KV.env [(2, _)] ⟨rfl, trivial⟩ ?_
                refine CV.ret ?_
                refine KV.then_ret ?_
                refine KV.block_ret ?_
                refine KV.then_ret ?_
                refine KV.then_ret ?_
                refine KV.block_ret ?_
                refine KV.then_ret ?_
                -- return at r8
                refine KV.sel [] [] rfl ?_
                exact KV.ret1 rfl rfl _ (fun _ h => h) ⟨by rw [chkM_bad (i := j) (by omega) (by unfold badAt bigP lowP pt; omega)], rfl⟩
              · -- False
                refine RV.op (OV.step gno (Step.pick_f rfl rfl) rfl ?_)
                refine RV.nil ?_
                refine KV.then_n ?_
                refine KV.env [(0, _), (3, _), (4, _), (40, _)] ⟨rfl, rfl, rfl, rfl, trivial⟩ ?_
                refine CV.cond_f rfl ?_
                refine CV.skip ?_
                refine KV.then_n ?_
                refine KV.env [(0, _), (3, _), (4, _)] ⟨rfl, rfl, rfl, trivial⟩ ?_
                refine CV.seq ?_
                -- region 9 ref.go:16
                refine CV.still (by kernel_rfl) (by kernel_rfl) (fun _ h => h.drew) ?_
                refine SV.step gno (Step.move rfl) rfl ?_
                refine SV.split gno (Step.gtr rfl rfl) rfl (fun cc8 => ?_) (fun cc8 => ?_)
                · -- True
                  refine SV.step gno (Step.move rfl) rfl ?_
                  refine SV.step (gyes rfl) (Step.fieldAddr rfl (F25_0 _ _)) rfl ?_
                  (first | refine SV.step (gyes rfl) (Step.load Try.underlying23 rfl rfl (fun w h => h.cell 0 rfl rfl)) rfl ?_ | refine SV.step (gyes rfl) (Step.load Try.underlying23 rfl rfl (fun w h => (h.rs hr (fun _ => hI _)).cell (by omega) rfl)) rfl ?_ | refine SV.step (gyes rfl) (Step.load Try.underlying23 rfl rfl (fun w h => (h.rs hr (fun _ => hI _)).cell0 (by omega) rfl)) rfl ?_)
                  refine SV.step (gyes rfl) (Step.move rfl) rfl ?_
                  refine SV.step (gyes rfl) (Step.move rfl) rfl ?_
                  (first | refine SV.step (gyes rfl) (Step.sub rfl rfl (wI64 (by omega) (by omega))) rfl ?_ | refine SV.step (gyes rfl) (Step.sub rfl rfl rfl) rfl ?_)
                  refine SV.step (gyes rfl) (Step.idx Try.underlying22 I25 (fun w h => h.rs hr (fun _ => hI _)) rfl rfl (rfl) _ (show (j : Int) - 1 = ((j - 1 : Nat) : Int) by omega) (by omega)) rfl ?_
                  refine SV.step (gyes rfl) (Step.fieldAddr rfl (F25_0 _ _)) rfl ?_
                  (first | refine SV.step (gyes rfl) (Step.load Try.underlying23 rfl rfl (fun w h => h.cell 0 rfl rfl)) rfl ?_ | refine SV.step (gyes rfl) (Step.load Try.underlying23 rfl rfl (fun w h => (h.rs hr (fun _ => hI _)).cell (by omega) rfl)) rfl ?_ | refine SV.step (gyes rfl) (Step.load Try.underlying23 rfl rfl (fun w h => (h.rs hr (fun _ => hI _)).cell0 (by omega) rfl)) rfl ?_)
                  refine SV.split (gyes rfl) (Step.leq rfl rfl) rfl (fun cc9 => ?_) (fun cc9 => ?_)
                  · -- True
                    refine SV.step (gyes rfl) (Step.move rfl) rfl ?_
                    refine SV.skip rfl rfl ?_
                    refine SV.skip rfl rfl ?_
                    refine SV.skip rfl rfl ?_
                    refine SV.skip rfl rfl ?_
                    refine SV.skip rfl rfl ?_
                    refine SV.skip rfl rfl ?_
                    refine SV.skip rfl rfl ?_
                    refine SV.skip rfl rfl ?_
                    refine SV.skip rfl rfl ?_
                    refine SV.step (gyes rfl) (Step.pick_t rfl rfl) rfl ?_
                    refine SV.step (gyes rfl) (Step.move rfl) rfl ?_
                    refine SV.skip rfl rfl ?_
                    refine SV.skip rfl rfl ?_
                    refine SV.skip rfl rfl ?_
                    refine SV.skip rfl rfl ?_
                    refine SV.skip rfl rfl ?_
                    refine SV.skip rfl rfl ?_
                    refine SV.skip rfl rfl ?_
                    refine SV.skip rfl rfl ?_
                    refine SV.skip rfl rfl ?_
                    refine SV.step (gyes rfl) (Step.pick_t rfl rfl) rfl ?_
                    refine SV.step gno (Step.pick_t rfl rfl) rfl ?_
                    refine SV.nil ?_
                    refine KV.then_n ?_
                    refine KV.env [(0, _), (3, _), (75, _)] ⟨rfl, rfl, rfl, trivial⟩ ?_
                    refine CV.cond_t rfl ?_
                    refine CV.seq ?_
                    -- region 10 ref.go:17
                    refine CV.region ?_
                    refine RV.op (OV.step gno (Step.assign rfl) rfl ?_)
                    refine RV.nil ?_
                    refine KV.then_n ?_
                    refine KV.env [(2, _)] ⟨rfl, trivial⟩ ?_
                    refine CV.ret ?_
                    refine KV.block_ret ?_
                    refine KV.then_ret ?_
                    refine KV.then_ret ?_
                    refine KV.block_ret ?_
                    refine KV.then_ret ?_
                    -- return at r10
                    refine KV.sel [] [] rfl ?_
                    exact KV.ret1 rfl rfl _ (fun _ h => h) ⟨by rw [chkM_bad (i := j) (by omega) (by unfold badAt bigP lowP pt; omega)], rfl⟩
                  · -- False
                    refine SV.step (gyes rfl) (Step.move rfl) rfl ?_
                    refine SV.step (gyes rfl) (Step.fieldAddr rfl (F25_1 _ _)) rfl ?_
                    (first | refine SV.step (gyes rfl) (Step.load Try.underlying23 rfl rfl (fun w h => h.cell 0 rfl rfl)) rfl ?_ | refine SV.step (gyes rfl) (Step.load Try.underlying23 rfl rfl (fun w h => (h.rs hr (fun _ => hI _)).cell (by omega) rfl)) rfl ?_ | refine SV.step (gyes rfl) (Step.load Try.underlying23 rfl rfl (fun w h => (h.rs hr (fun _ => hI _)).cell0 (by omega) rfl)) rfl ?_)
                    refine SV.step (gyes rfl) (Step.move rfl) rfl ?_
                    refine SV.step (gyes rfl) (Step.move rfl) rfl ?_
                    (first | refine SV.step (gyes rfl) (Step.sub rfl rfl (wI64 (by omega) (by omega))) rfl ?_ | refine SV.step (gyes rfl) (Step.sub rfl rfl rfl) rfl ?_)
                    refine SV.step (gyes rfl) (Step.idx Try.underlying22 I25 (fun w h => h.rs hr (fun _ => hI _)) rfl rfl (rfl) _ (show (j : Int) - 1 = ((j - 1 : Nat) : Int) by omega) (by omega)) rfl ?_
                    refine SV.step (gyes rfl) (Step.fieldAddr rfl (F25_1 _ _)) rfl ?_
                    (first | refine SV.step (gyes rfl) (Step.load Try.underlying23 rfl rfl (fun w h => h.cell 0 rfl rfl)) rfl ?_ | refine SV.step (gyes rfl) (Step.load Try.underlying23 rfl rfl (fun w h => (h.rs hr (fun _ => hI _)).cell (by omega) rfl)) rfl ?_ | refine SV.step (gyes rfl) (Step.load Try.underlying23 rfl rfl (fun w h => (h.rs hr (fun _ => hI _)).cell0 (by omega) rfl)) rfl ?_)
                    refine SV.split (gyes rfl) (Step.lss rfl rfl) rfl (fun cc10 => ?_) (fun cc10 => ?_)
                    · -- True
                      refine SV.step (gyes rfl) (Step.pick_f rfl rfl) rfl ?_
                      refine SV.step (gyes rfl) (Step.move rfl) rfl ?_
                      refine SV.skip rfl rfl ?_
                      refine SV.skip rfl rfl ?_
                      refine SV.skip rfl rfl ?_
                      refine SV.skip rfl rfl ?_
                      refine SV.skip rfl rfl ?_
                      refine SV.skip rfl rfl ?_
                      refine SV.skip rfl rfl ?_
                      refine SV.skip rfl rfl ?_
                      refine SV.skip rfl rfl ?_
                      refine SV.step (gyes rfl) (Step.pick_t rfl rfl) rfl ?_
                      refine SV.step gno (Step.pick_t rfl rfl) rfl ?_
                      refine SV.nil ?_
                      refine KV.then_n ?_
                      refine KV.env [(0, _), (3, _), (75, _)] ⟨rfl, rfl, rfl, trivial⟩ ?_
                      refine CV.cond_t rfl ?_
                      refine CV.seq ?_
                      -- region 10 ref.go:17
                      refine CV.region ?_
                      refine RV.op (OV.step gno (Step.assign rfl) rfl ?_)
                      refine RV.nil ?_
                      refine KV.then_n ?_
                      refine KV.env [(2, _)] ⟨rfl, trivial⟩ ?_
                      refine CV.ret ?_
                      refine KV.block_ret ?_
                      refine KV.then_ret ?_
                      refine KV.then_ret ?_
                      refine KV.block_ret ?_
                      refine KV.then_ret ?_
                      -- return at r10
                      refine KV.sel [] [] rfl ?_
                      exact KV.ret1 rfl rfl _ (fun _ h => h) ⟨by rw [chkM_bad (i := j) (by omega) (by unfold badAt bigP lowP pt; omega)], rfl⟩
                    · -- False
                      refine SV.step (gyes rfl) (Step.pick_f rfl rfl) rfl ?_
                      refine SV.step (gyes rfl) (Step.move rfl) rfl ?_
                      refine SV.step (gyes rfl) (Step.fieldAddr rfl (F25_2 _ _)) rfl ?_
                      (first | refine SV.step (gyes rfl) (Step.load Try.underlying23 rfl rfl (fun w h => h.cell 0 rfl rfl)) rfl ?_ | refine SV.step (gyes rfl) (Step.load Try.underlying23 rfl rfl (fun w h => (h.rs hr (fun _ => hI _)).cell (by omega) rfl)) rfl ?_ | refine SV.step (gyes rfl) (Step.load Try.underlying23 rfl rfl (fun w h => (h.rs hr (fun _ => hI _)).cell0 (by omega) rfl)) rfl ?_)
                      refine SV.step (gyes rfl) (Step.move rfl) rfl ?_
                      refine SV.step (gyes rfl) (Step.move rfl) rfl ?_
                      (first | refine SV.step (gyes rfl) (Step.sub rfl rfl (wI64 (by omega) (by omega))) rfl ?_ | refine SV.step (gyes rfl) (Step.sub rfl rfl rfl) rfl ?_)
                      refine SV.step (gyes rfl) (Step.idx Try.underlying22 I25 (fun w h => h.rs hr (fun _ => hI _)) rfl rfl (rfl) _ (show (j : Int) - 1 = ((j - 1 : Nat) : Int) by omega) (by omega)) rfl ?_
                      refine SV.step (gyes rfl) (Step.fieldAddr rfl (F25_2 _ _)) rfl ?_
                      (first | refine SV.step (gyes rfl) (Step.load Try.underlying23 rfl rfl (fun w h => h.cell 0 rfl rfl)) rfl ?_ | refine SV.step (gyes rfl) (Step.load Try.underlying23 rfl rfl (fun w h => (h.rs hr (fun _ => hI _)).cell (by omega) rfl)) rfl ?_ | refine SV.step (gyes rfl) (Step.load Try.underlying23 rfl rfl (fun w h => (h.rs hr (fun _ => hI _)).cell0 (by omega) rfl)) rfl ?_)
                      refine SV.split (gyes rfl) (Step.lss rfl rfl) rfl (fun cc11 => ?_) (fun cc11 => ?_)
                      · -- True
                        refine SV.step (gyes rfl) (Step.pick_f rfl rfl) rfl ?_
                        refine SV.step gno (Step.pick_t rfl rfl) rfl ?_
                        refine SV.nil ?_
                        refine KV.then_n ?_
                        refine KV.env [(0, _), (3, _), (75, _)] ⟨rfl, rfl, rfl, trivial⟩ ?_
                        refine CV.cond_t rfl ?_
                        refine CV.seq ?_
                        -- region 10 ref.go:17
                        refine CV.region ?_
                        refine RV.op (OV.step gno (Step.assign rfl) rfl ?_)
                        refine RV.nil ?_
                        refine KV.then_n ?_
                        refine KV.env [(2, _)] ⟨rfl, trivial⟩ ?_
                        refine CV.ret ?_
                        refine KV.block_ret ?_
                        refine KV.then_ret ?_
                        refine KV.then_ret ?_
                        refine KV.block_ret ?_
                        refine KV.then_ret ?_
                        -- return at r10
                        refine KV.sel [] [] rfl ?_
                        exact KV.ret1 rfl rfl _ (fun _ h => h) ⟨by rw [chkM_bad (i := j) (by omega) (by unfold badAt bigP lowP pt; omega)], rfl⟩
                      · -- False
                        refine SV.step (gyes rfl) (Step.pick_f rfl rfl) rfl ?_
                        refine SV.step gno (Step.pick_t rfl rfl) rfl ?_
                        refine SV.nil ?_
                        refine KV.then_n ?_
                        refine KV.env [(0, _), (3, _), (75, _)] ⟨rfl, rfl, rfl, trivial⟩ ?_
                        refine CV.cond_f rfl ?_
                        refine CV.skip ?_
                        refine KV.block_n ?_
                        refine KV.then_n ?_
                        refine KV.env [(0, _), (3, _)] ⟨rfl, rfl, trivial⟩ ?_
                        -- region 5 ref.go:11
                        refine CV.region ?_
                        refine RV.op (OV.step gno (Step.move rfl) rfl ?_)
                        (first | refine RV.op (OV.step gno (Step.add rfl rfl (wI64 (by omega) (by omega))) rfl ?_) | refine RV.op (OV.step gno (Step.add rfl rfl rfl) rfl ?_))
                        refine RV.op (OV.step gno (Step.assign rfl) rfl ?_)
                        refine RV.nil ?_
                        refine KV.then_n ?_
                        refine KV.env [(0, _), (3, _)] ⟨rfl, rfl, trivial⟩ ?_
                        refine KV.sel [] [] rfl ?_
                        have hnb : ¬ badAt ys j := by unfold badAt bigP lowP pt; omega
                        exact KV.loopI (z := j) (j + 1) ⟨by omega, fun i hi => by by_cases e : i = j; (subst e; exact hnb); exact hinv.2 i (by omega)⟩ (by omega) ⟨rfl, rfl, trivial⟩ (fun _ h => h)
                · -- False
                  refine SV.step gno (Step.move rfl) rfl ?_
                  refine SV.skip rfl rfl ?_
                  refine SV.skip rfl rfl ?_
                  refine SV.skip rfl rfl ?_
                  refine SV.skip rfl rfl ?_
                  refine SV.skip rfl rfl ?_
                  refine SV.skip rfl rfl ?_
                  refine SV.skip rfl rfl ?_
                  refine SV.skip rfl rfl ?_
                  refine SV.skip rfl rfl ?_
                  refine SV.skip rfl rfl ?_
                  refine SV.skipU rfl rfl ?_
                  refine SV.skipU rfl rfl ?_
                  refine SV.skipU rfl rfl ?_
                  refine SV.skipU rfl rfl ?_
                  refine SV.skipU rfl rfl ?_
                  refine SV.skipU rfl rfl ?_
                  refine SV.skipU rfl rfl ?_
                  refine SV.skipU rfl rfl ?_
                  refine SV.skipU rfl rfl ?_
                  refine SV.skip rfl rfl ?_
                  refine SV.skip rfl rfl ?_
                  refine SV.skipU rfl rfl ?_
                  refine SV.skipU rfl rfl ?_
                  refine SV.skipU rfl rfl ?_
                  refine SV.skipU rfl rfl ?_
                  refine SV.skipU rfl rfl ?_
                  refine SV.skipU rfl rfl ?_
                  refine SV.skipU rfl rfl ?_
                  refine SV.skipU rfl rfl ?_
                  refine SV.skipU rfl rfl ?_
                  refine SV.skip rfl rfl ?_
                  refine SV.step gno (Step.pick_f rfl rfl) rfl ?_
                  refine SV.nil ?_
                  refine KV.then_n ?_
                  refine KV.env [(0, _), (3, _), (75, _)] ⟨rfl, rfl, rfl, trivial⟩ ?_
                  refine CV.cond_f rfl ?_
                  refine CV.skip ?_
                  refine KV.block_n ?_
                  refine KV.then_n ?_
                  refine KV.env [(0, _), (3, _)] ⟨rfl, rfl, trivial⟩ ?_
                  -- region 5 ref.go:11
                  refine CV.region ?_
                  refine RV.op (OV.step gno (Step.move rfl) rfl ?_)
                  (first | refine RV.op (OV.step gno (Step.add rfl rfl (wI64 (by omega) (by omega))) rfl ?_) | refine RV.op (OV.step gno (Step.add rfl rfl rfl) rfl ?_))
                  refine RV.op (OV.step gno (Step.assign rfl) rfl ?_)
                  refine RV.nil ?_
                  refine KV.then_n ?_
                  refine KV.env [(0, _), (3, _)] ⟨rfl, rfl, trivial⟩ ?_
                  refine KV.sel [] [] rfl ?_
                  have hnb : ¬ badAt ys j := by unfold badAt bigP lowP pt; omega
                  exact KV.loopI (z := j) (j + 1) ⟨by omega, fun i hi => by by_cases e : i = j; (subst e; exact hnb); exact hinv.2 i (by omega)⟩ (by omega) ⟨rfl, rfl, trivial⟩ (fun _ h => h)
      · -- False
        refine RV.nil ?_
        refine KV.then_n ?_
        refine KV.env [(0, _), (3, _), (16, _)] ⟨rfl, rfl, rfl, trivial⟩ ?_
        refine CV.cond_f rfl ?_
        refine CV.exit ?_
        refine KV.then_exit ?_
        refine KV.then_exit ?_
        refine KV.block_hit ?_
        refine KV.then_n ?_
        refine KV.env [] trivial ?_
        refine CV.seq ?_
        -- region 11 ref.go:20
        refine CV.region ?_
        refine RV.op (OV.step gno (Step.assign rfl) rfl ?_)
        refine RV.nil ?_
        refine KV.then_n ?_
        refine KV.env [(2, _)] ⟨rfl, trivial⟩ ?_
        refine CV.ret ?_
        -- return at r11
        refine KV.sel [] [] rfl ?_
        exact KV.ret1 rfl rfl _ (fun _ h => h) ⟨by rw [chkM_ok (by omega) (fun i hi => hinv.2 i (by omega))], rfl⟩

set_option maxRecDepth 100000 in
set_option maxHeartbeats 1000000 in
theorem find_fn {A : Option Addr} {n c : Nat} {ys : List Pt} {w : World} (hr : RS w ptK A ys) (hn : n = ys.length) (hl : ys.length ≤ 1000000) (x : Int) : Fx Try.prog 15 [.slice A n c, .int .u64 x] w [] no (fun v L => v = .tuple #[.int .i64 (findM ys x).1, .int .i64 (findM ys x).2] ∧ L = []) := by
  subst hn
  refine Sv.Fx.body Try.func15 rfl T15 rfl ?_
  intro I hro hI
  refine KV.env [(0, _), (1, _)] ⟨rfl, rfl, trivial⟩ ?_
  refine CV.seq ?_
  -- region 0 perf.go:36
  refine CV.region ?_
  refine RV.op (OV.step gno (Step.assign rfl) rfl ?_)
  refine RV.op (OV.step gno (Step.assign rfl) rfl ?_)
  refine RV.nil ?_
  refine KV.then_n ?_
  refine KV.env [(0, _), (1, _)] ⟨rfl, rfl, trivial⟩ ?_
  refine CV.seq ?_
  refine CV.seq ?_
  -- region 1 perf.go:37
  refine CV.region ?_
  refine RV.op (OV.step gno (Step.move rfl) rfl ?_)
  refine RV.op (OV.call [] (F := []) Try.func17 B17 N17 rfl rfl (fun w h => check_fn (h.rs hr (fun _ => hI _)) rfl hl) (fun _ hb => hb.elim) gno rfl (fun v L' hp => ?_))
  obtain ⟨rfl, rfl⟩ := hp
  simp only [List.append_nil]
  refine RV.op (OV.step gno (Step.assign rfl) rfl ?_)
  refine RV.nil ?_
  refine KV.then_n ?_
  refine KV.env [(0, _), (1, _), (6, _)] ⟨rfl, rfl, rfl, trivial⟩ ?_
  refine CV.seq ?_
  -- region 2 perf.go:37
  refine CV.region ?_
  refine RV.op (OV.step gno (Step.move rfl) rfl ?_)
  refine RV.op (OV.split gno (Step.neq rfl rfl) rfl (fun hc => ?_) (fun hc => ?_))
  · -- True
    refine RV.nil ?_
    refine KV.then_n ?_
    refine KV.env [(0, _), (1, _), (6, _), (12, _)] ⟨rfl, rfl, rfl, rfl, trivial⟩ ?_
    refine CV.cond_t rfl ?_
    refine CV.seq ?_
    -- region 3 perf.go:38
    refine CV.region ?_
    refine RV.op (OV.step gno (Step.move rfl) rfl ?_)
    refine RV.op (OV.step gno (Step.assign rfl) rfl ?_)
    refine RV.op (OV.step gno (Step.assign rfl) rfl ?_)
    refine RV.nil ?_
    refine KV.then_n ?_
    refine KV.env [(4, _), (5, _)] ⟨rfl, rfl, trivial⟩ ?_
    refine CV.ret ?_
    refine KV.then_ret ?_
    -- return at r3
    refine KV.sel [] [] rfl ?_
    exact KV.ret2 rfl rfl rfl _ (fun _ h => h) ⟨by rw [findM_bad hc], rfl⟩
  · -- False
    refine RV.nil ?_
    refine KV.then_n ?_
    refine KV.env [(0, _), (1, _), (6, _), (12, _)] ⟨rfl, rfl, rfl, rfl, trivial⟩ ?_
    refine CV.cond_f rfl ?_
    refine CV.skip ?_
    refine KV.then_n ?_
    refine KV.env [(0, _), (1, _)] ⟨rfl, rfl, trivial⟩ ?_
    refine CV.seq ?_
    refine CV.seq ?_
    -- region 4 perf.go:40
    refine CV.region ?_
    refine RV.op (OV.step gno (Step.move rfl) rfl ?_)
    refine RV.op (OV.step gno (Step.lenSl Try.underlying22 rfl) rfl ?_)
    refine RV.op (OV.step gno (Step.move rfl) rfl ?_)
    refine RV.nil ?_
    refine KV.then_n ?_
    refine KV.env [(1, _), (14, _), (15, _), (16, _)] ⟨rfl, rfl, rfl, rfl, trivial⟩ ?_
    refine CV.block ?_
    -- loop L5; live [1, 14, 15, 16]
    refine KV.sel [] [] rfl ?_
    refine CV.loopI (fun (j : Nat) => j ≤ ys.length ∧ ∀ i, i < j → ¬ x ≤ (pt ys i).f) (fun (j : Nat) => ys.length - j) (fun (j : Nat) => [(1, .int .u64 x), (14, .slice A ys.length c), (15, .int .i64 ys.length), (16, .int .i64 j)]) (fun (j : Nat) => Hp I w []) (0) ⟨Nat.zero_le _, fun _ h => by omega⟩ ⟨rfl, rfl, rfl, rfl, trivial⟩ (fun _ h => h) ?_
    intro j hinv
    refine CV.seq ?_
    -- region 5 perf.go:40
    refine CV.region ?_
    refine RV.op (OV.split gno (Step.lss rfl rfl) rfl (fun cc1 => ?_) (fun cc1 => ?_))
    · -- True
      refine RV.nil ?_
      refine KV.then_n ?_
      refine KV.env [(1, _), (14, _), (15, _), (16, _), (17, _)] ⟨rfl, rfl, rfl, rfl, rfl, trivial⟩ ?_
      refine CV.seq ?_
      refine CV.cond_t rfl ?_
      refine CV.skip ?_
      refine KV.then_n ?_
      refine KV.env [(1, _), (14, _), (15, _), (16, _)] ⟨rfl, rfl, rfl, rfl, trivial⟩ ?_
      refine CV.seq ?_
      refine CV.block ?_
      refine CV.seq ?_
      -- region 6 perf.go:40
      refine CV.region ?_
      refine RV.op (OV.step gno (Step.move rfl) rfl ?_)
      refine RV.op (OV.step gno (Step.idx Try.underlying22 I25 (fun w h => h.rs hr (fun _ => hI _)) rfl rfl (rfl) _ rfl (by omega)) rfl ?_)
      refine RV.op (OV.step gno (Step.loadN _ Try.underlying25 rfl I25 rfl rfl (fun w h => (h.rs hr (fun _ => hI _)).cells (by omega))) rfl ?_)
      refine RV.op (OV.alloc #[.int .u64 0, .int .u64 0, .int .u64 0] I25 rfl gno rfl (fun b6_3 => ?_))
      refine RV.op (OV.step gno (Step.assign rfl) rfl ?_)
      refine RV.op (OV.store 0 [_, _, _] #[_, _, _] I25 rfl rfl rfl rfl rfl (Nat.le_of_ble_eq_true rfl) (by simp [Value.oneCell']) rfl gno ?_)
      refine RV.nil ?_
      refine KV.then_n ?_
      refine KV.env [(1, _), (7, _), (8, _), (14, _), (15, _), (16, _)] ⟨rfl, rfl, rfl, rfl, rfl, rfl, trivial⟩ ?_
      refine CV.seq ?_
      -- region 7 perf.go:41
      refine CV.region ?_
      refine RV.op (OV.step gno (Step.fieldAddr rfl (F25_0 _ _)) rfl ?_)
      (first | refine RV.op (OV.step gno (Step.load Try.underlying23 rfl rfl (fun w h => h.cell 0 rfl rfl)) rfl ?_) | refine RV.op (OV.step gno (Step.load Try.underlying23 rfl rfl (fun w h => (h.rs hr (fun _ => hI _)).cell (by omega) rfl)) rfl ?_) | refine RV.op (OV.step gno (Step.load Try.underlying23 rfl rfl (fun w h => (h.rs hr (fun _ => hI _)).cell0 (by omega) rfl)) rfl ?_))
      refine RV.op (OV.step gno (Step.move rfl) rfl ?_)
      refine RV.op (OV.split gno (Step.geq rfl rfl) rfl (fun hq => ?_) (fun hq => ?_))
      · -- True
        refine RV.nil ?_
        refine KV.then_n ?_
        refine KV.env [(1, _), (7, _), (14, _), (15, _), (16, _), (24, _)] ⟨rfl, rfl, rfl, rfl, rfl, rfl, trivial⟩ ?_
        refine CV.cond_t rfl ?_
        refine CV.seq ?_
        -- region 8 perf.go:42
        refine CV.region ?_
        refine RV.op (OV.step gno (Step.move rfl) rfl ?_)
        refine RV.op (OV.step gno (Step.assign rfl) rfl ?_)
        refine RV.op (OV.step gno (Step.assign rfl) rfl ?_)
        refine RV.nil ?_
        refine KV.then_n ?_
        refine KV.env [(4, _), (5, _)] ⟨rfl, rfl, trivial⟩ ?_
        refine CV.ret ?_
        refine KV.block_ret ?_
        refine KV.then_ret ?_
        refine KV.then_ret ?_
        refine KV.block_ret ?_
        refine KV.then_ret ?_
        -- return at r8
        refine KV.sel [] [] rfl ?_
        exact KV.ret2 rfl rfl rfl _ (fun _ h => h) ⟨by rw [findM_some (Decidable.not_not.1 hc) hinv.2 hq (by omega)], rfl⟩
      · -- False
        refine RV.nil ?_
        refine KV.then_n ?_
        refine KV.env [(1, _), (7, _), (14, _), (15, _), (16, _), (24, _)] ⟨rfl, rfl, rfl, rfl, rfl, rfl, trivial⟩ ?_
        refine CV.cond_f rfl ?_
        refine CV.skip ?_
        refine KV.block_n ?_
        refine KV.then_n ?_
        refine KV.env [(1, _), (14, _), (15, _), (16, _)] ⟨rfl, rfl, rfl, rfl, trivial⟩ ?_
        -- region 9 perf.go:40
        refine CV.region ?_
        (first | refine RV.op (OV.step gno (Step.add rfl rfl (wI64 (by omega) (by omega))) rfl ?_) | refine RV.op (OV.step gno (Step.add rfl rfl rfl) rfl ?_))
        refine RV.op (OV.step gno (Step.move rfl) rfl ?_)
        refine RV.nil ?_
        refine KV.then_n ?_
        refine KV.env [(1, _), (14, _), (15, _), (16, _)] ⟨rfl, rfl, rfl, rfl, trivial⟩ ?_
        refine KV.sel [] [] rfl ?_
        exact KV.loopI (z := j) (j + 1) ⟨by omega, fun i hi => by by_cases e : i = j; (subst e; exact hq); exact hinv.2 i (by omega)⟩ (by omega) ⟨rfl, rfl, rfl, rfl, trivial⟩ (fun _ h => h)
    · -- False
      refine RV.nil ?_
      refine KV.then_n ?_
      refine KV.env [(1, _), (14, _), (15, _), (16, _), (17, _)] ⟨rfl, rfl, rfl, rfl, rfl, trivial⟩ ?_
      refine CV.seq ?_
      refine CV.cond_f rfl ?_
      refine CV.exit ?_
      refine KV.then_exit ?_
      refine KV.then_exit ?_
      refine KV.block_hit ?_
      refine KV.then_n ?_
      refine KV.env [] trivial ?_
      refine CV.seq ?_
      -- region 10 perf.go:45
      refine CV.region ?_
      refine RV.op (OV.step gno (Step.assign rfl) rfl ?_)
      refine RV.op (OV.step gno (Step.assign rfl) rfl ?_)
      refine RV.nil ?_
      refine KV.then_n ?_
      refine KV.env [(4, _), (5, _)] ⟨rfl, rfl, trivial⟩ ?_
      refine CV.ret ?_
      -- return at r10
      refine KV.sel [] [] rfl ?_
      exact KV.ret2 rfl rfl rfl _ (fun _ h => h) ⟨by rw [findM_none (Decidable.not_not.1 hc) (fun i hi => hinv.2 i (by omega))], rfl⟩

set_option maxRecDepth 100000 in
set_option maxHeartbeats 1000000 in
theorem findR_fn {A : Option Addr} {n c : Nat} {ys : List Pt} {w : World} (hr : RS w ptK A ys) (hn : n = ys.length) (hl : ys.length ≤ 1000000) (x : Int) : Fx Try.prog 16 [.slice A n c, .int .u64 x] w [] no (fun v L => v = .tuple #[.int .i64 (findM ys x).1, .int .i64 (findM ys x).2] ∧ L = []) := by
  subst hn
  refine Sv.Fx.body Try.func16 rfl T16 rfl ?_
  intro I hro hI
  refine KV.env [(0, _), (1, _)] ⟨rfl, rfl, trivial⟩ ?_
  refine CV.seq ?_
  -- region 0 ref.go:24
  refine CV.region ?_
  refine RV.op (OV.step gno (Step.assign rfl) rfl ?_)
  refine RV.op (OV.step gno (Step.assign rfl) rfl ?_)
  refine RV.nil ?_
  refine KV.then_n ?_
  refine KV.env [(0, _), (1, _)] ⟨rfl, rfl, trivial⟩ ?_
  refine CV.seq ?_
  refine CV.seq ?_
  -- region 1 ref.go:25
  refine CV.region ?_
  refine RV.op (OV.step gno (Step.move rfl) rfl ?_)
  refine RV.op (OV.call [] (F := []) Try.func18 B18 N18 rfl rfl (fun w h => checkR_fn (h.rs hr (fun _ => hI _)) rfl hl) (fun _ hb => hb.elim) gno rfl (fun v L' hp => ?_))
  obtain ⟨rfl, rfl⟩ := hp
  simp only [List.append_nil]
  refine RV.op (OV.step gno (Step.assign rfl) rfl ?_)
  refine RV.nil ?_
  refine KV.then_n ?_
  refine KV.env [(0, _), (1, _), (6, _)] ⟨rfl, rfl, rfl, trivial⟩ ?_
  refine CV.seq ?_
  -- region 2 ref.go:25
  refine CV.region ?_
  refine RV.op (OV.step gno (Step.move rfl) rfl ?_)
  refine RV.op (OV.split gno (Step.neq rfl rfl) rfl (fun hc => ?_) (fun hc => ?_))
  · -- True
    refine RV.nil ?_
    refine KV.then_n ?_
    refine KV.env [(0, _), (1, _), (6, _), (11, _)] ⟨rfl, rfl, rfl, rfl, trivial⟩ ?_
    refine CV.cond_t rfl ?_
    refine CV.seq ?_
    -- region 3 ref.go:26
    refine CV.region ?_
    refine RV.op (OV.step gno (Step.move rfl) rfl ?_)
    refine RV.op (OV.step gno (Step.assign rfl) rfl ?_)
    refine RV.op (OV.step gno (Step.assign rfl) rfl ?_)
    refine RV.nil ?_
    refine KV.then_n ?_
    refine KV.env [(4, _), (5, _)] ⟨rfl, rfl, trivial⟩ ?_
    refine CV.ret ?_
    refine KV.then_ret ?_
    -- return at r3
    refine KV.sel [] [] rfl ?_
    exact KV.ret2 rfl rfl rfl _ (fun _ h => h) ⟨by rw [findM_bad hc], rfl⟩
  · -- False
    refine RV.nil ?_
    refine KV.then_n ?_
    refine KV.env [(0, _), (1, _), (6, _), (11, _)] ⟨rfl, rfl, rfl, rfl, trivial⟩ ?_
    refine CV.cond_f rfl ?_
    refine CV.skip ?_
    refine KV.then_n ?_
    refine KV.env [(0, _), (1, _)] ⟨rfl, rfl, trivial⟩ ?_
    refine CV.seq ?_
    refine CV.seq ?_
    -- region 4 ref.go:28
    refine CV.region ?_
    refine RV.op (OV.step gno (Step.assign rfl) rfl ?_)
    refine RV.nil ?_
    refine KV.then_n ?_
    refine KV.env [(0, _), (1, _), (7, _)] ⟨rfl, rfl, rfl, trivial⟩ ?_
    refine CV.block ?_
    -- loop L5; live [0, 1, 7]
    refine KV.sel [] [] rfl ?_
    refine CV.loopI (fun (j : Nat) => j ≤ ys.length ∧ ∀ i, i < j → ¬ x ≤ (pt ys i).f) (fun (j : Nat) => ys.length - j) (fun (j : Nat) => [(0, .slice A ys.length c), (1, .int .u64 x), (7, .int .i64 j)]) (fun (j : Nat) => Hp I w []) (0) ⟨Nat.zero_le _, fun _ h => by omega⟩ ⟨rfl, rfl, rfl, trivial⟩ (fun _ h => h) ?_
    intro j hinv
    refine CV.seq ?_
    refine CV.seq ?_
    -- region 5 ref.go:28
    refine CV.region ?_
    refine RV.op (OV.step gno (Step.move rfl) rfl ?_)
    refine RV.op (OV.step gno (Step.move rfl) rfl ?_)
    refine RV.op (OV.step gno (Step.lenSl Try.underlying22 rfl) rfl ?_)
    refine RV.op (OV.split gno (Step.lss rfl rfl) rfl (fun cc1 => ?_) (fun cc1 => ?_))
    · -- True
      refine RV.nil ?_
      refine KV.then_n ?_
      refine KV.env [(0, _), (1, _), (7, _), (16, _)] ⟨rfl, rfl, rfl, rfl, trivial⟩ ?_
      refine CV.cond_t rfl ?_
      refine CV.skip ?_
      refine KV.then_n ?_
      refine KV.env [(0, _), (1, _), (7, _)] ⟨rfl, rfl, rfl, trivial⟩ ?_
      refine CV.seq ?_
      refine CV.block ?_
      refine CV.seq ?_
      -- region 7 ref.go:29
      refine CV.region ?_
      refine RV.op (OV.step gno (Step.move rfl) rfl ?_)
      refine RV.op (OV.step gno (Step.move rfl) rfl ?_)
      refine RV.op (OV.step gno (Step.idx Try.underlying22 I25 (fun w h => h.rs hr (fun _ => hI _)) rfl rfl (rfl) _ rfl (by omega)) rfl ?_)
      refine RV.op (OV.step gno (Step.fieldAddr rfl (F25_0 _ _)) rfl ?_)
      (first | refine RV.op (OV.step gno (Step.load Try.underlying23 rfl rfl (fun w h => (h.rs hr (fun _ => hI _)).cell (by omega) rfl)) rfl ?_) | refine RV.op (OV.step gno (Step.load Try.underlying23 rfl rfl (fun w h => (h.rs hr (fun _ => hI _)).cell0 (by omega) rfl)) rfl ?_))
      refine RV.op (OV.step gno (Step.move rfl) rfl ?_)
      refine RV.op (OV.split gno (Step.geq rfl rfl) rfl (fun hq => ?_) (fun hq => ?_))
      · -- True
        refine RV.nil ?_
        refine KV.then_n ?_
        refine KV.env [(0, _), (1, _), (7, _), (25, _)] ⟨rfl, rfl, rfl, rfl, trivial⟩ ?_
        refine CV.cond_t rfl ?_
        refine CV.seq ?_
        -- region 8 ref.go:30
        refine CV.region ?_
        refine RV.op (OV.step gno (Step.move rfl) rfl ?_)
        refine RV.op (OV.step gno (Step.assign rfl) rfl ?_)
        refine RV.op (OV.step gno (Step.assign rfl) rfl ?_)
        refine RV.nil ?_
        refine KV.then_n ?_
        refine KV.env [(4, _), (5, _)] ⟨rfl, rfl, trivial⟩ ?_
        refine CV.ret ?_
        refine KV.block_ret ?_
        refine KV.then_ret ?_
        refine KV.then_ret ?_
        refine KV.block_ret ?_
        refine KV.then_ret ?_
        -- return at r8
        refine KV.sel [] [] rfl ?_
        exact KV.ret2 rfl rfl rfl _ (fun _ h => h) ⟨by rw [findM_some (Decidable.not_not.1 hc) hinv.2 hq (by omega)], rfl⟩
      · -- False
        refine RV.nil ?_
        refine KV.then_n ?_
        refine KV.env [(0, _), (1, _), (7, _), (25, _)] ⟨rfl, rfl, rfl, rfl, trivial⟩ ?_
        refine CV.cond_f rfl ?_
        refine CV.skip ?_
        refine KV.block_n ?_
        refine KV.then_n ?_
        refine KV.env [(0, _), (1, _), (7, _)] ⟨rfl, rfl, rfl, trivial⟩ ?_
        -- region 6 ref.go:28
        refine CV.region ?_
        refine RV.op (OV.step gno (Step.move rfl) rfl ?_)
        (first | refine RV.op (OV.step gno (Step.add rfl rfl (wI64 (by omega) (by omega))) rfl ?_) | refine RV.op (OV.step gno (Step.add rfl rfl rfl) rfl ?_))
        refine RV.op (OV.step gno (Step.assign rfl) rfl ?_)
        refine RV.nil ?_
        refine KV.then_n ?_
        refine KV.env [(0, _), (1, _), (7, _)] ⟨rfl, rfl, rfl, trivial⟩ ?_
        refine KV.sel [] [] rfl ?_
        exact KV.loopI (z := j) (j + 1) ⟨by omega, fun i hi => by by_cases e : i = j; (subst e; exact hq); exact hinv.2 i (by omega)⟩ (by omega) ⟨rfl, rfl, rfl, trivial⟩ (fun _ h => h)
    · -- False
      refine RV.nil ?_
      refine KV.then_n ?_
      refine KV.env [(0, _), (1, _), (7, _), (16, _)] ⟨rfl, rfl, rfl, rfl, trivial⟩ ?_
      refine CV.cond_f rfl ?_
      refine CV.exit ?_
      refine KV.then_exit ?_
      refine KV.then_exit ?_
      refine KV.block_hit ?_
      refine KV.then_n ?_
      refine KV.env [] trivial ?_
      refine CV.seq ?_
      -- region 9 ref.go:33
      refine CV.region ?_
      refine RV.op (OV.step gno (Step.assign rfl) rfl ?_)
      refine RV.op (OV.step gno (Step.assign rfl) rfl ?_)
      refine RV.nil ?_
      refine KV.then_n ?_
      refine KV.env [(4, _), (5, _)] ⟨rfl, rfl, trivial⟩ ?_
      refine CV.ret ?_
      -- return at r9
      refine KV.sel [] [] rfl ?_
      exact KV.ret2 rfl rfl rfl _ (fun _ h => h) ⟨by rw [findM_none (Decidable.not_not.1 hc) (fun i hi => hinv.2 i (by omega))], rfl⟩

set_option maxRecDepth 100000 in
set_option maxHeartbeats 1000000 in
theorem isIndex_fn (A : Option Addr) (c : Nat) (ys : List Pt) (i : Int) : FxP Try.prog 33 [.slice A ys.length c, .int .i64 i] (.bool (decide (isI ys i))) := by
  refine Sv.FxP.body Try.func33 rfl T33 rfl ?_
  intro wp
  refine KV.env [(0, _), (1, _)] ⟨rfl, rfl, trivial⟩ ?_
  refine CV.seq ?_
  -- region 0 perf.go:49
  refine CV.region ?_
  refine RV.op (OV.step gno (Step.assign rfl) rfl ?_)
  refine RV.nil ?_
  refine KV.then_n ?_
  refine KV.env [(0, _), (1, _)] ⟨rfl, rfl, trivial⟩ ?_
  refine CV.seq ?_
  -- region 1 perf.go:50
  refine CV.region ?_
  refine RV.op (OV.step gno (Step.move rfl) rfl ?_)
  refine RV.op (OV.split gno (Step.geq rfl rfl) rfl (fun cc1 => ?_) (fun cc1 => ?_))
  · -- True
    refine RV.op (OV.step gno (Step.move rfl) rfl ?_)
    refine RV.op (OV.step (gyes rfl) (Step.move rfl) rfl ?_)
    refine RV.op (OV.step (gyes rfl) (Step.move rfl) rfl ?_)
    refine RV.op (OV.step (gyes rfl) (Step.lenSl Try.underlying22 rfl) rfl ?_)
    refine RV.op (OV.split (gyes rfl) (Step.lss rfl rfl) rfl (fun cc2 => ?_) (fun cc2 => ?_))
    · -- True
      refine RV.op (OV.step gno (Step.pick_t rfl rfl) rfl ?_)
      refine RV.op (OV.step gno (Step.assign rfl) rfl ?_)
      refine RV.nil ?_
      refine KV.then_n ?_
      refine KV.env [(4, _)] ⟨rfl, trivial⟩ ?_
      refine CV.ret ?_
      -- return at r1
      exact KV.retP1 rfl rfl (by first | rw [decide_eq_true (show isI ys i by unfold isI; omega)] | rw [decide_eq_false (show ¬ isI ys i by unfold isI; omega)])
    · -- False
      refine RV.op (OV.step gno (Step.pick_t rfl rfl) rfl ?_)
      refine RV.op (OV.step gno (Step.assign rfl) rfl ?_)
      refine RV.nil ?_
      refine KV.then_n ?_
      refine KV.env [(4, _)] ⟨rfl, trivial⟩ ?_
      refine CV.ret ?_
      -- return at r1
      exact KV.retP1 rfl rfl (by first | rw [decide_eq_true (show isI ys i by unfold isI; omega)] | rw [decide_eq_false (show ¬ isI ys i by unfold isI; omega)])
  · -- False
    refine RV.op (OV.step gno (Step.move rfl) rfl ?_)
    refine RV.op (OV.skip rfl rfl ?_)
    refine RV.op (OV.skip rfl rfl ?_)
    refine RV.op (OV.skip rfl rfl ?_)
    refine RV.op (OV.skip rfl rfl ?_)
    refine RV.op (OV.step gno (Step.pick_f rfl rfl) rfl ?_)
    refine RV.op (OV.step gno (Step.assign rfl) rfl ?_)
    refine RV.nil ?_
    refine KV.then_n ?_
    refine KV.env [(4, _)] ⟨rfl, trivial⟩ ?_
    refine CV.ret ?_
    -- return at r1
    exact KV.retP1 rfl rfl (by first | rw [decide_eq_true (show isI ys i by unfold isI; omega)] | rw [decide_eq_false (show ¬ isI ys i by unfold isI; omega)])

set_option maxRecDepth 100000 in
set_option maxHeartbeats 1000000 in
theorem clone_fn {A : Option Addr} {n c : Nat} {ys : List Pt} {w : World} (hr : RS w ptK A ys) (hn : n = ys.length) (hl : ys.length ≤ 1000000) (hA : A ≠ none) : Fx Try.prog 37 [.slice A n c] w [] no (fun v L => ∃ A2 c2, v = .slice A2 ys.length c2 ∧ L = [OS 25 ptK A2 c2 ys]) := by
  subst hn
  refine Sv.Fx.body Try.func37 rfl T37 rfl ?_
  intro I hro hI
  refine KV.env [(0, _)] ⟨rfl, trivial⟩ ?_
  refine CV.seq ?_
  -- region 0 slices.go:355
  refine CV.region ?_
  refine RV.op (OV.step gno (Step.assign rfl) rfl ?_)
  refine RV.nil ?_
  refine KV.then_n ?_
  refine KV.env [(0, _)] ⟨rfl, trivial⟩ ?_
  refine CV.seq ?_
  refine CV.seq ?_
  -- region 1 slices.go:357
  refine CV.region ?_
  refine RV.op (OV.step gno (Step.move rfl) rfl ?_)
  refine RV.op (OV.split gno (Step.nilSl Try.underlying22 rfl rfl) rfl (fun hq => ?_) (fun hq => ?_))
  · -- True
    exact absurd hq hA
  · -- False
    refine RV.nil ?_
    refine KV.then_n ?_
    refine KV.env [(0, _), (4, _)] ⟨rfl, rfl, trivial⟩ ?_
    refine CV.cond_f rfl ?_
    refine CV.skip ?_
    refine KV.then_n ?_
    refine KV.env [(0, _)] ⟨rfl, trivial⟩ ?_
    refine CV.seq ?_
    -- region 3 slices.go:362
    refine CV.region ?_
    refine RV.op (OV.buildSlice (K := ptK) ([]) rfl (Bs22_0_) rfl rfl (by omega) gno rfl (fun b3_0 => ?_))
    refine RV.op (OV.step gno (Step.move rfl) rfl ?_)
    refine RV.op (OV.append 0 Try.underlying22 I25 rfl rfl rfl rfl rfl rfl (fun w h => h.rs hr (fun _ => hI _)) (by simp only [List.length_nil]; omega) (by simp only [List.length_nil]; omega) gno rfl (fun b3_2a b3_2c => ?_))
    refine RV.op (OV.step gno (Step.assign rfl) rfl ?_)
    refine RV.nil ?_
    refine KV.then_n ?_
    refine KV.env [(2, _)] ⟨rfl, trivial⟩ ?_
    refine CV.ret ?_
    -- return at r3
    refine KV.sel [0] [_] rfl ?_
    exact KV.ret1 rfl rfl _ (fun _ h => h) ⟨_, _, rfl, rfl⟩
end Go.Proofs.Ytaafpnoffdcbnaa
