/-
  Walks, part 7.
-/
import Derived.Test.YtaafpnoffdcbnaaTab7
import Derived.Test.YtaafpnoffdcbnaaW5
import Derived.Test.YtaafpnoffdcbnaaPl1
set_option linter.unusedSimpArgs false
set_option linter.unusedVariables false
namespace Go.Proofs.Ytaafpnoffdcbnaa
open Go.Sv Go.Perf
theorem equalT_fn {A B : Option Addr} {c d : Nat} {xs : List POp} {w : World} (hx : RS w popK A xs) (hy : RS w popK B xs) (hl : xs.length ≤ 1000000) : Fx Try.prog 21 [.slice A xs.length c, .slice B xs.length d] w [] no (fun v L => v = .bool true ∧ L = []) :=
  (equal_fn hx hy hl hl).mono fun v L hp => ⟨by rw [hp.1, decide_eq_true rfl], hp.2⟩

set_option maxRecDepth 100000 in
set_option maxHeartbeats 1000000 in
theorem transAgrees_fn {A : Option Addr} {n c : Nat} {raw : List Pt} {w : World} (hr : RS w ptK A raw) (hn : n = raw.length) (hf : fitT raw) (a b : Int) : Fx Try.prog 4 [.slice A n c, .int .i64 a, .int .i64 b] w [] no (fun v L => v = .bool true ∧ L = []) := by
  subst hn
  refine Sv.Fx.body Try.func4 rfl T4 rfl ?_
  intro I hro hI
  refine KV.env [(0, _), (1, _), (2, _)] ⟨rfl, rfl, rfl, trivial⟩ ?_
  refine CV.seq ?_
  -- region 0 law.go:57
  refine CV.region ?_
  refine RV.op (OV.step gno (Step.assign rfl) rfl ?_)
  refine RV.nil ?_
  refine KV.then_n ?_
  refine KV.env [(0, _), (1, _), (2, _)] ⟨rfl, rfl, rfl, trivial⟩ ?_
  refine CV.seq ?_
  refine CV.seq ?_
  -- region 1 law.go:58
  refine CV.region ?_
  refine RV.op (OV.step gno (Step.move rfl) rfl ?_)
  refine RV.op (OV.step gno (Step.lenSl Try.underlying22 rfl) rfl ?_)
  refine RV.op (OV.split gno (Step.gtr rfl rfl) rfl (fun hlong => ?_) (fun hlong => ?_))
  · -- True
    refine RV.nil ?_
    refine KV.then_n ?_
    refine KV.env [(0, _), (1, _), (2, _), (24, _)] ⟨rfl, rfl, rfl, rfl, trivial⟩ ?_
    refine CV.cond_t rfl ?_
    refine CV.seq ?_
    -- region 2 law.go:59
    refine CV.region ?_
    refine RV.op (OV.call [] (F := []) Try.func12 B12 N12 rfl rfl (fun w h => awake_fn) (fun _ hb => hb.elim) gno rfl (fun v L' hp => ?_))
    obtain ⟨rfl, rfl⟩ := hp
    simp only [List.append_nil]
    refine RV.op (OV.step gno (Step.assign rfl) rfl ?_)
    refine RV.nil ?_
    refine KV.then_n ?_
    refine KV.env [(6, _)] ⟨rfl, trivial⟩ ?_
    refine CV.ret ?_
    refine KV.then_ret ?_
    -- return at r2
    refine KV.sel [] [] rfl ?_
    exact KV.ret1 rfl rfl _ (fun _ h => h) ⟨rfl, rfl⟩
  · -- False
    have hl : raw.length ≤ 1000000 := by omega
    refine RV.nil ?_
    refine KV.then_n ?_
    refine KV.env [(0, _), (1, _), (2, _), (24, _)] ⟨rfl, rfl, rfl, rfl, trivial⟩ ?_
    refine CV.cond_f rfl ?_
    refine CV.skip ?_
    refine KV.then_n ?_
    refine KV.env [(0, _), (1, _), (2, _)] ⟨rfl, rfl, rfl, trivial⟩ ?_
    refine CV.seq ?_
    -- region 3 law.go:61
    refine CV.region ?_
    refine RV.op (OV.step gno (Step.move rfl) rfl ?_)
    refine RV.op (OV.call [] (F := []) Try.func13 B13 N13 rfl rfl (fun w h => table_fn (h.rs hr (fun _ => hI _)) rfl hl hf) (fun _ hb => hb.elim) gno rfl (fun v L' hp => ?_))
    obtain ⟨At, ct, rfl, rfl⟩ := hp
    obtain ⟨T, hT⟩ : ∃ T, tableM raw = T := ⟨_, rfl⟩
    rw [hT]
    have hok : okT T := hT ▸ table_ok hf
    have hlT := hok.1
    have hfT : fitT T := hT ▸ fitT_table hf
    refine RV.op (OV.step gno (Step.assign rfl) rfl ?_)
    refine RV.nil ?_
    refine KV.then_n ?_
    refine KV.env [(0, _), (1, _), (2, _), (7, _)] ⟨rfl, rfl, rfl, rfl, trivial⟩ ?_
    refine CV.seq ?_
    -- region 4 law.go:62
    refine CV.region ?_
    refine RV.op (OV.step gno (Step.move rfl) rfl ?_)
    refine RV.op (OV.step gno (Step.move rfl) rfl ?_)
    refine RV.op (OV.step gno (Step.lenSl Try.underlying22 rfl) rfl ?_)
    refine RV.op (OV.call [] Try.func14 B14 N14 rfl rfl (fun w h => (mod_fn a T.length (by omega) (by omega)).fn w) (fun _ hb => hb.elim) gno rfl (fun v L' hp => ?_))
    obtain ⟨rfl, rfl⟩ := hp
    simp only [List.append_nil]
    obtain ⟨p, hmp, hlp⟩ := modN a (n := T.length) (by omega)
    rw [hmp]
    refine RV.op (OV.step gno (Step.move rfl) rfl ?_)
    refine RV.op (OV.step gno (Step.move rfl) rfl ?_)
    refine RV.op (OV.step gno (Step.lenSl Try.underlying22 rfl) rfl ?_)
    refine RV.op (OV.call [] Try.func14 B14 N14 rfl rfl (fun w h => (mod_fn b T.length (by omega) (by omega)).fn w) (fun _ hb => hb.elim) gno rfl (fun v L' hp => ?_))
    obtain ⟨rfl, rfl⟩ := hp
    simp only [List.append_nil]
    obtain ⟨q, hmq, hlq⟩ := modN b (n := T.length) (by omega)
    rw [hmq]
    refine RV.op (OV.step gno (Step.assign rfl) rfl ?_)
    refine RV.op (OV.step gno (Step.assign rfl) rfl ?_)
    refine RV.nil ?_
    refine KV.then_n ?_
    refine KV.env [(0, _), (1, _), (2, _), (7, _), (8, _), (9, _)] ⟨rfl, rfl, rfl, rfl, rfl, rfl, trivial⟩ ?_
    refine CV.seq ?_
    -- region 5 law.go:63
    refine CV.region ?_
    refine RV.op (OV.step gno (Step.move rfl) rfl ?_)
    refine RV.op (OV.step gno (Step.move rfl) rfl ?_)
    refine RV.op (OV.step gno (Step.move rfl) rfl ?_)
    refine RV.op (OV.call [] (F := [_]) Try.func19 B19 N19 rfl rfl (fun w h => trans_fn (h.os 0 rfl) rfl (by omega) p q) (fun _ hb => hb.elim) gno rfl (fun v L' hp => ?_))
    obtain ⟨Aa, ca, rfl, rfl⟩ := hp
    refine RV.op (OV.step gno (Step.move rfl) rfl ?_)
    refine RV.op (OV.step gno (Step.extract0 rfl rfl) rfl ?_)
    refine RV.op (OV.step gno (Step.extract0 rfl rfl) rfl ?_)
    refine RV.op (OV.step gno (Step.assign rfl) rfl ?_)
    refine RV.op (OV.step gno (Step.assign rfl) rfl ?_)
    refine RV.nil ?_
    refine KV.then_n ?_
    refine KV.env [(0, _), (1, _), (2, _), (7, _), (8, _), (9, _), (10, _), (11, _)] ⟨rfl, rfl, rfl, rfl, rfl, rfl, rfl, rfl, trivial⟩ ?_
    refine CV.seq ?_
    -- region 6 law.go:64
    refine CV.region ?_
    refine RV.op (OV.step gno (Step.move rfl) rfl ?_)
    refine RV.op (OV.step gno (Step.move rfl) rfl ?_)
    refine RV.op (OV.step gno (Step.move rfl) rfl ?_)
    refine RV.op (OV.call [] (F := [_, _]) Try.func20 B20 N20 rfl rfl (fun w h => transR_fn (h.os 0 rfl) rfl (by omega) p q) (fun _ hb => hb.elim) gno rfl (fun v L' hp => ?_))
    obtain ⟨Ab, cb, rfl, rfl⟩ := hp
    refine RV.op (OV.step gno (Step.move rfl) rfl ?_)
    refine RV.op (OV.step gno (Step.extract0 rfl rfl) rfl ?_)
    refine RV.op (OV.step gno (Step.extract0 rfl rfl) rfl ?_)
    refine RV.op (OV.step gno (Step.assign rfl) rfl ?_)
    refine RV.op (OV.step gno (Step.assign rfl) rfl ?_)
    refine RV.nil ?_
    refine KV.then_n ?_
    refine KV.env [(0, _), (1, _), (2, _), (7, _), (9, _), (10, _), (11, _), (12, _), (13, _)] ⟨rfl, rfl, rfl, rfl, rfl, rfl, rfl, rfl, rfl, trivial⟩ ?_
    refine CV.seq ?_
    -- region 7 law.go:65
    refine CV.region ?_
    refine RV.op (OV.step gno (Step.move rfl) rfl ?_)
    refine RV.op (OV.step gno (Step.move rfl) rfl ?_)
    refine RV.op (OV.step gno (Step.move rfl) rfl ?_)
    refine RV.op (OV.call [] (F := [_, _, _]) Try.func19 B19 N19 rfl rfl (fun w h => trans_fn (h.rs hr (fun _ => hI _)) rfl (by omega) a b) (fun _ hb => hb.elim) gno rfl (fun v L' hp => ?_))
    obtain ⟨Ac, cc, rfl, rfl⟩ := hp
    refine RV.op (OV.step gno (Step.move rfl) rfl ?_)
    refine RV.op (OV.step gno (Step.extract0 rfl rfl) rfl ?_)
    refine RV.op (OV.step gno (Step.extract0 rfl rfl) rfl ?_)
    refine RV.op (OV.step gno (Step.assign rfl) rfl ?_)
    refine RV.op (OV.step gno (Step.assign rfl) rfl ?_)
    refine RV.nil ?_
    refine KV.then_n ?_
    refine KV.env [(0, _), (1, _), (2, _), (7, _), (9, _), (10, _), (11, _), (12, _), (13, _), (14, _), (15, _)] ⟨rfl, rfl, rfl, rfl, rfl, rfl, rfl, rfl, rfl, rfl, rfl, trivial⟩ ?_
    refine CV.seq ?_
    -- region 8 law.go:66
    refine CV.region ?_
    refine RV.op (OV.step gno (Step.move rfl) rfl ?_)
    refine RV.op (OV.step gno (Step.move rfl) rfl ?_)
    refine RV.op (OV.step gno (Step.move rfl) rfl ?_)
    refine RV.op (OV.call [] (F := [_, _, _, _]) Try.func20 B20 N20 rfl rfl (fun w h => transR_fn (h.rs hr (fun _ => hI _)) rfl (by omega) a b) (fun _ hb => hb.elim) gno rfl (fun v L' hp => ?_))
    obtain ⟨Ad, cd, rfl, rfl⟩ := hp
    refine RV.op (OV.step gno (Step.move rfl) rfl ?_)
    refine RV.op (OV.step gno (Step.extract0 rfl rfl) rfl ?_)
    refine RV.op (OV.step gno (Step.extract0 rfl rfl) rfl ?_)
    refine RV.op (OV.step gno (Step.assign rfl) rfl ?_)
    refine RV.op (OV.step gno (Step.assign rfl) rfl ?_)
    refine RV.nil ?_
    refine KV.then_n ?_
    refine KV.env [(1, _), (7, _), (9, _), (10, _), (11, _), (12, _), (13, _), (14, _), (15, _), (16, _), (17, _)] ⟨rfl, rfl, rfl, rfl, rfl, rfl, rfl, rfl, rfl, rfl, rfl, trivial⟩ ?_
    refine CV.seq ?_
    -- region 9 law.go:67
    refine CV.region ?_
    refine RV.op (OV.step gno (Step.move rfl) rfl ?_)
    refine RV.op (OV.step gno (Step.move rfl) rfl ?_)
    refine RV.op (OV.step gno (Step.move rfl) rfl ?_)
    refine RV.op (OV.call [] (F := [_, _, _, _, _]) Try.func19 B19 N19 rfl rfl (fun w h => trans_fn (h.os 0 rfl) rfl (by omega) a q) (fun _ hb => hb.elim) gno rfl (fun v L' hp => ?_))
    obtain ⟨Ae, ce, rfl, rfl⟩ := hp
    refine RV.op (OV.step gno (Step.move rfl) rfl ?_)
    refine RV.op (OV.step gno (Step.extract0 rfl rfl) rfl ?_)
    refine RV.op (OV.step gno (Step.extract0 rfl rfl) rfl ?_)
    refine RV.op (OV.step gno (Step.assign rfl) rfl ?_)
    refine RV.op (OV.step gno (Step.assign rfl) rfl ?_)
    refine RV.nil ?_
    refine KV.then_n ?_
    refine KV.env [(1, _), (7, _), (9, _), (10, _), (11, _), (12, _), (13, _), (14, _), (15, _), (16, _), (17, _), (18, _), (19, _)] ⟨rfl, rfl, rfl, rfl, rfl, rfl, rfl, rfl, rfl, rfl, rfl, rfl, rfl, trivial⟩ ?_
    refine CV.seq ?_
    -- region 10 law.go:68
    refine CV.region ?_
    refine RV.op (OV.step gno (Step.move rfl) rfl ?_)
    refine RV.op (OV.step gno (Step.move rfl) rfl ?_)
    refine RV.op (OV.step gno (Step.move rfl) rfl ?_)
    refine RV.op (OV.call [] (F := [_, _, _, _, _, _]) Try.func20 B20 N20 rfl rfl (fun w h => transR_fn (h.os 0 rfl) rfl (by omega) a q) (fun _ hb => hb.elim) gno rfl (fun v L' hp => ?_))
    obtain ⟨Af, cf, rfl, rfl⟩ := hp
    refine RV.op (OV.step gno (Step.move rfl) rfl ?_)
    refine RV.op (OV.step gno (Step.extract0 rfl rfl) rfl ?_)
    refine RV.op (OV.step gno (Step.extract0 rfl rfl) rfl ?_)
    refine RV.op (OV.step gno (Step.assign rfl) rfl ?_)
    refine RV.op (OV.step gno (Step.assign rfl) rfl ?_)
    refine RV.nil ?_
    refine KV.then_n ?_
    refine KV.env [(10, _), (11, _), (12, _), (13, _), (14, _), (15, _), (16, _), (17, _), (18, _), (19, _), (20, _), (21, _)] ⟨rfl, rfl, rfl, rfl, rfl, rfl, rfl, rfl, rfl, rfl, rfl, rfl, trivial⟩ ?_
    refine CV.seq ?_
    -- region 11 law.go:69
    refine CV.region ?_
    refine RV.op (OV.step gno (Step.move rfl) rfl ?_)
    refine RV.op (OV.step gno (Step.move rfl) rfl ?_)
    refine RV.op (OV.split gno (Step.eql rfl rfl) rfl (fun e2 => ?_) (fun e2 => ?_))
    · -- True
      refine RV.op (OV.step gno (Step.move rfl) rfl ?_)
      refine RV.op (OV.step (gyes rfl) (Step.move rfl) rfl ?_)
      refine RV.op (OV.step (gyes rfl) (Step.move rfl) rfl ?_)
      refine RV.op (OV.split (gyes rfl) (Step.eql rfl rfl) rfl (fun e6 => ?_) (fun e6 => ?_))
      · -- True
        refine RV.op (OV.step gno (Step.pick_t rfl rfl) rfl ?_)
        refine RV.op (OV.step gno (Step.move rfl) rfl ?_)
        refine RV.op (OV.step (gyes rfl) (Step.move rfl) rfl ?_)
        refine RV.op (OV.step (gyes rfl) (Step.move rfl) rfl ?_)
        refine RV.op (OV.split (gyes rfl) (Step.eql rfl rfl) rfl (fun e11 => ?_) (fun e11 => ?_))
        · -- True
          refine RV.op (OV.step gno (Step.pick_t rfl rfl) rfl ?_)
          refine RV.op (OV.step gno (Step.move rfl) rfl ?_)
          refine RV.op (OV.step (gyes rfl) (Step.move rfl) rfl ?_)
          refine RV.op (OV.step (gyes rfl) (Step.move rfl) rfl ?_)
          refine RV.op (OV.call [] (F := [_, _, _, _, _, _, _]) Try.func21 B21 N21 rfl rfl (fun w h => equalT_fn (h.os 1 rfl) (h.os 2 rfl) (Nat.le_trans (transM_len _ _ _) (by omega))) (fun _ hb => hb.elim) (gyes rfl) rfl (fun v L' hp => ?_))
          obtain ⟨rfl, rfl⟩ := hp
          simp only [List.append_nil]
          refine RV.op (OV.step gno (Step.pick_t rfl rfl) rfl ?_)
          refine RV.op (OV.step gno (Step.move rfl) rfl ?_)
          refine RV.op (OV.step (gyes rfl) (Step.move rfl) rfl ?_)
          refine RV.op (OV.step (gyes rfl) (Step.move rfl) rfl ?_)
          refine RV.op (OV.call [] (F := [_, _, _, _, _, _, _]) Try.func21 B21 N21 rfl rfl (fun w h => equalT_fn (h.os 3 rfl) (h.os 4 rfl) (Nat.le_trans (transM_len _ _ _) (by omega))) (fun _ hb => hb.elim) (gyes rfl) rfl (fun v L' hp => ?_))
          obtain ⟨rfl, rfl⟩ := hp
          simp only [List.append_nil]
          refine RV.op (OV.step gno (Step.pick_t rfl rfl) rfl ?_)
          refine RV.op (OV.step gno (Step.move rfl) rfl ?_)
          refine RV.op (OV.step (gyes rfl) (Step.move rfl) rfl ?_)
          refine RV.op (OV.step (gyes rfl) (Step.move rfl) rfl ?_)
          refine RV.op (OV.call [] (F := [_, _, _, _, _, _, _]) Try.func21 B21 N21 rfl rfl (fun w h => equalT_fn (h.os 5 rfl) (h.os 6 rfl) (Nat.le_trans (transM_len _ _ _) (by omega))) (fun _ hb => hb.elim) (gyes rfl) rfl (fun v L' hp => ?_))
          obtain ⟨rfl, rfl⟩ := hp
          simp only [List.append_nil]
          refine RV.op (OV.step gno (Step.pick_t rfl rfl) rfl ?_)
          refine RV.op (OV.step gno (Step.move rfl) rfl ?_)
          refine RV.op (OV.call [] (F := [_, _, _, _, _, _, _]) Try.func12 B12 N12 rfl rfl (fun w h => awake_fn) (fun _ hb => hb.elim) (gyes rfl) rfl (fun v L' hp => ?_))
          obtain ⟨rfl, rfl⟩ := hp
          simp only [List.append_nil]
          refine RV.op (OV.step gno (Step.pick_t rfl rfl) rfl ?_)
          refine RV.op (OV.step gno (Step.assign rfl) rfl ?_)
          refine RV.nil ?_
          refine KV.then_n ?_
          refine KV.env [(6, _)] ⟨rfl, trivial⟩ ?_
          refine CV.ret ?_
          -- return at r11
          refine KV.sel [] [] rfl ?_
          exact KV.ret1 rfl rfl _ (fun _ h => h) ⟨rfl, rfl⟩
        · -- False
          exact absurd rfl e11
      · -- False
        exact absurd rfl e6
    · -- False
      exact absurd rfl e2
end Go.Proofs.Ytaafpnoffdcbnaa
