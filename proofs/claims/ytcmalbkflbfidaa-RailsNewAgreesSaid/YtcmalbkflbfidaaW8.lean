/-
  Walks, part 8.
-/
import Derived.Test.YtcmalbkflbfidaaTab8
import Derived.Test.YtcmalbkflbfidaaW7
import Derived.Test.YtcmalbkflbfidaaPl1
set_option linter.unusedSimpArgs false
set_option linter.unusedVariables false
namespace Go.Proofs.Ytcmalbkflbfidaa
open Go.Sv Go.Rails
theorem newW_fn {A : Option Addr} {n c : Nat} {ys : List Rail} {w : World} (hr : RS w railK A ys) (hn : n = ys.length) : Fx Try.prog 13 [.slice A n c] w [] no (fun v _ => ∃ p, v = .tuple #[.pointer p, .int .i64 (newE ys)] ∧ (p = none ↔ ¬ newE ys = 0)) :=
  (new_fn hr hn).mono fun v L hp => by
    by_cases h : newE ys = 0
    · obtain ⟨b, a, rfl, _⟩ := hp.1 h
      exact ⟨some { block := b, off := 0 }, by rw [h], ⟨(fun x => by cases x), fun x => absurd h x⟩⟩
    · obtain ⟨rfl, _⟩ := hp.2 h
      exact ⟨none, rfl, ⟨fun _ => h, fun _ => rfl⟩⟩
theorem newRW_fn {A : Option Addr} {n c : Nat} {ys : List Rail} {w : World} (hr : RS w railK A ys) (hn : n = ys.length) : Fx Try.prog 14 [.slice A n c] w [] no (fun v _ => ∃ p, v = .tuple #[.pointer p, .int .i64 (newE ys)]) :=
  (newR_fn hr hn).mono fun v L hp => by
    rw [newE_eq]
    by_cases h : newRE ys = 0
    · obtain ⟨b, a, rfl, _⟩ := hp.1 h
      exact ⟨_, by rw [h]⟩
    · obtain ⟨rfl, _⟩ := hp.2 h
      exact ⟨none, rfl⟩
theorem someM_length (raw : List Rail) : (someM raw).length = min raw.length 8 := by
  simp only [someM]
  split
  · simp
  · rw [sm1_length]

set_option maxRecDepth 100000 in
set_option maxHeartbeats 1000000 in
theorem newAgrees_fn {A : Option Addr} {n c : Nat} {raw : List Rail} (k s : Int) {w : World} (hr : RS w railK A raw) (hn : n = raw.length) : Fx Try.prog 3 [.slice A n c, .int .i64 k, .int .i64 s] w [] no (fun v L => v = .bool true ∧ L = []) := by
  subst hn
  refine Sv.Fx.body Try.func3 rfl T3 rfl ?_
  intro I hro hI
  refine KV.env [(0, _), (1, _), (2, _)] ⟨rfl, rfl, rfl, trivial⟩ ?_
  refine CV.seq ?_
  -- region 0 law.go:82
  refine CV.region ?_
  refine RV.op (OV.step gno (Step.assign rfl) rfl ?_)
  refine RV.nil ?_
  refine KV.then_n ?_
  refine KV.env [(0, _), (1, _), (2, _)] ⟨rfl, rfl, rfl, trivial⟩ ?_
  refine CV.seq ?_
  refine CV.seq ?_
  -- region 1 law.go:83
  refine CV.region ?_
  refine RV.op (OV.step gno (Step.move rfl) rfl ?_)
  refine RV.op (OV.step gno (Step.lenSl Try.underlying22 rfl) rfl ?_)
  refine RV.op (OV.split gno (Step.gtr rfl rfl) rfl (fun hlong => ?_) (fun hlong => ?_))
  · -- True
    refine RV.nil ?_
    refine KV.then_n ?_
    refine KV.env [(0, _), (1, _), (2, _), (18, _)] ⟨rfl, rfl, rfl, rfl, trivial⟩ ?_
    refine CV.cond_t rfl ?_
    refine CV.seq ?_
    -- region 2 law.go:84
    refine CV.region ?_
    refine RV.op (OV.call [] (F := []) Try.func12 B12 N12 rfl rfl (fun w h => awake_fn) (fun _ hb => hb.elim) gno rfl (fun v L' hp => ?_))
    obtain ⟨rfl, rfl⟩ := hp
    simp only [List.append_nil]
    refine RV.op (OV.step gno (Step.assign rfl) rfl ?_)
    refine RV.nil ?_
    refine KV.then_n ?_
    refine KV.env [(6, _)] ⟨rfl, trivial⟩ ?_
    refine CV.ret ?_
    refine KV.then_ret ?_
    -- return at r2
    refine KV.sel [] [] rfl ?_
    exact KV.ret1 rfl rfl _ (fun _ h => h) ⟨rfl, rfl⟩
  · -- False
    refine RV.nil ?_
    refine KV.then_n ?_
    refine KV.env [(0, _), (1, _), (2, _), (18, _)] ⟨rfl, rfl, rfl, rfl, trivial⟩ ?_
    refine CV.cond_f rfl ?_
    refine CV.skip ?_
    refine KV.then_n ?_
    refine KV.env [(0, _), (1, _), (2, _)] ⟨rfl, rfl, rfl, trivial⟩ ?_
    refine CV.seq ?_
    -- region 3 law.go:86
    refine CV.region ?_
    refine RV.op (OV.step gno (Step.move rfl) rfl ?_)
    refine RV.op (OV.call [] (F := []) Try.func13 B13 N13 rfl rfl (fun w h => newW_fn (h.rs hr (fun _ => hI _)) (rfl)) (fun _ hb => hb.elim) gno rfl (fun v L' hp => ?_))
    obtain ⟨p1, rfl, hp1⟩ := hp
    refine KV.heap (fun w h => h.sub) ?_
    refine RV.op (OV.step gno (Step.move rfl) rfl ?_)
    refine RV.op (OV.step gno (Step.extract0 rfl rfl) rfl ?_)
    refine RV.op (OV.step gno (Step.extract0 rfl rfl) rfl ?_)
    refine RV.op (OV.step gno (Step.assign rfl) rfl ?_)
    refine RV.op (OV.step gno (Step.assign rfl) rfl ?_)
    refine RV.nil ?_
    refine KV.then_n ?_
    refine KV.env [(0, _), (1, _), (2, _), (7, _), (8, _)] ⟨rfl, rfl, rfl, rfl, rfl, trivial⟩ ?_
    refine CV.seq ?_
    -- region 4 law.go:87
    refine CV.region ?_
    refine RV.op (OV.step gno (Step.move rfl) rfl ?_)
    refine RV.op (OV.call [] (F := []) Try.func14 B14 N14 rfl rfl (fun w h => newRW_fn (h.rs hr (fun _ => hI _)) (rfl)) (fun _ hb => hb.elim) gno rfl (fun v L' hp => ?_))
    obtain ⟨p2, rfl⟩ := hp
    refine KV.heap (fun w h => h.sub) ?_
    refine RV.op (OV.step gno (Step.move rfl) rfl ?_)
    refine RV.op (OV.step gno (Step.extract0 rfl rfl) rfl ?_)
    refine RV.op (OV.step gno (Step.extract0 rfl rfl) rfl ?_)
    refine RV.op (OV.step gno (Step.assign rfl) rfl ?_)
    refine RV.op (OV.step gno (Step.assign rfl) rfl ?_)
    refine RV.nil ?_
    refine KV.then_n ?_
    refine KV.env [(0, _), (1, _), (2, _), (7, _), (8, _), (10, _)] ⟨rfl, rfl, rfl, rfl, rfl, rfl, trivial⟩ ?_
    refine CV.seq ?_
    -- region 5 law.go:88
    refine CV.region ?_
    refine RV.op (OV.step gno (Step.move rfl) rfl ?_)
    refine RV.op (OV.call [] (F := []) Try.func15 B15 N15 rfl rfl (fun w h => some_fn (h.rs hr (fun _ => hI _))) (fun _ hb => hb.elim) gno rfl (fun v L' hp => ?_))
    obtain ⟨A2, c2, rfl, rfl⟩ := hp
    have hsl := someM_length raw
    refine RV.op (OV.step gno (Step.assign rfl) rfl ?_)
    refine RV.nil ?_
    refine KV.then_n ?_
    refine KV.env [(1, _), (2, _), (7, _), (8, _), (10, _), (11, _)] ⟨rfl, rfl, rfl, rfl, rfl, rfl, trivial⟩ ?_
    refine CV.seq ?_
    refine CV.seq ?_
    -- region 6 law.go:89
    refine CV.region ?_
    refine RV.op (OV.step gno (Step.move rfl) rfl ?_)
    refine RV.op (OV.step gno (Step.lenSl Try.underlying22 rfl) rfl ?_)
    refine RV.op (OV.split gno (Step.gtr rfl rfl) rfl (fun hpos => ?_) (fun hpos => ?_))
    · -- True
      refine RV.nil ?_
      refine KV.then_n ?_
      refine KV.env [(1, _), (2, _), (7, _), (8, _), (10, _), (11, _), (34, _)] ⟨rfl, rfl, rfl, rfl, rfl, rfl, rfl, trivial⟩ ?_
      refine CV.cond_t rfl ?_
      -- region 7 law.go:90
      refine CV.region ?_
      refine RV.op (OV.step gno (Step.move rfl) rfl ?_)
      refine RV.op (OV.step gno (Step.move rfl) rfl ?_)
      refine RV.op (OV.step gno (Step.move rfl) rfl ?_)
      refine RV.op (OV.step gno (Step.lenSl Try.underlying22 rfl) rfl ?_)
      refine RV.op (OV.call [] Try.func16 B16 N16 rfl rfl (fun w h => (mod_fn k (someM raw).length (by omega) (by omega)).fn w) (fun _ hb => hb.elim) gno rfl (fun v L' hp => ?_))
      obtain ⟨rfl, rfl⟩ := hp
      simp only [List.append_nil]
      obtain ⟨m, hm⟩ := Int.eq_ofNat_of_zero_le (modM_lt k (n := (someM raw).length) (by omega)).1
      have hm2 := (modM_lt k (n := (someM raw).length) (by omega)).2
      rw [hm]
      rw [hm] at hm2
      refine RV.op (OV.step gno (Step.move rfl) rfl ?_)
      refine RV.op (OV.step gno (Step.move rfl) rfl ?_)
      refine RV.op (OV.step gno (Step.lenSl Try.underlying22 rfl) rfl ?_)
      (first | refine RV.op (OV.step gno (Step.add rfl rfl (wI64 (by omega) (by omega))) rfl ?_) | refine RV.op (OV.step gno (Step.add rfl rfl rfl) rfl ?_))
      refine RV.op (OV.call [] Try.func16 B16 N16 rfl rfl (fun w h => (mod_fn s ((someM raw).length + 2) (by omega) (by omega)).fn w) (fun _ hb => hb.elim) gno rfl (fun v L' hp => ?_))
      obtain ⟨rfl, rfl⟩ := hp
      simp only [List.append_nil]
      have hms := modM_lt s (n := (someM raw).length + 2) (by omega)
      (first | refine RV.op (OV.step gno (Step.sub rfl rfl (wI64 (by omega) (by omega))) rfl ?_) | refine RV.op (OV.step gno (Step.sub rfl rfl rfl) rfl ?_))
      refine RV.op (OV.step gno (Step.idx Try.underlying22 I35 (fun w h => h.os 0 rfl) rfl rfl (rfl) _ rfl (by omega)) rfl ?_)
      refine RV.op (OV.step gno (Step.fieldAddr rfl (F35_0 _ _)) rfl ?_)
      refine RV.op (OV.storeE 0 (m) (⟨_, _, _⟩) (j := 0) [_] I3 rfl rfl rfl rfl rfl rfl (by omega) rfl (Nat.le_of_ble_eq_true rfl) gno ?_)
      refine RV.nil ?_
      refine KV.then_n ?_
      refine KV.env [(7, _), (8, _), (10, _), (11, _)] ⟨rfl, rfl, rfl, rfl, trivial⟩ ?_
      refine CV.seq ?_
      -- region 8 law.go:92
      refine CV.region ?_
      refine RV.op (OV.step gno (Step.move rfl) rfl ?_)
      refine RV.op (OV.call [] (F := [_]) Try.func13 B13 N13 rfl rfl (fun w h => newW_fn (h.os 0 rfl) (by first | rfl | (rw [List.length_set]))) (fun _ hb => hb.elim) gno rfl (fun v L' hp => ?_))
      obtain ⟨p3, rfl, hp3⟩ := hp
      refine KV.heap (fun w h => h.sub) ?_
      refine RV.op (OV.step gno (Step.move rfl) rfl ?_)
      refine RV.op (OV.step gno (Step.extract0 rfl rfl) rfl ?_)
      refine RV.op (OV.step gno (Step.extract0 rfl rfl) rfl ?_)
      refine RV.op (OV.step gno (Step.assign rfl) rfl ?_)
      refine RV.op (OV.step gno (Step.assign rfl) rfl ?_)
      refine RV.nil ?_
      refine KV.then_n ?_
      refine KV.env [(7, _), (8, _), (10, _), (11, _), (12, _), (13, _)] ⟨rfl, rfl, rfl, rfl, rfl, rfl, trivial⟩ ?_
      refine CV.seq ?_
      -- region 9 law.go:93
      refine CV.region ?_
      refine RV.op (OV.step gno (Step.move rfl) rfl ?_)
      refine RV.op (OV.call [] (F := [_]) Try.func14 B14 N14 rfl rfl (fun w h => newRW_fn (h.os 0 rfl) (by first | rfl | (rw [List.length_set]))) (fun _ hb => hb.elim) gno rfl (fun v L' hp => ?_))
      obtain ⟨p4, rfl⟩ := hp
      refine KV.heap (fun w h => h.sub) ?_
      refine RV.op (OV.step gno (Step.move rfl) rfl ?_)
      refine RV.op (OV.step gno (Step.extract0 rfl rfl) rfl ?_)
      refine RV.op (OV.step gno (Step.extract0 rfl rfl) rfl ?_)
      refine RV.op (OV.step gno (Step.assign rfl) rfl ?_)
      refine RV.op (OV.step gno (Step.assign rfl) rfl ?_)
      refine RV.nil ?_
      refine KV.then_n ?_
      refine KV.env [(7, _), (8, _), (10, _), (12, _), (13, _), (15, _)] ⟨rfl, rfl, rfl, rfl, rfl, rfl, trivial⟩ ?_
      refine CV.seq ?_
      -- region 10 law.go:94
      refine CV.region ?_
      refine RV.op (OV.step gno (Step.move rfl) rfl ?_)
      refine RV.op (OV.step gno (Step.move rfl) rfl ?_)
      refine RV.op (OV.split gno (Step.eql rfl rfl) rfl (fun e1 => ?_) (fun e1 => ?_))
      · -- True
        refine RV.op (OV.step gno (Step.move rfl) rfl ?_)
        refine RV.op (OV.step (gyes rfl) (Step.move rfl) rfl ?_)
        refine RV.op (OV.step (gyes rfl) (Step.move rfl) rfl ?_)
        refine RV.op (OV.split (gyes rfl) (Step.eql rfl rfl) rfl (fun e2 => ?_) (fun e2 => ?_))
        · -- True
          refine RV.op (OV.step gno (Step.pick_t rfl rfl) rfl ?_)
          refine RV.op (OV.step gno (Step.move rfl) rfl ?_)
          refine RV.op (OV.step (gyes rfl) (Step.move rfl) rfl ?_)
          refine RV.op (OV.step (gyes rfl) (Step.eqlP Try.underlying24 rfl rfl) rfl ?_)
          refine RV.op (OV.step (gyes rfl) (Step.move rfl) rfl ?_)
          refine RV.op (OV.step (gyes rfl) (Step.neq rfl rfl) rfl ?_)
          refine RV.op (OV.split (gyes rfl) (Step.eqlBool Try.underlying4 rfl rfl) rfl (fun e3 => ?_) (fun e3 => ?_))
          · -- True
            refine RV.op (OV.step gno (Step.pick_t rfl rfl) rfl ?_)
            refine RV.op (OV.step gno (Step.move rfl) rfl ?_)
            refine RV.op (OV.step (gyes rfl) (Step.move rfl) rfl ?_)
            refine RV.op (OV.step (gyes rfl) (Step.eqlP Try.underlying24 rfl rfl) rfl ?_)
            refine RV.op (OV.step (gyes rfl) (Step.move rfl) rfl ?_)
            refine RV.op (OV.step (gyes rfl) (Step.neq rfl rfl) rfl ?_)
            refine RV.op (OV.split (gyes rfl) (Step.eqlBool Try.underlying4 rfl rfl) rfl (fun e4 => ?_) (fun e4 => ?_))
            · -- True
              refine RV.op (OV.step gno (Step.pick_t rfl rfl) rfl ?_)
              refine RV.op (OV.step gno (Step.move rfl) rfl ?_)
              refine RV.op (OV.call [] (F := [_]) Try.func12 B12 N12 rfl rfl (fun w h => awake_fn) (fun _ hb => hb.elim) (gyes rfl) rfl (fun v L' hp => ?_))
              obtain ⟨rfl, rfl⟩ := hp
              simp only [List.append_nil]
              refine RV.op (OV.step gno (Step.pick_t rfl rfl) rfl ?_)
              refine RV.op (OV.step gno (Step.assign rfl) rfl ?_)
              refine RV.nil ?_
              refine KV.then_n ?_
              refine KV.env [(6, _)] ⟨rfl, trivial⟩ ?_
              refine CV.ret ?_
              -- return at r10
              refine KV.sel [] [] rfl ?_
              exact KV.ret1 rfl rfl _ (fun _ h => h) ⟨rfl, rfl⟩
            · -- False
              exact absurd (decide_eq_decide.2 hp3) e4
          · -- False
            exact absurd (decide_eq_decide.2 hp1) e3
        · -- False
          exact absurd rfl e2
      · -- False
        exact absurd rfl e1
    · -- False
      refine RV.nil ?_
      refine KV.then_n ?_
      refine KV.env [(1, _), (2, _), (7, _), (8, _), (10, _), (11, _), (34, _)] ⟨rfl, rfl, rfl, rfl, rfl, rfl, rfl, trivial⟩ ?_
      refine CV.cond_f rfl ?_
      refine CV.skip ?_
      refine KV.then_n ?_
      refine KV.env [(7, _), (8, _), (10, _), (11, _)] ⟨rfl, rfl, rfl, rfl, trivial⟩ ?_
      refine CV.seq ?_
      -- region 8 law.go:92
      refine CV.region ?_
      refine RV.op (OV.step gno (Step.move rfl) rfl ?_)
      refine RV.op (OV.call [] (F := [_]) Try.func13 B13 N13 rfl rfl (fun w h => newW_fn (h.os 0 rfl) (by first | rfl | (rw [List.length_set]))) (fun _ hb => hb.elim) gno rfl (fun v L' hp => ?_))
      obtain ⟨p3, rfl, hp3⟩ := hp
      refine KV.heap (fun w h => h.sub) ?_
      refine RV.op (OV.step gno (Step.move rfl) rfl ?_)
      refine RV.op (OV.step gno (Step.extract0 rfl rfl) rfl ?_)
      refine RV.op (OV.step gno (Step.extract0 rfl rfl) rfl ?_)
      refine RV.op (OV.step gno (Step.assign rfl) rfl ?_)
      refine RV.op (OV.step gno (Step.assign rfl) rfl ?_)
      refine RV.nil ?_
      refine KV.then_n ?_
      refine KV.env [(7, _), (8, _), (10, _), (11, _), (12, _), (13, _)] ⟨rfl, rfl, rfl, rfl, rfl, rfl, trivial⟩ ?_
      refine CV.seq ?_
      -- region 9 law.go:93
      refine CV.region ?_
      refine RV.op (OV.step gno (Step.move rfl) rfl ?_)
      refine RV.op (OV.call [] (F := [_]) Try.func14 B14 N14 rfl rfl (fun w h => newRW_fn (h.os 0 rfl) (by first | rfl | (rw [List.length_set]))) (fun _ hb => hb.elim) gno rfl (fun v L' hp => ?_))
      obtain ⟨p4, rfl⟩ := hp
      refine KV.heap (fun w h => h.sub) ?_
      refine RV.op (OV.step gno (Step.move rfl) rfl ?_)
      refine RV.op (OV.step gno (Step.extract0 rfl rfl) rfl ?_)
      refine RV.op (OV.step gno (Step.extract0 rfl rfl) rfl ?_)
      refine RV.op (OV.step gno (Step.assign rfl) rfl ?_)
      refine RV.op (OV.step gno (Step.assign rfl) rfl ?_)
      refine RV.nil ?_
      refine KV.then_n ?_
      refine KV.env [(7, _), (8, _), (10, _), (12, _), (13, _), (15, _)] ⟨rfl, rfl, rfl, rfl, rfl, rfl, trivial⟩ ?_
      refine CV.seq ?_
      -- region 10 law.go:94
      refine CV.region ?_
      refine RV.op (OV.step gno (Step.move rfl) rfl ?_)
      refine RV.op (OV.step gno (Step.move rfl) rfl ?_)
      refine RV.op (OV.split gno (Step.eql rfl rfl) rfl (fun e1 => ?_) (fun e1 => ?_))
      · -- True
        refine RV.op (OV.step gno (Step.move rfl) rfl ?_)
        refine RV.op (OV.step (gyes rfl) (Step.move rfl) rfl ?_)
        refine RV.op (OV.step (gyes rfl) (Step.move rfl) rfl ?_)
        refine RV.op (OV.split (gyes rfl) (Step.eql rfl rfl) rfl (fun e2 => ?_) (fun e2 => ?_))
        · -- True
          refine RV.op (OV.step gno (Step.pick_t rfl rfl) rfl ?_)
          refine RV.op (OV.step gno (Step.move rfl) rfl ?_)
          refine RV.op (OV.step (gyes rfl) (Step.move rfl) rfl ?_)
          refine RV.op (OV.step (gyes rfl) (Step.eqlP Try.underlying24 rfl rfl) rfl ?_)
          refine RV.op (OV.step (gyes rfl) (Step.move rfl) rfl ?_)
          refine RV.op (OV.step (gyes rfl) (Step.neq rfl rfl) rfl ?_)
          refine RV.op (OV.split (gyes rfl) (Step.eqlBool Try.underlying4 rfl rfl) rfl (fun e3 => ?_) (fun e3 => ?_))
          · -- True
            refine RV.op (OV.step gno (Step.pick_t rfl rfl) rfl ?_)
            refine RV.op (OV.step gno (Step.move rfl) rfl ?_)
            refine RV.op (OV.step (gyes rfl) (Step.move rfl) rfl ?_)
            refine RV.op (OV.step (gyes rfl) (Step.eqlP Try.underlying24 rfl rfl) rfl ?_)
            refine RV.op (OV.step (gyes rfl) (Step.move rfl) rfl ?_)
            refine RV.op (OV.step (gyes rfl) (Step.neq rfl rfl) rfl ?_)
            refine RV.op (OV.split (gyes rfl) (Step.eqlBool Try.underlying4 rfl rfl) rfl (fun e4 => ?_) (fun e4 => ?_))
            · -- True
              refine RV.op (OV.step gno (Step.pick_t rfl rfl) rfl ?_)
              refine RV.op (OV.step gno (Step.move rfl) rfl ?_)
              refine RV.op (OV.call [] (F := [_]) Try.func12 B12 N12 rfl rfl (fun w h => awake_fn) (fun _ hb => hb.elim) (gyes rfl) rfl (fun v L' hp => ?_))
              obtain ⟨rfl, rfl⟩ := hp
              simp only [List.append_nil]
              refine RV.op (OV.step gno (Step.pick_t rfl rfl) rfl ?_)
              refine RV.op (OV.step gno (Step.assign rfl) rfl ?_)
              refine RV.nil ?_
              refine KV.then_n ?_
              refine KV.env [(6, _)] ⟨rfl, trivial⟩ ?_
              refine CV.ret ?_
              -- return at r10
              refine KV.sel [] [] rfl ?_
              exact KV.ret1 rfl rfl _ (fun _ h => h) ⟨rfl, rfl⟩
            · -- False
              exact absurd (decide_eq_decide.2 hp3) e4
          · -- False
            exact absurd (decide_eq_decide.2 hp1) e3
        · -- False
          exact absurd rfl e2
      · -- False
        exact absurd rfl e1
end Go.Proofs.Ytcmalbkflbfidaa
