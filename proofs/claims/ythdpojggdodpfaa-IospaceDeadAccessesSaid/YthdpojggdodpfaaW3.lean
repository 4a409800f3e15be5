/-
  Walks, part 3.
-/
import Derived.Test.YthdpojggdodpfaaTabs
import Derived.Test.YthdpojggdodpfaaW2
set_option linter.unusedSimpArgs false
set_option linter.unusedVariables false
namespace Go.Proofs.Ythdpojggdodpfaa
open Go.Sv Go.Ios
set_option maxRecDepth 100000 in
set_option maxHeartbeats 1000000 in
theorem owner_fn (b : Nat) (s : BS) {w : World} (hk : s.ok) (z x : Int) : Fx Try.prog 15 [.pointer (some ⟨b, 0, none⟩), .int .i64 z, .int .u64 x] w (busL b s) no (fun v L => v = .int .i64 (ownM s z x) ∧ L = busL b s) := by
  refine Sv.Fx.body Try.func15 rfl T15 rfl ?_
  intro I hro hI
  refine KV.env [(0, _), (1, _), (2, _)] ⟨rfl, rfl, rfl, trivial⟩ ?_
  have hw := hk.wf
  have hw3 := hw.sp
  refine CV.seq ?_
  -- region 0 iospace.go:102
  refine CV.region ?_
  refine RV.op (OV.step gno (Step.assign rfl) rfl ?_)
  refine RV.nil ?_
  refine KV.then_n ?_
  refine KV.env [(0, _), (1, _), (2, _)] ⟨rfl, rfl, rfl, trivial⟩ ?_
  refine CV.seq ?_
  refine CV.seq ?_
  -- region 1 iospace.go:103
  refine CV.region ?_
  refine RV.op (OV.step gno (Step.move rfl) rfl ?_)
  refine RV.op (OV.step gno (Step.move rfl) rfl ?_)
  refine RV.op (OV.step gno (Step.move rfl) rfl ?_)
  refine RV.op (OV.call [0, 0, 0, 0] (F := []) Try.func30 B30 N30 rfl rfl (fun w h => find_fn b s hk z x) (fun _ hb => hb.elim) gno rfl (fun v L' hp => ?_))
  obtain ⟨rfl, rfl⟩ := hp
  refine RV.op (OV.step gno (Step.assign rfl) rfl ?_)
  refine RV.nil ?_
  refine KV.then_n ?_
  refine KV.env [(7, _)] ⟨rfl, trivial⟩ ?_
  refine CV.seq ?_
  -- region 2 iospace.go:103
  refine CV.region ?_
  refine RV.op (OV.step gno (Step.move rfl) rfl ?_)
  refine RV.op (OV.split gno (Step.neqP Try.underlying78 rfl rfl) rfl (fun hq => ?_) (fun hq => ?_))
  · -- True
    obtain ⟨m, i, rfl, hm, he, hi, hb1, hb2⟩ := fptr_cases hk hq
    rw [fptr_some he]
    refine RV.nil ?_
    refine KV.then_n ?_
    refine KV.env [(7, _), (13, _)] ⟨rfl, rfl, trivial⟩ ?_
    refine CV.cond_t rfl ?_
    refine CV.seq ?_
    -- region 3 iospace.go:104
    refine CV.region ?_
    refine RV.op (OV.step gno (Step.move rfl) rfl ?_)
    refine RV.op (OV.step gno (Step.nilCheck rfl) rfl ?_)
    refine RV.op (OV.step gno (Step.fieldAddr rfl (F77_1 _ _)) rfl ?_)
    refine RV.op (OV.step gno (Step.load Try.underlying3 rfl rfl (fun w h => ((show SpR w (s.sp m) from Hp.spr h (k := 1) rfl (m := m) (by omega)).2 i hi).cell rfl)) rfl ?_)
    refine RV.op (OV.step gno (Step.assign rfl) rfl ?_)
    refine RV.nil ?_
    refine KV.then_n ?_
    refine KV.env [(6, _)] ⟨rfl, trivial⟩ ?_
    refine CV.ret ?_
    refine KV.then_ret ?_
    -- return at r3
    refine KV.sel [0, 0, 0, 0] [_, _, _, _] rfl ?_
    exact KV.ret1 rfl rfl _ (fun _ h => h) ⟨by rw [ownM, he]; rfl, rfl⟩
  · -- False
    refine RV.nil ?_
    refine KV.then_n ?_
    refine KV.env [(7, _), (13, _)] ⟨rfl, rfl, trivial⟩ ?_
    refine CV.cond_f rfl ?_
    refine CV.skip ?_
    refine KV.then_n ?_
    refine KV.env [] trivial ?_
    refine CV.seq ?_
    -- region 4 iospace.go:106
    refine CV.region ?_
    refine RV.op (OV.step gno (Step.assign rfl) rfl ?_)
    refine RV.nil ?_
    refine KV.then_n ?_
    refine KV.env [(6, _)] ⟨rfl, trivial⟩ ?_
    refine CV.ret ?_
    -- return at r4
    refine KV.sel [0, 0, 0, 0] [_, _, _, _] rfl ?_
    exact KV.ret1 rfl rfl _ (fun _ h => h) ⟨by rw [ownM, fptr_no (Decidable.not_not.1 hq)], rfl⟩

set_option maxRecDepth 100000 in
set_option maxHeartbeats 1000000 in
theorem new_fn {w : World} : Fx Try.prog 8 [] w [] no (fun v L => ∃ b, v = .pointer (some ⟨b, 0, none⟩) ∧ L = busL b bs0) := by
  refine Sv.Fx.body Try.func8 rfl T8 rfl ?_
  intro I hro hI
  refine KV.env [] trivial ?_
  refine CV.seq ?_
  -- region 0 iospace.go:38
  refine CV.region ?_
  refine RV.op (OV.step gno (Step.assign rfl) rfl ?_)
  refine RV.nil ?_
  refine KV.then_n ?_
  refine KV.env [] trivial ?_
  refine CV.seq ?_
  -- region 1 iospace.go:38
  refine CV.region ?_
  refine RV.op (OV.step gno (Step.build rfl (Bd71_)) rfl ?_)
  refine RV.op (OV.box (t := 71) #[_, _, _, _, _, _, _, _, _, _, _, _, _, _, _, _, _, _, _, _, _, _, _, _, _, _, _, _, _, _, _, _, _, _, _, _, _, _, _, _, _, _, _, _, _, _, _, _, _, _, _, _, _, _, _, _, _, _, _, _, _, _, _, _, _, _, _, _, _, _, _, _, _, _, _, _, _, _, _, _, _, _, _, _, _, _, _, _, _, _, _, _, _, _, _, _, _, _, _, _, _, _, _, _, _, _, _, _, _, _, _, _, _, _, _, _, _, _, _, _, _, _, _, _, _, _, _, _, _, _, _, _, _, _, _, _, _, _, _, _, _, _, _, _, _, _, _, _, _, _, _, _, _, _, _, _, _, _, _, _, _, _, _, _, _, _, _, _, _, _, _, _, _, _, _, _, _, _, _, _, _, _, _, _, _, _, _, _, _, _, _, _, _, _, _, _, _, _, _, _, _, _, _, _, _, _, _, _, _, _, _, _, _, _, _, _, _, _, _, _, _, _, _, _, _, _, _, _, _, _, _, _, _, _, _, _, _, _, _, _, _, _, _, _, _, _, _, _, _, _, _, _, _, _, _, _, _, _, _, _, _, _] rfl rfl gno rfl (fun b1_1 => ?_))
  refine RV.op (OV.step gno (Step.assign rfl) rfl ?_)
  refine RV.nil ?_
  refine KV.then_n ?_
  refine KV.env [(0, _)] ⟨rfl, trivial⟩ ?_
  refine CV.ret ?_
  -- return at r1
  exact KV.ret1 rfl rfl _ (fun _ h => ((h.newBig 3 spD spD_emp).nilOS).nilOS) ⟨_, rfl, rfl⟩

set_option maxRecDepth 100000 in
set_option maxHeartbeats 1000000 in
theorem enable_fn (b : Nat) (s : BS) {w : World} (hk : s.ok) (o : Int) (v : Bool) : Fx Try.prog 12 [.pointer (some ⟨b, 0, none⟩), .int .i64 o, .bool v] w (busL b s) no (fun r L => (¬ (0 ≤ o ∧ o < 256) → r = .int .i64 1 ∧ L = busL b s) ∧ (0 ≤ o ∧ o < 256 → r = .int .i64 0 ∧ L = busL b { s with en := s.en.set o.toNat v })) := by
  refine Sv.Fx.body Try.func12 rfl T12 rfl ?_
  intro I hro hI
  refine KV.env [(0, _), (1, _), (2, _)] ⟨rfl, rfl, rfl, trivial⟩ ?_
  have hw := hk.wf
  have hw3 := hw.sp
  refine CV.seq ?_
  -- region 0 iospace.go:110
  refine CV.region ?_
  refine RV.op (OV.step gno (Step.assign rfl) rfl ?_)
  refine RV.nil ?_
  refine KV.then_n ?_
  refine KV.env [(0, _), (1, _), (2, _)] ⟨rfl, rfl, rfl, trivial⟩ ?_
  refine CV.seq ?_
  refine CV.seq ?_
  -- region 1 iospace.go:111
  refine CV.region ?_
  refine RV.op (OV.step gno (Step.move rfl) rfl ?_)
  refine RV.op (OV.call [] Try.func25 B25 N25 rfl rfl (fun w h => (validOwner_fn o).fn w) (fun _ hb => hb.elim) gno rfl (fun v L' hp => ?_))
  obtain ⟨rfl, rfl⟩ := hp
  simp only [List.append_nil]
  by_cases ho : 0 ≤ o ∧ o < 256
  · rw [decide_eq_true ho]
    obtain ⟨m, rfl⟩ := Int.eq_ofNat_of_zero_le ho.1
    refine RV.op (OV.step gno (Step.not rfl) rfl ?_)
    refine RV.nil ?_
    refine KV.then_n ?_
    refine KV.env [(0, _), (1, _), (2, _), (9, _)] ⟨rfl, rfl, rfl, rfl, trivial⟩ ?_
    refine CV.cond_f rfl ?_
    refine CV.skip ?_
    refine KV.then_n ?_
    refine KV.env [(0, _), (1, _), (2, _)] ⟨rfl, rfl, rfl, trivial⟩ ?_
    refine CV.seq ?_
    -- region 3 iospace.go:114
    refine CV.region ?_
    refine RV.op (OV.step gno (Step.move rfl) rfl ?_)
    refine RV.op (OV.step gno (Step.move rfl) rfl ?_)
    refine RV.op (OV.step gno (Step.move rfl) rfl ?_)
    refine RV.op (OV.step gno (Step.nilCheck rfl) rfl ?_)
    refine RV.op (OV.step gno (Step.fieldAddr rfl (F71_2 _ _)) rfl ?_)
    refine RV.op (OV.step gno (Step.idxArr Try.underlying52 I4 rfl rfl _ rfl (by omega)) rfl ?_)
    refine RV.op (OV.store 0 [_] (busC { s with en := s.en.set m v }).toArray I4 rfl rfl rfl rfl rfl (by show _ + 1 ≤ (busC _).toArray.size; rw [List.size_toArray, busC_len hw]; omega) (by simp [Value.oneCell']) (set_of hw (by omega) (set_en hw (by omega) v)) gno ?_)
    refine RV.nil ?_
    refine KV.then_n ?_
    refine KV.env [] trivial ?_
    refine CV.seq ?_
    -- region 4 iospace.go:115
    refine CV.region ?_
    refine RV.op (OV.step gno (Step.assign rfl) rfl ?_)
    refine RV.nil ?_
    refine KV.then_n ?_
    refine KV.env [(6, _)] ⟨rfl, trivial⟩ ?_
    refine CV.ret ?_
    -- return at r4
    refine KV.sel [0, 0, 0, 0] [_, _, _, _] rfl ?_
    exact KV.ret1 rfl rfl _ (fun _ h => h) ⟨fun h => absurd ho h, fun _ => ⟨rfl, rfl⟩⟩
  · rw [decide_eq_false ho]
    refine RV.op (OV.step gno (Step.not rfl) rfl ?_)
    refine RV.nil ?_
    refine KV.then_n ?_
    refine KV.env [(0, _), (1, _), (2, _), (9, _)] ⟨rfl, rfl, rfl, rfl, trivial⟩ ?_
    refine CV.cond_t rfl ?_
    refine CV.seq ?_
    -- region 2 iospace.go:112
    refine CV.region ?_
    refine RV.op (OV.step gno (Step.assign rfl) rfl ?_)
    refine RV.nil ?_
    refine KV.then_n ?_
    refine KV.env [(6, _)] ⟨rfl, trivial⟩ ?_
    refine CV.ret ?_
    refine KV.then_ret ?_
    -- return at r2
    refine KV.sel [0, 0, 0, 0] [_, _, _, _] rfl ?_
    exact KV.ret1 rfl rfl _ (fun _ h => h) ⟨fun _ => ⟨rfl, rfl⟩, fun h => absurd h ho⟩

set_option maxRecDepth 100000 in
set_option maxHeartbeats 1000000 in
theorem enabled_fn (b : Nat) (s : BS) {w : World} (hk : s.ok) (o : Int) : Fx Try.prog 45 [.pointer (some ⟨b, 0, none⟩), .int .i64 o] w (busL b s) no (fun r L => r = .bool (decide (0 ≤ o ∧ o < 256) && s.en.getD o.toNat false) ∧ L = busL b s) := by
  refine Sv.Fx.body Try.func45 rfl T45 rfl ?_
  intro I hro hI
  refine KV.env [(0, _), (1, _)] ⟨rfl, rfl, trivial⟩ ?_
  have hw := hk.wf
  have hw3 := hw.sp
  refine CV.seq ?_
  -- region 0 iospace.go:119
  refine CV.region ?_
  refine RV.op (OV.step gno (Step.assign rfl) rfl ?_)
  refine RV.nil ?_
  refine KV.then_n ?_
  refine KV.env [(0, _), (1, _)] ⟨rfl, rfl, trivial⟩ ?_
  refine CV.seq ?_
  -- region 1 iospace.go:119
  refine CV.region ?_
  refine RV.op (OV.step gno (Step.move rfl) rfl ?_)
  refine RV.op (OV.call [] Try.func25 B25 N25 rfl rfl (fun w h => (validOwner_fn o).fn w) (fun _ hb => hb.elim) gno rfl (fun v L' hp => ?_))
  obtain ⟨rfl, rfl⟩ := hp
  simp only [List.append_nil]
  by_cases ho : 0 ≤ o ∧ o < 256
  · rw [decide_eq_true ho]
    obtain ⟨m, rfl⟩ := Int.eq_ofNat_of_zero_le ho.1
    refine RV.op (OV.step gno (Step.move rfl) rfl ?_)
    refine RV.op (OV.step (gyes rfl) (Step.move rfl) rfl ?_)
    refine RV.op (OV.step (gyes rfl) (Step.move rfl) rfl ?_)
    refine RV.op (OV.step (gyes rfl) (Step.nilCheck rfl) rfl ?_)
    refine RV.op (OV.step (gyes rfl) (Step.fieldAddr rfl (F71_2 _ _)) rfl ?_)
    refine RV.op (OV.step (gyes rfl) (Step.idxArr Try.underlying52 I4 rfl rfl _ rfl (by omega)) rfl ?_)
    refine RV.op (OV.step (gyes rfl) (Step.load Try.underlying4 rfl rfl (fun w h => h.cell 0 rfl (busC_en hw (by omega)))) rfl ?_)
    refine RV.op (OV.step gno (Step.pick_t rfl rfl) rfl ?_)
    refine RV.op (OV.step gno (Step.assign rfl) rfl ?_)
    refine RV.nil ?_
    refine KV.then_n ?_
    refine KV.env [(4, _)] ⟨rfl, trivial⟩ ?_
    refine CV.ret ?_
    -- return at r1
    refine KV.sel [0, 0, 0, 0] [_, _, _, _] rfl ?_
    exact KV.ret1 rfl rfl _ (fun _ h => h) ⟨rfl, rfl⟩
  · rw [decide_eq_false ho]
    refine RV.op (OV.step gno (Step.move rfl) rfl ?_)
    refine RV.op (OV.skip rfl rfl ?_)
    refine RV.op (OV.skip rfl rfl ?_)
    refine RV.op (OV.skip rfl rfl ?_)
    refine RV.op (OV.skip rfl rfl ?_)
    refine RV.op (OV.skip rfl rfl ?_)
    refine RV.op (OV.skip rfl rfl ?_)
    refine RV.op (OV.step gno (Step.pick_f rfl rfl) rfl ?_)
    refine RV.op (OV.step gno (Step.assign rfl) rfl ?_)
    refine RV.nil ?_
    refine KV.then_n ?_
    refine KV.env [(4, _)] ⟨rfl, trivial⟩ ?_
    refine CV.ret ?_
    -- return at r1
    refine KV.sel [0, 0, 0, 0] [_, _, _, _] rfl ?_
    exact KV.ret1 rfl rfl _ (fun _ h => h) ⟨rfl, rfl⟩

set_option maxRecDepth 100000 in
set_option maxHeartbeats 1000000 in
theorem takeTrace_fn (b : Nat) (s : BS) {w : World} (hk : s.ok) : Fx Try.prog 21 [.pointer (some ⟨b, 0, none⟩)] w (busL b s) no (fun r L => r = .slice s.tA s.tr.length s.tc ∧ L = busL b { s with tA := none, tc := 0, tr := [] } ++ [OS 63 trcK s.tA s.tc s.tr]) := by
  refine Sv.Fx.body Try.func21 rfl T21 rfl ?_
  intro I hro hI
  refine KV.env [(0, _)] ⟨rfl, trivial⟩ ?_
  have hw := hk.wf
  have hw3 := hw.sp
  refine CV.seq ?_
  -- region 0 iospace.go:223
  refine CV.region ?_
  refine RV.op (OV.step gno (Step.assign rfl) rfl ?_)
  refine RV.nil ?_
  refine KV.then_n ?_
  refine KV.env [(0, _)] ⟨rfl, trivial⟩ ?_
  refine CV.seq ?_
  -- region 1 iospace.go:224
  refine CV.region ?_
  refine RV.op (OV.step gno (Step.move rfl) rfl ?_)
  refine RV.op (OV.step gno (Step.nilCheck rfl) rfl ?_)
  refine RV.op (OV.step gno (Step.fieldAddr rfl (F71_4 _ _)) rfl ?_)
  refine RV.op (OV.step gno (Step.load Try.underlying54 rfl rfl (fun w h => h.cell 0 rfl (busC_t hw))) rfl ?_)
  refine RV.op (OV.step gno (Step.assign rfl) rfl ?_)
  refine RV.nil ?_
  refine KV.then_n ?_
  refine KV.env [(0, _), (3, _)] ⟨rfl, rfl, trivial⟩ ?_
  refine CV.seq ?_
  -- region 2 iospace.go:225
  refine CV.region ?_
  refine RV.op (OV.step gno (Step.move rfl) rfl ?_)
  refine RV.op (OV.step gno (Step.nilCheck rfl) rfl ?_)
  refine RV.op (OV.step gno (Step.fieldAddr rfl (F71_4 _ _)) rfl ?_)
  refine RV.op (OV.store 0 [_] (busC { s with tA := none, tc := 0, tr := [] }).toArray I54 rfl rfl rfl rfl rfl (by show _ + 1 ≤ (busC _).toArray.size; rw [List.size_toArray, busC_len hw]; omega) (by simp [Value.oneCell']) (set_of hw (by omega) (set_t hw none 0 [])) gno ?_)
  refine KV.heap (fun w h => h.nilOS (e := 63) (K := trcK)) ?_
  refine RV.nil ?_
  refine KV.then_n ?_
  refine KV.env [(3, _)] ⟨rfl, trivial⟩ ?_
  refine CV.seq ?_
  -- region 3 iospace.go:226
  refine CV.region ?_
  refine RV.op (OV.step gno (Step.move rfl) rfl ?_)
  refine RV.op (OV.step gno (Step.assign rfl) rfl ?_)
  refine RV.nil ?_
  refine KV.then_n ?_
  refine KV.env [(2, _)] ⟨rfl, trivial⟩ ?_
  refine CV.ret ?_
  -- return at r3
  refine KV.sel [0, 0, 0, 1, 0] [_, _, _, _, _] rfl ?_
  exact KV.ret1 rfl rfl _ (fun _ h => h) ⟨rfl, rfl⟩

set_option maxRecDepth 100000 in
set_option maxHeartbeats 1000000 in
theorem planFault_fn (b : Nat) (s : BS) {w : World} (hk : s.ok) (z p0 q0 n : Int) (hp0 : isU p0) : Fx Try.prog 16 [.pointer (some ⟨b, 0, none⟩), .int .i64 z, .agg #[.int .u64 p0, .int .u64 q0], .int .i64 n] w (busL b s) no (fun r L => (¬ ((0 ≤ z ∧ z < 3) ∧ okR p0 q0 ∧ 1 ≤ n ∧ n ≤ 64) → r = .int .i64 1 ∧ L = busL b s) ∧ (((0 ≤ z ∧ z < 3) ∧ okR p0 q0 ∧ 1 ≤ n ∧ n ≤ 64) → (s.fl.length = 64 → r = .int .i64 8 ∧ L = busL b s) ∧ (s.fl.length ≠ 64 → r = .int .i64 0 ∧ ∃ A c, L = busL b (fltG s ⟨z, p0, q0, n⟩ A c)))) := by
  refine Sv.Fx.body Try.func16 rfl T16 rfl ?_
  intro I hro hI
  refine KV.env [(0, _), (1, _), (2, _), (3, _)] ⟨rfl, rfl, rfl, rfl, trivial⟩ ?_
  have hw := hk.wf
  have hw3 := hw.sp
  have hfl := hk.fl
  refine CV.seq ?_
  -- region 0 iospace.go:122
  refine CV.region ?_
  refine RV.op (OV.box (t := 32) #[_, _] rfl rfl gno rfl (fun b0_0 => ?_))
  refine RV.op (OV.step gno (Step.assign rfl) rfl ?_)
  refine RV.nil ?_
  refine KV.then_n ?_
  refine KV.env [(0, _), (1, _), (3, _), (6, _)] ⟨rfl, rfl, rfl, rfl, trivial⟩ ?_
  refine CV.seq ?_
  refine CV.seq ?_
  -- region 1 iospace.go:123
  refine CV.region ?_
  refine RV.op (OV.step gno (Step.move rfl) rfl ?_)
  refine RV.op (OV.call [] Try.func23 B23 N23 rfl rfl (fun w h => (validSpace_fn z).fn w) (fun _ hb => hb.elim) gno rfl (fun v L' hp => ?_))
  obtain ⟨rfl, rfl⟩ := hp
  simp only [List.append_nil]
  by_cases hz : 0 ≤ z ∧ z < 3
  · rw [decide_eq_true hz]
    refine RV.op (OV.step gno (Step.not rfl) rfl ?_)
    refine RV.op (OV.step gno (Step.move rfl) rfl ?_)
    refine RV.op (OV.step (gyes rfl) (Step.loadN _ Try.underlying32 rfl I32 rfl rfl (fun w h => h.cells 4 rfl)) rfl ?_)
    refine RV.op (OV.call [] (F := [_, _, _, _, _]) Try.func24 B24 N24 rfl rfl (fun w h => validRange_fn p0 q0 hp0) (fun _ hb => hb.elim) (gyes rfl) rfl (fun v L' hp => ?_))
    obtain ⟨rfl, rfl⟩ := hp
    simp only [List.append_nil]
    by_cases hr : okR p0 q0
    · rw [decide_eq_true hr]
      refine RV.op (OV.step (gyes rfl) (Step.not rfl) rfl ?_)
      refine RV.op (OV.step gno (Step.pick_f rfl rfl) rfl ?_)
      refine RV.op (OV.step gno (Step.move rfl) rfl ?_)
      refine RV.op (OV.step (gyes rfl) (Step.move rfl) rfl ?_)
      refine RV.op (OV.split (gyes rfl) (Step.lss rfl rfl) rfl (fun h1 => ?_) (fun h1 => ?_))
      · -- True
        refine RV.op (OV.step gno (Step.pick_f rfl rfl) rfl ?_)
        refine RV.op (OV.step gno (Step.move rfl) rfl ?_)
        refine RV.op (OV.skip rfl rfl ?_)
        refine RV.op (OV.skip rfl rfl ?_)
        refine RV.op (OV.step gno (Step.pick_t rfl rfl) rfl ?_)
        refine RV.nil ?_
        refine KV.then_n ?_
        refine KV.env [(0, _), (1, _), (3, _), (6, _), (24, _)] ⟨rfl, rfl, rfl, rfl, rfl, trivial⟩ ?_
        refine CV.cond_t rfl ?_
        refine CV.seq ?_
        -- region 2 iospace.go:124
        refine CV.region ?_
        refine RV.op (OV.step gno (Step.assign rfl) rfl ?_)
        refine RV.nil ?_
        refine KV.then_n ?_
        refine KV.env [(8, _)] ⟨rfl, trivial⟩ ?_
        refine CV.ret ?_
        refine KV.then_ret ?_
        -- return at r2
        refine KV.sel [0, 0, 0, 0] [_, _, _, _] rfl ?_
        have hbad : ¬ ((0 ≤ z ∧ z < 3) ∧ okR p0 q0 ∧ 1 ≤ n ∧ n ≤ 64) := by first | exact fun k => hz k.1 | exact fun k => hr k.2.1 | (intro k; omega)
        exact KV.ret1 rfl rfl _ (fun _ h => h) ⟨fun _ => ⟨rfl, rfl⟩, fun h => absurd h hbad⟩
      · -- False
        refine RV.op (OV.step gno (Step.pick_f rfl rfl) rfl ?_)
        refine RV.op (OV.step gno (Step.move rfl) rfl ?_)
        refine RV.op (OV.step (gyes rfl) (Step.move rfl) rfl ?_)
        refine RV.op (OV.split (gyes rfl) (Step.gtr rfl rfl) rfl (fun h2 => ?_) (fun h2 => ?_))
        · -- True
          refine RV.op (OV.step gno (Step.pick_f rfl rfl) rfl ?_)
          refine RV.nil ?_
          refine KV.then_n ?_
          refine KV.env [(0, _), (1, _), (3, _), (6, _), (24, _)] ⟨rfl, rfl, rfl, rfl, rfl, trivial⟩ ?_
          refine CV.cond_t rfl ?_
          refine CV.seq ?_
          -- region 2 iospace.go:124
          refine CV.region ?_
          refine RV.op (OV.step gno (Step.assign rfl) rfl ?_)
          refine RV.nil ?_
          refine KV.then_n ?_
          refine KV.env [(8, _)] ⟨rfl, trivial⟩ ?_
          refine CV.ret ?_
          refine KV.then_ret ?_
          -- return at r2
          refine KV.sel [0, 0, 0, 0] [_, _, _, _] rfl ?_
          have hbad : ¬ ((0 ≤ z ∧ z < 3) ∧ okR p0 q0 ∧ 1 ≤ n ∧ n ≤ 64) := by first | exact fun k => hz k.1 | exact fun k => hr k.2.1 | (intro k; omega)
          exact KV.ret1 rfl rfl _ (fun _ h => h) ⟨fun _ => ⟨rfl, rfl⟩, fun h => absurd h hbad⟩
        · -- False
          refine RV.op (OV.step gno (Step.pick_f rfl rfl) rfl ?_)
          refine RV.nil ?_
          refine KV.then_n ?_
          refine KV.env [(0, _), (1, _), (3, _), (6, _), (24, _)] ⟨rfl, rfl, rfl, rfl, rfl, trivial⟩ ?_
          refine CV.cond_f rfl ?_
          refine CV.skip ?_
          refine KV.then_n ?_
          refine KV.env [(0, _), (1, _), (3, _), (6, _)] ⟨rfl, rfl, rfl, rfl, trivial⟩ ?_
          refine CV.seq ?_
          refine CV.seq ?_
          -- region 3 iospace.go:126
          refine CV.region ?_
          refine RV.op (OV.step gno (Step.move rfl) rfl ?_)
          refine RV.op (OV.step gno (Step.nilCheck rfl) rfl ?_)
          refine RV.op (OV.step gno (Step.fieldAddr rfl (F71_3 _ _)) rfl ?_)
          refine RV.op (OV.step gno (Step.load Try.underlying69 rfl rfl (fun w h => h.cell 0 rfl (busC_f hw))) rfl ?_)
          refine RV.op (OV.step gno (Step.lenSl Try.underlying69 rfl) rfl ?_)
          refine RV.op (OV.split gno (Step.eql rfl rfl) rfl (fun hq => ?_) (fun hq => ?_))
          · -- True
            refine RV.nil ?_
            refine KV.then_n ?_
            refine KV.env [(0, _), (1, _), (3, _), (6, _), (30, _)] ⟨rfl, rfl, rfl, rfl, rfl, trivial⟩ ?_
            refine CV.cond_t rfl ?_
            refine CV.seq ?_
            -- region 4 iospace.go:127
            refine CV.region ?_
            refine RV.op (OV.step gno (Step.assign rfl) rfl ?_)
            refine RV.nil ?_
            refine KV.then_n ?_
            refine KV.env [(8, _)] ⟨rfl, trivial⟩ ?_
            refine CV.ret ?_
            refine KV.then_ret ?_
            -- return at r4
            refine KV.sel [0, 0, 0, 0] [_, _, _, _] rfl ?_
            have hgd : ((0 ≤ z ∧ z < 3) ∧ okR p0 q0 ∧ 1 ≤ n ∧ n ≤ 64) := ⟨hz, hr, by omega, by omega⟩
            exact KV.ret1 rfl rfl _ (fun _ h => h) ⟨fun h => absurd hgd h, fun _ => ⟨fun _ => ⟨rfl, rfl⟩, fun h => absurd (by omega) h⟩⟩
          · -- False
            refine RV.nil ?_
            refine KV.then_n ?_
            refine KV.env [(0, _), (1, _), (3, _), (6, _), (30, _)] ⟨rfl, rfl, rfl, rfl, rfl, trivial⟩ ?_
            refine CV.cond_f rfl ?_
            refine CV.skip ?_
            refine KV.then_n ?_
            refine KV.env [(0, _), (1, _), (3, _), (6, _)] ⟨rfl, rfl, rfl, rfl, trivial⟩ ?_
            refine CV.seq ?_
            -- region 5 iospace.go:129
            refine CV.any (Hp I w [Blk b0_0 (.cells #[.int .u64 p0, .int .u64 q0] 32 (0, 0))]) (by kernel_rfl) (fun _ h => h.drew) 14 rfl ?_
            refine AV.take 0 #[true, false, false, false, false, false, false, false, false, false, false, false, false, false] rfl (by kernel_rfl) (by kernel_rfl) (by kernel_rfl) (fun _ _ _ h => h) gno (Step.move rfl) rfl (fun _ h => h.sel [4] rfl) (by kernel_rfl) ?_
            refine AV.take 1 #[true, true, false, false, false, false, false, false, false, false, false, false, false, false] rfl (by kernel_rfl) (by kernel_rfl) (by kernel_rfl) (fun _ _ _ h => h) gno (Step.move rfl) rfl (fun _ h => h.sel [4] rfl) (by kernel_rfl) ?_
            refine AV.take 2 #[true, true, true, false, false, false, false, false, false, false, false, false, false, false] rfl (by kernel_rfl) (by kernel_rfl) (by kernel_rfl) (fun _ _ _ h => h) gno (Step.nilCheck rfl) rfl (fun _ h => h.sel [4] rfl) (by kernel_rfl) ?_
            refine AV.take 3 #[true, true, true, true, false, false, false, false, false, false, false, false, false, false] rfl (by kernel_rfl) (by kernel_rfl) (by kernel_rfl) (fun _ _ _ h => h) gno (Step.fieldAddr rfl (F71_3 _ _)) rfl (fun _ h => h.sel [4] rfl) (by kernel_rfl) ?_
            refine AV.take 5 #[true, true, true, true, false, true, false, false, false, false, false, false, false, false] rfl (by kernel_rfl) (by kernel_rfl) (by kernel_rfl) (fun _ _ _ h => h) gno (Step.move rfl) rfl (fun _ h => h.sel [4] rfl) (by kernel_rfl) ?_
            refine AV.take 6 #[true, true, true, true, false, true, true, false, false, false, false, false, false, false] rfl (by kernel_rfl) (by kernel_rfl) (by kernel_rfl) (fun _ _ _ h => h) gno (Step.loadN _ Try.underlying32 rfl I32 rfl rfl (fun w h => h.cells 0 rfl)) rfl (fun _ h => h.sel [4] rfl) (by kernel_rfl) ?_
            refine AV.take 7 #[true, true, true, true, false, true, true, true, false, false, false, false, false, false] rfl (by kernel_rfl) (by kernel_rfl) (by kernel_rfl) (fun _ _ _ h => h) gno (Step.move rfl) rfl (fun _ h => h.sel [4] rfl) (by kernel_rfl) ?_
            refine AV.take 8 #[true, true, true, true, false, true, true, true, true, false, false, false, false, false] rfl (by kernel_rfl) (by kernel_rfl) (by kernel_rfl) (fun _ _ _ h => h) gno (Step.build rfl (Bd86_0_1_2 _ _ _ _)) rfl (fun _ h => h.sel [4] rfl) (by kernel_rfl) ?_
            refine AV.all [4, 9] (by kernel_rfl) (by decide) ?_
            refine ⟨⟨_, rfl, ?_⟩, ⟨⟨_, rfl, ?_⟩, trivial⟩⟩
            · -- 4 comes up
              refine OV.step gno (Step.load Try.underlying69 rfl rfl (fun w h => h.cell 0 rfl (busC_f hw))) rfl ?_
              refine AV.next #[true, true, true, true, true, true, true, true, true, false, false, false, false, false] (by kernel_rfl) (fun _ h => h.sel [4] rfl) ?_
              refine AV.all [9] (by kernel_rfl) (by decide) ?_
              refine ⟨⟨_, rfl, ?_⟩, trivial⟩
              · -- 9 comes up
                refine OV.buildSlice (K := fltK) ([⟨z, p0, q0, n⟩]) rfl (Bs69_1_0 _ _ _ _) rfl rfl (by omega) gno rfl (fun b5_9 => ?_)
                refine AV.next #[true, true, true, true, true, true, true, true, true, true, false, false, false, false] (by kernel_rfl) (fun _ h => h.sel [4] rfl) ?_
                refine AV.all [10] (by kernel_rfl) (by decide) ?_
                refine ⟨⟨_, rfl, ?_⟩, trivial⟩
                · -- 10 comes up
                  refine OV.append 2 Try.underlying69 I86 rfl rfl rfl rfl rfl rfl (fun w h => h.os 5 rfl) (by simp only [List.length_cons, List.length_nil]; omega) (by simp only [List.length_cons, List.length_nil]; omega) gno rfl (fun A2 c2 => ?_)
                  refine AV.next #[true, true, true, true, true, true, true, true, true, true, true, false, false, false] (by kernel_rfl) (fun _ h => h.sel [4] rfl) ?_
                  refine AV.take 11 #[true, true, true, true, true, true, true, true, true, true, true, true, false, false] rfl (by kernel_rfl) (by kernel_rfl) (by kernel_rfl) (fun _ _ _ h => h) gno (Step.nilCheck rfl) rfl (fun _ h => h.sel [4] rfl) (by kernel_rfl) ?_
                  refine AV.take 12 #[true, true, true, true, true, true, true, true, true, true, true, true, true, false] rfl (by kernel_rfl) (by kernel_rfl) (by kernel_rfl) (fun _ _ _ h => h) gno (Step.fieldAddr rfl (F71_3 _ _)) rfl (fun _ h => h.sel [4] rfl) (by kernel_rfl) ?_
                  refine AV.all [13] (by kernel_rfl) (by decide) ?_
                  refine ⟨⟨_, rfl, ?_⟩, trivial⟩
                  · -- 13 comes up
                    refine OV.store 0 [_] (busC (fltG s ⟨z, p0, q0, n⟩ A2 c2)).toArray I69 rfl rfl rfl rfl rfl (by show _ + 1 ≤ (busC _).toArray.size; rw [List.size_toArray, busC_len hw]; omega) (by simp [Value.oneCell']) (set_of hw (by omega) (set_f hw A2 c2 (s.fl ++ [⟨z, p0, q0, n⟩]))) gno ?_
                    refine AV.next #[true, true, true, true, true, true, true, true, true, true, true, true, true, true] (by kernel_rfl) (fun _ h => h.sel [4] rfl) ?_
                    refine AV.done (by kernel_rfl) ?_
                    refine KV.then_n ?_
                    refine KV.env [] trivial ?_
                    refine CV.seq ?_
                    -- region 6 iospace.go:130
                    refine CV.region ?_
                    refine RV.op (OV.step gno (Step.assign rfl) rfl ?_)
                    refine RV.nil ?_
                    refine KV.then_n ?_
                    refine KV.env [(8, _)] ⟨rfl, trivial⟩ ?_
                    refine CV.ret ?_
                    -- return at r6
                    refine KV.sel [0, 0, 0, 0] [_, _, _, _] rfl ?_
                    have hgd : ((0 ≤ z ∧ z < 3) ∧ okR p0 q0 ∧ 1 ≤ n ∧ n ≤ 64) := ⟨hz, hr, by omega, by omega⟩
                    exact KV.ret1 rfl rfl _ (fun _ h => h) ⟨fun h => absurd hgd h, fun _ => ⟨fun h => absurd h (by omega), fun _ => ⟨rfl, _, _, rfl⟩⟩⟩
            · -- 9 comes up
              refine OV.buildSlice (K := fltK) ([⟨z, p0, q0, n⟩]) rfl (Bs69_1_0 _ _ _ _) rfl rfl (by omega) gno rfl (fun b5_9 => ?_)
              refine AV.next #[true, true, true, true, false, true, true, true, true, true, false, false, false, false] (by kernel_rfl) (fun _ h => h.sel [4] rfl) ?_
              refine AV.all [4] (by kernel_rfl) (by decide) ?_
              refine ⟨⟨_, rfl, ?_⟩, trivial⟩
              · -- 4 comes up
                refine OV.step gno (Step.load Try.underlying69 rfl rfl (fun w h => h.cell 0 rfl (busC_f hw))) rfl ?_
                refine AV.next #[true, true, true, true, true, true, true, true, true, true, false, false, false, false] (by kernel_rfl) (fun _ h => h.sel [4] rfl) ?_
                refine AV.all [10] (by kernel_rfl) (by decide) ?_
                refine ⟨⟨_, rfl, ?_⟩, trivial⟩
                · -- 10 comes up
                  refine OV.append 2 Try.underlying69 I86 rfl rfl rfl rfl rfl rfl (fun w h => h.os 5 rfl) (by simp only [List.length_cons, List.length_nil]; omega) (by simp only [List.length_cons, List.length_nil]; omega) gno rfl (fun A2 c2 => ?_)
                  refine AV.next #[true, true, true, true, true, true, true, true, true, true, true, false, false, false] (by kernel_rfl) (fun _ h => h.sel [4] rfl) ?_
                  refine AV.take 11 #[true, true, true, true, true, true, true, true, true, true, true, true, false, false] rfl (by kernel_rfl) (by kernel_rfl) (by kernel_rfl) (fun _ _ _ h => h) gno (Step.nilCheck rfl) rfl (fun _ h => h.sel [4] rfl) (by kernel_rfl) ?_
                  refine AV.take 12 #[true, true, true, true, true, true, true, true, true, true, true, true, true, false] rfl (by kernel_rfl) (by kernel_rfl) (by kernel_rfl) (fun _ _ _ h => h) gno (Step.fieldAddr rfl (F71_3 _ _)) rfl (fun _ h => h.sel [4] rfl) (by kernel_rfl) ?_
                  refine AV.all [13] (by kernel_rfl) (by decide) ?_
                  refine ⟨⟨_, rfl, ?_⟩, trivial⟩
                  · -- 13 comes up
                    refine OV.store 0 [_] (busC (fltG s ⟨z, p0, q0, n⟩ A2 c2)).toArray I69 rfl rfl rfl rfl rfl (by show _ + 1 ≤ (busC _).toArray.size; rw [List.size_toArray, busC_len hw]; omega) (by simp [Value.oneCell']) (set_of hw (by omega) (set_f hw A2 c2 (s.fl ++ [⟨z, p0, q0, n⟩]))) gno ?_
                    refine AV.next #[true, true, true, true, true, true, true, true, true, true, true, true, true, true] (by kernel_rfl) (fun _ h => h.sel [4] rfl) ?_
                    refine AV.done (by kernel_rfl) ?_
                    refine KV.then_n ?_
                    refine KV.env [] trivial ?_
                    refine CV.seq ?_
                    -- region 6 iospace.go:130
                    refine CV.region ?_
                    refine RV.op (OV.step gno (Step.assign rfl) rfl ?_)
                    refine RV.nil ?_
                    refine KV.then_n ?_
                    refine KV.env [(8, _)] ⟨rfl, trivial⟩ ?_
                    refine CV.ret ?_
                    -- return at r6
                    refine KV.sel [0, 0, 0, 0] [_, _, _, _] rfl ?_
                    have hgd : ((0 ≤ z ∧ z < 3) ∧ okR p0 q0 ∧ 1 ≤ n ∧ n ≤ 64) := ⟨hz, hr, by omega, by omega⟩
                    exact KV.ret1 rfl rfl _ (fun _ h => h) ⟨fun h => absurd hgd h, fun _ => ⟨fun h => absurd h (by omega), fun _ => ⟨rfl, _, _, rfl⟩⟩⟩
    · rw [decide_eq_false hr]
      refine RV.op (OV.step (gyes rfl) (Step.not rfl) rfl ?_)
      refine RV.op (OV.step gno (Step.pick_f rfl rfl) rfl ?_)
      refine RV.op (OV.step gno (Step.move rfl) rfl ?_)
      refine RV.op (OV.skip rfl rfl ?_)
      refine RV.op (OV.skip rfl rfl ?_)
      refine RV.op (OV.step gno (Step.pick_t rfl rfl) rfl ?_)
      refine RV.op (OV.step gno (Step.move rfl) rfl ?_)
      refine RV.op (OV.skip rfl rfl ?_)
      refine RV.op (OV.skip rfl rfl ?_)
      refine RV.op (OV.step gno (Step.pick_t rfl rfl) rfl ?_)
      refine RV.nil ?_
      refine KV.then_n ?_
      refine KV.env [(0, _), (1, _), (3, _), (6, _), (24, _)] ⟨rfl, rfl, rfl, rfl, rfl, trivial⟩ ?_
      refine CV.cond_t rfl ?_
      refine CV.seq ?_
      -- region 2 iospace.go:124
      refine CV.region ?_
      refine RV.op (OV.step gno (Step.assign rfl) rfl ?_)
      refine RV.nil ?_
      refine KV.then_n ?_
      refine KV.env [(8, _)] ⟨rfl, trivial⟩ ?_
      refine CV.ret ?_
      refine KV.then_ret ?_
      -- return at r2
      refine KV.sel [0, 0, 0, 0] [_, _, _, _] rfl ?_
      have hbad : ¬ ((0 ≤ z ∧ z < 3) ∧ okR p0 q0 ∧ 1 ≤ n ∧ n ≤ 64) := by first | exact fun k => hz k.1 | exact fun k => hr k.2.1 | (intro k; omega)
      exact KV.ret1 rfl rfl _ (fun _ h => h) ⟨fun _ => ⟨rfl, rfl⟩, fun h => absurd h hbad⟩
  · rw [decide_eq_false hz]
    refine RV.op (OV.step gno (Step.not rfl) rfl ?_)
    refine RV.op (OV.step gno (Step.move rfl) rfl ?_)
    refine RV.op (OV.skip rfl rfl ?_)
    refine RV.op (OV.skip rfl rfl ?_)
    refine RV.op (OV.skip rfl rfl ?_)
    refine RV.op (OV.step gno (Step.pick_t rfl rfl) rfl ?_)
    refine RV.op (OV.step gno (Step.move rfl) rfl ?_)
    refine RV.op (OV.skip rfl rfl ?_)
    refine RV.op (OV.skip rfl rfl ?_)
    refine RV.op (OV.step gno (Step.pick_t rfl rfl) rfl ?_)
    refine RV.op (OV.step gno (Step.move rfl) rfl ?_)
    refine RV.op (OV.skip rfl rfl ?_)
    refine RV.op (OV.skip rfl rfl ?_)
    refine RV.op (OV.step gno (Step.pick_t rfl rfl) rfl ?_)
    refine RV.nil ?_
    refine KV.then_n ?_
    refine KV.env [(0, _), (1, _), (3, _), (6, _), (24, _)] ⟨rfl, rfl, rfl, rfl, rfl, trivial⟩ ?_
    refine CV.cond_t rfl ?_
    refine CV.seq ?_
    -- region 2 iospace.go:124
    refine CV.region ?_
    refine RV.op (OV.step gno (Step.assign rfl) rfl ?_)
    refine RV.nil ?_
    refine KV.then_n ?_
    refine KV.env [(8, _)] ⟨rfl, trivial⟩ ?_
    refine CV.ret ?_
    refine KV.then_ret ?_
    -- return at r2
    refine KV.sel [0, 0, 0, 0] [_, _, _, _] rfl ?_
    have hbad : ¬ ((0 ≤ z ∧ z < 3) ∧ okR p0 q0 ∧ 1 ≤ n ∧ n ≤ 64) := by first | exact fun k => hz k.1 | exact fun k => hr k.2.1 | (intro k; omega)
    exact KV.ret1 rfl rfl _ (fun _ h => h) ⟨fun _ => ⟨rfl, rfl⟩, fun h => absurd h hbad⟩
end Go.Proofs.Ythdpojggdodpfaa
