/-
  Walks, part 15.
-/
import Derived.Test.YthdpojggdodpfaaTabs
import Derived.Test.YthdpojggdodpfaaW14
set_option linter.unusedSimpArgs false
set_option linter.unusedVariables false
namespace Go.Proofs.Ythdpojggdodpfaa
open Go.Sv Go.Ios
set_option maxRecDepth 100000 in
set_option maxHeartbeats 1000000 in
theorem rowner_fn (b : Nat) (s : RB) {w : World} (hk : s.ok) (z x : Int) (hx : isU x) : Fx Try.prog 44 [.pointer (some ⟨b, 0, none⟩), .int .i64 z, .int .u64 x] w (rbL b s) no (fun v L => v = .int .i64 (ownR s.ms z x) ∧ L = rbL b s) := by
  refine Sv.Fx.body Try.func44 rfl T44 rfl ?_
  intro I hro hI
  refine KV.env [(0, _), (1, _), (2, _)] ⟨rfl, rfl, rfl, trivial⟩ ?_
  have hw := hk.en
  have hmx := hk.max
  have hfx := hk.fl
  refine CV.seq ?_
  -- region 0 iospace.go:82
  refine CV.region ?_
  refine RV.op (OV.step gno (Step.assign rfl) rfl ?_)
  refine RV.nil ?_
  refine KV.then_n ?_
  refine KV.env [(0, _), (1, _), (2, _)] ⟨rfl, rfl, rfl, trivial⟩ ?_
  refine CV.seq ?_
  refine CV.seq ?_
  -- region 1 iospace.go:83
  refine CV.region ?_
  refine RV.op (OV.step gno (Step.move rfl) rfl ?_)
  refine RV.op (OV.step gno (Step.move rfl) rfl ?_)
  refine RV.op (OV.step gno (Step.move rfl) rfl ?_)
  refine RV.op (OV.call [0, 0, 0, 0, 0] (F := []) Try.func56 B56 N56 rfl rfl (fun w h => rfind_fn b s hk z x hx) (fun _ hb => hb.elim) gno rfl (fun v L' hp => ?_))
  obtain ⟨rfl, rfl⟩ := hp
  refine RV.op (OV.step gno (Step.assign rfl) rfl ?_)
  refine RV.nil ?_
  refine KV.then_n ?_
  refine KV.env [(0, _), (7, _)] ⟨rfl, rfl, trivial⟩ ?_
  refine CV.seq ?_
  -- region 2 iospace.go:83
  refine CV.region ?_
  refine RV.op (OV.step gno (Step.move rfl) rfl ?_)
  refine RV.op (OV.split gno (Step.geq rfl rfl) rfl (fun hq => ?_) (fun hq => ?_))
  · -- True
    obtain ⟨i, hfi, hi, hit, hfst⟩ := fR_pos (show 0 ≤ fR s.ms z x by omega)
    have hit1 : (s.ms.getD i rhK.d).base ≤ x := hit.2.1
    have hit2 : x - (s.ms.getD i rhK.d).base < (s.ms.getD i rhK.d).len := hit.2.2
    have hmo := hk.each i hi
    have hml : (s.ms.getD i rhK.d).bs.length = (s.ms.getD i rhK.d).len.toNat := hmo.l
    have hmb : isU (s.ms.getD i rhK.d).base := hmo.b
    unfold isU at hmb hx
    rw [hfi]
    refine RV.nil ?_
    refine KV.then_n ?_
    refine KV.env [(0, _), (7, _), (13, _)] ⟨rfl, rfl, rfl, trivial⟩ ?_
    refine CV.cond_t rfl ?_
    refine CV.seq ?_
    -- region 3 iospace.go:84
    refine CV.region ?_
    refine RV.op (OV.step gno (Step.move rfl) rfl ?_)
    refine RV.op (OV.step gno (Step.nilCheck rfl) rfl ?_)
    refine RV.op (OV.step gno (Step.fieldAddr rfl (F56_0 _ _)) rfl ?_)
    refine RV.op (OV.step gno (Step.load Try.underlying51 rfl rfl (fun w h => h.cell 0 rfl (rbC_m hw))) rfl ?_)
    refine RV.op (OV.step gno (Step.move rfl) rfl ?_)
    refine RV.op (OV.step gno (Step.idx Try.underlying51 I94 (fun w h => h.os 1 rfl) rfl rfl (rfl) _ rfl (by omega)) rfl ?_)
    refine RV.op (OV.step gno (Step.fieldAddr rfl (F94_2 _ _)) rfl ?_)
    refine RV.op (OV.step gno (Step.load Try.underlying3 rfl rfl (fun w h => (h.os 1 rfl).cell (j := 3) (by omega) rfl)) rfl ?_)
    refine RV.op (OV.step gno (Step.assign rfl) rfl ?_)
    refine RV.nil ?_
    refine KV.then_n ?_
    refine KV.env [(6, _)] ⟨rfl, trivial⟩ ?_
    refine CV.ret ?_
    refine KV.then_ret ?_
    -- return at r3
    refine KV.sel [0, 0, 0, 0, 0] [_, _, _, _, _] rfl ?_
    exact KV.ret1 rfl rfl _ (fun _ h => h) ⟨by rw [ownR_at hfi], rfl⟩
  · -- False
    refine RV.nil ?_
    refine KV.then_n ?_
    refine KV.env [(0, _), (7, _), (13, _)] ⟨rfl, rfl, rfl, trivial⟩ ?_
    refine CV.cond_f rfl ?_
    refine CV.skip ?_
    refine KV.then_n ?_
    refine KV.env [] trivial ?_
    refine CV.seq ?_
    -- region 4 iospace.go:86
    refine CV.region ?_
    refine RV.op (OV.step gno (Step.assign rfl) rfl ?_)
    refine RV.nil ?_
    refine KV.then_n ?_
    refine KV.env [(6, _)] ⟨rfl, trivial⟩ ?_
    refine CV.ret ?_
    -- return at r4
    refine KV.sel [0, 0, 0, 0, 0] [_, _, _, _, _] rfl ?_
    exact KV.ret1 rfl rfl _ (fun _ h => h) ⟨by rw [ownR, if_neg hq], rfl⟩

set_option maxRecDepth 100000 in
set_option maxHeartbeats 1000000 in
theorem rpeek_fn (b : Nat) (s : RB) {w : World} (hk : s.ok) (z x : Int) (hx : isU x) : Fx Try.prog 43 [.pointer (some ⟨b, 0, none⟩), .int .i64 z, .int .u64 x] w (rbL b s) no (fun v L => v = .tuple #[.int .u8 (pkR s.ms z x), .bool (decide (0 ≤ fR s.ms z x))] ∧ L = rbL b s) := by
  refine Sv.Fx.body Try.func43 rfl T43 rfl ?_
  intro I hro hI
  refine KV.env [(0, _), (1, _), (2, _)] ⟨rfl, rfl, rfl, trivial⟩ ?_
  have hw := hk.en
  have hmx := hk.max
  have hfx := hk.fl
  refine CV.seq ?_
  -- region 0 iospace.go:193
  refine CV.region ?_
  refine RV.op (OV.step gno (Step.assign rfl) rfl ?_)
  refine RV.op (OV.step gno (Step.assign rfl) rfl ?_)
  refine RV.nil ?_
  refine KV.then_n ?_
  refine KV.env [(0, _), (1, _), (2, _)] ⟨rfl, rfl, rfl, trivial⟩ ?_
  refine CV.seq ?_
  -- region 1 iospace.go:194
  refine CV.region ?_
  refine RV.op (OV.step gno (Step.move rfl) rfl ?_)
  refine RV.op (OV.step gno (Step.move rfl) rfl ?_)
  refine RV.op (OV.step gno (Step.move rfl) rfl ?_)
  refine RV.op (OV.call [0, 0, 0, 0, 0] (F := []) Try.func56 B56 N56 rfl rfl (fun w h => rfind_fn b s hk z x hx) (fun _ hb => hb.elim) gno rfl (fun v L' hp => ?_))
  obtain ⟨rfl, rfl⟩ := hp
  refine RV.op (OV.step gno (Step.assign rfl) rfl ?_)
  refine RV.nil ?_
  refine KV.then_n ?_
  refine KV.env [(0, _), (2, _), (8, _)] ⟨rfl, rfl, rfl, trivial⟩ ?_
  refine CV.seq ?_
  refine CV.seq ?_
  -- region 2 iospace.go:195
  refine CV.region ?_
  refine RV.op (OV.step gno (Step.move rfl) rfl ?_)
  refine RV.op (OV.split gno (Step.lss rfl rfl) rfl (fun hq => ?_) (fun hq => ?_))
  · -- True
    refine RV.nil ?_
    refine KV.then_n ?_
    refine KV.env [(0, _), (2, _), (8, _), (14, _)] ⟨rfl, rfl, rfl, rfl, trivial⟩ ?_
    refine CV.cond_t rfl ?_
    refine CV.seq ?_
    -- region 3 iospace.go:196
    refine CV.region ?_
    refine RV.op (OV.step gno (Step.assign rfl) rfl ?_)
    refine RV.op (OV.step gno (Step.assign rfl) rfl ?_)
    refine RV.nil ?_
    refine KV.then_n ?_
    refine KV.env [(6, _), (7, _)] ⟨rfl, rfl, trivial⟩ ?_
    refine CV.ret ?_
    refine KV.then_ret ?_
    -- return at r3
    refine KV.sel [0, 0, 0, 0, 0] [_, _, _, _, _] rfl ?_
    exact KV.ret2 rfl rfl rfl _ (fun _ h => h) ⟨by rw [pkR, if_neg (by omega), decide_eq_false (by omega)], rfl⟩
  · -- False
    obtain ⟨i, hfi, hi, hit, hfst⟩ := fR_pos (show 0 ≤ fR s.ms z x by omega)
    have hit1 : (s.ms.getD i rhK.d).base ≤ x := hit.2.1
    have hit2 : x - (s.ms.getD i rhK.d).base < (s.ms.getD i rhK.d).len := hit.2.2
    have hmo := hk.each i hi
    have hml : (s.ms.getD i rhK.d).bs.length = (s.ms.getD i rhK.d).len.toNat := hmo.l
    have hmb : isU (s.ms.getD i rhK.d).base := hmo.b
    unfold isU at hmb hx
    rw [hfi]
    refine RV.nil ?_
    refine KV.then_n ?_
    refine KV.env [(0, _), (2, _), (8, _), (14, _)] ⟨rfl, rfl, rfl, rfl, trivial⟩ ?_
    refine CV.cond_f rfl ?_
    refine CV.skip ?_
    refine KV.then_n ?_
    refine KV.env [(0, _), (2, _), (8, _)] ⟨rfl, rfl, rfl, trivial⟩ ?_
    refine CV.seq ?_
    -- region 4 iospace.go:198
    refine CV.still (by kernel_rfl) (by kernel_rfl) (fun _ h => h.drew) ?_
    refine SV.step gno (Step.move rfl) rfl ?_
    refine SV.step gno (Step.nilCheck rfl) rfl ?_
    refine SV.step gno (Step.fieldAddr rfl (F56_0 _ _)) rfl ?_
    refine SV.step gno (Step.load Try.underlying51 rfl rfl (fun w h => h.cell 0 rfl (rbC_m hw))) rfl ?_
    refine SV.step gno (Step.move rfl) rfl ?_
    refine SV.step gno (Step.idx Try.underlying51 I94 (fun w h => h.os 1 rfl) rfl rfl (rfl) _ rfl (by omega)) rfl ?_
    refine SV.step gno (Step.fieldAddr rfl (F94_3 _ _)) rfl ?_
    refine SV.step gno (Step.load Try.underlying23 rfl rfl (fun w h => (h.os 1 rfl).cell (j := 4) (by omega) rfl)) rfl ?_
    refine SV.step gno (Step.move rfl) rfl ?_
    refine SV.step gno (Step.move rfl) rfl ?_
    refine SV.step gno (Step.nilCheck rfl) rfl ?_
    refine SV.step gno (Step.fieldAddr rfl (F56_0 _ _)) rfl ?_
    refine SV.step gno (Step.load Try.underlying51 rfl rfl (fun w h => h.cell 0 rfl (rbC_m hw))) rfl ?_
    refine SV.step gno (Step.move rfl) rfl ?_
    refine SV.step gno (Step.idx Try.underlying51 I94 (fun w h => h.os 1 rfl) rfl rfl (rfl) _ rfl (by omega)) rfl ?_
    refine SV.step gno (Step.fieldAddr rfl (F94_1 _ _)) rfl ?_
    refine SV.step gno (Step.fieldAddr rfl (F32_0 _ _)) rfl ?_
    refine SV.step gno (Step.load Try.underlying22 rfl rfl (fun w h => (h.os 1 rfl).cell (j := 1) (by omega) rfl)) rfl ?_
    (first | refine SV.step gno (Step.sub rfl rfl (wU64 (by omega) (by omega))) rfl ?_ | refine SV.step gno (Step.sub rfl rfl rfl) rfl ?_)
    refine SV.step gno (Step.idx Try.underlying23 I5 (fun w h => (byR h 2 (ms := s.ms) rfl (i := i) (by omega))) rfl rfl (rfl) _ (show x - (s.ms.getD i rhK.d).base = (((x - (s.ms.getD i rhK.d).base).toNat : Nat) : Int) by omega) (by omega)) rfl ?_
    refine SV.step gno (Step.load Try.underlying5 rfl rfl (fun w h => (byR h 2 (ms := s.ms) rfl (i := i) (by omega)).cell0 (by omega) rfl)) rfl ?_
    refine SV.step gno (Step.assign rfl) rfl ?_
    refine SV.step gno (Step.assign rfl) rfl ?_
    refine SV.nil ?_
    refine KV.then_n ?_
    refine KV.env [(6, _), (7, _)] ⟨rfl, rfl, trivial⟩ ?_
    refine CV.ret ?_
    -- return at r4
    refine KV.sel [0, 0, 0, 0, 0] [_, _, _, _, _] rfl ?_
    exact KV.ret2 rfl rfl rfl _ (fun _ h => h) ⟨by rw [pkR_at hfi, decide_eq_true (by omega)]; rfl, rfl⟩

set_option maxRecDepth 100000 in
set_option maxHeartbeats 1000000 in
theorem renable_fn (b : Nat) (s : RB) {w : World} (hk : s.ok) (o : Int) (v : Bool) : Fx Try.prog 38 [.pointer (some ⟨b, 0, none⟩), .int .i64 o, .bool v] w (rbL b s) no (fun r L => (¬ (0 ≤ o ∧ o < 256) → r = .int .i64 1 ∧ L = rbL b s) ∧ (0 ≤ o ∧ o < 256 → r = .int .i64 0 ∧ L = rbL b { s with en := s.en.set o.toNat v })) := by
  refine Sv.Fx.body Try.func38 rfl T38 rfl ?_
  intro I hro hI
  refine KV.env [(0, _), (1, _), (2, _)] ⟨rfl, rfl, rfl, trivial⟩ ?_
  have hw := hk.en
  have hmx := hk.max
  have hfx := hk.fl
  refine CV.seq ?_
  -- region 0 iospace.go:90
  refine CV.region ?_
  refine RV.op (OV.step gno (Step.assign rfl) rfl ?_)
  refine RV.nil ?_
  refine KV.then_n ?_
  refine KV.env [(0, _), (1, _), (2, _)] ⟨rfl, rfl, rfl, trivial⟩ ?_
  refine CV.seq ?_
  refine CV.seq ?_
  -- region 1 iospace.go:91
  refine CV.region ?_
  refine RV.op (OV.step gno (Step.move rfl) rfl ?_)
  refine RV.op (OV.split gno (Step.lss rfl rfl) rfl (fun h1 => ?_) (fun h1 => ?_))
  · -- True
    refine RV.op (OV.step gno (Step.move rfl) rfl ?_)
    refine RV.op (OV.skip rfl rfl ?_)
    refine RV.op (OV.skip rfl rfl ?_)
    refine RV.op (OV.step gno (Step.pick_t rfl rfl) rfl ?_)
    refine RV.nil ?_
    refine KV.then_n ?_
    refine KV.env [(0, _), (1, _), (2, _), (12, _)] ⟨rfl, rfl, rfl, rfl, trivial⟩ ?_
    refine CV.cond_t rfl ?_
    refine CV.seq ?_
    -- region 2 iospace.go:92
    refine CV.region ?_
    refine RV.op (OV.step gno (Step.assign rfl) rfl ?_)
    refine RV.nil ?_
    refine KV.then_n ?_
    refine KV.env [(6, _)] ⟨rfl, trivial⟩ ?_
    refine CV.ret ?_
    refine KV.then_ret ?_
    -- return at r2
    refine KV.sel [0, 0, 0, 0, 0] [_, _, _, _, _] rfl ?_
    exact KV.ret1 rfl rfl _ (fun _ h => h) ⟨fun _ => ⟨rfl, rfl⟩, fun h => by exfalso; omega⟩
  · -- False
    refine RV.op (OV.step gno (Step.move rfl) rfl ?_)
    refine RV.op (OV.step (gyes rfl) (Step.move rfl) rfl ?_)
    refine RV.op (OV.split (gyes rfl) (Step.geq rfl rfl) rfl (fun h2 => ?_) (fun h2 => ?_))
    · -- True
      refine RV.op (OV.step gno (Step.pick_f rfl rfl) rfl ?_)
      refine RV.nil ?_
      refine KV.then_n ?_
      refine KV.env [(0, _), (1, _), (2, _), (12, _)] ⟨rfl, rfl, rfl, rfl, trivial⟩ ?_
      refine CV.cond_t rfl ?_
      refine CV.seq ?_
      -- region 2 iospace.go:92
      refine CV.region ?_
      refine RV.op (OV.step gno (Step.assign rfl) rfl ?_)
      refine RV.nil ?_
      refine KV.then_n ?_
      refine KV.env [(6, _)] ⟨rfl, trivial⟩ ?_
      refine CV.ret ?_
      refine KV.then_ret ?_
      -- return at r2
      refine KV.sel [0, 0, 0, 0, 0] [_, _, _, _, _] rfl ?_
      exact KV.ret1 rfl rfl _ (fun _ h => h) ⟨fun _ => ⟨rfl, rfl⟩, fun h => by exfalso; omega⟩
    · -- False
      obtain ⟨m, rfl⟩ := Int.eq_ofNat_of_zero_le (show 0 ≤ o by omega)
      refine RV.op (OV.step gno (Step.pick_f rfl rfl) rfl ?_)
      refine RV.nil ?_
      refine KV.then_n ?_
      refine KV.env [(0, _), (1, _), (2, _), (12, _)] ⟨rfl, rfl, rfl, rfl, trivial⟩ ?_
      refine CV.cond_f rfl ?_
      refine CV.skip ?_
      refine KV.then_n ?_
      refine KV.env [(0, _), (1, _), (2, _)] ⟨rfl, rfl, rfl, trivial⟩ ?_
      refine CV.seq ?_
      -- region 3 iospace.go:94
      refine CV.region ?_
      refine RV.op (OV.step gno (Step.move rfl) rfl ?_)
      refine RV.op (OV.step gno (Step.move rfl) rfl ?_)
      refine RV.op (OV.step gno (Step.move rfl) rfl ?_)
      refine RV.op (OV.step gno (Step.nilCheck rfl) rfl ?_)
      refine RV.op (OV.step gno (Step.fieldAddr rfl (F56_1 _ _)) rfl ?_)
      refine RV.op (OV.step gno (Step.idxArr Try.underlying52 I4 rfl rfl _ rfl (by omega)) rfl ?_)
      refine RV.op (OV.store 0 [_] (rbC { s with en := s.en.set m v }).toArray I4 rfl rfl rfl rfl rfl (by show _ + 1 ≤ (rbC _).toArray.size; rw [List.size_toArray, rbC_len hw]; omega) (by simp [Value.oneCell']) (rset_of hw (by omega) (rset_en hw (by omega) v)) gno ?_)
      refine RV.nil ?_
      refine KV.then_n ?_
      refine KV.env [] trivial ?_
      refine CV.seq ?_
      -- region 4 iospace.go:95
      refine CV.region ?_
      refine RV.op (OV.step gno (Step.assign rfl) rfl ?_)
      refine RV.nil ?_
      refine KV.then_n ?_
      refine KV.env [(6, _)] ⟨rfl, trivial⟩ ?_
      refine CV.ret ?_
      -- return at r4
      refine KV.sel [0, 0, 0, 0, 0] [_, _, _, _, _] rfl ?_
      exact KV.ret1 rfl rfl _ (fun _ h => h) ⟨fun h => by exfalso; omega, fun _ => ⟨rfl, rfl⟩⟩

set_option maxRecDepth 100000 in
set_option maxHeartbeats 1000000 in
theorem renabled_fn (b : Nat) (s : RB) {w : World} (hk : s.ok) (o : Int) : Fx Try.prog 46 [.pointer (some ⟨b, 0, none⟩), .int .i64 o] w (rbL b s) no (fun r L => r = .bool (decide (0 ≤ o ∧ o < 256) && s.en.getD o.toNat false) ∧ L = rbL b s) := by
  refine Sv.Fx.body Try.func46 rfl T46 rfl ?_
  intro I hro hI
  refine KV.env [(0, _), (1, _)] ⟨rfl, rfl, trivial⟩ ?_
  have hw := hk.en
  have hmx := hk.max
  have hfx := hk.fl
  refine CV.seq ?_
  -- region 0 iospace.go:99
  refine CV.region ?_
  refine RV.op (OV.step gno (Step.assign rfl) rfl ?_)
  refine RV.nil ?_
  refine KV.then_n ?_
  refine KV.env [(0, _), (1, _)] ⟨rfl, rfl, trivial⟩ ?_
  refine CV.seq ?_
  -- region 1 iospace.go:100
  refine CV.region ?_
  refine RV.op (OV.step gno (Step.move rfl) rfl ?_)
  refine RV.op (OV.split gno (Step.geq rfl rfl) rfl (fun h1 => ?_) (fun h1 => ?_))
  · -- True
    refine RV.op (OV.step gno (Step.move rfl) rfl ?_)
    refine RV.op (OV.step (gyes rfl) (Step.move rfl) rfl ?_)
    refine RV.op (OV.split (gyes rfl) (Step.lss rfl rfl) rfl (fun h2 => ?_) (fun h2 => ?_))
    · -- True
      obtain ⟨m, rfl⟩ := Int.eq_ofNat_of_zero_le h1
      refine RV.op (OV.step gno (Step.pick_t rfl rfl) rfl ?_)
      refine RV.op (OV.step gno (Step.move rfl) rfl ?_)
      refine RV.op (OV.step (gyes rfl) (Step.move rfl) rfl ?_)
      refine RV.op (OV.step (gyes rfl) (Step.move rfl) rfl ?_)
      refine RV.op (OV.step (gyes rfl) (Step.nilCheck rfl) rfl ?_)
      refine RV.op (OV.step (gyes rfl) (Step.fieldAddr rfl (F56_1 _ _)) rfl ?_)
      refine RV.op (OV.step (gyes rfl) (Step.idxArr Try.underlying52 I4 rfl rfl _ rfl (by omega)) rfl ?_)
      refine RV.op (OV.step (gyes rfl) (Step.load Try.underlying4 rfl rfl (fun w h => h.cell 0 rfl (rbC_en hw (by omega)))) rfl ?_)
      refine RV.op (OV.step gno (Step.pick_t rfl rfl) rfl ?_)
      refine RV.op (OV.step gno (Step.assign rfl) rfl ?_)
      refine RV.nil ?_
      refine KV.then_n ?_
      refine KV.env [(4, _)] ⟨rfl, trivial⟩ ?_
      refine CV.ret ?_
      -- return at r1
      refine KV.sel [0, 0, 0, 0, 0] [_, _, _, _, _] rfl ?_
      first | (refine KV.ret1 rfl rfl _ (fun _ h => h) ⟨?_, rfl⟩; rw [decide_eq_true (show 0 ≤ (m : Int) ∧ (m : Int) < 256 by omega)]; rfl) | (refine KV.ret1 rfl rfl _ (fun _ h => h) ⟨?_, rfl⟩; rw [decide_eq_false (show ¬ (0 ≤ o ∧ o < 256) by omega)]; rfl)
    · -- False
      refine RV.op (OV.step gno (Step.pick_t rfl rfl) rfl ?_)
      refine RV.op (OV.step gno (Step.move rfl) rfl ?_)
      refine RV.op (OV.skip rfl rfl ?_)
      refine RV.op (OV.skip rfl rfl ?_)
      refine RV.op (OV.skip rfl rfl ?_)
      refine RV.op (OV.skip rfl rfl ?_)
      refine RV.op (OV.skip rfl rfl ?_)
      refine RV.op (OV.skip rfl rfl ?_)
      refine RV.op (OV.step gno (Step.pick_f rfl rfl) rfl ?_)
      refine RV.op (OV.step gno (Step.assign rfl) rfl ?_)
      refine RV.nil ?_
      refine KV.then_n ?_
      refine KV.env [(4, _)] ⟨rfl, trivial⟩ ?_
      refine CV.ret ?_
      -- return at r1
      refine KV.sel [0, 0, 0, 0, 0] [_, _, _, _, _] rfl ?_
      first | (refine KV.ret1 rfl rfl _ (fun _ h => h) ⟨?_, rfl⟩; rw [decide_eq_true (show 0 ≤ (m : Int) ∧ (m : Int) < 256 by omega)]; rfl) | (refine KV.ret1 rfl rfl _ (fun _ h => h) ⟨?_, rfl⟩; rw [decide_eq_false (show ¬ (0 ≤ o ∧ o < 256) by omega)]; rfl)
  · -- False
    refine RV.op (OV.step gno (Step.move rfl) rfl ?_)
    refine RV.op (OV.skip rfl rfl ?_)
    refine RV.op (OV.skip rfl rfl ?_)
    refine RV.op (OV.step gno (Step.pick_f rfl rfl) rfl ?_)
    refine RV.op (OV.step gno (Step.move rfl) rfl ?_)
    refine RV.op (OV.skip rfl rfl ?_)
    refine RV.op (OV.skip rfl rfl ?_)
    refine RV.op (OV.skip rfl rfl ?_)
    refine RV.op (OV.skip rfl rfl ?_)
    refine RV.op (OV.skip rfl rfl ?_)
    refine RV.op (OV.skip rfl rfl ?_)
    refine RV.op (OV.step gno (Step.pick_f rfl rfl) rfl ?_)
    refine RV.op (OV.step gno (Step.assign rfl) rfl ?_)
    refine RV.nil ?_
    refine KV.then_n ?_
    refine KV.env [(4, _)] ⟨rfl, trivial⟩ ?_
    refine CV.ret ?_
    -- return at r1
    refine KV.sel [0, 0, 0, 0, 0] [_, _, _, _, _] rfl ?_
    first | (refine KV.ret1 rfl rfl _ (fun _ h => h) ⟨?_, rfl⟩; rw [decide_eq_true (show 0 ≤ (m : Int) ∧ (m : Int) < 256 by omega)]; rfl) | (refine KV.ret1 rfl rfl _ (fun _ h => h) ⟨?_, rfl⟩; rw [decide_eq_false (show ¬ (0 ≤ o ∧ o < 256) by omega)]; rfl)

set_option maxRecDepth 100000 in
set_option maxHeartbeats 1000000 in
theorem rtake_fn (b : Nat) (s : RB) {w : World} (hk : s.ok) : Fx Try.prog 22 [.pointer (some ⟨b, 0, none⟩)] w (rbL b s) no (fun r L => r = .slice s.tA s.tr.length s.tc ∧ L = rbL b { s with tA := none, tc := 0, tr := [] } ++ [OS 63 trcK s.tA s.tc s.tr]) := by
  refine Sv.Fx.body Try.func22 rfl T22 rfl ?_
  intro I hro hI
  refine KV.env [(0, _)] ⟨rfl, trivial⟩ ?_
  have hw := hk.en
  have hmx := hk.max
  have hfx := hk.fl
  refine CV.seq ?_
  -- region 0 iospace.go:186
  refine CV.region ?_
  refine RV.op (OV.step gno (Step.assign rfl) rfl ?_)
  refine RV.nil ?_
  refine KV.then_n ?_
  refine KV.env [(0, _)] ⟨rfl, trivial⟩ ?_
  refine CV.seq ?_
  -- region 1 iospace.go:187
  refine CV.region ?_
  refine RV.op (OV.step gno (Step.move rfl) rfl ?_)
  refine RV.op (OV.step gno (Step.nilCheck rfl) rfl ?_)
  refine RV.op (OV.step gno (Step.fieldAddr rfl (F56_3 _ _)) rfl ?_)
  refine RV.op (OV.step gno (Step.load Try.underlying54 rfl rfl (fun w h => h.cell 0 rfl (rbC_t hw))) rfl ?_)
  refine RV.op (OV.step gno (Step.assign rfl) rfl ?_)
  refine RV.nil ?_
  refine KV.then_n ?_
  refine KV.env [(0, _), (3, _)] ⟨rfl, rfl, trivial⟩ ?_
  refine CV.seq ?_
  -- region 2 iospace.go:188
  refine CV.region ?_
  refine RV.op (OV.step gno (Step.move rfl) rfl ?_)
  refine RV.op (OV.step gno (Step.nilCheck rfl) rfl ?_)
  refine RV.op (OV.step gno (Step.fieldAddr rfl (F56_3 _ _)) rfl ?_)
  refine RV.op (OV.store 0 [_] (rbC { s with tA := none, tc := 0, tr := [] }).toArray I54 rfl rfl rfl rfl rfl (by show _ + 1 ≤ (rbC _).toArray.size; rw [List.size_toArray, rbC_len hw]; omega) (by simp [Value.oneCell']) (rset_of hw (by omega) (rset_t hw none 0 [])) gno ?_)
  refine KV.heap (fun w h => h.nilOS (e := 63) (K := trcK)) ?_
  refine RV.nil ?_
  refine KV.then_n ?_
  refine KV.env [(3, _)] ⟨rfl, trivial⟩ ?_
  refine CV.seq ?_
  -- region 3 iospace.go:189
  refine CV.region ?_
  refine RV.op (OV.step gno (Step.move rfl) rfl ?_)
  refine RV.op (OV.step gno (Step.assign rfl) rfl ?_)
  refine RV.nil ?_
  refine KV.then_n ?_
  refine KV.env [(2, _)] ⟨rfl, trivial⟩ ?_
  refine CV.ret ?_
  -- return at r3
  refine KV.sel [0, 0, 0, 0, 1, 0] [_, _, _, _, _, _] rfl ?_
  exact KV.ret1 rfl rfl _ (fun _ h => h) ⟨rfl, rfl⟩
end Go.Proofs.Ythdpojggdodpfaa
