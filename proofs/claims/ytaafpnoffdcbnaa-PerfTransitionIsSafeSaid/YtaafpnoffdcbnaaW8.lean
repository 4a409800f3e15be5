/-
  Walks, part 8.
-/
import Derived.Test.YtaafpnoffdcbnaaTab8
import Derived.Test.YtaafpnoffdcbnaaW5
import Derived.Test.YtaafpnoffdcbnaaPl1
set_option linter.unusedSimpArgs false
set_option linter.unusedVariables false
namespace Go.Proofs.Ytaafpnoffdcbnaa
open Go.Sv Go.Perf
set_option maxRecDepth 100000 in
set_option maxHeartbeats 1000000 in
theorem transSafe_fn {A : Option Addr} {n c : Nat} {raw : List Pt} {w : World} (hr : RS w ptK A raw) (hn : n = raw.length) (hf : fitT raw) (a b : Int) : Fx Try.prog 5 [.slice A n c, .int .i64 a, .int .i64 b] w [] no (fun v L => v = .bool true ∧ L = []) := by
  subst hn
  refine Sv.Fx.body Try.func5 rfl T5 rfl ?_
  intro I hro hI
  refine KV.env [(0, _), (1, _), (2, _)] ⟨rfl, rfl, rfl, trivial⟩ ?_
  refine CV.seq ?_
  -- region 0 law.go:73
  refine CV.region ?_
  refine RV.op (OV.step gno (Step.assign rfl) rfl ?_)
  refine RV.nil ?_
  refine KV.then_n ?_
  refine KV.env [(0, _), (1, _), (2, _)] ⟨rfl, rfl, rfl, trivial⟩ ?_
  refine CV.seq ?_
  refine CV.seq ?_
  -- region 1 law.go:74
  refine CV.region ?_
  refine RV.op (OV.step gno (Step.move rfl) rfl ?_)
  refine RV.op (OV.step gno (Step.lenSl Try.underlying22 rfl) rfl ?_)
  refine RV.op (OV.split gno (Step.gtr rfl rfl) rfl (fun hlong => ?_) (fun hlong => ?_))
  · -- True
    refine RV.nil ?_
    refine KV.then_n ?_
    refine KV.env [(0, _), (1, _), (2, _), (17, _)] ⟨rfl, rfl, rfl, rfl, trivial⟩ ?_
    refine CV.cond_t rfl ?_
    refine CV.seq ?_
    -- region 2 law.go:75
    refine CV.region ?_
    refine RV.op (OV.call [] (F := []) Try.func12 B12 N12 rfl rfl (fun w h => awake_fn) (fun _ hb => hb.elim) gno rfl (fun v L' hp => ?_))
    obtain ⟨rfl, rfl⟩ := hp
    simp only [List.append_nil]
    refine RV.op (OV.step gno (Step.assign rfl) rfl ?_)
    refine RV.nil ?_
    refine KV.then_n ?_
    refine KV.env [(6, _)] ⟨rfl, trivial⟩ ?_
    refine CV.ret ?_
    refine KV.then_ret ?_
    -- return at r2
    refine KV.sel [] [] rfl ?_
    exact KV.ret1 rfl rfl _ (fun _ h => h) ⟨rfl, rfl⟩
  · -- False
    have hl : raw.length ≤ 1000000 := by omega
    refine RV.nil ?_
    refine KV.then_n ?_
    refine KV.env [(0, _), (1, _), (2, _), (17, _)] ⟨rfl, rfl, rfl, rfl, trivial⟩ ?_
    refine CV.cond_f rfl ?_
    refine CV.skip ?_
    refine KV.then_n ?_
    refine KV.env [(0, _), (1, _), (2, _)] ⟨rfl, rfl, rfl, trivial⟩ ?_
    refine CV.seq ?_
    -- region 3 law.go:77
    refine CV.region ?_
    refine RV.op (OV.step gno (Step.move rfl) rfl ?_)
    refine RV.op (OV.call [] (F := []) Try.func13 B13 N13 rfl rfl (fun w h => table_fn (h.rs hr (fun _ => hI _)) rfl hl hf) (fun _ hb => hb.elim) gno rfl (fun v L' hp => ?_))
    obtain ⟨At, ct, rfl, rfl⟩ := hp
    obtain ⟨T, hT⟩ : ∃ T, tableM raw = T := ⟨_, rfl⟩
    rw [hT]
    have hok : okT T := hT ▸ table_ok hf
    have hlT := hok.1
    have hfT : fitT T := hT ▸ fitT_table hf
    refine RV.op (OV.step gno (Step.assign rfl) rfl ?_)
    refine RV.nil ?_
    refine KV.then_n ?_
    refine KV.env [(1, _), (2, _), (7, _)] ⟨rfl, rfl, rfl, trivial⟩ ?_
    refine CV.seq ?_
    -- region 4 law.go:78
    refine CV.region ?_
    refine RV.op (OV.step gno (Step.move rfl) rfl ?_)
    refine RV.op (OV.step gno (Step.move rfl) rfl ?_)
    refine RV.op (OV.step gno (Step.lenSl Try.underlying22 rfl) rfl ?_)
    refine RV.op (OV.call [] Try.func14 B14 N14 rfl rfl (fun w h => (mod_fn a T.length (by omega) (by omega)).fn w) (fun _ hb => hb.elim) gno rfl (fun v L' hp => ?_))
    obtain ⟨rfl, rfl⟩ := hp
    simp only [List.append_nil]
    obtain ⟨p, hmp, hlp⟩ := modN a (n := T.length) (by omega)
    rw [hmp]
    refine RV.op (OV.step gno (Step.move rfl) rfl ?_)
    refine RV.op (OV.step gno (Step.move rfl) rfl ?_)
    refine RV.op (OV.step gno (Step.lenSl Try.underlying22 rfl) rfl ?_)
    refine RV.op (OV.call [] Try.func14 B14 N14 rfl rfl (fun w h => (mod_fn b T.length (by omega) (by omega)).fn w) (fun _ hb => hb.elim) gno rfl (fun v L' hp => ?_))
    obtain ⟨rfl, rfl⟩ := hp
    simp only [List.append_nil]
    obtain ⟨q, hmq, hlq⟩ := modN b (n := T.length) (by omega)
    rw [hmq]
    refine RV.op (OV.step gno (Step.assign rfl) rfl ?_)
    refine RV.op (OV.step gno (Step.assign rfl) rfl ?_)
    refine RV.nil ?_
    refine KV.then_n ?_
    refine KV.env [(7, _), (8, _), (9, _)] ⟨rfl, rfl, rfl, trivial⟩ ?_
    refine CV.seq ?_
    -- region 5 law.go:79
    refine CV.region ?_
    refine RV.op (OV.step gno (Step.move rfl) rfl ?_)
    refine RV.op (OV.step gno (Step.move rfl) rfl ?_)
    refine RV.op (OV.step gno (Step.move rfl) rfl ?_)
    refine RV.op (OV.call [] (F := [_]) Try.func19 B19 N19 rfl rfl (fun w h => trans_fn (h.os 0 rfl) rfl (by omega) p q) (fun _ hb => hb.elim) gno rfl (fun v L' hp => ?_))
    obtain ⟨Ao, co, rfl, rfl⟩ := hp
    refine RV.op (OV.step gno (Step.move rfl) rfl ?_)
    refine RV.op (OV.step gno (Step.extract0 rfl rfl) rfl ?_)
    refine RV.op (OV.step gno (Step.extract0 rfl rfl) rfl ?_)
    refine RV.op (OV.step gno (Step.assign rfl) rfl ?_)
    refine RV.op (OV.step gno (Step.assign rfl) rfl ?_)
    refine RV.nil ?_
    refine KV.then_n ?_
    refine KV.env [(7, _), (8, _), (9, _), (10, _), (11, _)] ⟨rfl, rfl, rfl, rfl, rfl, trivial⟩ ?_
    refine CV.seq ?_
    refine CV.seq ?_
    -- region 6 law.go:80
    refine CV.region ?_
    refine RV.op (OV.step gno (Step.move rfl) rfl ?_)
    refine RV.op (OV.split gno (Step.neq rfl rfl) rfl (fun e1 => ?_) (fun e1 => ?_))
    · -- True
      exact absurd (tr_err hok hlp hlq) e1
    · -- False
      refine RV.op (OV.step gno (Step.move rfl) rfl ?_)
      refine RV.op (OV.step (gyes rfl) (Step.move rfl) rfl ?_)
      refine RV.op (OV.step (gyes rfl) (Step.move rfl) rfl ?_)
      refine RV.op (OV.step (gyes rfl) (Step.move rfl) rfl ?_)
      refine RV.op (OV.call [] (F := [_, _]) Try.func22 B22 N22 rfl rfl (fun w h => safe_fn (h.os 0 rfl) (rfl) (by omega) (h.os 1 rfl) (rfl) (Nat.le_trans (transM_len _ _ _) (by omega)) p) (fun _ hb => hb.elim) (gyes rfl) rfl (fun v L' hp => ?_))
      obtain ⟨rfl, rfl⟩ := hp
      simp only [List.append_nil]
      rw [tr_safe hok hlp hlq]
      refine RV.op (OV.step (gyes rfl) (Step.not rfl) rfl ?_)
      refine RV.op (OV.step gno (Step.pick_f rfl rfl) rfl ?_)
      refine RV.nil ?_
      refine KV.then_n ?_
      refine KV.env [(7, _), (8, _), (9, _), (10, _), (44, _)] ⟨rfl, rfl, rfl, rfl, rfl, trivial⟩ ?_
      refine CV.cond_f rfl ?_
      refine CV.skip ?_
      refine KV.then_n ?_
      refine KV.env [(7, _), (8, _), (9, _), (10, _)] ⟨rfl, rfl, rfl, rfl, trivial⟩ ?_
      refine CV.seq ?_
      -- region 8 law.go:83
      refine CV.still (by kernel_rfl) (by kernel_rfl) (fun _ h => h.drew) ?_
      refine SV.step gno (Step.move rfl) rfl ?_
      refine SV.step gno (Step.move rfl) rfl ?_
      refine SV.step gno (Step.idx Try.underlying22 I25 (fun w h => h.os 0 rfl) rfl rfl (rfl) _ rfl (by omega)) rfl ?_
      refine SV.step gno (Step.fieldAddr rfl (F25_0 _ _)) rfl ?_
      refine SV.step gno (Step.load Try.underlying23 rfl rfl (fun w h => (h.os 0 rfl).cell0 (by omega) rfl)) rfl ?_
      refine SV.step gno (Step.move rfl) rfl ?_
      refine SV.step gno (Step.move rfl) rfl ?_
      refine SV.step gno (Step.idx Try.underlying22 I25 (fun w h => h.os 0 rfl) rfl rfl (rfl) _ rfl (by omega)) rfl ?_
      refine SV.step gno (Step.fieldAddr rfl (F25_1 _ _)) rfl ?_
      refine SV.step gno (Step.load Try.underlying23 rfl rfl (fun w h => (h.os 0 rfl).cell (by omega) rfl)) rfl ?_
      refine SV.step gno (Step.assign rfl) rfl ?_
      refine SV.step gno (Step.assign rfl) rfl ?_
      refine SV.nil ?_
      refine KV.then_n ?_
      refine KV.env [(7, _), (8, _), (9, _), (10, _), (12, _), (13, _)] ⟨rfl, rfl, rfl, rfl, rfl, rfl, trivial⟩ ?_
      refine CV.seq ?_
      refine CV.seq ?_
      -- region 9 law.go:84
      refine CV.region ?_
      refine RV.op (OV.step gno (Step.assign rfl) rfl ?_)
      refine RV.nil ?_
      refine KV.then_n ?_
      refine KV.env [(7, _), (8, _), (9, _), (10, _), (12, _), (13, _), (14, _)] ⟨rfl, rfl, rfl, rfl, rfl, rfl, rfl, trivial⟩ ?_
      refine CV.block ?_
      -- loop L10; live [7, 8, 9, 10, 12, 13, 14]
      refine KV.sel [0, 0] [_, _] rfl ?_
      refine CV.loopI (fun (j : Nat) => j ≤ (transM T p q).1.length) (fun (j : Nat) => (transM T p q).1.length - j) (fun (j : Nat) => [(7, .slice At T.length ct), (8, .int .i64 p), (9, .int .i64 q), (10, .slice Ao (transM T p q).1.length co), (12, .int .u64 (fK (transM T p q).1 (pt T p).f j)), (13, .int .u64 (vK (transM T p q).1 (pt T p).v j)), (14, .int .i64 j)]) (fun (j : Nat) => Hp I w [OS 25 ptK At ct T, OS 40 popK Ao co (transM T p q).1]) (0) (Nat.zero_le _) ⟨rfl, rfl, rfl, rfl, rfl, rfl, rfl, trivial⟩ (fun _ h => h) ?_
      intro j hinv
      have htl := transM_len T p q
      refine CV.seq ?_
      refine CV.seq ?_
      -- region 10 law.go:84
      refine CV.region ?_
      refine RV.op (OV.step gno (Step.move rfl) rfl ?_)
      refine RV.op (OV.step gno (Step.move rfl) rfl ?_)
      refine RV.op (OV.step gno (Step.lenSl Try.underlying35 rfl) rfl ?_)
      refine RV.op (OV.split gno (Step.lss rfl rfl) rfl (fun hj => ?_) (fun hj => ?_))
      · -- True
        refine RV.nil ?_
        refine KV.then_n ?_
        refine KV.env [(7, _), (8, _), (9, _), (10, _), (12, _), (13, _), (14, _), (58, _)] ⟨rfl, rfl, rfl, rfl, rfl, rfl, rfl, rfl, trivial⟩ ?_
        refine CV.cond_t rfl ?_
        refine CV.skip ?_
        refine KV.then_n ?_
        refine KV.env [(7, _), (8, _), (9, _), (10, _), (12, _), (13, _), (14, _)] ⟨rfl, rfl, rfl, rfl, rfl, rfl, rfl, trivial⟩ ?_
        refine CV.seq ?_
        refine CV.block ?_
        refine CV.seq ?_
        -- region 12 law.go:85
        refine CV.region ?_
        refine RV.op (OV.step gno (Step.move rfl) rfl ?_)
        refine RV.op (OV.step gno (Step.move rfl) rfl ?_)
        refine RV.op (OV.step gno (Step.idx Try.underlying35 I40 (fun w h => h.os 1 rfl) rfl rfl (rfl) _ rfl (by omega)) rfl ?_)
        refine RV.op (OV.step gno (Step.fieldAddr rfl (F40_0 _ _)) rfl ?_)
        refine RV.op (OV.step gno (Step.load Try.underlying4 rfl rfl (fun w h => (h.os 1 rfl).cell0 (by omega) rfl)) rfl ?_)
        refine RV.nil ?_
        refine KV.then_n ?_
        refine KV.env [(7, _), (8, _), (9, _), (10, _), (12, _), (13, _), (14, _), (65, _)] ⟨rfl, rfl, rfl, rfl, rfl, rfl, rfl, rfl, trivial⟩ ?_
        refine KV.cases 65 rfl (fun cc1 => ?_) (fun cc1 => ?_)
        · -- True
          refine CV.cond_t rfl ?_
          -- region 13 law.go:86
          refine CV.region ?_
          refine RV.op (OV.step gno (Step.move rfl) rfl ?_)
          refine RV.op (OV.step gno (Step.move rfl) rfl ?_)
          refine RV.op (OV.step gno (Step.idx Try.underlying35 I40 (fun w h => h.os 1 rfl) rfl rfl (rfl) _ rfl (by omega)) rfl ?_)
          refine RV.op (OV.step gno (Step.fieldAddr rfl (F40_1 _ _)) rfl ?_)
          refine RV.op (OV.step gno (Step.load Try.underlying23 rfl rfl (fun w h => (h.os 1 rfl).cell (by omega) rfl)) rfl ?_)
          refine RV.op (OV.step gno (Step.assign rfl) rfl ?_)
          refine RV.nil ?_
          refine KV.block_n ?_
          refine KV.then_n ?_
          refine KV.env [(7, _), (8, _), (9, _), (10, _), (12, _), (13, _), (14, _)] ⟨rfl, rfl, rfl, rfl, rfl, rfl, rfl, trivial⟩ ?_
          -- region 11 law.go:84
          refine CV.region ?_
          refine RV.op (OV.step gno (Step.move rfl) rfl ?_)
          (first | refine RV.op (OV.step gno (Step.add rfl rfl (wI64 (by omega) (by omega))) rfl ?_) | refine RV.op (OV.step gno (Step.add rfl rfl rfl) rfl ?_))
          refine RV.op (OV.step gno (Step.assign rfl) rfl ?_)
          refine RV.nil ?_
          refine KV.then_n ?_
          refine KV.env [(7, _), (8, _), (9, _), (10, _), (12, _), (13, _), (14, _)] ⟨rfl, rfl, rfl, rfl, rfl, rfl, rfl, trivial⟩ ?_
          refine KV.sel [0, 0] [_, _] rfl ?_
          exact KV.loopI (z := j) (j + 1) (by omega) (by omega) ⟨rfl, rfl, rfl, rfl, (show some (Value.int .u64 _) = some (Value.int .u64 _) by (first | rw [fK, fAt, if_pos (by assumption)] | rw [fK, fAt, if_neg (by rw [‹((transM T p q).1.getD j popK.d).volt = false›]; decide)])), (show some (Value.int .u64 _) = some (Value.int .u64 _) by (first | rw [vK, vAt, if_pos (by assumption)] | rw [vK, vAt, if_neg (by rw [‹((transM T p q).1.getD j popK.d).volt = false›]; decide)])), rfl, trivial⟩ (fun _ h => h)
        · -- False
          refine CV.cond_f rfl ?_
          -- region 14 law.go:88
          refine CV.region ?_
          refine RV.op (OV.step gno (Step.move rfl) rfl ?_)
          refine RV.op (OV.step gno (Step.move rfl) rfl ?_)
          refine RV.op (OV.step gno (Step.idx Try.underlying35 I40 (fun w h => h.os 1 rfl) rfl rfl (rfl) _ rfl (by omega)) rfl ?_)
          refine RV.op (OV.step gno (Step.fieldAddr rfl (F40_1 _ _)) rfl ?_)
          refine RV.op (OV.step gno (Step.load Try.underlying23 rfl rfl (fun w h => (h.os 1 rfl).cell (by omega) rfl)) rfl ?_)
          refine RV.op (OV.step gno (Step.assign rfl) rfl ?_)
          refine RV.nil ?_
          refine KV.block_n ?_
          refine KV.then_n ?_
          refine KV.env [(7, _), (8, _), (9, _), (10, _), (12, _), (13, _), (14, _)] ⟨rfl, rfl, rfl, rfl, rfl, rfl, rfl, trivial⟩ ?_
          -- region 11 law.go:84
          refine CV.region ?_
          refine RV.op (OV.step gno (Step.move rfl) rfl ?_)
          (first | refine RV.op (OV.step gno (Step.add rfl rfl (wI64 (by omega) (by omega))) rfl ?_) | refine RV.op (OV.step gno (Step.add rfl rfl rfl) rfl ?_))
          refine RV.op (OV.step gno (Step.assign rfl) rfl ?_)
          refine RV.nil ?_
          refine KV.then_n ?_
          refine KV.env [(7, _), (8, _), (9, _), (10, _), (12, _), (13, _), (14, _)] ⟨rfl, rfl, rfl, rfl, rfl, rfl, rfl, trivial⟩ ?_
          refine KV.sel [0, 0] [_, _] rfl ?_
          exact KV.loopI (z := j) (j + 1) (by omega) (by omega) ⟨rfl, rfl, rfl, rfl, (show some (Value.int .u64 _) = some (Value.int .u64 _) by (first | rw [fK, fAt, if_pos (by assumption)] | rw [fK, fAt, if_neg (by rw [‹((transM T p q).1.getD j popK.d).volt = false›]; decide)])), (show some (Value.int .u64 _) = some (Value.int .u64 _) by (first | rw [vK, vAt, if_pos (by assumption)] | rw [vK, vAt, if_neg (by rw [‹((transM T p q).1.getD j popK.d).volt = false›]; decide)])), rfl, trivial⟩ (fun _ h => h)
      · -- False
        obtain rfl : j = (transM T p q).1.length := by omega
        refine RV.nil ?_
        refine KV.then_n ?_
        refine KV.env [(7, _), (8, _), (9, _), (10, _), (12, _), (13, _), (14, _), (58, _)] ⟨rfl, rfl, rfl, rfl, rfl, rfl, rfl, rfl, trivial⟩ ?_
        refine CV.cond_f rfl ?_
        refine CV.exit ?_
        refine KV.then_exit ?_
        refine KV.then_exit ?_
        refine KV.block_hit ?_
        refine KV.then_n ?_
        refine KV.env [(7, _), (8, _), (9, _), (10, _), (12, _), (13, _)] ⟨rfl, rfl, rfl, rfl, rfl, rfl, trivial⟩ ?_
        refine CV.seq ?_
        refine CV.seq ?_
        -- region 15 law.go:91
        have he := tr_end hok hlp hlq
        refine CV.region ?_
        refine RV.op (OV.step gno (Step.move rfl) rfl ?_)
        refine RV.op (OV.step gno (Step.move rfl) rfl ?_)
        refine RV.op (OV.step gno (Step.move rfl) rfl ?_)
        refine RV.op (OV.step gno (Step.idx Try.underlying22 I25 (fun w h => h.os 0 rfl) rfl rfl (rfl) _ rfl (by omega)) rfl ?_)
        refine RV.op (OV.step gno (Step.fieldAddr rfl (F25_0 _ _)) rfl ?_)
        refine RV.op (OV.step gno (Step.load Try.underlying23 rfl rfl (fun w h => (h.os 0 rfl).cell0 (by omega) rfl)) rfl ?_)
        refine RV.op (OV.split gno (Step.neq rfl rfl) rfl (fun e2 => ?_) (fun e2 => ?_))
        · -- True
          exact absurd he.1 e2
        · -- False
          refine RV.op (OV.step gno (Step.move rfl) rfl ?_)
          refine RV.op (OV.step (gyes rfl) (Step.move rfl) rfl ?_)
          refine RV.op (OV.step (gyes rfl) (Step.move rfl) rfl ?_)
          refine RV.op (OV.step (gyes rfl) (Step.move rfl) rfl ?_)
          refine RV.op (OV.step (gyes rfl) (Step.idx Try.underlying22 I25 (fun w h => h.os 0 rfl) rfl rfl (rfl) _ rfl (by omega)) rfl ?_)
          refine RV.op (OV.step (gyes rfl) (Step.fieldAddr rfl (F25_1 _ _)) rfl ?_)
          refine RV.op (OV.step (gyes rfl) (Step.load Try.underlying23 rfl rfl (fun w h => (h.os 0 rfl).cell (by omega) rfl)) rfl ?_)
          refine RV.op (OV.split (gyes rfl) (Step.neq rfl rfl) rfl (fun e3 => ?_) (fun e3 => ?_))
          · -- True
            exact absurd he.2 e3
          · -- False
            refine RV.op (OV.step gno (Step.pick_f rfl rfl) rfl ?_)
            refine RV.nil ?_
            refine KV.then_n ?_
            refine KV.env [(7, _), (8, _), (10, _), (91, _)] ⟨rfl, rfl, rfl, rfl, trivial⟩ ?_
            refine CV.cond_f rfl ?_
            refine CV.skip ?_
            refine KV.then_n ?_
            refine KV.env [(7, _), (8, _), (10, _)] ⟨rfl, rfl, rfl, trivial⟩ ?_
            refine CV.seq ?_
            refine CV.seq ?_
            -- region 17 law.go:94
            refine CV.any (Hp I w [OS 25 ptK At ct T, OS 40 popK Ao co (transM T p q).1]) (by kernel_rfl) (fun _ h => h.drew) 15 rfl ?_
            refine AV.take 0 #[true, false, false, false, false, false, false, false, false, false, false, false, false, false, false] rfl (by kernel_rfl) (by kernel_rfl) (by kernel_rfl) (fun _ _ _ h => h) gno (Step.move rfl) rfl (fun _ h => h.sel [0, 0] rfl) (by kernel_rfl) ?_
            refine AV.take 1 #[true, true, false, false, false, false, false, false, false, false, false, false, false, false, false] rfl (by kernel_rfl) (by kernel_rfl) (by kernel_rfl) (fun _ _ _ h => h) gno (Step.lenSl Try.underlying35 rfl) rfl (fun _ h => h.sel [0, 0] rfl) (by kernel_rfl) ?_
            refine AV.take 2 #[true, true, true, false, false, false, false, false, false, false, false, false, false, false, false] rfl (by kernel_rfl) (by kernel_rfl) (by kernel_rfl) (fun _ _ _ h => h) gno (Step.eql rfl rfl) rfl (fun _ h => h.sel [0, 0] rfl) (by kernel_rfl) ?_
            refine AV.take 3 #[true, true, true, true, false, false, false, false, false, false, false, false, false, false, false] rfl (by kernel_rfl) (by kernel_rfl) (by kernel_rfl) (fun _ _ _ h => h) gno (Step.move rfl) rfl (fun _ h => h.sel [0, 0] rfl) (by kernel_rfl) ?_
            refine KV.cases 95 rfl (fun cc2 => ?_) (fun cc2 => ?_)
            · -- True
              have e4 := of_decide_eq_true cc2
              refine AV.take 4 #[true, true, true, true, true, false, false, false, false, false, false, false, false, false, false] rfl (by kernel_rfl) (by kernel_rfl) (by kernel_rfl) (fun _ _ _ h => h) (gyes rfl) (Step.move rfl) rfl (fun _ h => h.sel [0, 0] rfl) (by kernel_rfl) ?_
              refine AV.take 5 #[true, true, true, true, true, true, false, false, false, false, false, false, false, false, false] rfl (by kernel_rfl) (by kernel_rfl) (by kernel_rfl) (fun _ _ _ h => h) (gyes rfl) (Step.move rfl) rfl (fun _ h => h.sel [0, 0] rfl) (by kernel_rfl) ?_
              refine AV.take 6 #[true, true, true, true, true, true, true, false, false, false, false, false, false, false, false] rfl (by kernel_rfl) (by kernel_rfl) (by kernel_rfl) (fun _ _ _ h => h) (gyes rfl) (Step.move rfl) rfl (fun _ h => h.sel [0, 0] rfl) (by kernel_rfl) ?_
              refine AV.take 7 #[true, true, true, true, true, true, true, true, false, false, false, false, false, false, false] rfl (by kernel_rfl) (by kernel_rfl) (by kernel_rfl) (fun _ _ _ h => h) (gyes rfl) (Step.idx Try.underlying35 I40 (fun w h => h.os 1 rfl) rfl rfl (rfl) _ (show (1 : Int) = ((1 : Nat) : Int) from rfl) (by omega)) rfl (fun _ h => h.sel [0, 0] rfl) (by kernel_rfl) ?_
              refine AV.take 8 #[true, true, true, true, true, true, true, true, true, false, false, false, false, false, false] rfl (by kernel_rfl) (by kernel_rfl) (by kernel_rfl) (fun _ _ _ h => h) (gyes rfl) (Step.loadN _ Try.underlying40 rfl I40 rfl rfl (fun w h => (h.os 1 rfl).cells (by omega))) rfl (fun _ h => h.sel [0, 0] rfl) (by kernel_rfl) ?_
              refine AV.take 9 #[true, true, true, true, true, true, true, true, true, true, false, false, false, false, false] rfl (by kernel_rfl) (by kernel_rfl) (by kernel_rfl) (fun _ _ _ h => h) (gyes rfl) (Step.move rfl) rfl (fun _ h => h.sel [0, 0] rfl) (by kernel_rfl) ?_
              refine AV.take 10 #[true, true, true, true, true, true, true, true, true, true, true, false, false, false, false] rfl (by kernel_rfl) (by kernel_rfl) (by kernel_rfl) (fun _ _ _ h => h) (gyes rfl) (Step.idx Try.underlying35 I40 (fun w h => h.os 1 rfl) rfl rfl (rfl) _ (show (0 : Int) = ((0 : Nat) : Int) from rfl) (by omega)) rfl (fun _ h => h.sel [0, 0] rfl) (by kernel_rfl) ?_
              refine AV.take 11 #[true, true, true, true, true, true, true, true, true, true, true, true, false, false, false] rfl (by kernel_rfl) (by kernel_rfl) (by kernel_rfl) (fun _ _ _ h => h) (gyes rfl) (Step.loadN _ Try.underlying40 rfl I40 rfl rfl (fun w h => (h.os 1 rfl).cells (by omega))) rfl (fun _ h => h.sel [0, 0] rfl) (by kernel_rfl) ?_
              refine AV.all [12] (by kernel_rfl) (by decide) ?_
              refine ⟨⟨_, rfl, ?_⟩, trivial⟩
              · -- 12 comes up
                refine OV.buildSlice (K := popK) ([(transM T p q).1.getD 1 popK.d, (transM T p q).1.getD 0 popK.d]) rfl (Bs35_2_0_1 _ _ _ _) rfl rfl (by omega) (gyes rfl) rfl (fun b17_12 => ?_)
                refine AV.next #[true, true, true, true, true, true, true, true, true, true, true, true, true, false, false] (by kernel_rfl) (fun _ h => h.sel [0, 0] rfl) ?_
                refine AV.all [13] (by kernel_rfl) (by decide) ?_
                refine ⟨⟨_, rfl, ?_⟩, trivial⟩
                · -- 13 comes up
                  refine OV.call [] (F := [_, _, _]) Try.func22 B22 N22 rfl rfl (fun w h => safe_fn (h.os 0 rfl) (rfl) (by omega) (h.os 2 rfl) (rfl) (by simp) p) (fun _ hb => hb.elim) (gyes rfl) rfl (fun v L' hp => ?_)
                  obtain ⟨rfl, rfl⟩ := hp
                  simp only [List.append_nil]
                  rw [tr_other hok hlp hlq (by omega)]
                  refine AV.next #[true, true, true, true, true, true, true, true, true, true, true, true, true, true, false] (by kernel_rfl) (fun _ h => h.sel [0, 0] rfl) ?_
                  refine AV.take 14 #[true, true, true, true, true, true, true, true, true, true, true, true, true, true, true] rfl (by kernel_rfl) (by kernel_rfl) (by kernel_rfl) (fun _ _ _ h => h) gno (Step.pick_t rfl rfl) rfl (fun _ h => h.sel [0, 0] rfl) (by kernel_rfl) ?_
                  refine AV.done (by kernel_rfl) ?_
                  refine KV.then_n ?_
                  refine KV.env [(106, _)] ⟨rfl, trivial⟩ ?_
                  refine CV.cond_f rfl ?_
                  refine CV.skip ?_
                  refine KV.then_n ?_
                  refine KV.env [] trivial ?_
                  refine CV.seq ?_
                  -- region 19 law.go:97
                  refine CV.region ?_
                  refine RV.op (OV.call [] (F := [_, _, _]) Try.func12 B12 N12 rfl rfl (fun w h => awake_fn) (fun _ hb => hb.elim) gno rfl (fun v L' hp => ?_))
                  obtain ⟨rfl, rfl⟩ := hp
                  simp only [List.append_nil]
                  refine RV.op (OV.step gno (Step.assign rfl) rfl ?_)
                  refine RV.nil ?_
                  refine KV.then_n ?_
                  refine KV.env [(6, _)] ⟨rfl, trivial⟩ ?_
                  refine CV.ret ?_
                  -- return at r19
                  refine KV.sel [] [] rfl ?_
                  exact KV.ret1 rfl rfl _ (fun _ h => h) ⟨rfl, rfl⟩
            · -- False
              refine AV.takeSkip 4 #[true, true, true, true, true, false, false, false, false, false, false, false, false, false, false] rfl (by kernel_rfl) (by kernel_rfl) (by kernel_rfl) (fun _ _ _ h => h) rfl rfl (fun _ h => h.sel [0, 0] rfl) (by kernel_rfl) ?_
              refine AV.takeSkip 5 #[true, true, true, true, true, true, false, false, false, false, false, false, false, false, false] rfl (by kernel_rfl) (by kernel_rfl) (by kernel_rfl) (fun _ _ _ h => h) rfl rfl (fun _ h => h.sel [0, 0] rfl) (by kernel_rfl) ?_
              refine AV.takeSkip 6 #[true, true, true, true, true, true, true, false, false, false, false, false, false, false, false] rfl (by kernel_rfl) (by kernel_rfl) (by kernel_rfl) (fun _ _ _ h => h) rfl rfl (fun _ h => h.sel [0, 0] rfl) (by kernel_rfl) ?_
              refine AV.takeSkip 7 #[true, true, true, true, true, true, true, true, false, false, false, false, false, false, false] rfl (by kernel_rfl) (by kernel_rfl) (by kernel_rfl) (fun _ _ _ h => h) rfl rfl (fun _ h => h.sel [0, 0] rfl) (by kernel_rfl) ?_
              refine AV.takeSkip 8 #[true, true, true, true, true, true, true, true, true, false, false, false, false, false, false] rfl (by kernel_rfl) (by kernel_rfl) (by kernel_rfl) (fun _ _ _ h => h) rfl rfl (fun _ h => h.sel [0, 0] rfl) (by kernel_rfl) ?_
              refine AV.takeSkip 9 #[true, true, true, true, true, true, true, true, true, true, false, false, false, false, false] rfl (by kernel_rfl) (by kernel_rfl) (by kernel_rfl) (fun _ _ _ h => h) rfl rfl (fun _ h => h.sel [0, 0] rfl) (by kernel_rfl) ?_
              refine AV.takeSkip 10 #[true, true, true, true, true, true, true, true, true, true, true, false, false, false, false] rfl (by kernel_rfl) (by kernel_rfl) (by kernel_rfl) (fun _ _ _ h => h) rfl rfl (fun _ h => h.sel [0, 0] rfl) (by kernel_rfl) ?_
              refine AV.takeSkip 11 #[true, true, true, true, true, true, true, true, true, true, true, true, false, false, false] rfl (by kernel_rfl) (by kernel_rfl) (by kernel_rfl) (fun _ _ _ h => h) rfl rfl (fun _ h => h.sel [0, 0] rfl) (by kernel_rfl) ?_
              refine AV.takeSkip 12 #[true, true, true, true, true, true, true, true, true, true, true, true, true, false, false] rfl (by kernel_rfl) (by kernel_rfl) (by kernel_rfl) (fun _ _ _ h => h) rfl rfl (fun _ h => h.sel [0, 0] rfl) (by kernel_rfl) ?_
              refine AV.takeSkip 13 #[true, true, true, true, true, true, true, true, true, true, true, true, true, true, false] rfl (by kernel_rfl) (by kernel_rfl) (by kernel_rfl) (fun _ _ _ h => h) rfl rfl (fun _ h => h.sel [0, 0] rfl) (by kernel_rfl) ?_
              refine AV.take 14 #[true, true, true, true, true, true, true, true, true, true, true, true, true, true, true] rfl (by kernel_rfl) (by kernel_rfl) (by kernel_rfl) (fun _ _ _ h => h) gno (Step.pick_f rfl rfl) rfl (fun _ h => h.sel [0, 0] rfl) (by kernel_rfl) ?_
              refine AV.done (by kernel_rfl) ?_
              refine KV.then_n ?_
              refine KV.env [(106, _)] ⟨rfl, trivial⟩ ?_
              refine CV.cond_f rfl ?_
              refine CV.skip ?_
              refine KV.then_n ?_
              refine KV.env [] trivial ?_
              refine CV.seq ?_
              -- region 19 law.go:97
              refine CV.region ?_
              refine RV.op (OV.call [] (F := [_, _]) Try.func12 B12 N12 rfl rfl (fun w h => awake_fn) (fun _ hb => hb.elim) gno rfl (fun v L' hp => ?_))
              obtain ⟨rfl, rfl⟩ := hp
              simp only [List.append_nil]
              refine RV.op (OV.step gno (Step.assign rfl) rfl ?_)
              refine RV.nil ?_
              refine KV.then_n ?_
              refine KV.env [(6, _)] ⟨rfl, trivial⟩ ?_
              refine CV.ret ?_
              -- return at r19
              refine KV.sel [] [] rfl ?_
              exact KV.ret1 rfl rfl _ (fun _ h => h) ⟨rfl, rfl⟩
end Go.Proofs.Ytaafpnoffdcbnaa
