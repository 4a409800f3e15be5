/-
  Walks, part 6.
-/
import Derived.Test.YtaafpnoffdcbnaaTab6
import Derived.Test.YtaafpnoffdcbnaaW5
import Derived.Test.YtaafpnoffdcbnaaPl1
set_option linter.unusedSimpArgs false
set_option linter.unusedVariables false
namespace Go.Proofs.Ytaafpnoffdcbnaa
open Go.Sv Go.Perf
set_option maxRecDepth 100000 in
set_option maxHeartbeats 1000000 in
theorem checkAgrees_fn {A : Option Addr} {n c : Nat} {raw : List Pt} {w : World} (hr : RS w ptK A raw) (hn : n = raw.length) (hf : fitT raw) (f : Int) (k : Int) (x : Pt) : Fx Try.prog 3 [.slice A n c, .int .u64 f, .int .i64 k, .agg #[.int .u64 x.f, .int .u64 x.v, .int .u64 x.p]] w [] no (fun v L => v = .bool true ∧ L = []) := by
  subst hn
  refine Sv.Fx.body Try.func3 rfl T3 rfl ?_
  intro I hro hI
  refine KV.env [(0, _), (1, _), (2, _), (3, _)] ⟨rfl, rfl, rfl, rfl, trivial⟩ ?_
  refine CV.seq ?_
  -- region 0 law.go:37
  refine CV.region ?_
  refine RV.op (OV.box (t := 25) #[_, _, _] rfl rfl gno rfl (fun b0_0 => ?_))
  refine RV.op (OV.step gno (Step.assign rfl) rfl ?_)
  refine RV.nil ?_
  refine KV.then_n ?_
  refine KV.env [(0, _), (1, _), (2, _), (7, _)] ⟨rfl, rfl, rfl, rfl, trivial⟩ ?_
  refine CV.seq ?_
  refine CV.seq ?_
  -- region 1 law.go:38
  refine CV.region ?_
  refine RV.op (OV.step gno (Step.move rfl) rfl ?_)
  refine RV.op (OV.step gno (Step.lenSl Try.underlying22 rfl) rfl ?_)
  refine RV.op (OV.split gno (Step.gtr rfl rfl) rfl (fun hlong => ?_) (fun hlong => ?_))
  · -- True
    refine RV.nil ?_
    refine KV.then_n ?_
    refine KV.env [(0, _), (1, _), (2, _), (7, _), (23, _)] ⟨rfl, rfl, rfl, rfl, rfl, trivial⟩ ?_
    refine CV.cond_t rfl ?_
    refine CV.seq ?_
    -- region 2 law.go:39
    refine CV.region ?_
    refine RV.op (OV.call [] (F := [_]) Try.func12 B12 N12 rfl rfl (fun w h => awake_fn) (fun _ hb => hb.elim) gno rfl (fun v L' hp => ?_))
    obtain ⟨rfl, rfl⟩ := hp
    simp only [List.append_nil]
    refine RV.op (OV.step gno (Step.assign rfl) rfl ?_)
    refine RV.nil ?_
    refine KV.then_n ?_
    refine KV.env [(8, _)] ⟨rfl, trivial⟩ ?_
    refine CV.ret ?_
    refine KV.then_ret ?_
    -- return at r2
    refine KV.sel [] [] rfl ?_
    exact KV.ret1 rfl rfl _ (fun _ h => h) ⟨rfl, rfl⟩
  · -- False
    have hl : raw.length ≤ 1000000 := by omega
    refine RV.nil ?_
    refine KV.then_n ?_
    refine KV.env [(0, _), (1, _), (2, _), (7, _), (23, _)] ⟨rfl, rfl, rfl, rfl, rfl, trivial⟩ ?_
    refine CV.cond_f rfl ?_
    refine CV.skip ?_
    refine KV.then_n ?_
    refine KV.env [(0, _), (1, _), (2, _), (7, _)] ⟨rfl, rfl, rfl, rfl, trivial⟩ ?_
    refine CV.seq ?_
    -- region 3 law.go:41
    refine CV.region ?_
    refine RV.op (OV.step gno (Step.move rfl) rfl ?_)
    refine RV.op (OV.call [] (F := [_]) Try.func13 B13 N13 rfl rfl (fun w h => table_fn (h.rs hr (fun _ => hI _)) rfl hl hf) (fun _ hb => hb.elim) gno rfl (fun v L' hp => ?_))
    obtain ⟨At, ct, rfl, rfl⟩ := hp
    obtain ⟨T, hT⟩ : ∃ T, tableM raw = T := ⟨_, rfl⟩
    rw [hT]
    have hok : okT T := hT ▸ table_ok hf
    have hlT := hok.1
    have hfT : fitT T := hT ▸ fitT_table hf
    refine RV.op (OV.step gno (Step.assign rfl) rfl ?_)
    refine RV.nil ?_
    refine KV.then_n ?_
    refine KV.env [(0, _), (1, _), (2, _), (7, _), (9, _)] ⟨rfl, rfl, rfl, rfl, rfl, trivial⟩ ?_
    refine CV.seq ?_
    -- region 4 law.go:42
    refine CV.region ?_
    refine RV.op (OV.buildSlice (K := ptK) ([]) rfl (Bs22_0_) rfl rfl (by omega) gno rfl (fun b4_0 => ?_))
    refine RV.op (OV.step gno (Step.move rfl) rfl ?_)
    refine RV.op (OV.append 2 Try.underlying22 I25 rfl rfl rfl rfl rfl rfl (fun w h => h.os 1 rfl) (by simp only [List.length_nil]; omega) (by simp only [List.length_nil]; omega) gno rfl (fun A4 c4 => ?_))
    simp only [List.nil_append]
    refine RV.op (OV.step gno (Step.assign rfl) rfl ?_)
    refine RV.nil ?_
    refine KV.then_n ?_
    refine KV.env [(0, _), (1, _), (2, _), (7, _), (9, _), (10, _)] ⟨rfl, rfl, rfl, rfl, rfl, rfl, trivial⟩ ?_
    refine CV.seq ?_
    -- region 5 law.go:43
    refine CV.stillTail 6 (by kernel_rfl) (by kernel_rfl) (fun _ h => h.drew) ?_
    refine SV.step gno (Step.move rfl) rfl ?_
    refine SV.step gno (Step.move rfl) rfl ?_
    refine SV.step gno (Step.move rfl) rfl ?_
    refine SV.step gno (Step.lenSl Try.underlying22 rfl) rfl ?_
    refine SV.call Try.func14 B14 N14 rfl (mod_fn k T.length (by omega) (by omega)) gno rfl ?_
    obtain ⟨k2, hmk2, hlk2⟩ := modN k (n := T.length) (by omega)
    rw [hmk2]
    refine SV.step gno (Step.loadN _ Try.underlying25 rfl I25 rfl rfl (fun w h => h.cells 0 rfl)) rfl ?_
    refine SV.nil ?_
    show KV _ (wpList _ _ _ _) _ _
    refine RV.op (OV.step gno (Step.idx Try.underlying22 I25 (fun w h => h.os 2 rfl) rfl rfl (rfl) _ rfl (by omega)) rfl ?_)
    refine RV.op (OV.storeE 2 (k2) (x) (j := 0) [_, _, _] I25 rfl rfl rfl rfl rfl rfl (by omega) rfl (Nat.le_of_ble_eq_true rfl) gno ?_)
    refine RV.nil ?_
    refine KV.then_n ?_
    refine KV.env [(0, _), (1, _), (9, _), (10, _)] ⟨rfl, rfl, rfl, rfl, trivial⟩ ?_
    refine CV.seq ?_
    refine CV.seq ?_
    -- region 6 law.go:44
    refine CV.region ?_
    refine RV.op (OV.step gno (Step.move rfl) rfl ?_)
    refine RV.op (OV.step gno (Step.move rfl) rfl ?_)
    refine RV.op (OV.step gno (Step.move rfl) rfl ?_)
    refine RV.op (OV.step gno (Step.build rfl (BD29 _ _ _ _ _ _ _ _ _)) rfl ?_)
    refine RV.op (OV.step gno (Step.move rfl) rfl ?_)
    refine RV.nil ?_
    refine KV.then_n ?_
    refine KV.env [(1, _), (40, _), (41, _)] ⟨rfl, rfl, rfl, trivial⟩ ?_
    refine CV.block ?_
    -- loop L7; live [1, 40, 41]
    refine KV.sel [1, 1] [_, _] rfl ?_
    refine CV.loopI (fun (j : Nat) => j ≤ 3) (fun (j : Nat) => 3 - j) (fun (j : Nat) => [(1, .int .u64 f), (40, .agg #[.slice A raw.length c, .slice At T.length ct, .slice A4 T.length c4]), (41, .int .i64 j)]) (fun (j : Nat) => Hp I w [OS 25 ptK At ct T, OS 25 ptK A4 c4 (T.set k2 x)]) (0) (by omega) ⟨rfl, rfl, rfl, trivial⟩ (fun _ h => h) ?_
    intro j hinv
    refine CV.seq ?_
    -- region 7 law.go:44
    refine CV.region ?_
    refine RV.op (OV.split gno (Step.lss rfl rfl) rfl (fun hj => ?_) (fun hj => ?_))
    · -- True
      refine RV.nil ?_
      refine KV.then_n ?_
      refine KV.env [(1, _), (40, _), (41, _), (42, _)] ⟨rfl, rfl, rfl, rfl, trivial⟩ ?_
      refine CV.seq ?_
      refine CV.cond_t rfl ?_
      refine CV.skip ?_
      refine KV.then_n ?_
      refine KV.env [(1, _), (40, _), (41, _)] ⟨rfl, rfl, rfl, trivial⟩ ?_
      refine CV.seq ?_
      refine CV.block ?_
      refine CV.seq ?_
      -- region 8 law.go:44
      refine CV.region ?_
      obtain ⟨A9, c9, l9, hl9, hix, hrs⟩ : ∃ (A9 : Option Addr) (c9 : Nat) (l9 : List Pt), l9.length ≤ 1000000 ∧ (∀ w, (Instr.index 29 (.agg #[.slice A raw.length c, .slice At T.length ct, .slice A4 T.length c4]) (.int .i64 j)).run Try.prog w = .ok (.slice A9 l9.length c9) w) ∧ (∀ w2, Hp I w [OS 25 ptK At ct T, OS 25 ptK A4 c4 (T.set k2 x)] w2 → RS w2 ptK A9 l9) := by
        obtain rfl | rfl | rfl : j = 0 ∨ j = 1 ∨ j = 2 := by omega
        · exact ⟨A, c, raw, hl, IX29_0 _ _ _, fun w h => h.rs hr (fun _ => hI _)⟩
        · exact ⟨At, ct, T, by omega, IX29_1 _ _ _, fun w h => h.os 0 rfl⟩
        · exact ⟨A4, c4, T.set k2 x, by rw [List.length_set]; omega, by rw [List.length_set]; exact IX29_2 _ _ _, fun w h => h.os 1 rfl⟩
      refine RV.op (OV.step gno (Step.index rfl rfl hix) rfl ?_)
      refine RV.op (OV.step gno (Step.assign rfl) rfl ?_)
      refine RV.nil ?_
      refine KV.then_n ?_
      refine KV.env [(1, _), (12, _), (40, _), (41, _)] ⟨rfl, rfl, rfl, rfl, trivial⟩ ?_
      refine CV.seq ?_
      -- region 9 law.go:45
      refine CV.region ?_
      refine RV.op (OV.step gno (Step.move rfl) rfl ?_)
      refine RV.op (OV.step gno (Step.move rfl) rfl ?_)
      refine RV.op (OV.step gno (Step.rem rfl rfl (by omega) (rfl)) rfl ?_)
      refine RV.op (OV.call [] (F := [_, _]) Try.func15 B15 N15 rfl rfl (fun w h => find_fn (hrs w h) rfl hl9 (f.tmod 1000)) (fun _ hb => hb.elim) gno rfl (fun v L' hp => ?_))
      obtain ⟨rfl, rfl⟩ := hp
      simp only [List.append_nil]
      refine RV.op (OV.step gno (Step.move rfl) rfl ?_)
      refine RV.op (OV.step gno (Step.extract0 rfl rfl) rfl ?_)
      refine RV.op (OV.step gno (Step.extract0 rfl rfl) rfl ?_)
      refine RV.op (OV.step gno (Step.assign rfl) rfl ?_)
      refine RV.op (OV.step gno (Step.assign rfl) rfl ?_)
      refine RV.nil ?_
      refine KV.then_n ?_
      refine KV.env [(1, _), (12, _), (13, _), (14, _), (40, _), (41, _)] ⟨rfl, rfl, rfl, rfl, rfl, rfl, trivial⟩ ?_
      refine CV.seq ?_
      -- region 10 law.go:46
      refine CV.region ?_
      refine RV.op (OV.step gno (Step.move rfl) rfl ?_)
      refine RV.op (OV.step gno (Step.move rfl) rfl ?_)
      refine RV.op (OV.step gno (Step.rem rfl rfl (by omega) (rfl)) rfl ?_)
      refine RV.op (OV.call [] (F := [_, _]) Try.func16 B16 N16 rfl rfl (fun w h => findR_fn (hrs w h) rfl hl9 (f.tmod 1000)) (fun _ hb => hb.elim) gno rfl (fun v L' hp => ?_))
      obtain ⟨rfl, rfl⟩ := hp
      simp only [List.append_nil]
      refine RV.op (OV.step gno (Step.move rfl) rfl ?_)
      refine RV.op (OV.step gno (Step.extract0 rfl rfl) rfl ?_)
      refine RV.op (OV.step gno (Step.extract0 rfl rfl) rfl ?_)
      refine RV.op (OV.step gno (Step.assign rfl) rfl ?_)
      refine RV.op (OV.step gno (Step.assign rfl) rfl ?_)
      refine RV.nil ?_
      refine KV.then_n ?_
      refine KV.env [(1, _), (12, _), (13, _), (14, _), (15, _), (16, _), (40, _), (41, _)] ⟨rfl, rfl, rfl, rfl, rfl, rfl, rfl, rfl, trivial⟩ ?_
      refine CV.seq ?_
      -- region 11 law.go:47
      refine CV.region ?_
      refine RV.op (OV.step gno (Step.move rfl) rfl ?_)
      refine RV.op (OV.step gno (Step.move rfl) rfl ?_)
      refine RV.op (OV.call [] (F := [_, _]) Try.func15 B15 N15 rfl rfl (fun w h => find_fn (hrs w h) rfl hl9 f) (fun _ hb => hb.elim) gno rfl (fun v L' hp => ?_))
      obtain ⟨rfl, rfl⟩ := hp
      simp only [List.append_nil]
      refine RV.op (OV.step gno (Step.move rfl) rfl ?_)
      refine RV.op (OV.step gno (Step.extract0 rfl rfl) rfl ?_)
      refine RV.op (OV.step gno (Step.extract0 rfl rfl) rfl ?_)
      refine RV.op (OV.step gno (Step.assign rfl) rfl ?_)
      refine RV.op (OV.step gno (Step.assign rfl) rfl ?_)
      refine RV.nil ?_
      refine KV.then_n ?_
      refine KV.env [(1, _), (12, _), (13, _), (14, _), (15, _), (16, _), (17, _), (18, _), (40, _), (41, _)] ⟨rfl, rfl, rfl, rfl, rfl, rfl, rfl, rfl, rfl, rfl, trivial⟩ ?_
      refine CV.seq ?_
      -- region 12 law.go:48
      refine CV.region ?_
      refine RV.op (OV.step gno (Step.move rfl) rfl ?_)
      refine RV.op (OV.step gno (Step.move rfl) rfl ?_)
      refine RV.op (OV.call [] (F := [_, _]) Try.func16 B16 N16 rfl rfl (fun w h => findR_fn (hrs w h) rfl hl9 f) (fun _ hb => hb.elim) gno rfl (fun v L' hp => ?_))
      obtain ⟨rfl, rfl⟩ := hp
      simp only [List.append_nil]
      refine RV.op (OV.step gno (Step.move rfl) rfl ?_)
      refine RV.op (OV.step gno (Step.extract0 rfl rfl) rfl ?_)
      refine RV.op (OV.step gno (Step.extract0 rfl rfl) rfl ?_)
      refine RV.op (OV.step gno (Step.assign rfl) rfl ?_)
      refine RV.op (OV.step gno (Step.assign rfl) rfl ?_)
      refine RV.nil ?_
      refine KV.then_n ?_
      refine KV.env [(1, _), (12, _), (13, _), (14, _), (15, _), (16, _), (17, _), (18, _), (19, _), (20, _), (40, _), (41, _)] ⟨rfl, rfl, rfl, rfl, rfl, rfl, rfl, rfl, rfl, rfl, rfl, rfl, trivial⟩ ?_
      refine CV.seq ?_
      -- region 13 law.go:49
      refine CV.region ?_
      refine RV.op (OV.step gno (Step.move rfl) rfl ?_)
      refine RV.op (OV.call [] (F := [_, _]) Try.func17 B17 N17 rfl rfl (fun w h => check_fn (hrs w h) rfl hl9) (fun _ hb => hb.elim) gno rfl (fun v L' hp => ?_))
      obtain ⟨rfl, rfl⟩ := hp
      simp only [List.append_nil]
      refine RV.op (OV.step gno (Step.move rfl) rfl ?_)
      refine RV.op (OV.call [] (F := [_, _]) Try.func18 B18 N18 rfl rfl (fun w h => checkR_fn (hrs w h) rfl hl9) (fun _ hb => hb.elim) gno rfl (fun v L' hp => ?_))
      obtain ⟨rfl, rfl⟩ := hp
      simp only [List.append_nil]
      refine RV.op (OV.split gno (Step.neq rfl rfl) rfl (fun e4 => ?_) (fun e4 => ?_))
      · -- True
        exact absurd rfl e4
      · -- False
        refine RV.op (OV.step gno (Step.move rfl) rfl ?_)
        refine RV.op (OV.step (gyes rfl) (Step.move rfl) rfl ?_)
        refine RV.op (OV.step (gyes rfl) (Step.move rfl) rfl ?_)
        refine RV.op (OV.split (gyes rfl) (Step.neq rfl rfl) rfl (fun e8 => ?_) (fun e8 => ?_))
        · -- True
          exact absurd rfl e8
        · -- False
          refine RV.op (OV.step gno (Step.pick_f rfl rfl) rfl ?_)
          refine RV.op (OV.step gno (Step.move rfl) rfl ?_)
          refine RV.op (OV.step (gyes rfl) (Step.move rfl) rfl ?_)
          refine RV.op (OV.step (gyes rfl) (Step.move rfl) rfl ?_)
          refine RV.op (OV.split (gyes rfl) (Step.neq rfl rfl) rfl (fun e13 => ?_) (fun e13 => ?_))
          · -- True
            exact absurd rfl e13
          · -- False
            refine RV.op (OV.step gno (Step.pick_f rfl rfl) rfl ?_)
            refine RV.op (OV.step gno (Step.move rfl) rfl ?_)
            refine RV.op (OV.step (gyes rfl) (Step.move rfl) rfl ?_)
            refine RV.op (OV.step (gyes rfl) (Step.move rfl) rfl ?_)
            refine RV.op (OV.split (gyes rfl) (Step.neq rfl rfl) rfl (fun e18 => ?_) (fun e18 => ?_))
            · -- True
              exact absurd rfl e18
            · -- False
              refine RV.op (OV.step gno (Step.pick_f rfl rfl) rfl ?_)
              refine RV.op (OV.step gno (Step.move rfl) rfl ?_)
              refine RV.op (OV.step (gyes rfl) (Step.move rfl) rfl ?_)
              refine RV.op (OV.step (gyes rfl) (Step.move rfl) rfl ?_)
              refine RV.op (OV.split (gyes rfl) (Step.neq rfl rfl) rfl (fun e23 => ?_) (fun e23 => ?_))
              · -- True
                exact absurd rfl e23
              · -- False
                refine RV.op (OV.step gno (Step.pick_f rfl rfl) rfl ?_)
                refine RV.nil ?_
                refine KV.then_n ?_
                refine KV.env [(1, _), (40, _), (41, _), (94, _)] ⟨rfl, rfl, rfl, rfl, trivial⟩ ?_
                refine CV.cond_f rfl ?_
                refine CV.skip ?_
                refine KV.block_n ?_
                refine KV.then_n ?_
                refine KV.env [(1, _), (40, _), (41, _)] ⟨rfl, rfl, rfl, trivial⟩ ?_
                -- region 15 law.go:44
                refine CV.region ?_
                (first | refine RV.op (OV.step gno (Step.add rfl rfl (wI64 (by omega) (by omega))) rfl ?_) | refine RV.op (OV.step gno (Step.add rfl rfl rfl) rfl ?_))
                refine RV.op (OV.step gno (Step.move rfl) rfl ?_)
                refine RV.nil ?_
                refine KV.then_n ?_
                refine KV.env [(1, _), (40, _), (41, _)] ⟨rfl, rfl, rfl, trivial⟩ ?_
                refine KV.sel [0, 0] [_, _] rfl ?_
                exact KV.loopI (z := j) (j + 1) (by omega) (by omega) ⟨rfl, rfl, rfl, trivial⟩ (fun _ h => h)
    · -- False
      refine RV.nil ?_
      refine KV.then_n ?_
      refine KV.env [(1, _), (40, _), (41, _), (42, _)] ⟨rfl, rfl, rfl, rfl, trivial⟩ ?_
      refine CV.seq ?_
      refine CV.cond_f rfl ?_
      refine CV.exit ?_
      refine KV.then_exit ?_
      refine KV.then_exit ?_
      refine KV.block_hit ?_
      refine KV.then_n ?_
      refine KV.env [] trivial ?_
      refine CV.seq ?_
      -- region 16 law.go:53
      refine CV.region ?_
      refine RV.op (OV.call [] (F := [_, _]) Try.func12 B12 N12 rfl rfl (fun w h => awake_fn) (fun _ hb => hb.elim) gno rfl (fun v L' hp => ?_))
      obtain ⟨rfl, rfl⟩ := hp
      simp only [List.append_nil]
      refine RV.op (OV.step gno (Step.assign rfl) rfl ?_)
      refine RV.nil ?_
      refine KV.then_n ?_
      refine KV.env [(8, _)] ⟨rfl, trivial⟩ ?_
      refine CV.ret ?_
      -- return at r16
      refine KV.sel [] [] rfl ?_
      exact KV.ret1 rfl rfl _ (fun _ h => h) ⟨rfl, rfl⟩
end Go.Proofs.Ytaafpnoffdcbnaa
