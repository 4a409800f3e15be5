/-
  Walks, part 9.
-/
import Derived.Test.YtaafpnoffdcbnaaTab9
import Derived.Test.YtaafpnoffdcbnaaW5
import Derived.Test.YtaafpnoffdcbnaaPl1
set_option linter.unusedSimpArgs false
set_option linter.unusedVariables false
namespace Go.Proofs.Ytaafpnoffdcbnaa
open Go.Sv Go.Perf
set_option maxRecDepth 100000 in
set_option maxHeartbeats 1000000 in
theorem safeAgrees_fn {A : Option Addr} {n c : Nat} {raw : List Pt} {w : World} (hr : RS w ptK A raw) (hn : n = raw.length) (hf : fitT raw) {B : Option Addr} {m d : Nat} {l : List POp} (ho : RS w popK B l) (hm : m = l.length) (hfo : ∀ i, 0 ≤ (l.getD i popK.d).val ∧ (l.getD i popK.d).val ≤ 18446744073709551615) (a : Int) : Fx Try.prog 6 [.slice A n c, .int .i64 a, .slice B m d] w [] no (fun v L => v = .bool true ∧ L = []) := by
  subst hn
  subst hm
  refine Sv.Fx.body Try.func6 rfl T6 rfl ?_
  intro I hro hI
  refine KV.env [(0, _), (1, _), (2, _)] ⟨rfl, rfl, rfl, trivial⟩ ?_
  refine CV.seq ?_
  -- region 0 law.go:101
  refine CV.region ?_
  refine RV.op (OV.step gno (Step.assign rfl) rfl ?_)
  refine RV.nil ?_
  refine KV.then_n ?_
  refine KV.env [(0, _), (1, _), (2, _)] ⟨rfl, rfl, rfl, trivial⟩ ?_
  refine CV.seq ?_
  refine CV.seq ?_
  -- region 1 law.go:102
  refine CV.region ?_
  refine RV.op (OV.step gno (Step.move rfl) rfl ?_)
  refine RV.op (OV.step gno (Step.lenSl Try.underlying22 rfl) rfl ?_)
  refine RV.op (OV.split gno (Step.gtr rfl rfl) rfl (fun hlong => ?_) (fun hlong => ?_))
  · -- True
    refine RV.op (OV.step gno (Step.move rfl) rfl ?_)
    refine RV.op (OV.skip rfl rfl ?_)
    refine RV.op (OV.skip rfl rfl ?_)
    refine RV.op (OV.skip rfl rfl ?_)
    refine RV.op (OV.step gno (Step.pick_t rfl rfl) rfl ?_)
    refine RV.nil ?_
    refine KV.then_n ?_
    refine KV.env [(0, _), (1, _), (2, _), (20, _)] ⟨rfl, rfl, rfl, rfl, trivial⟩ ?_
    refine CV.cond_t rfl ?_
    refine CV.seq ?_
    -- region 2 law.go:103
    refine CV.region ?_
    refine RV.op (OV.call [] (F := []) Try.func12 B12 N12 rfl rfl (fun w h => awake_fn) (fun _ hb => hb.elim) gno rfl (fun v L' hp => ?_))
    obtain ⟨rfl, rfl⟩ := hp
    simp only [List.append_nil]
    refine RV.op (OV.step gno (Step.assign rfl) rfl ?_)
    refine RV.nil ?_
    refine KV.then_n ?_
    refine KV.env [(6, _)] ⟨rfl, trivial⟩ ?_
    refine CV.ret ?_
    refine KV.then_ret ?_
    -- return at r2
    refine KV.sel [] [] rfl ?_
    exact KV.ret1 rfl rfl _ (fun _ h => h) ⟨rfl, rfl⟩
  · -- False
    have hl : raw.length ≤ 1000000 := by omega
    refine RV.op (OV.step gno (Step.move rfl) rfl ?_)
    refine RV.op (OV.step (gyes rfl) (Step.move rfl) rfl ?_)
    refine RV.op (OV.step (gyes rfl) (Step.lenSl Try.underlying35 rfl) rfl ?_)
    refine RV.op (OV.split (gyes rfl) (Step.gtr rfl rfl) rfl (fun cc1 => ?_) (fun cc1 => ?_))
    · -- True
      refine RV.op (OV.step gno (Step.pick_f rfl rfl) rfl ?_)
      refine RV.nil ?_
      refine KV.then_n ?_
      refine KV.env [(0, _), (1, _), (2, _), (20, _)] ⟨rfl, rfl, rfl, rfl, trivial⟩ ?_
      refine CV.cond_t rfl ?_
      refine CV.seq ?_
      -- region 2 law.go:103
      refine CV.region ?_
      refine RV.op (OV.call [] (F := []) Try.func12 B12 N12 rfl rfl (fun w h => awake_fn) (fun _ hb => hb.elim) gno rfl (fun v L' hp => ?_))
      obtain ⟨rfl, rfl⟩ := hp
      simp only [List.append_nil]
      refine RV.op (OV.step gno (Step.assign rfl) rfl ?_)
      refine RV.nil ?_
      refine KV.then_n ?_
      refine KV.env [(6, _)] ⟨rfl, trivial⟩ ?_
      refine CV.ret ?_
      refine KV.then_ret ?_
      -- return at r2
      refine KV.sel [] [] rfl ?_
      exact KV.ret1 rfl rfl _ (fun _ h => h) ⟨rfl, rfl⟩
    · -- False
      refine RV.op (OV.step gno (Step.pick_f rfl rfl) rfl ?_)
      refine RV.nil ?_
      refine KV.then_n ?_
      refine KV.env [(0, _), (1, _), (2, _), (20, _)] ⟨rfl, rfl, rfl, rfl, trivial⟩ ?_
      refine CV.cond_f rfl ?_
      refine CV.skip ?_
      refine KV.then_n ?_
      refine KV.env [(0, _), (1, _), (2, _)] ⟨rfl, rfl, rfl, trivial⟩ ?_
      refine CV.seq ?_
      -- region 3 law.go:105
      refine CV.region ?_
      refine RV.op (OV.step gno (Step.move rfl) rfl ?_)
      refine RV.op (OV.call [] (F := []) Try.func13 B13 N13 rfl rfl (fun w h => table_fn (h.rs hr (fun _ => hI _)) rfl hl hf) (fun _ hb => hb.elim) gno rfl (fun v L' hp => ?_))
      obtain ⟨At, ct, rfl, rfl⟩ := hp
      obtain ⟨T, hT⟩ : ∃ T, tableM raw = T := ⟨_, rfl⟩
      rw [hT]
      have hok : okT T := hT ▸ table_ok hf
      have hlT := hok.1
      have hfT : fitT T := hT ▸ fitT_table hf
      refine RV.op (OV.step gno (Step.assign rfl) rfl ?_)
      refine RV.nil ?_
      refine KV.then_n ?_
      refine KV.env [(0, _), (1, _), (2, _), (7, _)] ⟨rfl, rfl, rfl, rfl, trivial⟩ ?_
      refine CV.seq ?_
      -- region 4 law.go:106
      refine CV.region ?_
      refine RV.op (OV.step gno (Step.move rfl) rfl ?_)
      refine RV.op (OV.step gno (Step.move rfl) rfl ?_)
      refine RV.op (OV.step gno (Step.lenSl Try.underlying22 rfl) rfl ?_)
      refine RV.op (OV.call [] Try.func14 B14 N14 rfl rfl (fun w h => (mod_fn a T.length (by omega) (by omega)).fn w) (fun _ hb => hb.elim) gno rfl (fun v L' hp => ?_))
      obtain ⟨rfl, rfl⟩ := hp
      simp only [List.append_nil]
      obtain ⟨p, hmp, hlp⟩ := modN a (n := T.length) (by omega)
      rw [hmp]
      refine RV.op (OV.step gno (Step.assign rfl) rfl ?_)
      refine RV.nil ?_
      refine KV.then_n ?_
      refine KV.env [(0, _), (1, _), (2, _), (7, _), (8, _)] ⟨rfl, rfl, rfl, rfl, rfl, trivial⟩ ?_
      refine CV.seq ?_
      -- region 5 law.go:107
      refine CV.region ?_
      refine RV.op (OV.step gno (Step.assign rfl) rfl ?_)
      refine RV.nil ?_
      refine KV.then_n ?_
      refine KV.env [(0, _), (1, _), (2, _), (7, _), (8, _), (9, _)] ⟨rfl, rfl, rfl, rfl, rfl, rfl, trivial⟩ ?_
      refine CV.seq ?_
      refine CV.seq ?_
      -- region 6 law.go:108
      refine KV.heap (fun w h => h.nilOS (e := 40) (K := popK)) ?_
      refine CV.region ?_
      refine RV.op (OV.step gno (Step.assign rfl) rfl ?_)
      refine RV.nil ?_
      refine KV.then_n ?_
      refine KV.env [(0, _), (1, _), (2, _), (7, _), (8, _), (9, _), (10, _)] ⟨rfl, rfl, rfl, rfl, rfl, rfl, rfl, trivial⟩ ?_
      refine CV.block ?_
      -- loop L7; live [0, 1, 2, 7, 8, 9, 10]
      refine KV.sel [0, 0] [_, _] rfl ?_
      refine CV.loop3 (fun (j : Nat) (A2 : Option Addr) (c2 : Nat) => j ≤ l.length) (fun (j : Nat) (A2 : Option Addr) (c2 : Nat) => l.length - j) (fun (j : Nat) (A2 : Option Addr) (c2 : Nat) => [(0, .slice A raw.length c), (1, .int .i64 a), (2, .slice B l.length d), (7, .slice At T.length ct), (8, .int .i64 p), (9, .slice A2 (someOps T l j).length c2), (10, .int .i64 j)]) (fun (j : Nat) (A2 : Option Addr) (c2 : Nat) => Hp I w [OS 25 ptK At ct T, OS 40 popK A2 c2 (someOps T l j)]) (0) (none) (0) (Nat.zero_le _) ⟨rfl, rfl, rfl, rfl, rfl, rfl, rfl, trivial⟩ (fun _ h => h) ?_
      intro j A2 c2 hinv
      have hsl := someOps_len T l hinv
      refine CV.seq ?_
      refine CV.seq ?_
      -- region 7 law.go:108
      refine CV.region ?_
      refine RV.op (OV.step gno (Step.move rfl) rfl ?_)
      refine RV.op (OV.step gno (Step.move rfl) rfl ?_)
      refine RV.op (OV.step gno (Step.lenSl Try.underlying35 rfl) rfl ?_)
      refine RV.op (OV.split gno (Step.lss rfl rfl) rfl (fun hj => ?_) (fun hj => ?_))
      · -- True
        refine RV.nil ?_
        refine KV.then_n ?_
        refine KV.env [(0, _), (1, _), (2, _), (7, _), (8, _), (9, _), (10, _), (31, _)] ⟨rfl, rfl, rfl, rfl, rfl, rfl, rfl, rfl, trivial⟩ ?_
        refine CV.cond_t rfl ?_
        refine CV.skip ?_
        refine KV.then_n ?_
        refine KV.env [(0, _), (1, _), (2, _), (7, _), (8, _), (9, _), (10, _)] ⟨rfl, rfl, rfl, rfl, rfl, rfl, rfl, trivial⟩ ?_
        refine CV.seq ?_
        refine CV.block ?_
        refine CV.seq ?_
        -- region 9 law.go:109
        have hv0 := hfo j
        have htm := tmB (l.getD j popK.d).val T.length hv0.1 (by omega)
        have ht2 := tmB (l.getD j popK.d).val 2 hv0.1 (by omega)
        refine CV.region ?_
        refine RV.op (OV.step gno (Step.move rfl) rfl ?_)
        refine RV.op (OV.step gno (Step.move rfl) rfl ?_)
        refine RV.op (OV.step gno (Step.move rfl) rfl ?_)
        refine RV.op (OV.step gno (Step.idx Try.underlying35 I40 (fun w h => h.rs ho (fun _ => hI _)) rfl rfl (rfl) _ rfl (by omega)) rfl ?_)
        refine RV.op (OV.step gno (Step.fieldAddr rfl (F40_1 _ _)) rfl ?_)
        refine RV.op (OV.step gno (Step.load Try.underlying23 rfl rfl (fun w h => (h.rs ho (fun _ => hI _)).cell (by omega) rfl)) rfl ?_)
        refine RV.op (OV.step gno (Step.move rfl) rfl ?_)
        refine RV.op (OV.step gno (Step.lenSl Try.underlying22 rfl) rfl ?_)
        (first | refine RV.op (OV.step gno (Step.convI Try.underlying3 Try.underlying23 rfl (wU64 (by omega) (by omega))) rfl ?_) | refine RV.op (OV.step gno (Step.convI Try.underlying3 Try.underlying23 rfl rfl) rfl ?_))
        refine RV.op (OV.step gno (Step.rem rfl rfl (by omega) (rfl)) rfl ?_)
        obtain ⟨q, hq⟩ := Int.eq_ofNat_of_zero_le htm.1
        rw [hq]
        refine RV.op (OV.step gno (Step.idx Try.underlying22 I25 (fun w h => h.os 0 rfl) rfl rfl (rfl) _ rfl (by omega)) rfl ?_)
        refine RV.op (OV.step gno (Step.loadN _ Try.underlying25 rfl I25 rfl rfl (fun w h => (h.os 0 rfl).cells (by omega))) rfl ?_)
        refine RV.op (OV.alloc #[.int .u64 0, .int .u64 0, .int .u64 0] I25 rfl gno rfl (fun b9_12 => ?_))
        refine RV.op (OV.store 2 [_, _, _] #[_, _, _] I25 rfl rfl rfl rfl rfl (Nat.le_of_ble_eq_true rfl) (by simp [Value.oneCell']) rfl gno ?_)
        refine RV.nil ?_
        refine KV.then_n ?_
        refine KV.env [(0, _), (1, _), (2, _), (7, _), (8, _), (9, _), (10, _), (11, _)] ⟨rfl, rfl, rfl, rfl, rfl, rfl, rfl, rfl, trivial⟩ ?_
        refine CV.seq ?_
        -- region 10 law.go:110
        refine CV.any (Hp I w [Blk b9_12 (.cells #[.int .u64 (T.getD q ptK.d).f, .int .u64 (T.getD q ptK.d).v, .int .u64 (T.getD q ptK.d).p] 25 (0, 0))]) (by kernel_rfl) (fun _ h => h.drew) 10 rfl ?_
        refine AV.take 0 #[true, false, false, false, false, false, false, false, false, false] rfl (by kernel_rfl) (by kernel_rfl) (by kernel_rfl) (fun _ _ _ h => h) gno (Step.move rfl) rfl (fun _ h => h.sel [2] rfl) (by kernel_rfl) ?_
        refine AV.take 1 #[true, true, false, false, false, false, false, false, false, false] rfl (by kernel_rfl) (by kernel_rfl) (by kernel_rfl) (fun _ _ _ h => h) gno (Step.move rfl) rfl (fun _ h => h.sel [2] rfl) (by kernel_rfl) ?_
        refine AV.take 2 #[true, true, true, false, false, false, false, false, false, false] rfl (by kernel_rfl) (by kernel_rfl) (by kernel_rfl) (fun _ _ _ h => h) gno (Step.idx Try.underlying35 I40 (fun w h => h.rs ho (fun _ => hI _)) rfl rfl (rfl) _ rfl (by omega)) rfl (fun _ h => h.sel [2] rfl) (by kernel_rfl) ?_
        refine AV.take 3 #[true, true, true, true, false, false, false, false, false, false] rfl (by kernel_rfl) (by kernel_rfl) (by kernel_rfl) (fun _ _ _ h => h) gno (Step.fieldAddr rfl (F40_0 _ _)) rfl (fun _ h => h.sel [2] rfl) (by kernel_rfl) ?_
        refine AV.take 4 #[true, true, true, true, true, false, false, false, false, false] rfl (by kernel_rfl) (by kernel_rfl) (by kernel_rfl) (fun _ _ _ h => h) gno (Step.load Try.underlying4 rfl rfl (fun w h => (h.rs ho (fun _ => hI _)).cell0 (by omega) rfl)) rfl (fun _ h => h.sel [2] rfl) (by kernel_rfl) ?_
        refine AV.take 5 #[true, true, true, true, true, true, false, false, false, false] rfl (by kernel_rfl) (by kernel_rfl) (by kernel_rfl) (fun _ _ _ h => h) gno (Step.fieldAddr rfl (F25_0 _ _)) rfl (fun _ h => h.sel [2] rfl) (by kernel_rfl) ?_
        refine AV.take 6 #[true, true, true, true, true, true, true, false, false, false] rfl (by kernel_rfl) (by kernel_rfl) (by kernel_rfl) (fun _ _ _ h => h) gno (Step.load Try.underlying23 rfl rfl (fun w h => h.cell 0 rfl rfl)) rfl (fun _ h => h.sel [2] rfl) (by kernel_rfl) ?_
        refine AV.take 7 #[true, true, true, true, true, true, true, true, false, false] rfl (by kernel_rfl) (by kernel_rfl) (by kernel_rfl) (fun _ _ _ h => h) gno (Step.build rfl (Bd40_0_1 _ _)) rfl (fun _ h => h.sel [2] rfl) (by kernel_rfl) ?_
        refine AV.all [8] (by kernel_rfl) (by decide) ?_
        refine ⟨⟨_, rfl, ?_⟩, trivial⟩
        · -- 8 comes up
          refine OV.alloc #[.bool false, .int .u64 0] I40 rfl gno rfl (fun b10_8 => ?_)
          refine AV.next #[true, true, true, true, true, true, true, true, true, false] (by kernel_rfl) (fun _ h => h.sel [2] rfl) ?_
          refine AV.all [9] (by kernel_rfl) (by decide) ?_
          refine ⟨⟨_, rfl, ?_⟩, trivial⟩
          · -- 9 comes up
            refine OV.store 3 [_, _] #[_, _] I40 rfl rfl rfl rfl rfl (Nat.le_of_ble_eq_true rfl) (by simp [Value.oneCell']) rfl gno ?_
            refine AV.next #[true, true, true, true, true, true, true, true, true, true] (by kernel_rfl) (fun _ h => h.sel [2] rfl) ?_
            refine AV.done (by kernel_rfl) ?_
            refine KV.then_n ?_
            refine KV.env [(0, _), (1, _), (2, _), (7, _), (8, _), (9, _), (10, _), (11, _), (12, _)] ⟨rfl, rfl, rfl, rfl, rfl, rfl, rfl, rfl, rfl, trivial⟩ ?_
            refine CV.seq ?_
            refine CV.seq ?_
            -- region 11 law.go:111
            refine CV.region ?_
            refine RV.op (OV.step gno (Step.fieldAddr rfl (F40_0 _ _)) rfl ?_)
            refine RV.op (OV.step gno (Step.load Try.underlying4 rfl rfl (fun w h => h.cell 3 rfl rfl)) rfl ?_)
            refine RV.nil ?_
            refine KV.then_n ?_
            refine KV.env [(0, _), (1, _), (2, _), (7, _), (8, _), (9, _), (10, _), (11, _), (12, _), (55, _)] ⟨rfl, rfl, rfl, rfl, rfl, rfl, rfl, rfl, rfl, rfl, trivial⟩ ?_
            refine KV.cases 55 rfl (fun cc2 => ?_) (fun cc2 => ?_)
            · -- True
              refine CV.cond_t rfl ?_
              -- region 12 law.go:112
              have hbq := hok.big (show q < T.length by omega)
              have hfq := hfT q
              unfold fitP at hfq
              unfold pt at hbq hfq
              refine CV.stillTail 9 (by kernel_rfl) (by kernel_rfl) (fun _ h => h.drew) ?_
              refine SV.step gno (Step.fieldAddr rfl (F25_1 _ _)) rfl ?_
              refine SV.step gno (Step.load Try.underlying23 rfl rfl (fun w h => h.cell 2 rfl rfl)) rfl ?_
              refine SV.step gno (Step.move rfl) rfl ?_
              refine SV.step gno (Step.move rfl) rfl ?_
              refine SV.step gno (Step.idx Try.underlying35 I40 (fun w h => h.rs ho (fun _ => hI _)) rfl rfl (rfl) _ rfl (by omega)) rfl ?_
              refine SV.step gno (Step.fieldAddr rfl (F40_1 _ _)) rfl ?_
              refine SV.step gno (Step.load Try.underlying23 rfl rfl (fun w h => (h.rs ho (fun _ => hI _)).cell (by omega) rfl)) rfl ?_
              refine SV.step gno (Step.rem rfl rfl (by omega) (rfl)) rfl ?_
              (first | refine SV.step gno (Step.add rfl rfl (wU64 (by omega) (by omega))) rfl ?_ | refine SV.step gno (Step.add rfl rfl rfl) rfl ?_)
              refine SV.nil ?_
              show KV _ (wpList _ _ _ _) _ _
              refine RV.op (OV.step gno (Step.fieldAddr rfl (F40_1 _ _)) rfl ?_)
              refine RV.op (OV.store 3 [_] #[_, _] I23 rfl rfl rfl rfl rfl (Nat.le_of_ble_eq_true rfl) (by simp [Value.oneCell']) rfl gno ?_)
              refine RV.nil ?_
              refine KV.then_n ?_
              refine KV.env [(0, _), (1, _), (2, _), (7, _), (8, _), (9, _), (10, _), (12, _)] ⟨rfl, rfl, rfl, rfl, rfl, rfl, rfl, rfl, trivial⟩ ?_
              -- region 13 law.go:114
              refine CV.region ?_
              refine RV.op (OV.step gno (Step.move rfl) rfl ?_)
              refine RV.op (OV.step gno (Step.loadN _ Try.underlying40 rfl I40 rfl rfl (fun w h => h.cells 3 rfl)) rfl ?_)
              refine RV.op (OV.buildSlice (K := popK) ([someO T (l.getD j popK.d)]) rfl (Bs35_1_0 _ _) rfl (by first | (rw [someO_eq hq, if_pos (by assumption)]; rfl) | (rw [someO_eq hq, if_neg (by rw [‹(l.getD j popK.d).volt = false›]; decide)]; rfl)) (by omega) gno rfl (fun b13_2 => ?_))
              refine RV.op (OV.append 1 Try.underlying35 I40 rfl rfl rfl rfl rfl rfl (fun w h => h.os 4 rfl) (by simp only [List.length_cons, List.length_nil]; omega) (by simp only [List.length_cons, List.length_nil]; omega) gno rfl (fun A3 c3 => ?_))
              refine RV.op (OV.step gno (Step.assign rfl) rfl ?_)
              refine RV.nil ?_
              refine KV.block_n ?_
              refine KV.then_n ?_
              refine KV.env [(0, _), (1, _), (2, _), (7, _), (8, _), (9, _), (10, _)] ⟨rfl, rfl, rfl, rfl, rfl, rfl, rfl, trivial⟩ ?_
              -- region 8 law.go:108
              refine CV.region ?_
              refine RV.op (OV.step gno (Step.move rfl) rfl ?_)
              (first | refine RV.op (OV.step gno (Step.add rfl rfl (wI64 (by omega) (by omega))) rfl ?_) | refine RV.op (OV.step gno (Step.add rfl rfl rfl) rfl ?_))
              refine RV.op (OV.step gno (Step.assign rfl) rfl ?_)
              refine RV.nil ?_
              refine KV.then_n ?_
              refine KV.env [(0, _), (1, _), (2, _), (7, _), (8, _), (9, _), (10, _)] ⟨rfl, rfl, rfl, rfl, rfl, rfl, rfl, trivial⟩ ?_
              refine KV.sel [0, 0] [_, _] rfl ?_
              have hsu := someOps_succ T l (j := j) (by omega)
              exact KV.loop3 (x := j) (y := A2) (z := c2) (j + 1) (A3) (c3) (by omega) (by omega) ⟨rfl, rfl, rfl, rfl, rfl, (show some (Value.slice _ _ _) = some (Value.slice _ _ _) by rw [hsu]), rfl, trivial⟩ (fun _ h => by rw [hsu]; exact h)
            · -- False
              refine CV.cond_f rfl ?_
              refine CV.skip ?_
              refine KV.then_n ?_
              refine KV.env [(0, _), (1, _), (2, _), (7, _), (8, _), (9, _), (10, _), (12, _)] ⟨rfl, rfl, rfl, rfl, rfl, rfl, rfl, rfl, trivial⟩ ?_
              -- region 13 law.go:114
              refine CV.region ?_
              refine RV.op (OV.step gno (Step.move rfl) rfl ?_)
              refine RV.op (OV.step gno (Step.loadN _ Try.underlying40 rfl I40 rfl rfl (fun w h => h.cells 3 rfl)) rfl ?_)
              refine RV.op (OV.buildSlice (K := popK) ([someO T (l.getD j popK.d)]) rfl (Bs35_1_0 _ _) rfl (by first | (rw [someO_eq hq, if_pos (by assumption)]; rfl) | (rw [someO_eq hq, if_neg (by rw [‹(l.getD j popK.d).volt = false›]; decide)]; rfl)) (by omega) gno rfl (fun b13_2 => ?_))
              refine RV.op (OV.append 1 Try.underlying35 I40 rfl rfl rfl rfl rfl rfl (fun w h => h.os 4 rfl) (by simp only [List.length_cons, List.length_nil]; omega) (by simp only [List.length_cons, List.length_nil]; omega) gno rfl (fun A3 c3 => ?_))
              refine RV.op (OV.step gno (Step.assign rfl) rfl ?_)
              refine RV.nil ?_
              refine KV.block_n ?_
              refine KV.then_n ?_
              refine KV.env [(0, _), (1, _), (2, _), (7, _), (8, _), (9, _), (10, _)] ⟨rfl, rfl, rfl, rfl, rfl, rfl, rfl, trivial⟩ ?_
              -- region 8 law.go:108
              refine CV.region ?_
              refine RV.op (OV.step gno (Step.move rfl) rfl ?_)
              (first | refine RV.op (OV.step gno (Step.add rfl rfl (wI64 (by omega) (by omega))) rfl ?_) | refine RV.op (OV.step gno (Step.add rfl rfl rfl) rfl ?_))
              refine RV.op (OV.step gno (Step.assign rfl) rfl ?_)
              refine RV.nil ?_
              refine KV.then_n ?_
              refine KV.env [(0, _), (1, _), (2, _), (7, _), (8, _), (9, _), (10, _)] ⟨rfl, rfl, rfl, rfl, rfl, rfl, rfl, trivial⟩ ?_
              refine KV.sel [0, 0] [_, _] rfl ?_
              have hsu := someOps_succ T l (j := j) (by omega)
              exact KV.loop3 (x := j) (y := A2) (z := c2) (j + 1) (A3) (c3) (by omega) (by omega) ⟨rfl, rfl, rfl, rfl, rfl, (show some (Value.slice _ _ _) = some (Value.slice _ _ _) by rw [hsu]), rfl, trivial⟩ (fun _ h => by rw [hsu]; exact h)
      · -- False
        obtain rfl : j = l.length := by omega
        refine RV.nil ?_
        refine KV.then_n ?_
        refine KV.env [(0, _), (1, _), (2, _), (7, _), (8, _), (9, _), (10, _), (31, _)] ⟨rfl, rfl, rfl, rfl, rfl, rfl, rfl, rfl, trivial⟩ ?_
        refine CV.cond_f rfl ?_
        refine CV.exit ?_
        refine KV.then_exit ?_
        refine KV.then_exit ?_
        refine KV.block_hit ?_
        refine KV.then_n ?_
        refine KV.env [(0, _), (1, _), (2, _), (7, _), (8, _), (9, _)] ⟨rfl, rfl, rfl, rfl, rfl, rfl, trivial⟩ ?_
        refine CV.seq ?_
        -- region 14 law.go:116
        refine CV.region ?_
        refine RV.op (OV.step gno (Step.move rfl) rfl ?_)
        refine RV.op (OV.step gno (Step.move rfl) rfl ?_)
        refine RV.op (OV.step gno (Step.move rfl) rfl ?_)
        refine RV.op (OV.call [] (F := [_, _]) Try.func22 B22 N22 rfl rfl (fun w h => safe_fn (h.rs hr (fun _ => hI _)) (rfl) (by omega) (h.rs ho (fun _ => hI _)) (rfl) (by omega) a) (fun _ hb => hb.elim) gno rfl (fun v L' hp => ?_))
        obtain ⟨rfl, rfl⟩ := hp
        simp only [List.append_nil]
        refine RV.op (OV.step gno (Step.move rfl) rfl ?_)
        refine RV.op (OV.step gno (Step.move rfl) rfl ?_)
        refine RV.op (OV.step gno (Step.move rfl) rfl ?_)
        refine RV.op (OV.call [] (F := [_, _]) Try.func23 B23 N23 rfl rfl (fun w h => safeR_fn (h.rs hr (fun _ => hI _)) (rfl) (by omega) (h.rs ho (fun _ => hI _)) (rfl) (by omega) a) (fun _ hb => hb.elim) gno rfl (fun v L' hp => ?_))
        obtain ⟨rfl, rfl⟩ := hp
        simp only [List.append_nil]
        rw [← safe_eq]
        refine RV.op (OV.split gno (Step.eqlBool Try.underlying4 rfl rfl) rfl (fun e8 => ?_) (fun e8 => ?_))
        · -- True
          refine RV.op (OV.step gno (Step.move rfl) rfl ?_)
          refine RV.op (OV.step (gyes rfl) (Step.move rfl) rfl ?_)
          refine RV.op (OV.step (gyes rfl) (Step.move rfl) rfl ?_)
          refine RV.op (OV.step (gyes rfl) (Step.move rfl) rfl ?_)
          refine RV.op (OV.call [] (F := [_, _]) Try.func22 B22 N22 rfl rfl (fun w h => safe_fn (h.os 0 rfl) (rfl) (by omega) (h.rs ho (fun _ => hI _)) (rfl) (by omega) p) (fun _ hb => hb.elim) (gyes rfl) rfl (fun v L' hp => ?_))
          obtain ⟨rfl, rfl⟩ := hp
          simp only [List.append_nil]
          refine RV.op (OV.step (gyes rfl) (Step.move rfl) rfl ?_)
          refine RV.op (OV.step (gyes rfl) (Step.move rfl) rfl ?_)
          refine RV.op (OV.step (gyes rfl) (Step.move rfl) rfl ?_)
          refine RV.op (OV.call [] (F := [_, _]) Try.func23 B23 N23 rfl rfl (fun w h => safeR_fn (h.os 0 rfl) (rfl) (by omega) (h.rs ho (fun _ => hI _)) (rfl) (by omega) p) (fun _ hb => hb.elim) (gyes rfl) rfl (fun v L' hp => ?_))
          obtain ⟨rfl, rfl⟩ := hp
          simp only [List.append_nil]
          rw [← safe_eq]
          refine RV.op (OV.split (gyes rfl) (Step.eqlBool Try.underlying4 rfl rfl) rfl (fun e18 => ?_) (fun e18 => ?_))
          · -- True
            refine RV.op (OV.step gno (Step.pick_t rfl rfl) rfl ?_)
            refine RV.op (OV.step gno (Step.move rfl) rfl ?_)
            refine RV.op (OV.step (gyes rfl) (Step.move rfl) rfl ?_)
            refine RV.op (OV.step (gyes rfl) (Step.move rfl) rfl ?_)
            refine RV.op (OV.step (gyes rfl) (Step.move rfl) rfl ?_)
            refine RV.op (OV.call [] (F := [_, _]) Try.func22 B22 N22 rfl rfl (fun w h => safe_fn (h.os 0 rfl) (rfl) (by omega) (h.os 1 rfl) (rfl) (by rw [someOps_len T l (Nat.le_refl _)]; omega) p) (fun _ hb => hb.elim) (gyes rfl) rfl (fun v L' hp => ?_))
            obtain ⟨rfl, rfl⟩ := hp
            simp only [List.append_nil]
            refine RV.op (OV.step (gyes rfl) (Step.move rfl) rfl ?_)
            refine RV.op (OV.step (gyes rfl) (Step.move rfl) rfl ?_)
            refine RV.op (OV.step (gyes rfl) (Step.move rfl) rfl ?_)
            refine RV.op (OV.call [] (F := [_, _]) Try.func23 B23 N23 rfl rfl (fun w h => safeR_fn (h.os 0 rfl) (rfl) (by omega) (h.os 1 rfl) (rfl) (by rw [someOps_len T l (Nat.le_refl _)]; omega) p) (fun _ hb => hb.elim) (gyes rfl) rfl (fun v L' hp => ?_))
            obtain ⟨rfl, rfl⟩ := hp
            simp only [List.append_nil]
            rw [← safe_eq]
            refine RV.op (OV.split (gyes rfl) (Step.eqlBool Try.underlying4 rfl rfl) rfl (fun e29 => ?_) (fun e29 => ?_))
            · -- True
              refine RV.op (OV.step gno (Step.pick_t rfl rfl) rfl ?_)
              refine RV.op (OV.step gno (Step.move rfl) rfl ?_)
              refine RV.op (OV.step (gyes rfl) (Step.move rfl) rfl ?_)
              refine RV.op (OV.step (gyes rfl) (Step.move rfl) rfl ?_)
              refine RV.op (OV.step (gyes rfl) (Step.move rfl) rfl ?_)
              refine RV.op (OV.call [] (F := [_, _]) Try.func22 B22 N22 rfl rfl (fun w h => safe_fn (h.os 0 rfl) (rfl) (by omega) (h.os 1 rfl) (rfl) (by rw [someOps_len T l (Nat.le_refl _)]; omega) a) (fun _ hb => hb.elim) (gyes rfl) rfl (fun v L' hp => ?_))
              obtain ⟨rfl, rfl⟩ := hp
              simp only [List.append_nil]
              refine RV.op (OV.step (gyes rfl) (Step.move rfl) rfl ?_)
              refine RV.op (OV.step (gyes rfl) (Step.move rfl) rfl ?_)
              refine RV.op (OV.step (gyes rfl) (Step.move rfl) rfl ?_)
              refine RV.op (OV.call [] (F := [_, _]) Try.func23 B23 N23 rfl rfl (fun w h => safeR_fn (h.os 0 rfl) (rfl) (by omega) (h.os 1 rfl) (rfl) (by rw [someOps_len T l (Nat.le_refl _)]; omega) a) (fun _ hb => hb.elim) (gyes rfl) rfl (fun v L' hp => ?_))
              obtain ⟨rfl, rfl⟩ := hp
              simp only [List.append_nil]
              rw [← safe_eq]
              refine RV.op (OV.split (gyes rfl) (Step.eqlBool Try.underlying4 rfl rfl) rfl (fun e40 => ?_) (fun e40 => ?_))
              · -- True
                refine RV.op (OV.step gno (Step.pick_t rfl rfl) rfl ?_)
                refine RV.op (OV.step gno (Step.move rfl) rfl ?_)
                refine RV.op (OV.call [] (F := [_, _]) Try.func12 B12 N12 rfl rfl (fun w h => awake_fn) (fun _ hb => hb.elim) (gyes rfl) rfl (fun v L' hp => ?_))
                obtain ⟨rfl, rfl⟩ := hp
                simp only [List.append_nil]
                refine RV.op (OV.step gno (Step.pick_t rfl rfl) rfl ?_)
                refine RV.op (OV.step gno (Step.assign rfl) rfl ?_)
                refine RV.nil ?_
                refine KV.then_n ?_
                refine KV.env [(6, _)] ⟨rfl, trivial⟩ ?_
                refine CV.ret ?_
                -- return at r14
                refine KV.sel [] [] rfl ?_
                exact KV.ret1 rfl rfl _ (fun _ h => h) ⟨rfl, rfl⟩
              · -- False
                exact absurd rfl e40
            · -- False
              exact absurd rfl e29
          · -- False
            exact absurd rfl e18
        · -- False
          exact absurd rfl e8
end Go.Proofs.Ytaafpnoffdcbnaa
