/-
  Walks, part 2.
-/
import Derived.Test.YthdpojggdodpfaaTabs
import Derived.Test.YthdpojggdodpfaaW1
set_option linter.unusedSimpArgs false
set_option linter.unusedVariables false
namespace Go.Proofs.Ythdpojggdodpfaa
open Go.Sv Go.Ios
set_option maxRecDepth 100000 in
set_option maxHeartbeats 1000000 in
theorem closure_fn {bl ba : Nat} {x : Int} {q : Sp} {fz1 fz2 : Nat × Nat} {w : World} (h1 : w.heap[bl]? = some (.cells #[.slice q.A q.hs.length q.c] 67 fz1)) (h2 : w.heap[ba]? = some (.cells #[.int .u64 x] 22 fz2)) (hs : SpR w q) (ho : okS q.hs) {j : Nat} (hj : j < q.hs.length) : Fx Try.prog 48 [.int .i64 j, .pointer (some ⟨bl, 0, none⟩), .pointer (some ⟨ba, 0, none⟩)] w [] no (fun v L => v = .bool (decide (x ≤ (mh q.hs j).lst)) ∧ L = []) := by
  refine Sv.Fx.body Try.func48 rfl T48 rfl ?_
  intro I hro hI
  refine KV.env [(0, _), (1, _), (2, _)] ⟨rfl, rfl, rfl, trivial⟩ ?_
  refine CV.seq ?_
  -- region 0 iospace.go:57
  refine CV.region ?_
  refine RV.op (OV.step gno (Step.assign rfl) rfl ?_)
  refine RV.nil ?_
  refine KV.then_n ?_
  refine KV.env [(0, _), (1, _), (2, _)] ⟨rfl, rfl, rfl, trivial⟩ ?_
  refine CV.seq ?_
  -- region 1 iospace.go:57
  refine CV.any (Hp I w []) (by kernel_rfl) (fun _ h => h.drew) 11 rfl ?_
  refine AV.take 0 #[true, false, false, false, false, false, false, false, false, false, false] rfl (by kernel_rfl) (by kernel_rfl) (by kernel_rfl) (fun _ _ _ h => h) gno (Step.load Try.underlying67 rfl rfl (fun w h => (cell_of (h.ro h1 (hI _)) 0).trans rfl)) rfl (fun _ h => h.sel [] rfl) (by kernel_rfl) ?_
  refine AV.take 1 #[true, true, false, false, false, false, false, false, false, false, false] rfl (by kernel_rfl) (by kernel_rfl) (by kernel_rfl) (fun _ _ _ h => h) gno (Step.move rfl) rfl (fun _ h => h.sel [] rfl) (by kernel_rfl) ?_
  refine AV.take 2 #[true, true, true, false, false, false, false, false, false, false, false] rfl (by kernel_rfl) (by kernel_rfl) (by kernel_rfl) (fun _ _ _ h => h) gno (Step.idx Try.underlying67 I78 (fun w h => (hs.keep (same_of h hI)).1) rfl rfl (by simp) _ rfl (by simp; omega)) rfl (fun _ h => h.sel [] rfl) (by kernel_rfl) ?_
  refine AV.take 3 #[true, true, true, true, false, false, false, false, false, false, false] rfl (by kernel_rfl) (by kernel_rfl) (by kernel_rfl) (fun _ _ _ h => h) gno (Step.load Try.underlying78 rfl rfl (fun w h => (hs.keep (same_of h hI)).ptr (by omega))) rfl (fun _ h => h.sel [] rfl) (by kernel_rfl) ?_
  refine AV.take 4 #[true, true, true, true, true, false, false, false, false, false, false] rfl (by kernel_rfl) (by kernel_rfl) (by kernel_rfl) (fun _ _ _ h => h) gno (Step.nilCheck rfl) rfl (fun _ h => h.sel [] rfl) (by kernel_rfl) ?_
  refine AV.take 5 #[true, true, true, true, true, true, false, false, false, false, false] rfl (by kernel_rfl) (by kernel_rfl) (by kernel_rfl) (fun _ _ _ h => h) gno (Step.fieldAddr rfl (F77_0 _ _)) rfl (fun _ h => h.sel [] rfl) (by kernel_rfl) ?_
  refine AV.take 6 #[true, true, true, true, true, true, true, false, false, false, false] rfl (by kernel_rfl) (by kernel_rfl) (by kernel_rfl) (fun _ _ _ h => h) gno (Step.loadN _ Try.underlying32 rfl I32 rfl rfl (fun w h => ((hs.keep (same_of h hI)).2 j hj).rng)) rfl (fun _ h => h.sel [] rfl) (by kernel_rfl) ?_
  refine AV.take 8 #[true, true, true, true, true, true, true, false, true, false, false] rfl (by kernel_rfl) (by kernel_rfl) (by kernel_rfl) (fun _ _ _ h => h) gno (Step.load Try.underlying22 rfl rfl (fun w h => (cell_of (h.ro h2 (hI _)) 0).trans rfl)) rfl (fun _ h => h.sel [] rfl) (by kernel_rfl) ?_
  refine AV.all [7] (by kernel_rfl) (by decide) ?_
  refine ⟨⟨_, rfl, ?_⟩, trivial⟩
  · -- 7 comes up
    refine OV.call [] (F := []) Try.func31 B31 N31 rfl rfl (fun w h => last_fn (mh q.hs j).base (mh q.hs j).len) (fun _ hb => hb.elim) gno rfl (fun v L' hp => ?_)
    obtain ⟨rfl, rfl⟩ := hp
    simp only [List.append_nil]
    refine AV.next #[true, true, true, true, true, true, true, true, true, false, false] (by kernel_rfl) (fun _ h => h.sel [] rfl) ?_
    refine AV.take 9 #[true, true, true, true, true, true, true, true, true, true, false] rfl (by kernel_rfl) (by kernel_rfl) (by kernel_rfl) (fun _ _ _ h => h) gno (Step.geq rfl rfl) rfl (fun _ h => h.sel [] rfl) (by kernel_rfl) ?_
    refine AV.take 10 #[true, true, true, true, true, true, true, true, true, true, true] rfl (by kernel_rfl) (by kernel_rfl) (by kernel_rfl) (fun _ _ _ h => h) gno (Step.assign rfl) rfl (fun _ h => h.sel [] rfl) (by kernel_rfl) ?_
    refine AV.done (by kernel_rfl) ?_
    refine KV.then_n ?_
    refine KV.env [(4, _)] ⟨rfl, trivial⟩ ?_
    refine CV.ret ?_
    -- return at r1
    refine KV.sel [] [] rfl ?_
    exact KV.ret1 rfl rfl _ (fun _ h => h) ⟨by rw [lastW_eq (ho.each j hj).b (ho.each j hj).r], rfl⟩

set_option maxRecDepth 100000 in
set_option maxHeartbeats 1000000 in
theorem search_fn {bl ba : Nat} {x : Int} {q : Sp} {fz1 fz2 : Nat × Nat} {w : World} (h1 : w.heap[bl]? = some (.cells #[.slice q.A q.hs.length q.c] 67 fz1)) (h2 : w.heap[ba]? = some (.cells #[.int .u64 x] 22 fz2)) (hs : SpR w q) (ho : okS q.hs) (hl : q.hs.length ≤ 1000000) : Fx Try.prog 47 [.int .i64 q.hs.length, .func (.func 48) #[] #[.pointer (some ⟨bl, 0, none⟩), .pointer (some ⟨ba, 0, none⟩)]] w [] no (fun v L => v = .int .i64 (aftM q.hs x) ∧ L = []) := by
  refine Sv.Fx.body Try.func47 rfl T47 rfl ?_
  intro I hro hI
  refine KV.env [(0, _), (1, _)] ⟨rfl, rfl, trivial⟩ ?_
  refine CV.seq ?_
  -- region 0 search.go:58
  refine CV.region ?_
  refine RV.op (OV.step gno (Step.assign rfl) rfl ?_)
  refine RV.nil ?_
  refine KV.then_n ?_
  refine KV.env [(0, _), (1, _)] ⟨rfl, rfl, trivial⟩ ?_
  refine CV.seq ?_
  -- region 1 search.go:61
  refine CV.region ?_
  refine RV.op (OV.step gno (Step.move rfl) rfl ?_)
  refine RV.op (OV.step gno (Step.assign rfl) rfl ?_)
  refine RV.op (OV.step gno (Step.assign rfl) rfl ?_)
  refine RV.nil ?_
  refine KV.then_n ?_
  refine KV.env [(1, _), (5, _), (6, _)] ⟨rfl, rfl, rfl, trivial⟩ ?_
  refine CV.seq ?_
  refine CV.block ?_
  -- loop L2; live [1, 5, 6]
  refine KV.sel [] [] rfl ?_
  refine CV.loop2 (fun (i : Nat) (j : Nat) => (i ≤ j ∧ j ≤ q.hs.length) ∧ (∀ k, k < i → ¬ x ≤ (mh q.hs k).lst) ∧ (∀ k, j ≤ k → k < q.hs.length → x ≤ (mh q.hs k).lst)) (fun (i : Nat) (j : Nat) => j - i) (fun (i : Nat) (j : Nat) => [(1, .func (.func 48) #[] #[.pointer (some ⟨bl, 0, none⟩), .pointer (some ⟨ba, 0, none⟩)]), (5, .int .i64 i), (6, .int .i64 j)]) (fun (i : Nat) (j : Nat) => Hp I w []) (0) (q.hs.length) ⟨⟨Nat.zero_le _, Nat.le_refl _⟩, fun k hk => by omega, fun k h3 h4 => by omega⟩ ⟨rfl, rfl, rfl, trivial⟩ (fun _ h => h) ?_
  intro i j hinv
  refine CV.seq ?_
  refine CV.seq ?_
  -- region 2 search.go:62
  refine CV.region ?_
  refine RV.op (OV.step gno (Step.move rfl) rfl ?_)
  refine RV.op (OV.step gno (Step.move rfl) rfl ?_)
  refine RV.op (OV.split gno (Step.lss rfl rfl) rfl (fun hlt => ?_) (fun hlt => ?_))
  · -- True
    refine RV.nil ?_
    refine KV.then_n ?_
    refine KV.env [(1, _), (5, _), (6, _), (11, _)] ⟨rfl, rfl, rfl, rfl, trivial⟩ ?_
    refine CV.cond_t rfl ?_
    refine CV.skip ?_
    refine KV.then_n ?_
    refine KV.env [(1, _), (5, _), (6, _)] ⟨rfl, rfl, rfl, trivial⟩ ?_
    refine CV.block ?_
    refine CV.seq ?_
    -- region 3 search.go:63
    refine CV.region ?_
    refine RV.op (OV.step gno (Step.move rfl) rfl ?_)
    refine RV.op (OV.step gno (Step.move rfl) rfl ?_)
    (first | refine RV.op (OV.step gno (Step.add rfl rfl (wI64 (by omega) (by omega))) rfl ?_) | refine RV.op (OV.step gno (Step.add rfl rfl rfl) rfl ?_))
    (first | refine RV.op (OV.step gno (Step.convI Try.underlying3 Try.underlying72 rfl (wU64 (by omega) (by omega))) rfl ?_) | refine RV.op (OV.step gno (Step.convI Try.underlying3 Try.underlying72 rfl rfl) rfl ?_))
    refine RV.op (OV.step gno (Step.shr rfl rfl (by omega) (half i j)) rfl ?_)
    (first | refine RV.op (OV.step gno (Step.convI Try.underlying72 Try.underlying3 rfl (wI64 (by omega) (by omega))) rfl ?_) | refine RV.op (OV.step gno (Step.convI Try.underlying72 Try.underlying3 rfl rfl) rfl ?_))
    refine RV.op (OV.step gno (Step.assign rfl) rfl ?_)
    refine RV.nil ?_
    refine KV.then_n ?_
    refine KV.env [(1, _), (5, _), (6, _), (7, _)] ⟨rfl, rfl, rfl, rfl, trivial⟩ ?_
    refine CV.seq ?_
    -- region 4 search.go:65
    refine CV.region ?_
    refine RV.op (OV.step gno (Step.move rfl) rfl ?_)
    refine RV.op (OV.step gno (Step.move rfl) rfl ?_)
    refine RV.op (OV.callv [] (F := []) (caps := [_, _]) rfl Try.func48 B48 N48 rfl rfl (fun w h => closure_fn (h.ro h1 (hI _)) (h.ro h2 (hI _)) (hs.keep (same_of h hI)) ho (j := ((i + j) / 2)) (by omega)) (fun _ hb => hb.elim) gno rfl (fun v L' hp => ?_))
    obtain ⟨rfl, rfl⟩ := hp
    simp only [List.append_nil]
    by_cases hq : x ≤ (mh q.hs ((i + j) / 2)).lst
    · rw [decide_eq_true hq]
      refine RV.op (OV.step gno (Step.not rfl) rfl ?_)
      refine RV.nil ?_
      refine KV.then_n ?_
      refine KV.env [(1, _), (5, _), (6, _), (7, _), (21, _)] ⟨rfl, rfl, rfl, rfl, rfl, trivial⟩ ?_
      refine CV.cond_f rfl ?_
      -- region 6 search.go:68
      refine CV.region ?_
      refine RV.op (OV.step gno (Step.move rfl) rfl ?_)
      refine RV.op (OV.step gno (Step.assign rfl) rfl ?_)
      refine RV.nil ?_
      refine KV.block_n ?_
      refine KV.then_n ?_
      refine KV.env [(1, _), (5, _), (6, _)] ⟨rfl, rfl, rfl, trivial⟩ ?_
      refine KV.sel [] [] rfl ?_
      (first | exact KV.loop2 (x := i) (y := j) (((i + j) / 2) + 1) (j) ⟨by omega, fun k hk hx => hq (Int.le_trans hx (ho.mono (show k ≤ ((i + j) / 2) by omega) (by omega))), hinv.2.2⟩ (by omega) ⟨rfl, rfl, rfl, trivial⟩ (fun _ h => h) | exact KV.loop2 (x := i) (y := j) (i) (((i + j) / 2)) ⟨by omega, hinv.2.1, fun k h3 h4 => Int.le_trans hq (ho.mono h3 h4)⟩ (by omega) ⟨rfl, rfl, rfl, trivial⟩ (fun _ h => h))
    · rw [decide_eq_false hq]
      refine RV.op (OV.step gno (Step.not rfl) rfl ?_)
      refine RV.nil ?_
      refine KV.then_n ?_
      refine KV.env [(1, _), (5, _), (6, _), (7, _), (21, _)] ⟨rfl, rfl, rfl, rfl, rfl, trivial⟩ ?_
      refine CV.cond_t rfl ?_
      -- region 5 search.go:66
      refine CV.region ?_
      refine RV.op (OV.step gno (Step.move rfl) rfl ?_)
      (first | refine RV.op (OV.step gno (Step.add rfl rfl (wI64 (by omega) (by omega))) rfl ?_) | refine RV.op (OV.step gno (Step.add rfl rfl rfl) rfl ?_))
      refine RV.op (OV.step gno (Step.assign rfl) rfl ?_)
      refine RV.nil ?_
      refine KV.block_n ?_
      refine KV.then_n ?_
      refine KV.env [(1, _), (5, _), (6, _)] ⟨rfl, rfl, rfl, trivial⟩ ?_
      refine KV.sel [] [] rfl ?_
      (first | exact KV.loop2 (x := i) (y := j) (((i + j) / 2) + 1) (j) ⟨by omega, fun k hk hx => hq (Int.le_trans hx (ho.mono (show k ≤ ((i + j) / 2) by omega) (by omega))), hinv.2.2⟩ (by omega) ⟨rfl, rfl, rfl, trivial⟩ (fun _ h => h) | exact KV.loop2 (x := i) (y := j) (i) (((i + j) / 2)) ⟨by omega, hinv.2.1, fun k h3 h4 => Int.le_trans hq (ho.mono h3 h4)⟩ (by omega) ⟨rfl, rfl, rfl, trivial⟩ (fun _ h => h))
  · -- False
    refine RV.nil ?_
    refine KV.then_n ?_
    refine KV.env [(1, _), (5, _), (6, _), (11, _)] ⟨rfl, rfl, rfl, rfl, trivial⟩ ?_
    refine CV.cond_f rfl ?_
    refine CV.exit ?_
    refine KV.then_exit ?_
    refine KV.then_exit ?_
    refine KV.block_hit ?_
    refine KV.then_n ?_
    refine KV.env [(5, _)] ⟨rfl, trivial⟩ ?_
    refine CV.seq ?_
    -- region 7 search.go:72
    refine CV.region ?_
    refine RV.op (OV.step gno (Step.move rfl) rfl ?_)
    refine RV.op (OV.step gno (Step.assign rfl) rfl ?_)
    refine RV.nil ?_
    refine KV.then_n ?_
    refine KV.env [(4, _)] ⟨rfl, trivial⟩ ?_
    refine CV.ret ?_
    -- return at r7
    refine KV.sel [] [] rfl ?_
    exact KV.ret1 rfl rfl _ (fun _ h => h) ⟨by rw [aft_of (i := i) (by omega) hinv.2.1 (fun k h3 h4 => hinv.2.2 k (by omega) h4)], rfl⟩

set_option maxRecDepth 100000 in
set_option maxHeartbeats 1000000 in
theorem after_fn (b : Nat) (s : BS) {w : World} (hk : s.ok) {m : Nat} (hm : m < 3) (x : Int) : Fx Try.prog 26 [.pointer (some ⟨b, 0, none⟩), .int .i64 m, .int .u64 x] w (busL b s) no (fun v L => v = .int .i64 (aftM (s.sp m).hs x) ∧ L = busL b s) := by
  refine Sv.Fx.body Try.func26 rfl T26 rfl ?_
  intro I hro hI
  refine KV.env [(0, _), (1, _), (2, _)] ⟨rfl, rfl, rfl, trivial⟩ ?_
  have hw := hk.wf
  have hw3 := hw.sp
  have hlm := hk.len hm
  refine CV.seq ?_
  -- region 0 iospace.go:55
  refine CV.region ?_
  refine RV.op (OV.box (t := 22) #[_] rfl rfl gno rfl (fun b0_0 => ?_))
  refine RV.op (OV.step gno (Step.assign rfl) rfl ?_)
  refine RV.nil ?_
  refine KV.then_n ?_
  refine KV.env [(0, _), (1, _), (5, _)] ⟨rfl, rfl, rfl, trivial⟩ ?_
  refine CV.seq ?_
  -- region 1 iospace.go:56
  refine CV.region ?_
  refine RV.op (OV.step gno (Step.move rfl) rfl ?_)
  refine RV.op (OV.step gno (Step.move rfl) rfl ?_)
  refine RV.op (OV.step gno (Step.nilCheck rfl) rfl ?_)
  refine RV.op (OV.step gno (Step.fieldAddr rfl (F71_0 _ _)) rfl ?_)
  refine RV.op (OV.step gno (Step.idxArr Try.underlying68 I67 rfl rfl _ rfl (by omega)) rfl ?_)
  refine RV.op (OV.step gno (Step.load Try.underlying67 rfl rfl (fun w h => h.cell 0 rfl (busC_sp hw hm))) rfl ?_)
  refine RV.op (OV.alloc #[.slice none 0 0] I67 rfl gno rfl (fun b1_6 => ?_))
  refine RV.op (OV.store 5 [_] #[_] I67 rfl rfl rfl rfl rfl (Nat.le_of_ble_eq_true rfl) (by simp [Value.oneCell']) rfl gno ?_)
  refine RV.nil ?_
  refine KV.then_n ?_
  refine KV.env [(5, _), (7, _)] ⟨rfl, rfl, trivial⟩ ?_
  refine CV.seq ?_
  -- region 2 iospace.go:57
  refine CV.region ?_
  refine RV.op (OV.step gno (Step.load Try.underlying67 rfl rfl (fun w h => h.cell 5 rfl rfl)) rfl ?_)
  refine RV.op (OV.step gno (Step.lenSl Try.underlying67 rfl) rfl ?_)
  refine RV.op (OV.step gno (Step.makeFunc rfl) rfl ?_)
  refine RV.op (OV.call [] (F := [_, _, _, _, _, _]) Try.func47 B47 N47 rfl rfl (fun w h => search_fn (q := s.sp m) (h.blk 5 rfl) (h.blk 4 rfl) (show SpR w (s.sp m) from Hp.spr h (k := 1) rfl (m := m) (by omega)) (hk.sp m hm) (by omega)) (fun _ hb => hb.elim) gno rfl (fun v L' hp => ?_))
  obtain ⟨rfl, rfl⟩ := hp
  simp only [List.append_nil]
  refine RV.op (OV.step gno (Step.assign rfl) rfl ?_)
  refine RV.nil ?_
  refine KV.then_n ?_
  refine KV.env [(6, _)] ⟨rfl, trivial⟩ ?_
  refine CV.ret ?_
  -- return at r2
  refine KV.sel [0, 0, 0, 0] [_, _, _, _] rfl ?_
  exact KV.ret1 rfl rfl _ (fun _ h => h) ⟨rfl, rfl⟩

set_option maxRecDepth 100000 in
set_option maxHeartbeats 1000000 in
theorem find_fn (b : Nat) (s : BS) {w : World} (hk : s.ok) (z x : Int) : Fx Try.prog 30 [.pointer (some ⟨b, 0, none⟩), .int .i64 z, .int .u64 x] w (busL b s) no (fun v L => v = .pointer (fptr s z x) ∧ L = busL b s) := by
  refine Sv.Fx.body Try.func30 rfl T30 rfl ?_
  intro I hro hI
  refine KV.env [(0, _), (1, _), (2, _)] ⟨rfl, rfl, rfl, trivial⟩ ?_
  have hw := hk.wf
  have hw3 := hw.sp
  refine CV.seq ?_
  -- region 0 iospace.go:61
  refine CV.region ?_
  refine RV.op (OV.step gno (Step.assign rfl) rfl ?_)
  refine RV.nil ?_
  refine KV.then_n ?_
  refine KV.env [(0, _), (1, _), (2, _)] ⟨rfl, rfl, rfl, trivial⟩ ?_
  refine CV.seq ?_
  refine CV.seq ?_
  -- region 1 iospace.go:62
  refine CV.region ?_
  refine RV.op (OV.step gno (Step.move rfl) rfl ?_)
  refine RV.op (OV.call [] Try.func23 B23 N23 rfl rfl (fun w h => (validSpace_fn z).fn w) (fun _ hb => hb.elim) gno rfl (fun v L' hp => ?_))
  obtain ⟨rfl, rfl⟩ := hp
  simp only [List.append_nil]
  by_cases hz : 0 ≤ z ∧ z < 3
  · rw [decide_eq_true hz]
    obtain ⟨m, rfl⟩ := Int.eq_ofNat_of_zero_le hz.1
    have hm : m < 3 := by omega
    have hlm := hk.len hm
    have hsp := aft_spec (s.sp m).hs x
    refine RV.op (OV.step gno (Step.not rfl) rfl ?_)
    refine RV.nil ?_
    refine KV.then_n ?_
    refine KV.env [(0, _), (1, _), (2, _), (10, _)] ⟨rfl, rfl, rfl, rfl, trivial⟩ ?_
    refine CV.cond_f rfl ?_
    refine CV.skip ?_
    refine KV.then_n ?_
    refine KV.env [(0, _), (1, _), (2, _)] ⟨rfl, rfl, rfl, trivial⟩ ?_
    refine CV.seq ?_
    -- region 3 iospace.go:65
    refine CV.region ?_
    refine RV.op (OV.step gno (Step.move rfl) rfl ?_)
    refine RV.op (OV.step gno (Step.move rfl) rfl ?_)
    refine RV.op (OV.step gno (Step.move rfl) rfl ?_)
    refine RV.op (OV.call [0, 0, 0, 0] (F := []) Try.func26 B26 N26 rfl rfl (fun w h => after_fn b s hk hm x) (fun _ hb => hb.elim) gno rfl (fun v L' hp => ?_))
    obtain ⟨rfl, rfl⟩ := hp
    refine RV.op (OV.step gno (Step.assign rfl) rfl ?_)
    refine RV.nil ?_
    refine KV.then_n ?_
    refine KV.env [(0, _), (1, _), (2, _), (7, _)] ⟨rfl, rfl, rfl, rfl, trivial⟩ ?_
    refine CV.seq ?_
    refine CV.seq ?_
    -- region 4 iospace.go:66
    refine CV.region ?_
    refine RV.op (OV.step gno (Step.move rfl) rfl ?_)
    refine RV.op (OV.step gno (Step.move rfl) rfl ?_)
    refine RV.op (OV.step gno (Step.move rfl) rfl ?_)
    refine RV.op (OV.step gno (Step.nilCheck rfl) rfl ?_)
    refine RV.op (OV.step gno (Step.fieldAddr rfl (F71_0 _ _)) rfl ?_)
    refine RV.op (OV.step gno (Step.idxArr Try.underlying68 I67 rfl rfl _ rfl (by first | omega | (rw [List.length_map]; omega))) rfl ?_)
    refine RV.op (OV.step gno (Step.load Try.underlying67 rfl rfl (fun w h => h.cell 0 rfl (busC_sp hw hm))) rfl ?_)
    refine RV.op (OV.step gno (Step.lenSl Try.underlying67 rfl) rfl ?_)
    refine RV.op (OV.split gno (Step.eql rfl rfl) rfl (fun h1 => ?_) (fun h1 => ?_))
    · -- True
      refine RV.op (OV.step gno (Step.move rfl) rfl ?_)
      refine RV.op (OV.skip rfl rfl ?_)
      refine RV.op (OV.skip rfl rfl ?_)
      refine RV.op (OV.skip rfl rfl ?_)
      refine RV.op (OV.skip rfl rfl ?_)
      refine RV.op (OV.skip rfl rfl ?_)
      refine RV.op (OV.skip rfl rfl ?_)
      refine RV.op (OV.skip rfl rfl ?_)
      refine RV.op (OV.skip rfl rfl ?_)
      refine RV.op (OV.skip rfl rfl ?_)
      refine RV.op (OV.skip rfl rfl ?_)
      refine RV.op (OV.skip rfl rfl ?_)
      refine RV.op (OV.skip rfl rfl ?_)
      refine RV.op (OV.skip rfl rfl ?_)
      refine RV.op (OV.skip rfl rfl ?_)
      refine RV.op (OV.skip rfl rfl ?_)
      refine RV.op (OV.step gno (Step.pick_t rfl rfl) rfl ?_)
      refine RV.nil ?_
      refine KV.then_n ?_
      refine KV.env [(0, _), (1, _), (7, _), (40, _)] ⟨rfl, rfl, rfl, rfl, trivial⟩ ?_
      refine CV.cond_t rfl ?_
      refine CV.seq ?_
      -- region 5 iospace.go:67
      refine CV.region ?_
      refine RV.op (OV.step gno (Step.assign rfl) rfl ?_)
      refine RV.nil ?_
      refine KV.then_n ?_
      refine KV.env [(6, _)] ⟨rfl, trivial⟩ ?_
      refine CV.ret ?_
      refine KV.then_ret ?_
      -- return at r5
      refine KV.sel [0, 0, 0, 0] [_, _, _, _] rfl ?_
      exact KV.ret1 rfl rfl _ (fun _ h => h) ⟨by rw [fptr_none]; rw [fnd_ok hm]; first | exact findM_no1 (by omega) | exact findM_no2 h2, rfl⟩
    · -- False
      refine RV.op (OV.step gno (Step.move rfl) rfl ?_)
      refine RV.op (OV.step (gyes rfl) (Step.move rfl) rfl ?_)
      refine RV.op (OV.step (gyes rfl) (Step.move rfl) rfl ?_)
      refine RV.op (OV.step (gyes rfl) (Step.nilCheck rfl) rfl ?_)
      refine RV.op (OV.step (gyes rfl) (Step.fieldAddr rfl (F71_0 _ _)) rfl ?_)
      refine RV.op (OV.step (gyes rfl) (Step.idxArr Try.underlying68 I67 rfl rfl _ rfl (by first | omega | (rw [List.length_map]; omega))) rfl ?_)
      refine RV.op (OV.step (gyes rfl) (Step.load Try.underlying67 rfl rfl (fun w h => h.cell 0 rfl (busC_sp hw hm))) rfl ?_)
      refine RV.op (OV.step (gyes rfl) (Step.move rfl) rfl ?_)
      refine RV.op (OV.step (gyes rfl) (Step.idx Try.underlying67 I78 (fun w h => (show SpR w (s.sp m) from Hp.spr h (k := 1) rfl (m := m) (by omega)).1) rfl rfl ((List.length_map _).symm) _ rfl (by first | omega | (rw [List.length_map]; omega))) rfl ?_)
      refine RV.op (OV.step (gyes rfl) (Step.load Try.underlying78 rfl rfl (fun w h => (show SpR w (s.sp m) from Hp.spr h (k := 1) rfl (m := m) (by omega)).ptr (by omega))) rfl ?_)
      refine RV.op (OV.step (gyes rfl) (Step.nilCheck rfl) rfl ?_)
      refine RV.op (OV.step (gyes rfl) (Step.fieldAddr rfl (F77_0 _ _)) rfl ?_)
      refine RV.op (OV.step (gyes rfl) (Step.fieldAddr rfl (F32_0 _ _)) rfl ?_)
      refine RV.op (OV.step (gyes rfl) (Step.load Try.underlying22 rfl rfl (fun w h => ((show SpR w (s.sp m) from Hp.spr h (k := 1) rfl (m := m) (by omega)).2 (aftM (s.sp m).hs x) (by omega)).cell rfl)) rfl ?_)
      refine RV.op (OV.step (gyes rfl) (Step.move rfl) rfl ?_)
      refine RV.op (OV.split (gyes rfl) (Step.gtr rfl rfl) rfl (fun h2 => ?_) (fun h2 => ?_))
      · -- True
        refine RV.op (OV.step gno (Step.pick_f rfl rfl) rfl ?_)
        refine RV.nil ?_
        refine KV.then_n ?_
        refine KV.env [(0, _), (1, _), (7, _), (40, _)] ⟨rfl, rfl, rfl, rfl, trivial⟩ ?_
        refine CV.cond_t rfl ?_
        refine CV.seq ?_
        -- region 5 iospace.go:67
        refine CV.region ?_
        refine RV.op (OV.step gno (Step.assign rfl) rfl ?_)
        refine RV.nil ?_
        refine KV.then_n ?_
        refine KV.env [(6, _)] ⟨rfl, trivial⟩ ?_
        refine CV.ret ?_
        refine KV.then_ret ?_
        -- return at r5
        refine KV.sel [0, 0, 0, 0] [_, _, _, _] rfl ?_
        exact KV.ret1 rfl rfl _ (fun _ h => h) ⟨by rw [fptr_none]; rw [fnd_ok hm]; first | exact findM_no1 (by omega) | exact findM_no2 h2, rfl⟩
      · -- False
        refine RV.op (OV.step gno (Step.pick_f rfl rfl) rfl ?_)
        refine RV.nil ?_
        refine KV.then_n ?_
        refine KV.env [(0, _), (1, _), (7, _), (40, _)] ⟨rfl, rfl, rfl, rfl, trivial⟩ ?_
        refine CV.cond_f rfl ?_
        refine CV.skip ?_
        refine KV.then_n ?_
        refine KV.env [(0, _), (1, _), (7, _)] ⟨rfl, rfl, rfl, trivial⟩ ?_
        refine CV.seq ?_
        -- region 6 iospace.go:69
        refine CV.region ?_
        refine RV.op (OV.step gno (Step.move rfl) rfl ?_)
        refine RV.op (OV.step gno (Step.move rfl) rfl ?_)
        refine RV.op (OV.step gno (Step.nilCheck rfl) rfl ?_)
        refine RV.op (OV.step gno (Step.fieldAddr rfl (F71_0 _ _)) rfl ?_)
        refine RV.op (OV.step gno (Step.idxArr Try.underlying68 I67 rfl rfl _ rfl (by first | omega | (rw [List.length_map]; omega))) rfl ?_)
        refine RV.op (OV.step gno (Step.load Try.underlying67 rfl rfl (fun w h => h.cell 0 rfl (busC_sp hw hm))) rfl ?_)
        refine RV.op (OV.step gno (Step.move rfl) rfl ?_)
        refine RV.op (OV.step gno (Step.idx Try.underlying67 I78 (fun w h => (show SpR w (s.sp m) from Hp.spr h (k := 1) rfl (m := m) (by omega)).1) rfl rfl ((List.length_map _).symm) _ rfl (by first | omega | (rw [List.length_map]; omega))) rfl ?_)
        refine RV.op (OV.step gno (Step.load Try.underlying78 rfl rfl (fun w h => (show SpR w (s.sp m) from Hp.spr h (k := 1) rfl (m := m) (by omega)).ptr (by omega))) rfl ?_)
        refine RV.op (OV.step gno (Step.assign rfl) rfl ?_)
        refine RV.nil ?_
        refine KV.then_n ?_
        refine KV.env [(6, _)] ⟨rfl, trivial⟩ ?_
        refine CV.ret ?_
        -- return at r6
        refine KV.sel [0, 0, 0, 0] [_, _, _, _] rfl ?_
        exact KV.ret1 rfl rfl _ (fun _ h => h) ⟨by rw [fptr_some ((fnd_ok hm).trans (findM_yes (by omega) h2))], rfl⟩
  · rw [decide_eq_false hz]
    refine RV.op (OV.step gno (Step.not rfl) rfl ?_)
    refine RV.nil ?_
    refine KV.then_n ?_
    refine KV.env [(0, _), (1, _), (2, _), (10, _)] ⟨rfl, rfl, rfl, rfl, trivial⟩ ?_
    refine CV.cond_t rfl ?_
    refine CV.seq ?_
    -- region 2 iospace.go:63
    refine CV.region ?_
    refine RV.op (OV.step gno (Step.assign rfl) rfl ?_)
    refine RV.nil ?_
    refine KV.then_n ?_
    refine KV.env [(6, _)] ⟨rfl, trivial⟩ ?_
    refine CV.ret ?_
    refine KV.then_ret ?_
    -- return at r2
    refine KV.sel [0, 0, 0, 0] [_, _, _, _] rfl ?_
    exact KV.ret1 rfl rfl _ (fun _ h => h) ⟨by rw [fptr_none (fnd_bad hz)], rfl⟩
end Go.Proofs.Ythdpojggdodpfaa
