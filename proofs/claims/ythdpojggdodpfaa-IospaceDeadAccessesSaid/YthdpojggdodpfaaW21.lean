/-
  Walks, part 21.
-/
import Derived.Test.YthdpojggdodpfaaTabs
import Derived.Test.YthdpojggdodpfaaW20
import Derived.Test.YthdpojggdodpfaaW13
import Derived.Test.YthdpojggdodpfaaPlB
set_option linter.unusedSimpArgs false
set_option linter.unusedVariables false
namespace Go.Proofs.Ythdpojggdodpfaa
open Go.Sv Go.Ios
theorem mapO_fn (b : Nat) (s : BS) {w : World} (hk : s.ok) (z p q o : Int) (hp : isU p) : Fx Try.prog 11 [.pointer (some ⟨b, 0, none⟩), .int .i64 z, .agg #[.int .u64 p, .int .u64 q], .int .i64 o] w (busL b s) no (fun v L => ∃ e s2, v = .int .i64 e ∧ L = busL b s2 ∧ MapO s z p q o e s2) :=
  (map_fn b s hk z p q o hp).mono fun v L h => by
    by_cases hg : goodM z p q o
    · obtain ⟨m, rfl⟩ := Int.eq_ofNat_of_zero_le hg.1.1
      obtain ⟨h1, h2⟩ := h.2 m rfl hg
      by_cases hb : busy (s.sp m).hs p q
      · obtain ⟨h3, h4⟩ := h1 hb
        exact ⟨_, _, h3, h4, .busy m rfl hg hb⟩
      · by_cases ht : s.total = 256
        · obtain ⟨h3, h4⟩ := (h2 hb).1 ht
          exact ⟨_, _, h3, h4, .full m rfl hg hb ht⟩
        · obtain ⟨h3, bp, A, c, h4⟩ := (h2 hb).2 ht
          exact ⟨_, _, h3, h4, .done m bp A c rfl hg hb ht⟩
    · obtain ⟨h3, h4⟩ := h.1 hg
      exact ⟨_, _, h3, h4, .bad hg⟩
theorem mapR_fn (c : Nat) (r : RB) {w : World} (hk : r.ok) (z p q o : Int) (hp : isU p) : Fx Try.prog 35 [.pointer (some ⟨c, 0, none⟩), .int .i64 z, .agg #[.int .u64 p, .int .u64 q], .int .i64 o] w (rbL c r) no (fun v L => ∃ e r2, v = .int .i64 e ∧ L = rbL c r2 ∧ MapR r z p q o e r2) :=
  (rmap_fn c r hk z p q o hp).mono fun v L h => by
    by_cases hg : goodM z p q o
    · obtain ⟨h1, h2⟩ := h.2 hg
      by_cases hb : ∃ i, i < r.ms.length ∧ busyR r.ms z p q i
      · obtain ⟨h3, h4⟩ := h1 hb
        exact ⟨_, _, h3, h4, .busy hg hb⟩
      · have hb2 : ∀ i, i < r.ms.length → ¬ busyR r.ms z p q i := fun i hi k => hb ⟨i, hi, k⟩
        by_cases ht : r.ms.length = 256
        · obtain ⟨h3, h4⟩ := (h2 hb2).1 ht
          exact ⟨_, _, h3, h4, .full hg hb2 ht⟩
        · obtain ⟨h3, A, A2, c2, h4⟩ := (h2 hb2).2 ht
          exact ⟨_, _, h3, h4, .done A A2 c2 hg hb2 ht⟩
    · obtain ⟨h3, h4⟩ := h.1 hg
      exact ⟨_, _, h3, h4, .bad hg⟩
theorem unO_fn (b : Nat) (s : BS) {w : World} (hk : s.ok) (z p q : Int) (hp : isU p) : Fx Try.prog 36 [.pointer (some ⟨b, 0, none⟩), .int .i64 z, .agg #[.int .u64 p, .int .u64 q]] w (busL b s) no (fun v L => ∃ e s2, v = .int .i64 e ∧ L = busL b s2 ∧ UnO s z p q e s2) :=
  (unmap_fn b s hk z p q hp).mono fun v L h => by
    rcases h with ⟨m, i, h1, h2, h3⟩ | ⟨h1, h2, h3⟩
    · exact ⟨_, _, h2, h3, .yes m i h1⟩
    · exact ⟨_, _, h2, h3, .no h1⟩
theorem unR_fn (c : Nat) (r : RB) {w : World} (hk : r.ok) (z p q : Int) (hp : isU p) : Fx Try.prog 37 [.pointer (some ⟨c, 0, none⟩), .int .i64 z, .agg #[.int .u64 p, .int .u64 q]] w (rbL c r) no (fun v L => ∃ e r2, v = .int .i64 e ∧ L = rbL c r2 ∧ UnR r z p q e r2) :=
  (runmap_fn c r hk z p q hp).mono fun v L h => by
    rcases h with ⟨j, h0, h1, h2, A, d, h3⟩ | ⟨h1, h2, h3⟩
    · exact ⟨_, _, h2, h3, .yes j A d h0 h1⟩
    · exact ⟨_, _, h2, h3, .no h1⟩
theorem enO_fn (b : Nat) (s : BS) {w : World} (hk : s.ok) (o : Int) (v : Bool) : Fx Try.prog 12 [.pointer (some ⟨b, 0, none⟩), .int .i64 o, .bool v] w (busL b s) no (fun x L => ∃ e s2, x = .int .i64 e ∧ L = busL b s2 ∧ EnO s o v e s2) :=
  (enable_fn b s hk o v).mono fun x L h => by
    by_cases hg : 0 ≤ o ∧ o < 256
    · obtain ⟨h3, h4⟩ := h.2 hg
      exact ⟨_, _, h3, h4, .done hg⟩
    · obtain ⟨h3, h4⟩ := h.1 hg
      exact ⟨_, _, h3, h4, .bad hg⟩
theorem enR_fn (c : Nat) (r : RB) {w : World} (hk : r.ok) (o : Int) (v : Bool) : Fx Try.prog 38 [.pointer (some ⟨c, 0, none⟩), .int .i64 o, .bool v] w (rbL c r) no (fun x L => ∃ e r2, x = .int .i64 e ∧ L = rbL c r2 ∧ EnR r o v e r2) :=
  (renable_fn c r hk o v).mono fun x L h => by
    by_cases hg : 0 ≤ o ∧ o < 256
    · obtain ⟨h3, h4⟩ := h.2 hg
      exact ⟨_, _, h3, h4, .done hg⟩
    · obtain ⟨h3, h4⟩ := h.1 hg
      exact ⟨_, _, h3, h4, .bad hg⟩
theorem plO_fn (b : Nat) (s : BS) {w : World} (hk : s.ok) (z p q n : Int) (hp : isU p) : Fx Try.prog 16 [.pointer (some ⟨b, 0, none⟩), .int .i64 z, .agg #[.int .u64 p, .int .u64 q], .int .i64 n] w (busL b s) no (fun v L => ∃ e s2, v = .int .i64 e ∧ L = busL b s2 ∧ PlO s z p q n e s2) :=
  (planFault_fn b s hk z p q n hp).mono fun v L h => by
    by_cases hg : goodP z p q n
    · obtain ⟨h1, h2⟩ := h.2 hg
      by_cases ht : s.fl.length = 64
      · obtain ⟨h3, h4⟩ := h1 ht
        exact ⟨_, _, h3, h4, .full hg ht⟩
      · obtain ⟨h3, A, c, h4⟩ := h2 ht
        exact ⟨_, _, h3, h4, .done A c hg ht⟩
    · obtain ⟨h3, h4⟩ := h.1 hg
      exact ⟨_, _, h3, h4, .bad hg⟩
theorem plR_fn (c : Nat) (r : RB) {w : World} (hk : r.ok) (z p q n : Int) (hp : isU p) (hf : r.fl.length < 1000) : Fx Try.prog 39 [.pointer (some ⟨c, 0, none⟩), .int .i64 z, .agg #[.int .u64 p, .int .u64 q], .int .i64 n] w (rbL c r) no (fun v L => ∃ e r2, v = .int .i64 e ∧ L = rbL c r2 ∧ PlR r z p q n e r2) :=
  (rplan_fn c r hk z p q n hp hf).mono fun v L h => by
    by_cases hg : goodP z p q n
    · obtain ⟨h1, h2⟩ := h.2 hg
      by_cases ht : 64 ≤ lvC r.fl r.fl.length
      · obtain ⟨h3, h4⟩ := h1 ht
        exact ⟨_, _, h3, h4, .full hg ht⟩
      · obtain ⟨h3, A, c, h4⟩ := h2 ht
        exact ⟨_, _, h3, h4, .done A c hg ht⟩
    · obtain ⟨h3, h4⟩ := h.1 hg
      exact ⟨_, _, h3, h4, .bad hg⟩
theorem pkO_fn (b : Nat) (s : BS) {w : World} (hk : s.ok) (z x v : Int) (hx : isU x) (hv : 0 ≤ v ∧ v ≤ 255) : Fx Try.prog 40 [.pointer (some ⟨b, 0, none⟩), .int .i64 z, .int .u64 x, .int .u8 v] w (busL b s) no (fun y L => ∃ e s2, y = .bool e ∧ L = busL b s2 ∧ PkO s z x v e s2) :=
  (poke_fn b s hk z x v hx hv).mono fun y L h => by
    rcases h with ⟨h1, h2, h3⟩ | ⟨m, i, A, c, h1, h2, h3, h4, h5, h6, h7⟩
    · exact ⟨_, _, h2, h3, .no h1⟩
    · exact ⟨_, _, h6, h7, .yes m i A c h1 h2 h3 h4 h5⟩
theorem pkR_fn (c : Nat) (r : RB) {w : World} (hk : r.ok) (z x v : Int) (hx : isU x) (hv : 0 ≤ v ∧ v ≤ 255) : Fx Try.prog 41 [.pointer (some ⟨c, 0, none⟩), .int .i64 z, .int .u64 x, .int .u8 v] w (rbL c r) no (fun y L => ∃ e r2, y = .bool e ∧ L = rbL c r2 ∧ PkR r z x v e r2) :=
  (rpoke_fn c r hk z x v hx hv).mono fun y L h => by
    rcases h with ⟨h1, h2, h3⟩ | ⟨i, h1, h2, h3, h4⟩
    · exact ⟨_, _, h2, h3, .no h1⟩
    · exact ⟨_, _, h3, h4, .yes i h1 h2⟩
theorem acO_fn (b : Nat) (s : BS) {w : World} (hk : s.ok) (a : Acs) (hua : isU a.addr) (huv : isU a.val) : Fx Try.prog 13 [.pointer (some ⟨b, 0, none⟩), .agg #[.int .i64 a.space, .int .u64 a.addr, .int .i64 a.width, .bool a.wr, .int .u64 a.val]] w (busL b s) no (fun y L => ∃ v e s2, y = .tuple #[.int .u64 v, .int .i64 e] ∧ L = busL b s2 ∧ AccO s a v e s2) :=
  (access_fn b s hk a hua huv).mono fun y L h => by
    by_cases hg : wfA a
    · obtain ⟨h1, h2⟩ := h.2 hg
      by_cases ht : s.tr.length = 65536
      · obtain ⟨h3, h4⟩ := h1 ht
        exact ⟨_, _, _, h3, h4, .full hg ht⟩
      · obtain ⟨A, c, tA, tc, h5, h3, h4⟩ := h2 ht
        exact ⟨_, _, _, h3, h4, .done A c tA tc hg ht h5⟩
    · obtain ⟨h3, h4⟩ := h.1 hg
      exact ⟨_, _, _, h3, h4, .bad hg⟩
theorem acR_fn (c : Nat) (r : RB) {w : World} (hk : r.ok) (a : Acs) (hua : isU a.addr) (huv : isU a.val) : Fx Try.prog 42 [.pointer (some ⟨c, 0, none⟩), .agg #[.int .i64 a.space, .int .u64 a.addr, .int .i64 a.width, .bool a.wr, .int .u64 a.val]] w (rbL c r) no (fun y L => ∃ v e r2, y = .tuple #[.int .u64 v, .int .i64 e] ∧ L = rbL c r2 ∧ AccR r a v e r2) :=
  (raccess_fn c r hk a hua huv).mono fun y L h => by
    by_cases hg : wfA a
    · obtain ⟨h1, h2⟩ := h.2 hg
      by_cases ht : 65536 ≤ r.tr.length
      · obtain ⟨h3, h4⟩ := h1 ht
        exact ⟨_, _, _, h3, h4, .full hg ht⟩
      · obtain ⟨s2, x, lv, fl, A, c, h5, h3, h4⟩ := h2 ht
        exact ⟨_, _, _, h3, h4, .done s2 x lv fl A c hg ht h5⟩
    · obtain ⟨h3, h4⟩ := h.1 hg
      exact ⟨_, _, _, h3, h4, .bad hg⟩

set_option maxRecDepth 100000 in
set_option maxHeartbeats 1000000 in
theorem equalT_fn {A B : Option Addr} {n1 n2 c1 c2 : Nat} {l : List Trc} {w : World} (ha : RS w trcK A l) (hb : RS w trcK B l) (h1 : n1 = l.length) (h2 : n2 = l.length) (hl : l.length ≤ 1000000) : Fx Try.prog 20 [.slice A n1 c1, .slice B n2 c2] w [] no (fun v L => v = .bool true ∧ L = []) := by
  subst h1
  subst h2
  refine Sv.Fx.body Try.func20 rfl T20 rfl ?_
  intro I hro hI
  refine KV.env [(0, _), (1, _)] ⟨rfl, rfl, trivial⟩ ?_
  refine CV.seq ?_
  -- region 0 help.go:18
  refine CV.region ?_
  refine RV.op (OV.step gno (Step.assign rfl) rfl ?_)
  refine RV.nil ?_
  refine KV.then_n ?_
  refine KV.env [(0, _), (1, _)] ⟨rfl, rfl, trivial⟩ ?_
  refine CV.seq ?_
  refine CV.seq ?_
  -- region 1 help.go:19
  refine CV.region ?_
  refine RV.op (OV.step gno (Step.move rfl) rfl ?_)
  refine RV.op (OV.step gno (Step.lenSl Try.underlying54 rfl) rfl ?_)
  refine RV.op (OV.step gno (Step.move rfl) rfl ?_)
  refine RV.op (OV.step gno (Step.lenSl Try.underlying54 rfl) rfl ?_)
  refine RV.op (OV.split gno (Step.neq rfl rfl) rfl (fun cc1 => ?_) (fun cc1 => ?_))
  · -- True
    exact absurd rfl (by assumption)
  · -- False
    refine RV.nil ?_
    refine KV.then_n ?_
    refine KV.env [(0, _), (1, _), (10, _)] ⟨rfl, rfl, rfl, trivial⟩ ?_
    refine CV.cond_f rfl ?_
    refine CV.skip ?_
    refine KV.then_n ?_
    refine KV.env [(0, _), (1, _)] ⟨rfl, rfl, trivial⟩ ?_
    refine CV.seq ?_
    refine CV.seq ?_
    -- region 3 help.go:22
    refine CV.region ?_
    refine RV.op (OV.step gno (Step.assign rfl) rfl ?_)
    refine RV.nil ?_
    refine KV.then_n ?_
    refine KV.env [(0, _), (1, _), (5, _)] ⟨rfl, rfl, rfl, trivial⟩ ?_
    refine CV.block ?_
    -- loop L4; live [0, 1, 5]
    refine KV.sel [] [] rfl ?_
    refine CV.loopI (fun (j : Nat) => j ≤ l.length) (fun (j : Nat) => l.length - j) (fun (j : Nat) => [(0, .slice A l.length c1), (1, .slice B l.length c2), (5, .int .i64 j)]) (fun (j : Nat) => Hp I w []) (0) (Nat.zero_le _) ⟨rfl, rfl, rfl, trivial⟩ (fun _ h => h) ?_
    intro j hinv
    refine CV.seq ?_
    refine CV.seq ?_
    -- region 4 help.go:22
    refine CV.region ?_
    refine RV.op (OV.step gno (Step.move rfl) rfl ?_)
    refine RV.op (OV.step gno (Step.move rfl) rfl ?_)
    refine RV.op (OV.step gno (Step.lenSl Try.underlying54 rfl) rfl ?_)
    refine RV.op (OV.split gno (Step.lss rfl rfl) rfl (fun hj => ?_) (fun hj => ?_))
    · -- True
      refine RV.nil ?_
      refine KV.then_n ?_
      refine KV.env [(0, _), (1, _), (5, _), (14, _)] ⟨rfl, rfl, rfl, rfl, trivial⟩ ?_
      refine CV.cond_t rfl ?_
      refine CV.skip ?_
      refine KV.then_n ?_
      refine KV.env [(0, _), (1, _), (5, _)] ⟨rfl, rfl, rfl, trivial⟩ ?_
      refine CV.seq ?_
      refine CV.block ?_
      refine CV.seq ?_
      -- region 6 help.go:23
      refine CV.still (by kernel_rfl) (by kernel_rfl) (fun _ h => h.drew) ?_
      refine SV.step gno (Step.move rfl) rfl ?_
      refine SV.step gno (Step.move rfl) rfl ?_
      refine SV.step gno (Step.idx Try.underlying54 I63 (fun w h => h.rs ha (fun _ => hI _)) rfl rfl (rfl) _ rfl (by omega)) rfl ?_
      refine SV.step gno (Step.loadN _ Try.underlying63 rfl I63 rfl rfl (fun w h => (h.rs ha (fun _ => hI _)).cells (by omega))) rfl ?_
      refine SV.step gno (Step.move rfl) rfl ?_
      refine SV.step gno (Step.move rfl) rfl ?_
      refine SV.step gno (Step.idx Try.underlying54 I63 (fun w h => h.rs hb (fun _ => hI _)) rfl rfl (rfl) _ rfl (by omega)) rfl ?_
      refine SV.step gno (Step.loadN _ Try.underlying63 rfl I63 rfl rfl (fun w h => (h.rs hb (fun _ => hI _)).cells (by omega))) rfl ?_
      refine SV.split gno (Step.binR rfl rfl (EG63neq _ _ _ _) (EQ63 _ _ _ _ _ _ _ _)) rfl (fun k => absurd trivial k) (fun _ => ?_)
      refine SV.nil ?_
      refine KV.then_n ?_
      refine KV.env [(0, _), (1, _), (5, _), (25, _)] ⟨rfl, rfl, rfl, rfl, trivial⟩ ?_
      refine CV.cond_f rfl ?_
      refine CV.skip ?_
      refine KV.block_n ?_
      refine KV.then_n ?_
      refine KV.env [(0, _), (1, _), (5, _)] ⟨rfl, rfl, rfl, trivial⟩ ?_
      -- region 5 help.go:22
      refine CV.region ?_
      refine RV.op (OV.step gno (Step.move rfl) rfl ?_)
      (first | refine RV.op (OV.step gno (Step.add rfl rfl (wI64 (by omega) (by omega))) rfl ?_) | refine RV.op (OV.step gno (Step.add rfl rfl rfl) rfl ?_))
      refine RV.op (OV.step gno (Step.assign rfl) rfl ?_)
      refine RV.nil ?_
      refine KV.then_n ?_
      refine KV.env [(0, _), (1, _), (5, _)] ⟨rfl, rfl, rfl, trivial⟩ ?_
      refine KV.sel [] [] rfl ?_
      exact KV.loopI (z := j) (j + 1) (by omega) (by omega) ⟨rfl, rfl, rfl, trivial⟩ (fun _ h => h)
    · -- False
      refine RV.nil ?_
      refine KV.then_n ?_
      refine KV.env [(0, _), (1, _), (5, _), (14, _)] ⟨rfl, rfl, rfl, rfl, trivial⟩ ?_
      refine CV.cond_f rfl ?_
      refine CV.exit ?_
      refine KV.then_exit ?_
      refine KV.then_exit ?_
      refine KV.block_hit ?_
      refine KV.then_n ?_
      refine KV.env [] trivial ?_
      refine CV.seq ?_
      -- region 8 help.go:27
      refine CV.region ?_
      refine RV.op (OV.step gno (Step.assign rfl) rfl ?_)
      refine RV.nil ?_
      refine KV.then_n ?_
      refine KV.env [(4, _)] ⟨rfl, trivial⟩ ?_
      refine CV.ret ?_
      -- return at r8
      refine KV.sel [] [] rfl ?_
      exact KV.ret1 rfl rfl _ (fun _ h => h) ⟨rfl, rfl⟩

theorem wd6 {q : Nat} (h : q < 6) : ∃ k : Nat, ([1, 1, 2, 4, 8, 3] : List Int).getD q (intK .i64).d = k ∧ 1 ≤ k ∧ k ≤ 8 := by
  obtain rfl | rfl | rfl | rfl | rfl | rfl : q = 0 ∨ q = 1 ∨ q = 2 ∨ q = 3 ∨ q = 4 ∨ q = 5 := by omega
  · exact ⟨1, rfl, by omega, by omega⟩
  · exact ⟨1, rfl, by omega, by omega⟩
  · exact ⟨2, rfl, by omega, by omega⟩
  · exact ⟨4, rfl, by omega, by omega⟩
  · exact ⟨8, rfl, by omega, by omega⟩
  · exact ⟨3, rfl, by omega, by omega⟩
theorem rem_le {x y : Int} (h : 0 ≤ x) : 0 ≤ x.tmod y ∧ x.tmod y ≤ x := by
  rcases Int.natAbs_eq y with e | e
  · rw [e, Int.tmod_eq_emod_of_nonneg h]
    by_cases h0 : y.natAbs = 0
    · rw [h0]; simp; omega
    · exact ⟨Int.emod_nonneg _ (by omega), by have := Int.emod_add_mul_ediv x y.natAbs; have := Int.mul_nonneg (show (0:Int) ≤ y.natAbs by omega) (Int.ediv_nonneg h (show (0:Int) ≤ y.natAbs by omega)); omega⟩
  · rw [e, Int.tmod_neg, Int.tmod_eq_emod_of_nonneg h]
    by_cases h0 : y.natAbs = 0
    · rw [h0]; simp; omega
    · exact ⟨Int.emod_nonneg _ (by omega), by have := Int.emod_add_mul_ediv x y.natAbs; have := Int.mul_nonneg (show (0:Int) ≤ y.natAbs by omega) (Int.ediv_nonneg h (show (0:Int) ≤ y.natAbs by omega)); omega⟩

set_option maxRecDepth 100000 in
set_option maxHeartbeats 4000000 in
theorem some_fn (o : Ios.Op) (ho : okO o) {w : World} : Fx Try.prog 19 [.agg #[.int .i64 o.kind, .int .i64 o.space, .int .u64 o.addr, .int .u64 o.len, .int .i64 o.width, .int .i64 o.own, .bool o.wr, .int .u64 o.val, .bool o.raw]] w [] no (fun v L => ∃ o2 : Ios.Op, okO o2 ∧ v = .agg (opK.f o2).toArray ∧ L = []) := by
  refine Sv.Fx.body Try.func19 rfl T19 rfl ?_
  intro I hro hI
  refine KV.env [(0, _)] ⟨rfl, trivial⟩ ?_
  have ho2 := ho
  unfold okO isU at ho2
  refine CV.seq ?_
  -- region 0 law.go:38
  refine CV.region ?_
  refine RV.op (OV.box (t := 43) #[_, _, _, _, _, _, _, _, _] rfl rfl gno rfl (fun bo => ?_))
  refine RV.op (OV.alloc #[.int .i64 0, .int .i64 0, .int .u64 0, .int .u64 0, .int .i64 0, .int .i64 0, .bool false, .int .u64 0, .bool false] I43 rfl gno rfl (fun br => ?_))
  refine RV.nil ?_
  refine KV.then_n ?_
  refine KV.env [(1, _), (2, _)] ⟨rfl, rfl, trivial⟩ ?_
  refine CV.seq ?_
  -- region 1 law.go:39
  refine CV.region ?_
  refine RV.op (OV.step gno (Step.fieldAddr rfl (F43_0 _ _)) rfl ?_)
  refine RV.op (OV.step gno (Step.load Try.underlying3 rfl rfl (fun w h => h.cell 0 rfl rfl)) rfl ?_)
  refine RV.op (OV.call [] Try.func10 B10 N10 rfl rfl (fun w h => (mod_fn o.kind 16 (by omega) (by omega)).fn w) (fun _ hb => hb.elim) gno rfl (fun v L' hp => ?_))
  obtain ⟨rfl, rfl⟩ := hp
  simp only [List.append_nil]
  refine RV.op (OV.step gno (Step.fieldAddr rfl (F43_0 _ _)) rfl ?_)
  refine RV.op (OV.store 0 [_] #[_, _, _, _, _, _, _, _, _] I3 rfl rfl rfl rfl rfl (Nat.le_of_ble_eq_true rfl) (by simp [Value.oneCell']) rfl gno ?_)
  refine RV.nil ?_
  refine KV.then_n ?_
  refine KV.env [(1, _), (2, _)] ⟨rfl, rfl, trivial⟩ ?_
  refine CV.seq ?_
  refine CV.seq ?_
  -- region 2 law.go:40
  refine CV.region ?_
  refine RV.op (OV.step gno (Step.fieldAddr rfl (F43_8 _ _)) rfl ?_)
  refine RV.op (OV.step gno (Step.load Try.underlying4 rfl rfl (fun w h => h.cell 0 rfl rfl)) rfl ?_)
  refine RV.op (OV.step gno (Step.move rfl) rfl ?_)
  refine KV.cases 9 rfl (fun cc1 => ?_) (fun cc1 => ?_)
  · -- True
    refine RV.op (OV.step (gyes rfl) (Step.fieldAddr rfl (F43_0 _ _)) rfl ?_)
    refine RV.op (OV.step (gyes rfl) (Step.load Try.underlying3 rfl rfl (fun w h => h.cell 0 rfl rfl)) rfl ?_)
    refine RV.op (OV.split (gyes rfl) (Step.gtr rfl rfl) rfl (fun cc2 => ?_) (fun cc2 => ?_))
    · -- True
      refine RV.op (OV.step gno (Step.pick_t rfl rfl) rfl ?_)
      refine RV.nil ?_
      refine KV.then_n ?_
      refine KV.env [(1, _), (2, _), (13, _)] ⟨rfl, rfl, rfl, trivial⟩ ?_
      refine CV.cond_t rfl ?_
      refine CV.seq ?_
      -- region 3 law.go:41
      refine CV.region ?_
      refine RV.op (OV.step gno (Step.loadN _ Try.underlying43 rfl I43 rfl rfl (fun w h => h.cells 0 rfl)) rfl ?_)
      refine RV.op (OV.store 1 [_, _, _, _, _, _, _, _, _] #[_, _, _, _, _, _, _, _, _] I43 rfl rfl rfl rfl rfl (Nat.le_of_ble_eq_true rfl) (by simp [Value.oneCell']) rfl gno ?_)
      refine RV.nil ?_
      refine KV.then_n ?_
      refine KV.env [(2, _)] ⟨rfl, trivial⟩ ?_
      refine CV.ret ?_
      refine KV.then_ret ?_
      -- return at r3
      exact KV.retC1 [_, _, _, _, _, _, _, _, _] rfl rfl Try.underlying43 rfl I43 rfl (fun w h => h.cells 1 rfl) [] (fun _ h => h.sel [] rfl) ⟨⟨modM o.kind 16, o.space, o.addr, o.len, o.width, o.own, o.wr, o.val, o.raw⟩, ⟨ho.1, ho.2.1, ho.2.2⟩, rfl, rfl⟩
    · -- False
      refine RV.op (OV.step gno (Step.pick_t rfl rfl) rfl ?_)
      refine RV.nil ?_
      refine KV.then_n ?_
      refine KV.env [(1, _), (2, _), (13, _)] ⟨rfl, rfl, rfl, trivial⟩ ?_
      refine CV.cond_f rfl ?_
      refine CV.skip ?_
      refine KV.then_n ?_
      refine KV.env [(1, _), (2, _)] ⟨rfl, rfl, trivial⟩ ?_
      refine CV.seq ?_
      -- region 4 law.go:43
      refine CV.region ?_
      refine RV.op (OV.step gno (Step.fieldAddr rfl (F43_1 _ _)) rfl ?_)
      refine RV.op (OV.step gno (Step.load Try.underlying3 rfl rfl (fun w h => h.cell 0 rfl rfl)) rfl ?_)
      refine RV.op (OV.call [] Try.func10 B10 N10 rfl rfl (fun w h => (mod_fn o.space 4 (by omega) (by omega)).fn w) (fun _ hb => hb.elim) gno rfl (fun v L' hp => ?_))
      obtain ⟨rfl, rfl⟩ := hp
      simp only [List.append_nil]
      refine RV.op (OV.step gno (Step.fieldAddr rfl (F43_1 _ _)) rfl ?_)
      refine RV.op (OV.store 0 [_] #[_, _, _, _, _, _, _, _, _] I3 rfl rfl rfl rfl rfl (Nat.le_of_ble_eq_true rfl) (by simp [Value.oneCell']) rfl gno ?_)
      refine RV.nil ?_
      refine KV.then_n ?_
      refine KV.env [(1, _), (2, _)] ⟨rfl, rfl, trivial⟩ ?_
      -- join; live [1, 2]
      refine CV.join (fun (y : {y : Int // isU y}) => [(1, .pointer (some ⟨bo, 0, none⟩)), (2, .pointer (some ⟨br, 0, none⟩))]) (fun (y : {y : Int // isU y}) => Hp I w [Blk bo (.cells #[.int .i64 (modM o.kind 16), .int .i64 (modM o.space 4), .int .u64 (y.1), .int .u64 (o.len), .int .i64 (o.width), .int .i64 (o.own), .bool o.wr, .int .u64 o.val, .bool o.raw] 43 (0, 0)), Blk br (.cells #[.int .i64 0, .int .i64 0, .int .u64 0, .int .u64 0, .int .i64 0, .int .i64 0, .bool false, .int .u64 0, .bool false] 43 (0, 0))]) ?_ ?_
      · skip
        refine CV.seq ?_
        -- region 5 law.go:44
        refine CV.region ?_
        refine RV.op (OV.step gno (Step.fieldAddr rfl (F43_2 _ _)) rfl ?_)
        refine RV.op (OV.step gno (Step.load Try.underlying22 rfl rfl (fun w h => h.cell 0 rfl rfl)) rfl ?_)
        refine RV.op (OV.split gno (Step.gtr rfl rfl) rfl (fun cc3 => ?_) (fun cc3 => ?_))
        · -- True
          refine RV.nil ?_
          refine KV.then_n ?_
          refine KV.env [(1, _), (2, _), (21, _)] ⟨rfl, rfl, rfl, trivial⟩ ?_
          refine CV.cond_t rfl ?_
          -- region 6 law.go:45
          refine CV.region ?_
          refine RV.op (OV.step gno (Step.fieldAddr rfl (F43_2 _ _)) rfl ?_)
          refine RV.op (OV.step gno (Step.load Try.underlying22 rfl rfl (fun w h => h.cell 0 rfl rfl)) rfl ?_)
          refine RV.op (OV.step gno (Step.rem rfl rfl (by omega) (rfl)) rfl ?_)
          obtain ⟨p, hp1, hp2⟩ : ∃ p : Nat, o.addr.tmod 64 = p ∧ p < 64 := ⟨(o.addr % 64).toNat, by rw [Int.tmod_eq_emod_of_nonneg (by first | exact ho.1.1 | exact ho.2.1.1)]; omega, by omega⟩
          rw [hp1]
          (first | refine RV.op (OV.step gno (Step.sub rfl rfl (wU64 (by omega) (by omega))) rfl ?_) | refine RV.op (OV.step gno (Step.sub rfl rfl rfl) rfl ?_))
          refine RV.op (OV.step gno (Step.fieldAddr rfl (F43_2 _ _)) rfl ?_)
          refine RV.op (OV.store 0 [_] #[_, _, _, _, _, _, _, _, _] I22 rfl rfl rfl rfl rfl (Nat.le_of_ble_eq_true rfl) (by simp [Value.oneCell']) rfl gno ?_)
          refine RV.nil ?_
          refine KV.then_n ?_
          refine KV.env [(1, _), (2, _)] ⟨rfl, rfl, trivial⟩ ?_
          refine KV.sel [0, 0] [_, _] rfl ?_
          (first | exact KV.join (⟨18446744073709551615 - (p : Int), by unfold isU; omega⟩) ⟨rfl, rfl, trivial⟩ (fun _ h => h) | exact KV.join (⟨(p : Int), by unfold isU; omega⟩) ⟨rfl, rfl, trivial⟩ (fun _ h => h))
        · -- False
          refine RV.nil ?_
          refine KV.then_n ?_
          refine KV.env [(1, _), (2, _), (21, _)] ⟨rfl, rfl, rfl, trivial⟩ ?_
          refine CV.cond_f rfl ?_
          -- region 7 law.go:47
          refine CV.region ?_
          refine RV.op (OV.step gno (Step.fieldAddr rfl (F43_2 _ _)) rfl ?_)
          refine RV.op (OV.step gno (Step.load Try.underlying22 rfl rfl (fun w h => h.cell 0 rfl rfl)) rfl ?_)
          refine RV.op (OV.step gno (Step.rem rfl rfl (by omega) (rfl)) rfl ?_)
          obtain ⟨p, hp1, hp2⟩ : ∃ p : Nat, o.addr.tmod 64 = p ∧ p < 64 := ⟨(o.addr % 64).toNat, by rw [Int.tmod_eq_emod_of_nonneg (by first | exact ho.1.1 | exact ho.2.1.1)]; omega, by omega⟩
          rw [hp1]
          refine RV.op (OV.step gno (Step.fieldAddr rfl (F43_2 _ _)) rfl ?_)
          refine RV.op (OV.store 0 [_] #[_, _, _, _, _, _, _, _, _] I22 rfl rfl rfl rfl rfl (Nat.le_of_ble_eq_true rfl) (by simp [Value.oneCell']) rfl gno ?_)
          refine RV.nil ?_
          refine KV.then_n ?_
          refine KV.env [(1, _), (2, _)] ⟨rfl, rfl, trivial⟩ ?_
          refine KV.sel [0, 0] [_, _] rfl ?_
          (first | exact KV.join (⟨18446744073709551615 - (p : Int), by unfold isU; omega⟩) ⟨rfl, rfl, trivial⟩ (fun _ h => h) | exact KV.join (⟨(p : Int), by unfold isU; omega⟩) ⟨rfl, rfl, trivial⟩ (fun _ h => h))
      · intro y
        refine CV.seq ?_
        -- region 8 law.go:49
        refine CV.region ?_
        refine RV.op (OV.step gno (Step.fieldAddr rfl (F43_3 _ _)) rfl ?_)
        refine RV.op (OV.step gno (Step.load Try.underlying22 rfl rfl (fun w h => h.cell 0 rfl rfl)) rfl ?_)
        refine RV.op (OV.step gno (Step.rem rfl rfl (by omega) (rfl)) rfl ?_)
        obtain ⟨p, hp1, hp2⟩ : ∃ p : Nat, o.len.tmod 40 = p ∧ p < 40 := ⟨(o.len % 40).toNat, by rw [Int.tmod_eq_emod_of_nonneg (by first | exact ho.1.1 | exact ho.2.1.1)]; omega, by omega⟩
        rw [hp1]
        refine RV.op (OV.step gno (Step.fieldAddr rfl (F43_3 _ _)) rfl ?_)
        refine RV.op (OV.store 0 [_] #[_, _, _, _, _, _, _, _, _] I22 rfl rfl rfl rfl rfl (Nat.le_of_ble_eq_true rfl) (by simp [Value.oneCell']) rfl gno ?_)
        refine RV.nil ?_
        refine KV.then_n ?_
        refine KV.env [(1, _), (2, _)] ⟨rfl, rfl, trivial⟩ ?_
        refine CV.seq ?_
        -- region 9 law.go:50
        refine CV.region ?_
        refine RV.op (OV.buildSlice (K := intK .i64) ([1, 1, 2, 4, 8, 3]) rfl (Bs27_6_0_1_2_3_4_5 _ _ _ _ _ _) rfl rfl (by omega) gno rfl (fun b9_0 => ?_))
        refine RV.op (OV.step gno (Step.fieldAddr rfl (F43_4 _ _)) rfl ?_)
        refine RV.op (OV.step gno (Step.load Try.underlying3 rfl rfl (fun w h => h.cell 0 rfl rfl)) rfl ?_)
        refine RV.op (OV.call [] Try.func10 B10 N10 rfl rfl (fun w h => (mod_fn o.width 6 (by omega) (by omega)).fn w) (fun _ hb => hb.elim) gno rfl (fun v L' hp => ?_))
        obtain ⟨rfl, rfl⟩ := hp
        simp only [List.append_nil]
        obtain ⟨q, hq, hq6⟩ := modN o.width (n := 6) (by omega)
        rw [hq]
        refine RV.op (OV.step gno (Step.idx Try.underlying27 I3 (fun w h => h.os 2 rfl) rfl rfl (rfl) _ rfl (by first | omega | (show q < 6; omega))) rfl ?_)
        refine RV.op (OV.step gno (Step.load Try.underlying3 rfl rfl (fun w h => (h.os 2 rfl).cell0 (by show q < 6; omega) rfl)) rfl ?_)
        obtain ⟨wd, hw1, hw2, hw3⟩ := wd6 hq6
        rw [hw1]
        refine RV.op (OV.step gno (Step.fieldAddr rfl (F43_4 _ _)) rfl ?_)
        refine RV.op (OV.store 0 [_] #[_, _, _, _, _, _, _, _, _] I3 rfl rfl rfl rfl rfl (Nat.le_of_ble_eq_true rfl) (by simp [Value.oneCell']) rfl gno ?_)
        refine RV.nil ?_
        refine KV.then_n ?_
        refine KV.env [(1, _), (2, _)] ⟨rfl, rfl, trivial⟩ ?_
        refine CV.seq ?_
        -- region 10 law.go:51
        refine CV.region ?_
        refine RV.op (OV.step gno (Step.fieldAddr rfl (F43_5 _ _)) rfl ?_)
        refine RV.op (OV.step gno (Step.load Try.underlying3 rfl rfl (fun w h => h.cell 0 rfl rfl)) rfl ?_)
        refine RV.op (OV.call [] Try.func10 B10 N10 rfl rfl (fun w h => (mod_fn o.own 5 (by omega) (by omega)).fn w) (fun _ hb => hb.elim) gno rfl (fun v L' hp => ?_))
        obtain ⟨rfl, rfl⟩ := hp
        simp only [List.append_nil]
        have h5 := modM_lt o.own (n := 5) (by omega)
        (first | refine RV.op (OV.step gno (Step.sub rfl rfl (wI64 (by omega) (by omega))) rfl ?_) | refine RV.op (OV.step gno (Step.sub rfl rfl rfl) rfl ?_))
        refine RV.op (OV.step gno (Step.fieldAddr rfl (F43_5 _ _)) rfl ?_)
        refine RV.op (OV.store 0 [_] #[_, _, _, _, _, _, _, _, _] I3 rfl rfl rfl rfl rfl (Nat.le_of_ble_eq_true rfl) (by simp [Value.oneCell']) rfl gno ?_)
        refine RV.nil ?_
        refine KV.then_n ?_
        refine KV.env [(1, _), (2, _)] ⟨rfl, rfl, trivial⟩ ?_
        -- join; live [1, 2]
        refine CV.join (fun (y2 : {y : Int // isU y}) => [(1, .pointer (some ⟨bo, 0, none⟩)), (2, .pointer (some ⟨br, 0, none⟩))]) (fun (y2 : {y : Int // isU y}) => Hp I w [Blk bo (.cells #[.int .i64 (modM o.kind 16), .int .i64 (modM o.space 4), .int .u64 (y2.1), .int .u64 ((p : Int)), .int .i64 ((wd : Int)), .int .i64 (modM o.own 5 - 1), .bool o.wr, .int .u64 o.val, .bool o.raw] 43 (0, 0)), Blk br (.cells #[.int .i64 0, .int .i64 0, .int .u64 0, .int .u64 0, .int .i64 0, .int .i64 0, .bool false, .int .u64 0, .bool false] 43 (0, 0))]) ?_ ?_
        · skip
          refine CV.seq ?_
          -- region 11 law.go:52
          refine CV.region ?_
          refine RV.op (OV.step gno (Step.fieldAddr rfl (F43_4 _ _)) rfl ?_)
          refine RV.op (OV.step gno (Step.load Try.underlying3 rfl rfl (fun w h => h.cell 0 rfl rfl)) rfl ?_)
          refine RV.op (OV.split gno (Step.neq rfl rfl) rfl (fun cc4 => ?_) (fun cc4 => ?_))
          · -- True
            refine RV.op (OV.step gno (Step.move rfl) rfl ?_)
            refine RV.op (OV.step (gyes rfl) (Step.fieldAddr rfl (F43_0 _ _)) rfl ?_)
            refine RV.op (OV.step (gyes rfl) (Step.load Try.underlying3 rfl rfl (fun w h => h.cell 0 rfl rfl)) rfl ?_)
            refine RV.op (OV.split (gyes rfl) (Step.gtr rfl rfl) rfl (fun cc5 => ?_) (fun cc5 => ?_))
            · -- True
              refine RV.op (OV.step gno (Step.pick_t rfl rfl) rfl ?_)
              refine RV.nil ?_
              refine KV.then_n ?_
              refine KV.env [(1, _), (2, _), (54, _)] ⟨rfl, rfl, rfl, trivial⟩ ?_
              refine CV.cond_t rfl ?_
              -- region 12 law.go:53
              refine CV.stillTail 10 (by kernel_rfl) (by kernel_rfl) (fun _ h => h.drew) ?_
              refine SV.step gno (Step.fieldAddr rfl (F43_2 _ _)) rfl ?_
              refine SV.step gno (Step.load Try.underlying22 rfl rfl (fun w h => h.cell 0 rfl rfl)) rfl ?_
              refine SV.step gno (Step.fieldAddr rfl (F43_2 _ _)) rfl ?_
              refine SV.step gno (Step.load Try.underlying22 rfl rfl (fun w h => h.cell 0 rfl rfl)) rfl ?_
              refine SV.step gno (Step.fieldAddr rfl (F43_4 _ _)) rfl ?_
              refine SV.step gno (Step.load Try.underlying3 rfl rfl (fun w h => h.cell 0 rfl rfl)) rfl ?_
              (first | refine SV.step gno (Step.convI Try.underlying3 Try.underlying22 rfl (wU64 (by omega) (by omega))) rfl ?_ | refine SV.step gno (Step.convI Try.underlying3 Try.underlying22 rfl rfl) rfl ?_)
              refine SV.step gno (Step.rem rfl rfl (by omega) (rfl)) rfl ?_
              have hrm := rem_le (y := (wd : Int)) y.2.1
              have hy2 := y.2.2
              (first | refine SV.step gno (Step.sub rfl rfl (wU64 (by omega) (by omega))) rfl ?_ | refine SV.step gno (Step.sub rfl rfl rfl) rfl ?_)
              refine SV.step gno (Step.fieldAddr rfl (F43_2 _ _)) rfl ?_
              refine SV.nil ?_
              show KV _ (wpList _ _ _ _) _ _
              refine RV.op (OV.store 0 [_] #[_, _, _, _, _, _, _, _, _] I22 rfl rfl rfl rfl rfl (Nat.le_of_ble_eq_true rfl) (by simp [Value.oneCell']) rfl gno ?_)
              refine RV.nil ?_
              refine KV.then_n ?_
              refine KV.env [(1, _), (2, _)] ⟨rfl, rfl, trivial⟩ ?_
              refine KV.sel [0, 0] [_, _] rfl ?_
              (first | exact KV.join (⟨y.1 - y.1.tmod wd, by unfold isU; omega⟩) ⟨rfl, rfl, trivial⟩ (fun _ h => h) | exact KV.join (y) ⟨rfl, rfl, trivial⟩ (fun _ h => h))
            · -- False
              refine RV.op (OV.step gno (Step.pick_t rfl rfl) rfl ?_)
              refine RV.nil ?_
              refine KV.then_n ?_
              refine KV.env [(1, _), (2, _), (54, _)] ⟨rfl, rfl, rfl, trivial⟩ ?_
              refine CV.cond_f rfl ?_
              refine CV.skip ?_
              refine KV.then_n ?_
              refine KV.env [(1, _), (2, _)] ⟨rfl, rfl, trivial⟩ ?_
              refine KV.sel [0, 0] [_, _] rfl ?_
              (first | exact KV.join (⟨y.1 - y.1.tmod wd, by unfold isU; omega⟩) ⟨rfl, rfl, trivial⟩ (fun _ h => h) | exact KV.join (y) ⟨rfl, rfl, trivial⟩ (fun _ h => h))
          · -- False
            refine RV.op (OV.step gno (Step.move rfl) rfl ?_)
            refine RV.op (OV.skip rfl rfl ?_)
            refine RV.op (OV.skip rfl rfl ?_)
            refine RV.op (OV.skip rfl rfl ?_)
            refine RV.op (OV.step gno (Step.pick_f rfl rfl) rfl ?_)
            refine RV.nil ?_
            refine KV.then_n ?_
            refine KV.env [(1, _), (2, _), (54, _)] ⟨rfl, rfl, rfl, trivial⟩ ?_
            refine CV.cond_f rfl ?_
            refine CV.skip ?_
            refine KV.then_n ?_
            refine KV.env [(1, _), (2, _)] ⟨rfl, rfl, trivial⟩ ?_
            refine KV.sel [0, 0] [_, _] rfl ?_
            (first | exact KV.join (⟨y.1 - y.1.tmod wd, by unfold isU; omega⟩) ⟨rfl, rfl, trivial⟩ (fun _ h => h) | exact KV.join (y) ⟨rfl, rfl, trivial⟩ (fun _ h => h))
        · intro y2
          refine CV.seq ?_
          -- region 13 law.go:55
          refine CV.region ?_
          refine RV.op (OV.step gno (Step.loadN _ Try.underlying43 rfl I43 rfl rfl (fun w h => h.cells 0 rfl)) rfl ?_)
          refine RV.op (OV.store 1 [_, _, _, _, _, _, _, _, _] #[_, _, _, _, _, _, _, _, _] I43 rfl rfl rfl rfl rfl (Nat.le_of_ble_eq_true rfl) (by simp [Value.oneCell']) rfl gno ?_)
          refine RV.nil ?_
          refine KV.then_n ?_
          refine KV.env [(2, _)] ⟨rfl, trivial⟩ ?_
          refine CV.ret ?_
          -- return at r13
          exact KV.retC1 [_, _, _, _, _, _, _, _, _] rfl rfl Try.underlying43 rfl I43 rfl (fun w h => h.cells 1 rfl) [] (fun _ h => h.sel [] rfl) ⟨⟨_, _, _, _, _, _, _, _, _⟩, ⟨y2.2, (show isU (p : Int) by unfold isU; omega), ho.2.2⟩, rfl, rfl⟩
  · -- False
    refine RV.op (OV.skip rfl rfl ?_)
    refine RV.op (OV.skip rfl rfl ?_)
    refine RV.op (OV.skip rfl rfl ?_)
    refine RV.op (OV.step gno (Step.pick_f rfl rfl) rfl ?_)
    refine RV.nil ?_
    refine KV.then_n ?_
    refine KV.env [(1, _), (2, _), (13, _)] ⟨rfl, rfl, rfl, trivial⟩ ?_
    refine CV.cond_f rfl ?_
    refine CV.skip ?_
    refine KV.then_n ?_
    refine KV.env [(1, _), (2, _)] ⟨rfl, rfl, trivial⟩ ?_
    refine CV.seq ?_
    -- region 4 law.go:43
    refine CV.region ?_
    refine RV.op (OV.step gno (Step.fieldAddr rfl (F43_1 _ _)) rfl ?_)
    refine RV.op (OV.step gno (Step.load Try.underlying3 rfl rfl (fun w h => h.cell 0 rfl rfl)) rfl ?_)
    refine RV.op (OV.call [] Try.func10 B10 N10 rfl rfl (fun w h => (mod_fn o.space 4 (by omega) (by omega)).fn w) (fun _ hb => hb.elim) gno rfl (fun v L' hp => ?_))
    obtain ⟨rfl, rfl⟩ := hp
    simp only [List.append_nil]
    refine RV.op (OV.step gno (Step.fieldAddr rfl (F43_1 _ _)) rfl ?_)
    refine RV.op (OV.store 0 [_] #[_, _, _, _, _, _, _, _, _] I3 rfl rfl rfl rfl rfl (Nat.le_of_ble_eq_true rfl) (by simp [Value.oneCell']) rfl gno ?_)
    refine RV.nil ?_
    refine KV.then_n ?_
    refine KV.env [(1, _), (2, _)] ⟨rfl, rfl, trivial⟩ ?_
    -- join; live [1, 2]
    refine CV.join (fun (y : {y : Int // isU y}) => [(1, .pointer (some ⟨bo, 0, none⟩)), (2, .pointer (some ⟨br, 0, none⟩))]) (fun (y : {y : Int // isU y}) => Hp I w [Blk bo (.cells #[.int .i64 (modM o.kind 16), .int .i64 (modM o.space 4), .int .u64 (y.1), .int .u64 (o.len), .int .i64 (o.width), .int .i64 (o.own), .bool o.wr, .int .u64 o.val, .bool o.raw] 43 (0, 0)), Blk br (.cells #[.int .i64 0, .int .i64 0, .int .u64 0, .int .u64 0, .int .i64 0, .int .i64 0, .bool false, .int .u64 0, .bool false] 43 (0, 0))]) ?_ ?_
    · skip
      refine CV.seq ?_
      -- region 5 law.go:44
      refine CV.region ?_
      refine RV.op (OV.step gno (Step.fieldAddr rfl (F43_2 _ _)) rfl ?_)
      refine RV.op (OV.step gno (Step.load Try.underlying22 rfl rfl (fun w h => h.cell 0 rfl rfl)) rfl ?_)
      refine RV.op (OV.split gno (Step.gtr rfl rfl) rfl (fun cc6 => ?_) (fun cc6 => ?_))
      · -- True
        refine RV.nil ?_
        refine KV.then_n ?_
        refine KV.env [(1, _), (2, _), (21, _)] ⟨rfl, rfl, rfl, trivial⟩ ?_
        refine CV.cond_t rfl ?_
        -- region 6 law.go:45
        refine CV.region ?_
        refine RV.op (OV.step gno (Step.fieldAddr rfl (F43_2 _ _)) rfl ?_)
        refine RV.op (OV.step gno (Step.load Try.underlying22 rfl rfl (fun w h => h.cell 0 rfl rfl)) rfl ?_)
        refine RV.op (OV.step gno (Step.rem rfl rfl (by omega) (rfl)) rfl ?_)
        obtain ⟨p, hp1, hp2⟩ : ∃ p : Nat, o.addr.tmod 64 = p ∧ p < 64 := ⟨(o.addr % 64).toNat, by rw [Int.tmod_eq_emod_of_nonneg (by first | exact ho.1.1 | exact ho.2.1.1)]; omega, by omega⟩
        rw [hp1]
        (first | refine RV.op (OV.step gno (Step.sub rfl rfl (wU64 (by omega) (by omega))) rfl ?_) | refine RV.op (OV.step gno (Step.sub rfl rfl rfl) rfl ?_))
        refine RV.op (OV.step gno (Step.fieldAddr rfl (F43_2 _ _)) rfl ?_)
        refine RV.op (OV.store 0 [_] #[_, _, _, _, _, _, _, _, _] I22 rfl rfl rfl rfl rfl (Nat.le_of_ble_eq_true rfl) (by simp [Value.oneCell']) rfl gno ?_)
        refine RV.nil ?_
        refine KV.then_n ?_
        refine KV.env [(1, _), (2, _)] ⟨rfl, rfl, trivial⟩ ?_
        refine KV.sel [0, 0] [_, _] rfl ?_
        (first | exact KV.join (⟨18446744073709551615 - (p : Int), by unfold isU; omega⟩) ⟨rfl, rfl, trivial⟩ (fun _ h => h) | exact KV.join (⟨(p : Int), by unfold isU; omega⟩) ⟨rfl, rfl, trivial⟩ (fun _ h => h))
      · -- False
        refine RV.nil ?_
        refine KV.then_n ?_
        refine KV.env [(1, _), (2, _), (21, _)] ⟨rfl, rfl, rfl, trivial⟩ ?_
        refine CV.cond_f rfl ?_
        -- region 7 law.go:47
        refine CV.region ?_
        refine RV.op (OV.step gno (Step.fieldAddr rfl (F43_2 _ _)) rfl ?_)
        refine RV.op (OV.step gno (Step.load Try.underlying22 rfl rfl (fun w h => h.cell 0 rfl rfl)) rfl ?_)
        refine RV.op (OV.step gno (Step.rem rfl rfl (by omega) (rfl)) rfl ?_)
        obtain ⟨p, hp1, hp2⟩ : ∃ p : Nat, o.addr.tmod 64 = p ∧ p < 64 := ⟨(o.addr % 64).toNat, by rw [Int.tmod_eq_emod_of_nonneg (by first | exact ho.1.1 | exact ho.2.1.1)]; omega, by omega⟩
        rw [hp1]
        refine RV.op (OV.step gno (Step.fieldAddr rfl (F43_2 _ _)) rfl ?_)
        refine RV.op (OV.store 0 [_] #[_, _, _, _, _, _, _, _, _] I22 rfl rfl rfl rfl rfl (Nat.le_of_ble_eq_true rfl) (by simp [Value.oneCell']) rfl gno ?_)
        refine RV.nil ?_
        refine KV.then_n ?_
        refine KV.env [(1, _), (2, _)] ⟨rfl, rfl, trivial⟩ ?_
        refine KV.sel [0, 0] [_, _] rfl ?_
        (first | exact KV.join (⟨18446744073709551615 - (p : Int), by unfold isU; omega⟩) ⟨rfl, rfl, trivial⟩ (fun _ h => h) | exact KV.join (⟨(p : Int), by unfold isU; omega⟩) ⟨rfl, rfl, trivial⟩ (fun _ h => h))
    · intro y
      refine CV.seq ?_
      -- region 8 law.go:49
      refine CV.region ?_
      refine RV.op (OV.step gno (Step.fieldAddr rfl (F43_3 _ _)) rfl ?_)
      refine RV.op (OV.step gno (Step.load Try.underlying22 rfl rfl (fun w h => h.cell 0 rfl rfl)) rfl ?_)
      refine RV.op (OV.step gno (Step.rem rfl rfl (by omega) (rfl)) rfl ?_)
      obtain ⟨p, hp1, hp2⟩ : ∃ p : Nat, o.len.tmod 40 = p ∧ p < 40 := ⟨(o.len % 40).toNat, by rw [Int.tmod_eq_emod_of_nonneg (by first | exact ho.1.1 | exact ho.2.1.1)]; omega, by omega⟩
      rw [hp1]
      refine RV.op (OV.step gno (Step.fieldAddr rfl (F43_3 _ _)) rfl ?_)
      refine RV.op (OV.store 0 [_] #[_, _, _, _, _, _, _, _, _] I22 rfl rfl rfl rfl rfl (Nat.le_of_ble_eq_true rfl) (by simp [Value.oneCell']) rfl gno ?_)
      refine RV.nil ?_
      refine KV.then_n ?_
      refine KV.env [(1, _), (2, _)] ⟨rfl, rfl, trivial⟩ ?_
      refine CV.seq ?_
      -- region 9 law.go:50
      refine CV.region ?_
      refine RV.op (OV.buildSlice (K := intK .i64) ([1, 1, 2, 4, 8, 3]) rfl (Bs27_6_0_1_2_3_4_5 _ _ _ _ _ _) rfl rfl (by omega) gno rfl (fun b9_0 => ?_))
      refine RV.op (OV.step gno (Step.fieldAddr rfl (F43_4 _ _)) rfl ?_)
      refine RV.op (OV.step gno (Step.load Try.underlying3 rfl rfl (fun w h => h.cell 0 rfl rfl)) rfl ?_)
      refine RV.op (OV.call [] Try.func10 B10 N10 rfl rfl (fun w h => (mod_fn o.width 6 (by omega) (by omega)).fn w) (fun _ hb => hb.elim) gno rfl (fun v L' hp => ?_))
      obtain ⟨rfl, rfl⟩ := hp
      simp only [List.append_nil]
      obtain ⟨q, hq, hq6⟩ := modN o.width (n := 6) (by omega)
      rw [hq]
      refine RV.op (OV.step gno (Step.idx Try.underlying27 I3 (fun w h => h.os 2 rfl) rfl rfl (rfl) _ rfl (by first | omega | (show q < 6; omega))) rfl ?_)
      refine RV.op (OV.step gno (Step.load Try.underlying3 rfl rfl (fun w h => (h.os 2 rfl).cell0 (by show q < 6; omega) rfl)) rfl ?_)
      obtain ⟨wd, hw1, hw2, hw3⟩ := wd6 hq6
      rw [hw1]
      refine RV.op (OV.step gno (Step.fieldAddr rfl (F43_4 _ _)) rfl ?_)
      refine RV.op (OV.store 0 [_] #[_, _, _, _, _, _, _, _, _] I3 rfl rfl rfl rfl rfl (Nat.le_of_ble_eq_true rfl) (by simp [Value.oneCell']) rfl gno ?_)
      refine RV.nil ?_
      refine KV.then_n ?_
      refine KV.env [(1, _), (2, _)] ⟨rfl, rfl, trivial⟩ ?_
      refine CV.seq ?_
      -- region 10 law.go:51
      refine CV.region ?_
      refine RV.op (OV.step gno (Step.fieldAddr rfl (F43_5 _ _)) rfl ?_)
      refine RV.op (OV.step gno (Step.load Try.underlying3 rfl rfl (fun w h => h.cell 0 rfl rfl)) rfl ?_)
      refine RV.op (OV.call [] Try.func10 B10 N10 rfl rfl (fun w h => (mod_fn o.own 5 (by omega) (by omega)).fn w) (fun _ hb => hb.elim) gno rfl (fun v L' hp => ?_))
      obtain ⟨rfl, rfl⟩ := hp
      simp only [List.append_nil]
      have h5 := modM_lt o.own (n := 5) (by omega)
      (first | refine RV.op (OV.step gno (Step.sub rfl rfl (wI64 (by omega) (by omega))) rfl ?_) | refine RV.op (OV.step gno (Step.sub rfl rfl rfl) rfl ?_))
      refine RV.op (OV.step gno (Step.fieldAddr rfl (F43_5 _ _)) rfl ?_)
      refine RV.op (OV.store 0 [_] #[_, _, _, _, _, _, _, _, _] I3 rfl rfl rfl rfl rfl (Nat.le_of_ble_eq_true rfl) (by simp [Value.oneCell']) rfl gno ?_)
      refine RV.nil ?_
      refine KV.then_n ?_
      refine KV.env [(1, _), (2, _)] ⟨rfl, rfl, trivial⟩ ?_
      -- join; live [1, 2]
      refine CV.join (fun (y2 : {y : Int // isU y}) => [(1, .pointer (some ⟨bo, 0, none⟩)), (2, .pointer (some ⟨br, 0, none⟩))]) (fun (y2 : {y : Int // isU y}) => Hp I w [Blk bo (.cells #[.int .i64 (modM o.kind 16), .int .i64 (modM o.space 4), .int .u64 (y2.1), .int .u64 ((p : Int)), .int .i64 ((wd : Int)), .int .i64 (modM o.own 5 - 1), .bool o.wr, .int .u64 o.val, .bool o.raw] 43 (0, 0)), Blk br (.cells #[.int .i64 0, .int .i64 0, .int .u64 0, .int .u64 0, .int .i64 0, .int .i64 0, .bool false, .int .u64 0, .bool false] 43 (0, 0))]) ?_ ?_
      · skip
        refine CV.seq ?_
        -- region 11 law.go:52
        refine CV.region ?_
        refine RV.op (OV.step gno (Step.fieldAddr rfl (F43_4 _ _)) rfl ?_)
        refine RV.op (OV.step gno (Step.load Try.underlying3 rfl rfl (fun w h => h.cell 0 rfl rfl)) rfl ?_)
        refine RV.op (OV.split gno (Step.neq rfl rfl) rfl (fun cc7 => ?_) (fun cc7 => ?_))
        · -- True
          refine RV.op (OV.step gno (Step.move rfl) rfl ?_)
          refine RV.op (OV.step (gyes rfl) (Step.fieldAddr rfl (F43_0 _ _)) rfl ?_)
          refine RV.op (OV.step (gyes rfl) (Step.load Try.underlying3 rfl rfl (fun w h => h.cell 0 rfl rfl)) rfl ?_)
          refine RV.op (OV.split (gyes rfl) (Step.gtr rfl rfl) rfl (fun cc8 => ?_) (fun cc8 => ?_))
          · -- True
            refine RV.op (OV.step gno (Step.pick_t rfl rfl) rfl ?_)
            refine RV.nil ?_
            refine KV.then_n ?_
            refine KV.env [(1, _), (2, _), (54, _)] ⟨rfl, rfl, rfl, trivial⟩ ?_
            refine CV.cond_t rfl ?_
            -- region 12 law.go:53
            refine CV.stillTail 10 (by kernel_rfl) (by kernel_rfl) (fun _ h => h.drew) ?_
            refine SV.step gno (Step.fieldAddr rfl (F43_2 _ _)) rfl ?_
            refine SV.step gno (Step.load Try.underlying22 rfl rfl (fun w h => h.cell 0 rfl rfl)) rfl ?_
            refine SV.step gno (Step.fieldAddr rfl (F43_2 _ _)) rfl ?_
            refine SV.step gno (Step.load Try.underlying22 rfl rfl (fun w h => h.cell 0 rfl rfl)) rfl ?_
            refine SV.step gno (Step.fieldAddr rfl (F43_4 _ _)) rfl ?_
            refine SV.step gno (Step.load Try.underlying3 rfl rfl (fun w h => h.cell 0 rfl rfl)) rfl ?_
            (first | refine SV.step gno (Step.convI Try.underlying3 Try.underlying22 rfl (wU64 (by omega) (by omega))) rfl ?_ | refine SV.step gno (Step.convI Try.underlying3 Try.underlying22 rfl rfl) rfl ?_)
            refine SV.step gno (Step.rem rfl rfl (by omega) (rfl)) rfl ?_
            have hrm := rem_le (y := (wd : Int)) y.2.1
            have hy2 := y.2.2
            (first | refine SV.step gno (Step.sub rfl rfl (wU64 (by omega) (by omega))) rfl ?_ | refine SV.step gno (Step.sub rfl rfl rfl) rfl ?_)
            refine SV.step gno (Step.fieldAddr rfl (F43_2 _ _)) rfl ?_
            refine SV.nil ?_
            show KV _ (wpList _ _ _ _) _ _
            refine RV.op (OV.store 0 [_] #[_, _, _, _, _, _, _, _, _] I22 rfl rfl rfl rfl rfl (Nat.le_of_ble_eq_true rfl) (by simp [Value.oneCell']) rfl gno ?_)
            refine RV.nil ?_
            refine KV.then_n ?_
            refine KV.env [(1, _), (2, _)] ⟨rfl, rfl, trivial⟩ ?_
            refine KV.sel [0, 0] [_, _] rfl ?_
            (first | exact KV.join (⟨y.1 - y.1.tmod wd, by unfold isU; omega⟩) ⟨rfl, rfl, trivial⟩ (fun _ h => h) | exact KV.join (y) ⟨rfl, rfl, trivial⟩ (fun _ h => h))
          · -- False
            refine RV.op (OV.step gno (Step.pick_t rfl rfl) rfl ?_)
            refine RV.nil ?_
            refine KV.then_n ?_
            refine KV.env [(1, _), (2, _), (54, _)] ⟨rfl, rfl, rfl, trivial⟩ ?_
            refine CV.cond_f rfl ?_
            refine CV.skip ?_
            refine KV.then_n ?_
            refine KV.env [(1, _), (2, _)] ⟨rfl, rfl, trivial⟩ ?_
            refine KV.sel [0, 0] [_, _] rfl ?_
            (first | exact KV.join (⟨y.1 - y.1.tmod wd, by unfold isU; omega⟩) ⟨rfl, rfl, trivial⟩ (fun _ h => h) | exact KV.join (y) ⟨rfl, rfl, trivial⟩ (fun _ h => h))
        · -- False
          refine RV.op (OV.step gno (Step.move rfl) rfl ?_)
          refine RV.op (OV.skip rfl rfl ?_)
          refine RV.op (OV.skip rfl rfl ?_)
          refine RV.op (OV.skip rfl rfl ?_)
          refine RV.op (OV.step gno (Step.pick_f rfl rfl) rfl ?_)
          refine RV.nil ?_
          refine KV.then_n ?_
          refine KV.env [(1, _), (2, _), (54, _)] ⟨rfl, rfl, rfl, trivial⟩ ?_
          refine CV.cond_f rfl ?_
          refine CV.skip ?_
          refine KV.then_n ?_
          refine KV.env [(1, _), (2, _)] ⟨rfl, rfl, trivial⟩ ?_
          refine KV.sel [0, 0] [_, _] rfl ?_
          (first | exact KV.join (⟨y.1 - y.1.tmod wd, by unfold isU; omega⟩) ⟨rfl, rfl, trivial⟩ (fun _ h => h) | exact KV.join (y) ⟨rfl, rfl, trivial⟩ (fun _ h => h))
      · intro y2
        refine CV.seq ?_
        -- region 13 law.go:55
        refine CV.region ?_
        refine RV.op (OV.step gno (Step.loadN _ Try.underlying43 rfl I43 rfl rfl (fun w h => h.cells 0 rfl)) rfl ?_)
        refine RV.op (OV.store 1 [_, _, _, _, _, _, _, _, _] #[_, _, _, _, _, _, _, _, _] I43 rfl rfl rfl rfl rfl (Nat.le_of_ble_eq_true rfl) (by simp [Value.oneCell']) rfl gno ?_)
        refine RV.nil ?_
        refine KV.then_n ?_
        refine KV.env [(2, _)] ⟨rfl, trivial⟩ ?_
        refine CV.ret ?_
        -- return at r13
        exact KV.retC1 [_, _, _, _, _, _, _, _, _] rfl rfl Try.underlying43 rfl I43 rfl (fun w h => h.cells 1 rfl) [] (fun _ h => h.sel [] rfl) ⟨⟨_, _, _, _, _, _, _, _, _⟩, ⟨y2.2, (show isU (p : Int) by unfold isU; omega), ho.2.2⟩, rfl, rfl⟩
end Go.Proofs.Ythdpojggdodpfaa
