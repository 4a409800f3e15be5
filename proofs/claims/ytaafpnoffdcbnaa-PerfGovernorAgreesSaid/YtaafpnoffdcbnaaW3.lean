/-
  Walks, part 3.
-/
import Derived.Test.YtaafpnoffdcbnaaTab3
import Derived.Test.YtaafpnoffdcbnaaW2
set_option linter.unusedSimpArgs false
set_option linter.unusedVariables false
namespace Go.Proofs.Ytaafpnoffdcbnaa
open Go.Sv Go.Perf
set_option maxRecDepth 100000 in
set_option maxHeartbeats 1000000 in
theorem safe_fn {A : Option Addr} {n c : Nat} {ys : List Pt} {w : World} (hr : RS w ptK A ys) (hn : n = ys.length) (hl : ys.length ≤ 1000000) {B : Option Addr} {m d : Nat} {l : List POp} (ho : RS w popK B l) (hm : m = l.length) (hl2 : l.length ≤ 1000000) (a : Int) : Fx Try.prog 22 [.slice A n c, .int .i64 a, .slice B m d] w [] no (fun v L => v = .bool (safeM ys a l) ∧ L = []) := by
  subst hn
  subst hm
  refine Sv.Fx.body Try.func22 rfl T22 rfl ?_
  intro I hro hI
  refine KV.env [(0, _), (1, _), (2, _)] ⟨rfl, rfl, rfl, trivial⟩ ?_
  refine CV.seq ?_
  -- region 0 perf.go:76
  refine CV.region ?_
  refine RV.op (OV.step gno (Step.assign rfl) rfl ?_)
  refine RV.nil ?_
  refine KV.then_n ?_
  refine KV.env [(0, _), (1, _), (2, _)] ⟨rfl, rfl, rfl, trivial⟩ ?_
  refine CV.seq ?_
  refine CV.seq ?_
  -- region 1 perf.go:77
  refine CV.region ?_
  refine RV.op (OV.step gno (Step.move rfl) rfl ?_)
  refine RV.op (OV.call [] (F := []) Try.func17 B17 N17 rfl rfl (fun w h => check_fn (h.rs hr (fun _ => hI _)) rfl hl) (fun _ hb => hb.elim) gno rfl (fun v L' hp => ?_))
  obtain ⟨rfl, rfl⟩ := hp
  simp only [List.append_nil]
  refine RV.op (OV.split gno (Step.neq rfl rfl) rfl (fun hc => ?_) (fun hc => ?_))
  · -- True
    refine RV.op (OV.step gno (Step.move rfl) rfl ?_)
    refine RV.op (OV.skip rfl rfl ?_)
    refine RV.op (OV.skip rfl rfl ?_)
    refine RV.op (OV.skip rfl rfl ?_)
    refine RV.op (OV.skip rfl rfl ?_)
    refine RV.op (OV.step gno (Step.pick_t rfl rfl) rfl ?_)
    refine RV.nil ?_
    refine KV.then_n ?_
    refine KV.env [(0, _), (1, _), (2, _), (19, _)] ⟨rfl, rfl, rfl, rfl, trivial⟩ ?_
    refine CV.cond_t rfl ?_
    refine CV.seq ?_
    -- region 2 perf.go:78
    refine CV.region ?_
    refine RV.op (OV.step gno (Step.assign rfl) rfl ?_)
    refine RV.nil ?_
    refine KV.then_n ?_
    refine KV.env [(6, _)] ⟨rfl, trivial⟩ ?_
    refine CV.ret ?_
    refine KV.then_ret ?_
    -- return at r2
    refine KV.sel [] [] rfl ?_
    exact KV.ret1 rfl rfl _ (fun _ h => h) ⟨by rw [safeM_no]; rintro ⟨k1, k2⟩; first | exact hc k1 | exact ha k2, rfl⟩
  · -- False
    refine RV.op (OV.step gno (Step.move rfl) rfl ?_)
    refine RV.op (OV.step (gyes rfl) (Step.move rfl) rfl ?_)
    refine RV.op (OV.step (gyes rfl) (Step.move rfl) rfl ?_)
    refine RV.op (OV.call [] Try.func33 B33 N33 rfl rfl (fun w h => (isIndex_fn A c ys a).fn w) (fun _ hb => hb.elim) (gyes rfl) rfl (fun v L' hp => ?_))
    obtain ⟨rfl, rfl⟩ := hp
    simp only [List.append_nil]
    by_cases ha : isI ys a
    · rw [decide_eq_true ha]
      refine RV.op (OV.step (gyes rfl) (Step.not rfl) rfl ?_)
      refine RV.op (OV.step gno (Step.pick_f rfl rfl) rfl ?_)
      refine RV.nil ?_
      refine KV.then_n ?_
      refine KV.env [(0, _), (1, _), (2, _), (19, _)] ⟨rfl, rfl, rfl, rfl, trivial⟩ ?_
      refine CV.cond_f rfl ?_
      refine CV.skip ?_
      refine KV.then_n ?_
      refine KV.env [(0, _), (1, _), (2, _)] ⟨rfl, rfl, rfl, trivial⟩ ?_
      refine CV.seq ?_
      -- region 3 perf.go:80
      have hia := ha
      unfold isI at hia
      obtain ⟨p, rfl⟩ := Int.eq_ofNat_of_zero_le hia.1
      refine CV.still (by kernel_rfl) (by kernel_rfl) (fun _ h => h.drew) ?_
      refine SV.step gno (Step.move rfl) rfl ?_
      refine SV.step gno (Step.move rfl) rfl ?_
      refine SV.step gno (Step.move rfl) rfl ?_
      refine SV.step gno (Step.idx Try.underlying22 I25 (fun w h => h.rs hr (fun _ => hI _)) rfl rfl (rfl) _ rfl (by omega)) rfl ?_
      refine SV.step gno (Step.fieldAddr rfl (F25_1 _ _)) rfl ?_
      refine SV.step gno (Step.load Try.underlying23 rfl rfl (fun w h => (h.rs hr (fun _ => hI _)).cell (by omega) rfl)) rfl ?_
      refine SV.step gno (Step.assign rfl) rfl ?_
      refine SV.step gno (Step.assign rfl) rfl ?_
      refine SV.nil ?_
      refine KV.then_n ?_
      refine KV.env [(0, _), (2, _), (7, _), (8, _)] ⟨rfl, rfl, rfl, rfl, trivial⟩ ?_
      refine CV.seq ?_
      refine CV.seq ?_
      -- region 4 perf.go:81
      refine CV.region ?_
      refine RV.op (OV.step gno (Step.move rfl) rfl ?_)
      refine RV.op (OV.step gno (Step.lenSl Try.underlying35 rfl) rfl ?_)
      refine RV.op (OV.step gno (Step.move rfl) rfl ?_)
      refine RV.nil ?_
      refine KV.then_n ?_
      refine KV.env [(0, _), (7, _), (8, _), (26, _), (27, _), (28, _)] ⟨rfl, rfl, rfl, rfl, rfl, rfl, trivial⟩ ?_
      refine CV.block ?_
      -- loop L5; live [0, 7, 8, 26, 27, 28]
      refine KV.sel [] [] rfl ?_
      refine CV.loop3 (fun (j : Nat) (k : Nat) (v : Int) => j ≤ l.length ∧ k < ys.length ∧ sP ys (l.drop j) k v = safeM ys p l) (fun (j : Nat) (k : Nat) (v : Int) => l.length - j) (fun (j : Nat) (k : Nat) (v : Int) => [(0, .slice A ys.length c), (7, .int .i64 k), (8, .int .u64 v), (26, .slice B l.length d), (27, .int .i64 l.length), (28, .int .i64 j)]) (fun (j : Nat) (k : Nat) (v : Int) => Hp I w []) (0) (p) ((pt ys p).v) ⟨Nat.zero_le _, by omega, (safeM_yes (Decidable.not_not.1 hc) ha).symm⟩ ⟨rfl, rfl, rfl, rfl, rfl, rfl, trivial⟩ (fun _ h => h) ?_
      intro j k v hinv
      refine CV.seq ?_
      -- region 5 perf.go:81
      refine CV.region ?_
      refine RV.op (OV.split gno (Step.lss rfl rfl) rfl (fun hj => ?_) (fun hj => ?_))
      · -- True
        refine RV.nil ?_
        refine KV.then_n ?_
        refine KV.env [(0, _), (7, _), (8, _), (26, _), (27, _), (28, _), (29, _)] ⟨rfl, rfl, rfl, rfl, rfl, rfl, rfl, trivial⟩ ?_
        refine CV.seq ?_
        refine CV.cond_t rfl ?_
        refine CV.skip ?_
        refine KV.then_n ?_
        refine KV.env [(0, _), (7, _), (8, _), (26, _), (27, _), (28, _)] ⟨rfl, rfl, rfl, rfl, rfl, rfl, trivial⟩ ?_
        refine CV.seq ?_
        refine CV.block ?_
        refine CV.seq ?_
        -- region 6 perf.go:81
        refine CV.region ?_
        refine RV.op (OV.step gno (Step.idx Try.underlying35 I40 (fun w h => h.rs ho (fun _ => hI _)) rfl rfl (rfl) _ rfl (by omega)) rfl ?_)
        refine RV.op (OV.step gno (Step.loadN _ Try.underlying40 rfl I40 rfl rfl (fun w h => (h.rs ho (fun _ => hI _)).cells (by omega))) rfl ?_)
        refine RV.op (OV.alloc #[.bool false, .int .u64 0] I40 rfl gno rfl (fun b6_2 => ?_))
        refine RV.op (OV.store 0 [_, _] #[_, _] I40 rfl rfl rfl rfl rfl (Nat.le_of_ble_eq_true rfl) (by simp [Value.oneCell']) rfl gno ?_)
        refine RV.nil ?_
        refine KV.then_n ?_
        refine KV.env [(0, _), (7, _), (8, _), (10, _), (26, _), (27, _), (28, _)] ⟨rfl, rfl, rfl, rfl, rfl, rfl, rfl, trivial⟩ ?_
        -- join; live [0, 7, 8, 26, 27, 28]
        refine CV.join (α := Unit) (fun _ => [(0, .slice A ys.length c), (7, .int .i64 (pAt ys (l.getD j popK.d) k)), (8, .int .u64 (vAt (l.getD j popK.d) v)), (26, .slice B l.length d), (27, .int .i64 l.length), (28, .int .i64 j)]) (fun _ => Hp I w []) ?_ ?_
        · skip
          refine CV.seq ?_
          -- region 7 perf.go:82
          refine CV.region ?_
          refine RV.op (OV.step gno (Step.fieldAddr rfl (F40_0 _ _)) rfl ?_)
          refine RV.op (OV.step gno (Step.load Try.underlying4 rfl rfl (fun w h => h.cell 0 rfl rfl)) rfl ?_)
          refine RV.nil ?_
          refine KV.then_n ?_
          refine KV.env [(0, _), (7, _), (8, _), (10, _), (26, _), (27, _), (28, _), (33, _)] ⟨rfl, rfl, rfl, rfl, rfl, rfl, rfl, rfl, trivial⟩ ?_
          refine KV.cases 33 rfl (fun cc1 => ?_) (fun cc1 => ?_)
          · -- True
            refine CV.cond_t rfl ?_
            -- region 8 perf.go:83
            refine CV.region ?_
            refine RV.op (OV.step gno (Step.fieldAddr rfl (F40_1 _ _)) rfl ?_)
            refine RV.op (OV.step gno (Step.load Try.underlying23 rfl rfl (fun w h => h.cell 0 rfl rfl)) rfl ?_)
            refine RV.op (OV.step gno (Step.assign rfl) rfl ?_)
            refine RV.nil ?_
            refine KV.then_n ?_
            refine KV.env [(0, _), (7, _), (8, _), (26, _), (27, _), (28, _)] ⟨rfl, rfl, rfl, rfl, rfl, rfl, trivial⟩ ?_
            refine KV.sel [] [] rfl ?_
            exact KV.join () ⟨rfl, (show some (Value.int .i64 _) = some (Value.int .i64 _) by (first | rw [pAt, if_pos ‹_›] | rw [pAt, if_neg (by rw [‹(l.getD j popK.d).volt = false›]; decide)])), (show some (Value.int .u64 _) = some (Value.int .u64 _) by (first | rw [vAt, if_pos ‹_›] | rw [vAt, if_neg (by rw [‹(l.getD j popK.d).volt = false›]; decide)])), rfl, rfl, rfl, trivial⟩ (fun _ h => h)
          · -- False
            refine CV.cond_f rfl ?_
            -- region 9 perf.go:85
            refine CV.region ?_
            refine RV.op (OV.step gno (Step.move rfl) rfl ?_)
            refine RV.op (OV.step gno (Step.makeFunc rfl) rfl ?_)
            refine RV.op (OV.call [] (F := [_]) Try.func35 B35 N35 rfl rfl (fun w h => indexFunc_fn (h.blk 0 rfl) (h.rs hr (fun _ => hI _)) hl) (fun _ hb => hb.elim) gno rfl (fun v L' hp => ?_))
            obtain ⟨rfl, rfl⟩ := hp
            simp only [List.append_nil]
            refine RV.op (OV.step gno (Step.assign rfl) rfl ?_)
            refine RV.nil ?_
            refine KV.then_n ?_
            refine KV.env [(0, _), (7, _), (8, _), (26, _), (27, _), (28, _)] ⟨rfl, rfl, rfl, rfl, rfl, rfl, trivial⟩ ?_
            refine KV.sel [] [] rfl ?_
            exact KV.join () ⟨rfl, (show some (Value.int .i64 _) = some (Value.int .i64 _) by (first | rw [pAt, if_pos ‹_›] | rw [pAt, if_neg (by rw [‹(l.getD j popK.d).volt = false›]; decide)])), (show some (Value.int .u64 _) = some (Value.int .u64 _) by (first | rw [vAt, if_pos ‹_›] | rw [vAt, if_neg (by rw [‹(l.getD j popK.d).volt = false›]; decide)])), rfl, rfl, rfl, trivial⟩ (fun _ h => h)
        · intro _
          refine CV.seq ?_
          -- region 10 perf.go:87
          refine CV.region ?_
          refine RV.op (OV.step gno (Step.move rfl) rfl ?_)
          refine RV.op (OV.split gno (Step.lss rfl rfl) rfl (fun hneg => ?_) (fun hneg => ?_))
          · -- True
            refine RV.op (OV.step gno (Step.move rfl) rfl ?_)
            refine RV.op (OV.skip rfl rfl ?_)
            refine RV.op (OV.skip rfl rfl ?_)
            refine RV.op (OV.skip rfl rfl ?_)
            refine RV.op (OV.skip rfl rfl ?_)
            refine RV.op (OV.skip rfl rfl ?_)
            refine RV.op (OV.skip rfl rfl ?_)
            refine RV.op (OV.skip rfl rfl ?_)
            refine RV.op (OV.step gno (Step.pick_t rfl rfl) rfl ?_)
            refine RV.nil ?_
            refine KV.then_n ?_
            refine KV.env [(0, _), (7, _), (8, _), (26, _), (27, _), (28, _), (49, _)] ⟨rfl, rfl, rfl, rfl, rfl, rfl, rfl, trivial⟩ ?_
            refine CV.cond_t rfl ?_
            refine CV.seq ?_
            -- region 11 perf.go:88
            refine CV.region ?_
            refine RV.op (OV.step gno (Step.assign rfl) rfl ?_)
            refine RV.nil ?_
            refine KV.then_n ?_
            refine KV.env [(6, _)] ⟨rfl, trivial⟩ ?_
            refine CV.ret ?_
            refine KV.block_ret ?_
            refine KV.then_ret ?_
            refine KV.then_ret ?_
            refine KV.block_ret ?_
            refine KV.then_ret ?_
            -- return at r11
            refine KV.sel [] [] rfl ?_
            exact KV.ret1 rfl rfl _ (fun _ h => h) ⟨by rw [← hinv.2.2, sP_stop (j := j) (by omega) (by unfold badS pt; first | exact .inl hneg | (rw [hk2, Int.toNat_natCast]; exact .inr hlow))], rfl⟩
          · -- False
            obtain ⟨k2, hk2, hk3⟩ : ∃ k2 : Nat, pAt ys (l.getD j popK.d) k = (k2 : Int) ∧ k2 < ys.length := (pAt_cases (l.getD j popK.d) hinv.2.1).resolve_left (by omega)
            rw [hk2]
            refine RV.op (OV.step gno (Step.move rfl) rfl ?_)
            refine RV.op (OV.step (gyes rfl) (Step.move rfl) rfl ?_)
            refine RV.op (OV.step (gyes rfl) (Step.move rfl) rfl ?_)
            refine RV.op (OV.step (gyes rfl) (Step.move rfl) rfl ?_)
            refine RV.op (OV.step (gyes rfl) (Step.idx Try.underlying22 I25 (fun w h => h.rs hr (fun _ => hI _)) rfl rfl (rfl) _ rfl (by omega)) rfl ?_)
            refine RV.op (OV.step (gyes rfl) (Step.fieldAddr rfl (F25_1 _ _)) rfl ?_)
            refine RV.op (OV.step (gyes rfl) (Step.load Try.underlying23 rfl rfl (fun w h => (h.rs hr (fun _ => hI _)).cell (by omega) rfl)) rfl ?_)
            refine RV.op (OV.split (gyes rfl) (Step.lss rfl rfl) rfl (fun hlow => ?_) (fun hlow => ?_))
            · -- True
              refine RV.op (OV.step gno (Step.pick_f rfl rfl) rfl ?_)
              refine RV.nil ?_
              refine KV.then_n ?_
              refine KV.env [(0, _), (7, _), (8, _), (26, _), (27, _), (28, _), (49, _)] ⟨rfl, rfl, rfl, rfl, rfl, rfl, rfl, trivial⟩ ?_
              refine CV.cond_t rfl ?_
              refine CV.seq ?_
              -- region 11 perf.go:88
              refine CV.region ?_
              refine RV.op (OV.step gno (Step.assign rfl) rfl ?_)
              refine RV.nil ?_
              refine KV.then_n ?_
              refine KV.env [(6, _)] ⟨rfl, trivial⟩ ?_
              refine CV.ret ?_
              refine KV.block_ret ?_
              refine KV.then_ret ?_
              refine KV.then_ret ?_
              refine KV.block_ret ?_
              refine KV.then_ret ?_
              -- return at r11
              refine KV.sel [] [] rfl ?_
              exact KV.ret1 rfl rfl _ (fun _ h => h) ⟨by rw [← hinv.2.2, sP_stop (j := j) (by omega) (by unfold badS pt; first | exact .inl hneg | (rw [hk2, Int.toNat_natCast]; exact .inr hlow))], rfl⟩
            · -- False
              refine RV.op (OV.step gno (Step.pick_f rfl rfl) rfl ?_)
              refine RV.nil ?_
              refine KV.then_n ?_
              refine KV.env [(0, _), (7, _), (8, _), (26, _), (27, _), (28, _), (49, _)] ⟨rfl, rfl, rfl, rfl, rfl, rfl, rfl, trivial⟩ ?_
              refine CV.cond_f rfl ?_
              refine CV.skip ?_
              refine KV.block_n ?_
              refine KV.then_n ?_
              refine KV.env [(0, _), (7, _), (8, _), (26, _), (27, _), (28, _)] ⟨rfl, rfl, rfl, rfl, rfl, rfl, trivial⟩ ?_
              -- region 12 perf.go:81
              refine CV.region ?_
              (first | refine RV.op (OV.step gno (Step.add rfl rfl (wI64 (by omega) (by omega))) rfl ?_) | refine RV.op (OV.step gno (Step.add rfl rfl rfl) rfl ?_))
              refine RV.op (OV.step gno (Step.move rfl) rfl ?_)
              refine RV.nil ?_
              refine KV.then_n ?_
              refine KV.env [(0, _), (7, _), (8, _), (26, _), (27, _), (28, _)] ⟨rfl, rfl, rfl, rfl, rfl, rfl, trivial⟩ ?_
              refine KV.sel [] [] rfl ?_
              exact KV.loop3 (x := j) (y := k) (z := v) (j + 1) (k2) (vAt (l.getD j popK.d) v) ⟨by omega, hk3, by have hst := sP_step (ys := ys) (l := l) (j := j) (k := (k : Int)) (v := v) (by omega) (by unfold badS pt; rw [hk2, Int.toNat_natCast]; omega); rw [hk2] at hst; rw [← hst]; exact hinv.2.2⟩ (by omega) ⟨rfl, rfl, rfl, rfl, rfl, rfl, trivial⟩ (fun _ h => h)
      · -- False
        refine RV.nil ?_
        refine KV.then_n ?_
        refine KV.env [(0, _), (7, _), (8, _), (26, _), (27, _), (28, _), (29, _)] ⟨rfl, rfl, rfl, rfl, rfl, rfl, rfl, trivial⟩ ?_
        refine CV.seq ?_
        refine CV.cond_f rfl ?_
        refine CV.exit ?_
        refine KV.then_exit ?_
        refine KV.then_exit ?_
        refine KV.block_hit ?_
        refine KV.then_n ?_
        refine KV.env [] trivial ?_
        refine CV.seq ?_
        -- region 13 perf.go:91
        refine CV.region ?_
        refine RV.op (OV.step gno (Step.assign rfl) rfl ?_)
        refine RV.nil ?_
        refine KV.then_n ?_
        refine KV.env [(6, _)] ⟨rfl, trivial⟩ ?_
        refine CV.ret ?_
        -- return at r13
        refine KV.sel [] [] rfl ?_
        exact KV.ret1 rfl rfl _ (fun _ h => h) ⟨by rw [← hinv.2.2, sP_end (by omega)], rfl⟩
    · rw [decide_eq_false ha]
      refine RV.op (OV.step (gyes rfl) (Step.not rfl) rfl ?_)
      refine RV.op (OV.step gno (Step.pick_f rfl rfl) rfl ?_)
      refine RV.nil ?_
      refine KV.then_n ?_
      refine KV.env [(0, _), (1, _), (2, _), (19, _)] ⟨rfl, rfl, rfl, rfl, trivial⟩ ?_
      refine CV.cond_t rfl ?_
      refine CV.seq ?_
      -- region 2 perf.go:78
      refine CV.region ?_
      refine RV.op (OV.step gno (Step.assign rfl) rfl ?_)
      refine RV.nil ?_
      refine KV.then_n ?_
      refine KV.env [(6, _)] ⟨rfl, trivial⟩ ?_
      refine CV.ret ?_
      refine KV.then_ret ?_
      -- return at r2
      refine KV.sel [] [] rfl ?_
      exact KV.ret1 rfl rfl _ (fun _ h => h) ⟨by rw [safeM_no]; rintro ⟨k1, k2⟩; first | exact hc k1 | exact ha k2, rfl⟩

set_option maxRecDepth 100000 in
set_option maxHeartbeats 1000000 in
theorem safeR_fn {A : Option Addr} {n c : Nat} {ys : List Pt} {w : World} (hr : RS w ptK A ys) (hn : n = ys.length) (hl : ys.length ≤ 1000000) {B : Option Addr} {m d : Nat} {l : List POp} (ho : RS w popK B l) (hm : m = l.length) (hl2 : l.length ≤ 1000000) (a : Int) : Fx Try.prog 23 [.slice A n c, .int .i64 a, .slice B m d] w [] no (fun v L => v = .bool (safeR ys a l) ∧ L = []) := by
  subst hn
  subst hm
  refine Sv.Fx.body Try.func23 rfl T23 rfl ?_
  intro I hro hI
  refine KV.env [(0, _), (1, _), (2, _)] ⟨rfl, rfl, rfl, trivial⟩ ?_
  refine CV.seq ?_
  -- region 0 ref.go:59
  refine CV.region ?_
  refine RV.op (OV.step gno (Step.assign rfl) rfl ?_)
  refine RV.nil ?_
  refine KV.then_n ?_
  refine KV.env [(0, _), (1, _), (2, _)] ⟨rfl, rfl, rfl, trivial⟩ ?_
  refine CV.seq ?_
  refine CV.seq ?_
  -- region 1 ref.go:60
  refine CV.region ?_
  refine RV.op (OV.step gno (Step.move rfl) rfl ?_)
  refine RV.op (OV.call [] (F := []) Try.func18 B18 N18 rfl rfl (fun w h => checkR_fn (h.rs hr (fun _ => hI _)) rfl hl) (fun _ hb => hb.elim) gno rfl (fun v L' hp => ?_))
  obtain ⟨rfl, rfl⟩ := hp
  simp only [List.append_nil]
  refine RV.op (OV.split gno (Step.neq rfl rfl) rfl (fun hc => ?_) (fun hc => ?_))
  · -- True
    refine RV.op (OV.step gno (Step.move rfl) rfl ?_)
    refine RV.op (OV.skip rfl rfl ?_)
    refine RV.op (OV.skip rfl rfl ?_)
    refine RV.op (OV.step gno (Step.pick_t rfl rfl) rfl ?_)
    refine RV.op (OV.step gno (Step.move rfl) rfl ?_)
    refine RV.op (OV.skip rfl rfl ?_)
    refine RV.op (OV.skip rfl rfl ?_)
    refine RV.op (OV.skip rfl rfl ?_)
    refine RV.op (OV.skip rfl rfl ?_)
    refine RV.op (OV.step gno (Step.pick_t rfl rfl) rfl ?_)
    refine RV.nil ?_
    refine KV.then_n ?_
    refine KV.env [(0, _), (1, _), (2, _), (24, _)] ⟨rfl, rfl, rfl, rfl, trivial⟩ ?_
    refine CV.cond_t rfl ?_
    refine CV.seq ?_
    -- region 2 ref.go:61
    refine CV.region ?_
    refine RV.op (OV.step gno (Step.assign rfl) rfl ?_)
    refine RV.nil ?_
    refine KV.then_n ?_
    refine KV.env [(6, _)] ⟨rfl, trivial⟩ ?_
    refine CV.ret ?_
    refine KV.then_ret ?_
    -- return at r2
    refine KV.sel [] [] rfl ?_
    exact KV.ret1 rfl rfl _ (fun _ h => h) ⟨by rw [safeR_no]; rintro ⟨k1, k2⟩; unfold isI at k2; first | exact hc k1 | omega, rfl⟩
  · -- False
    refine RV.op (OV.step gno (Step.move rfl) rfl ?_)
    refine RV.op (OV.step (gyes rfl) (Step.move rfl) rfl ?_)
    refine RV.op (OV.split (gyes rfl) (Step.lss rfl rfl) rfl (fun cc1 => ?_) (fun cc1 => ?_))
    · -- True
      refine RV.op (OV.step gno (Step.pick_f rfl rfl) rfl ?_)
      refine RV.op (OV.step gno (Step.move rfl) rfl ?_)
      refine RV.op (OV.skip rfl rfl ?_)
      refine RV.op (OV.skip rfl rfl ?_)
      refine RV.op (OV.skip rfl rfl ?_)
      refine RV.op (OV.skip rfl rfl ?_)
      refine RV.op (OV.step gno (Step.pick_t rfl rfl) rfl ?_)
      refine RV.nil ?_
      refine KV.then_n ?_
      refine KV.env [(0, _), (1, _), (2, _), (24, _)] ⟨rfl, rfl, rfl, rfl, trivial⟩ ?_
      refine CV.cond_t rfl ?_
      refine CV.seq ?_
      -- region 2 ref.go:61
      refine CV.region ?_
      refine RV.op (OV.step gno (Step.assign rfl) rfl ?_)
      refine RV.nil ?_
      refine KV.then_n ?_
      refine KV.env [(6, _)] ⟨rfl, trivial⟩ ?_
      refine CV.ret ?_
      refine KV.then_ret ?_
      -- return at r2
      refine KV.sel [] [] rfl ?_
      exact KV.ret1 rfl rfl _ (fun _ h => h) ⟨by rw [safeR_no]; rintro ⟨k1, k2⟩; unfold isI at k2; first | exact hc k1 | omega, rfl⟩
    · -- False
      refine RV.op (OV.step gno (Step.pick_f rfl rfl) rfl ?_)
      refine RV.op (OV.step gno (Step.move rfl) rfl ?_)
      refine RV.op (OV.step (gyes rfl) (Step.move rfl) rfl ?_)
      refine RV.op (OV.step (gyes rfl) (Step.move rfl) rfl ?_)
      refine RV.op (OV.step (gyes rfl) (Step.lenSl Try.underlying22 rfl) rfl ?_)
      refine RV.op (OV.split (gyes rfl) (Step.geq rfl rfl) rfl (fun cc2 => ?_) (fun cc2 => ?_))
      · -- True
        refine RV.op (OV.step gno (Step.pick_f rfl rfl) rfl ?_)
        refine RV.nil ?_
        refine KV.then_n ?_
        refine KV.env [(0, _), (1, _), (2, _), (24, _)] ⟨rfl, rfl, rfl, rfl, trivial⟩ ?_
        refine CV.cond_t rfl ?_
        refine CV.seq ?_
        -- region 2 ref.go:61
        refine CV.region ?_
        refine RV.op (OV.step gno (Step.assign rfl) rfl ?_)
        refine RV.nil ?_
        refine KV.then_n ?_
        refine KV.env [(6, _)] ⟨rfl, trivial⟩ ?_
        refine CV.ret ?_
        refine KV.then_ret ?_
        -- return at r2
        refine KV.sel [] [] rfl ?_
        exact KV.ret1 rfl rfl _ (fun _ h => h) ⟨by rw [safeR_no]; rintro ⟨k1, k2⟩; unfold isI at k2; first | exact hc k1 | omega, rfl⟩
      · -- False
        refine RV.op (OV.step gno (Step.pick_f rfl rfl) rfl ?_)
        refine RV.nil ?_
        refine KV.then_n ?_
        refine KV.env [(0, _), (1, _), (2, _), (24, _)] ⟨rfl, rfl, rfl, rfl, trivial⟩ ?_
        refine CV.cond_f rfl ?_
        refine CV.skip ?_
        refine KV.then_n ?_
        refine KV.env [(0, _), (1, _), (2, _)] ⟨rfl, rfl, rfl, trivial⟩ ?_
        refine CV.seq ?_
        -- region 3 ref.go:63
        have ha : isI ys a := by unfold isI; omega
        have hia := ha
        unfold isI at hia
        obtain ⟨p, rfl⟩ := Int.eq_ofNat_of_zero_le hia.1
        refine CV.still (by kernel_rfl) (by kernel_rfl) (fun _ h => h.drew) ?_
        refine SV.step gno (Step.move rfl) rfl ?_
        refine SV.step gno (Step.move rfl) rfl ?_
        refine SV.step gno (Step.idx Try.underlying22 I25 (fun w h => h.rs hr (fun _ => hI _)) rfl rfl (rfl) _ rfl (by omega)) rfl ?_
        refine SV.step gno (Step.fieldAddr rfl (F25_0 _ _)) rfl ?_
        refine SV.step gno (Step.load Try.underlying23 rfl rfl (fun w h => (h.rs hr (fun _ => hI _)).cell0 (by omega) rfl)) rfl ?_
        refine SV.step gno (Step.move rfl) rfl ?_
        refine SV.step gno (Step.move rfl) rfl ?_
        refine SV.step gno (Step.idx Try.underlying22 I25 (fun w h => h.rs hr (fun _ => hI _)) rfl rfl (rfl) _ rfl (by omega)) rfl ?_
        refine SV.step gno (Step.fieldAddr rfl (F25_1 _ _)) rfl ?_
        refine SV.step gno (Step.load Try.underlying23 rfl rfl (fun w h => (h.rs hr (fun _ => hI _)).cell (by omega) rfl)) rfl ?_
        refine SV.step gno (Step.assign rfl) rfl ?_
        refine SV.step gno (Step.assign rfl) rfl ?_
        refine SV.nil ?_
        refine KV.then_n ?_
        refine KV.env [(0, _), (2, _), (7, _), (8, _)] ⟨rfl, rfl, rfl, rfl, trivial⟩ ?_
        refine CV.seq ?_
        refine CV.seq ?_
        -- region 4 ref.go:64
        refine CV.region ?_
        refine RV.op (OV.step gno (Step.assign rfl) rfl ?_)
        refine RV.nil ?_
        refine KV.then_n ?_
        refine KV.env [(0, _), (2, _), (7, _), (8, _), (9, _)] ⟨rfl, rfl, rfl, rfl, rfl, trivial⟩ ?_
        refine CV.block ?_
        -- loop L5; live [0, 2, 7, 8, 9]
        refine KV.sel [] [] rfl ?_
        refine CV.loop3 (fun (j : Nat) (f : Int) (v : Int) => j ≤ l.length ∧ sR ys (l.drop j) f v = safeR ys p l) (fun (j : Nat) (f : Int) (v : Int) => l.length - j) (fun (j : Nat) (f : Int) (v : Int) => [(0, .slice A ys.length c), (2, .slice B l.length d), (7, .int .u64 f), (8, .int .u64 v), (9, .int .i64 j)]) (fun (j : Nat) (f : Int) (v : Int) => Hp I w []) (0) ((pt ys p).f) ((pt ys p).v) ⟨Nat.zero_le _, (safeR_yes (Decidable.not_not.1 hc) ha).symm⟩ ⟨rfl, rfl, rfl, rfl, rfl, trivial⟩ (fun _ h => h) ?_
        intro j f v hinv
        refine CV.seq ?_
        refine CV.seq ?_
        -- region 5 ref.go:64
        refine CV.region ?_
        refine RV.op (OV.step gno (Step.move rfl) rfl ?_)
        refine RV.op (OV.step gno (Step.move rfl) rfl ?_)
        refine RV.op (OV.step gno (Step.lenSl Try.underlying35 rfl) rfl ?_)
        refine RV.op (OV.split gno (Step.lss rfl rfl) rfl (fun hj => ?_) (fun hj => ?_))
        · -- True
          refine RV.nil ?_
          refine KV.then_n ?_
          refine KV.env [(0, _), (2, _), (7, _), (8, _), (9, _), (38, _)] ⟨rfl, rfl, rfl, rfl, rfl, rfl, trivial⟩ ?_
          refine CV.cond_t rfl ?_
          refine CV.skip ?_
          refine KV.then_n ?_
          refine KV.env [(0, _), (2, _), (7, _), (8, _), (9, _)] ⟨rfl, rfl, rfl, rfl, rfl, trivial⟩ ?_
          refine CV.seq ?_
          refine CV.block ?_
          -- join; live [0, 2, 7, 8, 9]
          refine CV.join (α := Unit) (fun _ => [(0, .slice A ys.length c), (2, .slice B l.length d), (7, .int .u64 (fAt (l.getD j popK.d) f)), (8, .int .u64 (vAt (l.getD j popK.d) v)), (9, .int .i64 j)]) (fun _ => Hp I w []) ?_ ?_
          · skip
            refine CV.seq ?_
            -- region 7 ref.go:65
            refine CV.region ?_
            refine RV.op (OV.step gno (Step.move rfl) rfl ?_)
            refine RV.op (OV.step gno (Step.move rfl) rfl ?_)
            refine RV.op (OV.step gno (Step.idx Try.underlying35 I40 (fun w h => h.rs ho (fun _ => hI _)) rfl rfl (rfl) _ rfl (by omega)) rfl ?_)
            refine RV.op (OV.step gno (Step.fieldAddr rfl (F40_0 _ _)) rfl ?_)
            refine RV.op (OV.step gno (Step.load Try.underlying4 rfl rfl (fun w h => (h.rs ho (fun _ => hI _)).cell0 (by omega) rfl)) rfl ?_)
            refine RV.nil ?_
            refine KV.then_n ?_
            refine KV.env [(0, _), (2, _), (7, _), (8, _), (9, _), (45, _)] ⟨rfl, rfl, rfl, rfl, rfl, rfl, trivial⟩ ?_
            refine KV.cases 45 rfl (fun cc3 => ?_) (fun cc3 => ?_)
            · -- True
              refine CV.cond_t rfl ?_
              -- region 8 ref.go:66
              refine CV.region ?_
              refine RV.op (OV.step gno (Step.move rfl) rfl ?_)
              refine RV.op (OV.step gno (Step.move rfl) rfl ?_)
              refine RV.op (OV.step gno (Step.idx Try.underlying35 I40 (fun w h => h.rs ho (fun _ => hI _)) rfl rfl (rfl) _ rfl (by omega)) rfl ?_)
              refine RV.op (OV.step gno (Step.fieldAddr rfl (F40_1 _ _)) rfl ?_)
              refine RV.op (OV.step gno (Step.load Try.underlying23 rfl rfl (fun w h => (h.rs ho (fun _ => hI _)).cell (by omega) rfl)) rfl ?_)
              refine RV.op (OV.step gno (Step.assign rfl) rfl ?_)
              refine RV.nil ?_
              refine KV.then_n ?_
              refine KV.env [(0, _), (2, _), (7, _), (8, _), (9, _)] ⟨rfl, rfl, rfl, rfl, rfl, trivial⟩ ?_
              refine KV.sel [] [] rfl ?_
              exact KV.join () ⟨rfl, rfl, (show some (Value.int .u64 _) = some (Value.int .u64 _) by (first | rw [fAt, if_pos ‹_›] | rw [fAt, if_neg (by rw [‹(l.getD j popK.d).volt = false›]; decide)])), (show some (Value.int .u64 _) = some (Value.int .u64 _) by (first | rw [vAt, if_pos ‹_›] | rw [vAt, if_neg (by rw [‹(l.getD j popK.d).volt = false›]; decide)])), rfl, trivial⟩ (fun _ h => h)
            · -- False
              refine CV.cond_f rfl ?_
              -- region 9 ref.go:68
              refine CV.region ?_
              refine RV.op (OV.step gno (Step.move rfl) rfl ?_)
              refine RV.op (OV.step gno (Step.move rfl) rfl ?_)
              refine RV.op (OV.step gno (Step.idx Try.underlying35 I40 (fun w h => h.rs ho (fun _ => hI _)) rfl rfl (rfl) _ rfl (by omega)) rfl ?_)
              refine RV.op (OV.step gno (Step.fieldAddr rfl (F40_1 _ _)) rfl ?_)
              refine RV.op (OV.step gno (Step.load Try.underlying23 rfl rfl (fun w h => (h.rs ho (fun _ => hI _)).cell (by omega) rfl)) rfl ?_)
              refine RV.op (OV.step gno (Step.assign rfl) rfl ?_)
              refine RV.nil ?_
              refine KV.then_n ?_
              refine KV.env [(0, _), (2, _), (7, _), (8, _), (9, _)] ⟨rfl, rfl, rfl, rfl, rfl, trivial⟩ ?_
              refine KV.sel [] [] rfl ?_
              exact KV.join () ⟨rfl, rfl, (show some (Value.int .u64 _) = some (Value.int .u64 _) by (first | rw [fAt, if_pos ‹_›] | rw [fAt, if_neg (by rw [‹(l.getD j popK.d).volt = false›]; decide)])), (show some (Value.int .u64 _) = some (Value.int .u64 _) by (first | rw [vAt, if_pos ‹_›] | rw [vAt, if_neg (by rw [‹(l.getD j popK.d).volt = false›]; decide)])), rfl, trivial⟩ (fun _ h => h)
          · intro _
            refine CV.seq ?_
            -- region 10 ref.go:70
            refine CV.region ?_
            refine RV.op (OV.step gno (Step.assign rfl) rfl ?_)
            refine RV.nil ?_
            refine KV.then_n ?_
            refine KV.env [(0, _), (2, _), (7, _), (8, _), (9, _), (10, _)] ⟨rfl, rfl, rfl, rfl, rfl, rfl, trivial⟩ ?_
            refine CV.seq ?_
            refine CV.seq ?_
            -- region 11 ref.go:71
            refine CV.region ?_
            refine RV.op (OV.step gno (Step.assign rfl) rfl ?_)
            refine RV.nil ?_
            refine KV.then_n ?_
            refine KV.env [(0, _), (2, _), (7, _), (8, _), (9, _), (10, _), (11, _)] ⟨rfl, rfl, rfl, rfl, rfl, rfl, rfl, trivial⟩ ?_
            refine CV.block ?_
            -- loop L12; live [0, 2, 7, 8, 9, 10, 11]
            refine KV.sel [] [] rfl ?_
            refine CV.loopI (fun (k : Nat) => k ≤ ys.length) (fun (k : Nat) => ys.length - k) (fun (k : Nat) => [(0, .slice A ys.length c), (2, .slice B l.length d), (7, .int .u64 (fAt (l.getD j popK.d) f)), (8, .int .u64 (vAt (l.getD j popK.d) v)), (9, .int .i64 j), (10, .bool (okAt ys (fAt (l.getD j popK.d) f) (vAt (l.getD j popK.d) v) k)), (11, .int .i64 k)]) (fun (k : Nat) => Hp I w []) (0) (Nat.zero_le _) ⟨rfl, rfl, rfl, rfl, rfl, rfl, rfl, trivial⟩ (fun _ h => h) ?_
            intro k hik
            refine CV.seq ?_
            refine CV.seq ?_
            -- region 12 ref.go:71
            refine CV.region ?_
            refine RV.op (OV.step gno (Step.move rfl) rfl ?_)
            refine RV.op (OV.step gno (Step.move rfl) rfl ?_)
            refine RV.op (OV.step gno (Step.lenSl Try.underlying22 rfl) rfl ?_)
            refine RV.op (OV.split gno (Step.lss rfl rfl) rfl (fun hk2 => ?_) (fun hk2 => ?_))
            · -- True
              refine RV.nil ?_
              refine KV.then_n ?_
              refine KV.env [(0, _), (2, _), (7, _), (8, _), (9, _), (10, _), (11, _), (59, _)] ⟨rfl, rfl, rfl, rfl, rfl, rfl, rfl, rfl, trivial⟩ ?_
              refine CV.cond_t rfl ?_
              refine CV.skip ?_
              refine KV.then_n ?_
              refine KV.env [(0, _), (2, _), (7, _), (8, _), (9, _), (10, _), (11, _)] ⟨rfl, rfl, rfl, rfl, rfl, rfl, rfl, trivial⟩ ?_
              refine CV.seq ?_
              refine CV.block ?_
              -- region 14 ref.go:72
              refine CV.region ?_
              refine RV.op (OV.step gno (Step.move rfl) rfl ?_)
              refine RV.op (OV.step gno (Step.move rfl) rfl ?_)
              refine KV.cases 63 rfl (fun cc4 => ?_) (fun cc4 => ?_)
              · -- True
                refine RV.op (OV.skip rfl rfl ?_)
                refine RV.op (OV.skip rfl rfl ?_)
                refine RV.op (OV.skip rfl rfl ?_)
                refine RV.op (OV.skip rfl rfl ?_)
                refine RV.op (OV.skip rfl rfl ?_)
                refine RV.op (OV.skip rfl rfl ?_)
                refine RV.op (OV.skip rfl rfl ?_)
                refine RV.op (OV.skip rfl rfl ?_)
                refine RV.op (OV.skipU rfl rfl ?_)
                refine RV.op (OV.skipU rfl rfl ?_)
                refine RV.op (OV.skipU rfl rfl ?_)
                refine RV.op (OV.skipU rfl rfl ?_)
                refine RV.op (OV.skipU rfl rfl ?_)
                refine RV.op (OV.skipU rfl rfl ?_)
                refine RV.op (OV.skipU rfl rfl ?_)
                refine RV.op (OV.skip rfl rfl ?_)
                refine RV.op (OV.step gno (Step.pick_t rfl rfl) rfl ?_)
                refine RV.op (OV.step gno (Step.assign rfl) rfl ?_)
                refine RV.nil ?_
                refine KV.block_n ?_
                refine KV.then_n ?_
                refine KV.env [(0, _), (2, _), (7, _), (8, _), (9, _), (10, _), (11, _)] ⟨rfl, rfl, rfl, rfl, rfl, rfl, rfl, trivial⟩ ?_
                -- region 13 ref.go:71
                refine CV.region ?_
                refine RV.op (OV.step gno (Step.move rfl) rfl ?_)
                (first | refine RV.op (OV.step gno (Step.add rfl rfl (wI64 (by omega) (by omega))) rfl ?_) | refine RV.op (OV.step gno (Step.add rfl rfl rfl) rfl ?_))
                refine RV.op (OV.step gno (Step.assign rfl) rfl ?_)
                refine RV.nil ?_
                refine KV.then_n ?_
                refine KV.env [(0, _), (2, _), (7, _), (8, _), (9, _), (10, _), (11, _)] ⟨rfl, rfl, rfl, rfl, rfl, rfl, rfl, trivial⟩ ?_
                refine KV.sel [] [] rfl ?_
                exact KV.loopI (z := k) (k + 1) (by omega) (by omega) ⟨rfl, rfl, rfl, rfl, rfl, (congrArg (fun b => some (Value.bool b)) (by first | exact okN1 (by assumption) | exact okN2 (by assumption) (by assumption) (by assumption) | exact okN3 (by assumption) (by assumption) | exact okN4 (by assumption) (by assumption))), rfl, trivial⟩ (fun _ h => h)
              · -- False
                refine RV.op (OV.step (gyes rfl) (Step.move rfl) rfl ?_)
                refine RV.op (OV.step (gyes rfl) (Step.move rfl) rfl ?_)
                refine RV.op (OV.step (gyes rfl) (Step.idx Try.underlying22 I25 (fun w h => h.rs hr (fun _ => hI _)) rfl rfl (rfl) _ rfl (by omega)) rfl ?_)
                refine RV.op (OV.step (gyes rfl) (Step.fieldAddr rfl (F25_0 _ _)) rfl ?_)
                refine RV.op (OV.step (gyes rfl) (Step.load Try.underlying23 rfl rfl (fun w h => (h.rs hr (fun _ => hI _)).cell0 (by omega) rfl)) rfl ?_)
                refine RV.op (OV.step (gyes rfl) (Step.move rfl) rfl ?_)
                refine RV.op (OV.split (gyes rfl) (Step.eql rfl rfl) rfl (fun cc5 => ?_) (fun cc5 => ?_))
                · -- True
                  refine RV.op (OV.step (gyes rfl) (Step.move rfl) rfl ?_)
                  refine RV.op (OV.step (gyes rfl) (Step.move rfl) rfl ?_)
                  refine RV.op (OV.step (gyes rfl) (Step.move rfl) rfl ?_)
                  refine RV.op (OV.step (gyes rfl) (Step.idx Try.underlying22 I25 (fun w h => h.rs hr (fun _ => hI _)) rfl rfl (rfl) _ rfl (by omega)) rfl ?_)
                  refine RV.op (OV.step (gyes rfl) (Step.fieldAddr rfl (F25_1 _ _)) rfl ?_)
                  refine RV.op (OV.step (gyes rfl) (Step.load Try.underlying23 rfl rfl (fun w h => (h.rs hr (fun _ => hI _)).cell (by omega) rfl)) rfl ?_)
                  refine RV.op (OV.step (gyes rfl) (Step.move rfl) rfl ?_)
                  refine RV.op (OV.split (gyes rfl) (Step.leq rfl rfl) rfl (fun cc6 => ?_) (fun cc6 => ?_))
                  · -- True
                    refine RV.op (OV.step (gyes rfl) (Step.pick_t rfl rfl) rfl ?_)
                    refine RV.op (OV.step gno (Step.pick_f rfl rfl) rfl ?_)
                    refine RV.op (OV.step gno (Step.assign rfl) rfl ?_)
                    refine RV.nil ?_
                    refine KV.block_n ?_
                    refine KV.then_n ?_
                    refine KV.env [(0, _), (2, _), (7, _), (8, _), (9, _), (10, _), (11, _)] ⟨rfl, rfl, rfl, rfl, rfl, rfl, rfl, trivial⟩ ?_
                    -- region 13 ref.go:71
                    refine CV.region ?_
                    refine RV.op (OV.step gno (Step.move rfl) rfl ?_)
                    (first | refine RV.op (OV.step gno (Step.add rfl rfl (wI64 (by omega) (by omega))) rfl ?_) | refine RV.op (OV.step gno (Step.add rfl rfl rfl) rfl ?_))
                    refine RV.op (OV.step gno (Step.assign rfl) rfl ?_)
                    refine RV.nil ?_
                    refine KV.then_n ?_
                    refine KV.env [(0, _), (2, _), (7, _), (8, _), (9, _), (10, _), (11, _)] ⟨rfl, rfl, rfl, rfl, rfl, rfl, rfl, trivial⟩ ?_
                    refine KV.sel [] [] rfl ?_
                    exact KV.loopI (z := k) (k + 1) (by omega) (by omega) ⟨rfl, rfl, rfl, rfl, rfl, (congrArg (fun b => some (Value.bool b)) (by first | exact okN1 (by assumption) | exact okN2 (by assumption) (by assumption) (by assumption) | exact okN3 (by assumption) (by assumption) | exact okN4 (by assumption) (by assumption))), rfl, trivial⟩ (fun _ h => h)
                  · -- False
                    refine RV.op (OV.step (gyes rfl) (Step.pick_t rfl rfl) rfl ?_)
                    refine RV.op (OV.step gno (Step.pick_f rfl rfl) rfl ?_)
                    refine RV.op (OV.step gno (Step.assign rfl) rfl ?_)
                    refine RV.nil ?_
                    refine KV.block_n ?_
                    refine KV.then_n ?_
                    refine KV.env [(0, _), (2, _), (7, _), (8, _), (9, _), (10, _), (11, _)] ⟨rfl, rfl, rfl, rfl, rfl, rfl, rfl, trivial⟩ ?_
                    -- region 13 ref.go:71
                    refine CV.region ?_
                    refine RV.op (OV.step gno (Step.move rfl) rfl ?_)
                    (first | refine RV.op (OV.step gno (Step.add rfl rfl (wI64 (by omega) (by omega))) rfl ?_) | refine RV.op (OV.step gno (Step.add rfl rfl rfl) rfl ?_))
                    refine RV.op (OV.step gno (Step.assign rfl) rfl ?_)
                    refine RV.nil ?_
                    refine KV.then_n ?_
                    refine KV.env [(0, _), (2, _), (7, _), (8, _), (9, _), (10, _), (11, _)] ⟨rfl, rfl, rfl, rfl, rfl, rfl, rfl, trivial⟩ ?_
                    refine KV.sel [] [] rfl ?_
                    exact KV.loopI (z := k) (k + 1) (by omega) (by omega) ⟨rfl, rfl, rfl, rfl, rfl, (congrArg (fun b => some (Value.bool b)) (by first | exact okN1 (by assumption) | exact okN2 (by assumption) (by assumption) (by assumption) | exact okN3 (by assumption) (by assumption) | exact okN4 (by assumption) (by assumption))), rfl, trivial⟩ (fun _ h => h)
                · -- False
                  refine RV.op (OV.step (gyes rfl) (Step.move rfl) rfl ?_)
                  refine RV.op (OV.skip rfl rfl ?_)
                  refine RV.op (OV.skip rfl rfl ?_)
                  refine RV.op (OV.skip rfl rfl ?_)
                  refine RV.op (OV.skip rfl rfl ?_)
                  refine RV.op (OV.skip rfl rfl ?_)
                  refine RV.op (OV.skip rfl rfl ?_)
                  refine RV.op (OV.skip rfl rfl ?_)
                  refine RV.op (OV.step (gyes rfl) (Step.pick_f rfl rfl) rfl ?_)
                  refine RV.op (OV.step gno (Step.pick_f rfl rfl) rfl ?_)
                  refine RV.op (OV.step gno (Step.assign rfl) rfl ?_)
                  refine RV.nil ?_
                  refine KV.block_n ?_
                  refine KV.then_n ?_
                  refine KV.env [(0, _), (2, _), (7, _), (8, _), (9, _), (10, _), (11, _)] ⟨rfl, rfl, rfl, rfl, rfl, rfl, rfl, trivial⟩ ?_
                  -- region 13 ref.go:71
                  refine CV.region ?_
                  refine RV.op (OV.step gno (Step.move rfl) rfl ?_)
                  (first | refine RV.op (OV.step gno (Step.add rfl rfl (wI64 (by omega) (by omega))) rfl ?_) | refine RV.op (OV.step gno (Step.add rfl rfl rfl) rfl ?_))
                  refine RV.op (OV.step gno (Step.assign rfl) rfl ?_)
                  refine RV.nil ?_
                  refine KV.then_n ?_
                  refine KV.env [(0, _), (2, _), (7, _), (8, _), (9, _), (10, _), (11, _)] ⟨rfl, rfl, rfl, rfl, rfl, rfl, rfl, trivial⟩ ?_
                  refine KV.sel [] [] rfl ?_
                  exact KV.loopI (z := k) (k + 1) (by omega) (by omega) ⟨rfl, rfl, rfl, rfl, rfl, (congrArg (fun b => some (Value.bool b)) (by first | exact okN1 (by assumption) | exact okN2 (by assumption) (by assumption) (by assumption) | exact okN3 (by assumption) (by assumption) | exact okN4 (by assumption) (by assumption))), rfl, trivial⟩ (fun _ h => h)
            · -- False
              obtain rfl : k = ys.length := by omega
              refine RV.nil ?_
              refine KV.then_n ?_
              refine KV.env [(0, _), (2, _), (7, _), (8, _), (9, _), (10, _), (11, _), (59, _)] ⟨rfl, rfl, rfl, rfl, rfl, rfl, rfl, rfl, trivial⟩ ?_
              refine CV.cond_f rfl ?_
              refine CV.exit ?_
              refine KV.then_exit ?_
              refine KV.then_exit ?_
              refine KV.block_hit ?_
              refine KV.then_n ?_
              refine KV.env [(0, _), (2, _), (7, _), (8, _), (9, _), (10, _)] ⟨rfl, rfl, rfl, rfl, rfl, rfl, trivial⟩ ?_
              refine CV.seq ?_
              -- region 15 ref.go:74
              refine CV.region ?_
              refine RV.op (OV.step gno (Step.move rfl) rfl ?_)
              refine RV.op (OV.step gno (Step.not rfl) rfl ?_)
              refine RV.nil ?_
              refine KV.then_n ?_
              refine KV.env [(0, _), (2, _), (7, _), (8, _), (9, _), (82, _)] ⟨rfl, rfl, rfl, rfl, rfl, rfl, trivial⟩ ?_
              refine KV.cases 82 rfl (fun cc7 => ?_) (fun cc7 => ?_)
              · -- True
                refine CV.cond_t rfl ?_
                refine CV.seq ?_
                -- region 16 ref.go:75
                refine CV.region ?_
                refine RV.op (OV.step gno (Step.assign rfl) rfl ?_)
                refine RV.nil ?_
                refine KV.then_n ?_
                refine KV.env [(6, _)] ⟨rfl, trivial⟩ ?_
                refine CV.ret ?_
                refine KV.block_ret ?_
                refine KV.then_ret ?_
                refine KV.then_ret ?_
                refine KV.block_ret ?_
                refine KV.then_ret ?_
                -- return at r16
                refine KV.sel [] [] rfl ?_
                exact KV.ret1 rfl rfl _ (fun _ h => h) ⟨by rw [← hinv.2, sR_stop (j := j) (by omega) (not_tru (by assumption))], rfl⟩
              · -- False
                refine CV.cond_f rfl ?_
                refine CV.skip ?_
                refine KV.block_n ?_
                refine KV.then_n ?_
                refine KV.env [(0, _), (2, _), (7, _), (8, _), (9, _)] ⟨rfl, rfl, rfl, rfl, rfl, trivial⟩ ?_
                -- region 6 ref.go:64
                refine CV.region ?_
                refine RV.op (OV.step gno (Step.move rfl) rfl ?_)
                (first | refine RV.op (OV.step gno (Step.add rfl rfl (wI64 (by omega) (by omega))) rfl ?_) | refine RV.op (OV.step gno (Step.add rfl rfl rfl) rfl ?_))
                refine RV.op (OV.step gno (Step.assign rfl) rfl ?_)
                refine RV.nil ?_
                refine KV.then_n ?_
                refine KV.env [(0, _), (2, _), (7, _), (8, _), (9, _)] ⟨rfl, rfl, rfl, rfl, rfl, trivial⟩ ?_
                refine KV.sel [] [] rfl ?_
                exact KV.loop3 (x := j) (y := f) (z := v) (j + 1) (fAt (l.getD j popK.d) f) (vAt (l.getD j popK.d) v) ⟨by omega, by have hst := sR_step (ys := ys) (l := l) (j := j) (f := f) (v := v) (by omega) (not_fls (by assumption)); rw [← hst]; exact hinv.2⟩ (by omega) ⟨rfl, rfl, rfl, rfl, rfl, trivial⟩ (fun _ h => h)
        · -- False
          refine RV.nil ?_
          refine KV.then_n ?_
          refine KV.env [(0, _), (2, _), (7, _), (8, _), (9, _), (38, _)] ⟨rfl, rfl, rfl, rfl, rfl, rfl, trivial⟩ ?_
          refine CV.cond_f rfl ?_
          refine CV.exit ?_
          refine KV.then_exit ?_
          refine KV.then_exit ?_
          refine KV.block_hit ?_
          refine KV.then_n ?_
          refine KV.env [] trivial ?_
          refine CV.seq ?_
          -- region 17 ref.go:78
          refine CV.region ?_
          refine RV.op (OV.step gno (Step.assign rfl) rfl ?_)
          refine RV.nil ?_
          refine KV.then_n ?_
          refine KV.env [(6, _)] ⟨rfl, trivial⟩ ?_
          refine CV.ret ?_
          -- return at r17
          refine KV.sel [] [] rfl ?_
          exact KV.ret1 rfl rfl _ (fun _ h => h) ⟨by rw [← hinv.2, sR_end (by omega)], rfl⟩

set_option maxRecDepth 100000 in
set_option maxHeartbeats 1000000 in
theorem table_fn {A : Option Addr} {n c : Nat} {raw : List Pt} {w : World} (hr : RS w ptK A raw) (hn : n = raw.length) (hl : raw.length ≤ 1000000) (hf : fitT raw) : Fx Try.prog 13 [.slice A n c] w [] no (fun v L => ∃ A2 c2, v = .slice A2 (tableM raw).length c2 ∧ L = [OS 25 ptK A2 c2 (tableM raw)]) := by
  subst hn
  refine Sv.Fx.body Try.func13 rfl T13 rfl ?_
  intro I hro hI
  refine KV.env [(0, _)] ⟨rfl, trivial⟩ ?_
  refine CV.seq ?_
  -- region 0 law.go:21
  refine CV.region ?_
  refine RV.op (OV.step gno (Step.assign rfl) rfl ?_)
  refine RV.nil ?_
  refine KV.then_n ?_
  refine KV.env [(0, _)] ⟨rfl, trivial⟩ ?_
  refine CV.seq ?_
  -- region 1 law.go:22
  refine CV.region ?_
  refine RV.op (OV.step gno (Step.build rfl (Bd25_0_1 _ _)) rfl ?_)
  refine RV.op (OV.buildSlice (K := ptK) ([⟨_, _, _⟩]) rfl (Bs22_1_0 _ _ _) rfl rfl (by omega) gno rfl (fun A0 => ?_))
  refine RV.op (OV.step gno (Step.assign rfl) rfl ?_)
  refine RV.nil ?_
  refine KV.then_n ?_
  refine KV.env [(0, _), (3, _)] ⟨rfl, rfl, trivial⟩ ?_
  -- join; live [0, 3]
  refine CV.join (α := Unit) (fun _ => [(0, .slice A raw.length c), (3, .slice A0 1 1)]) (fun _ => Hp I w [OS 25 ptK A0 1 (tabM raw 1)]) ?_ ?_
  · skip
    refine CV.seq ?_
    -- region 2 law.go:23
    refine CV.region ?_
    refine RV.op (OV.step gno (Step.move rfl) rfl ?_)
    refine RV.op (OV.step gno (Step.lenSl Try.underlying22 rfl) rfl ?_)
    refine RV.op (OV.split gno (Step.gtr rfl rfl) rfl (fun hpos => ?_) (fun hpos => ?_))
    · -- True
      refine RV.nil ?_
      refine KV.then_n ?_
      refine KV.env [(0, _), (3, _), (10, _)] ⟨rfl, rfl, rfl, trivial⟩ ?_
      refine CV.cond_t rfl ?_
      -- region 3 law.go:24
      have h0 := hf 0
      unfold fitP at h0
      have a1 := tmB (pt raw 0).f 100 (by omega) (by omega)
      unfold pt at h0 a1
      refine CV.stillTail 18 (by kernel_rfl) (by kernel_rfl) (fun _ h => h.drew) ?_
      refine SV.step gno (Step.move rfl) rfl ?_
      refine SV.step gno (Step.move rfl) rfl ?_
      refine SV.step gno (Step.idx Try.underlying22 I25 (fun w h => h.rs hr (fun _ => hI _)) rfl rfl (rfl) _ (show (0 : Int) = ((0 : Nat) : Int) from rfl) (by first | omega | (rw [tabM_length]; omega) | decide)) rfl ?_
      refine SV.step gno (Step.fieldAddr rfl (F25_0 _ _)) rfl ?_
      refine SV.step gno (Step.load Try.underlying23 rfl rfl (fun w h => (h.rs hr (fun _ => hI _)).cell0 (by omega) rfl)) rfl ?_
      refine SV.step gno (Step.rem rfl rfl (by omega) (rfl)) rfl ?_
      (first | refine SV.step gno (Step.add rfl rfl (wU64 (by omega) (by omega))) rfl ?_ | refine SV.step gno (Step.add rfl rfl rfl) rfl ?_)
      refine SV.step gno (Step.move rfl) rfl ?_
      refine SV.step gno (Step.idx Try.underlying22 I25 (fun w h => h.rs hr (fun _ => hI _)) rfl rfl (rfl) _ (show (0 : Int) = ((0 : Nat) : Int) from rfl) (by first | omega | (rw [tabM_length]; omega) | decide)) rfl ?_
      refine SV.step gno (Step.fieldAddr rfl (F25_1 _ _)) rfl ?_
      refine SV.step gno (Step.load Try.underlying23 rfl rfl (fun w h => (h.rs hr (fun _ => hI _)).cell (by omega) rfl)) rfl ?_
      refine SV.step gno (Step.rem rfl rfl (by omega) (rfl)) rfl ?_
      refine SV.step gno (Step.move rfl) rfl ?_
      refine SV.step gno (Step.idx Try.underlying22 I25 (fun w h => h.rs hr (fun _ => hI _)) rfl rfl (rfl) _ (show (0 : Int) = ((0 : Nat) : Int) from rfl) (by first | omega | (rw [tabM_length]; omega) | decide)) rfl ?_
      refine SV.step gno (Step.fieldAddr rfl (F25_2 _ _)) rfl ?_
      refine SV.step gno (Step.load Try.underlying23 rfl rfl (fun w h => (h.rs hr (fun _ => hI _)).cell (by omega) rfl)) rfl ?_
      refine SV.step gno (Step.rem rfl rfl (by omega) (rfl)) rfl ?_
      refine SV.step gno (Step.build rfl (Bd25_0_1_2 _ _ _)) rfl ?_
      refine SV.nil ?_
      show KV _ (wpList _ _ _ _) _ _
      refine RV.op (OV.step gno (Step.idx Try.underlying22 I25 (fun w h => h.os 0 rfl) rfl rfl (rfl) _ (show (0 : Int) = ((0 : Nat) : Int) from rfl) (by first | omega | (rw [tabM_length]; omega) | decide)) rfl ?_)
      refine RV.op (OV.storeE 0 (0) (⟨_, _, _⟩) (j := 0) [_, _, _] I25 rfl rfl rfl rfl rfl rfl (by decide) rfl (Nat.le_of_ble_eq_true rfl) gno ?_)
      refine RV.nil ?_
      refine KV.then_n ?_
      refine KV.env [(0, _), (3, _)] ⟨rfl, rfl, trivial⟩ ?_
      refine KV.sel [0] [_] rfl ?_
      exact KV.join () ⟨rfl, rfl, trivial⟩ (fun _ h => by rw [tab1]; first | (rw [tab0_pos (by omega)]; exact h) | (rw [tab0_neg (by omega)]; exact h))
    · -- False
      refine RV.nil ?_
      refine KV.then_n ?_
      refine KV.env [(0, _), (3, _), (10, _)] ⟨rfl, rfl, rfl, trivial⟩ ?_
      refine CV.cond_f rfl ?_
      refine CV.skip ?_
      refine KV.then_n ?_
      refine KV.env [(0, _), (3, _)] ⟨rfl, rfl, trivial⟩ ?_
      refine KV.sel [0] [_] rfl ?_
      exact KV.join () ⟨rfl, rfl, trivial⟩ (fun _ h => by rw [tab1]; first | (rw [tab0_pos (by omega)]; exact h) | (rw [tab0_neg (by omega)]; exact h))
  · intro _
    refine CV.seq ?_
    refine CV.seq ?_
    -- region 4 law.go:26
    refine CV.region ?_
    refine RV.op (OV.step gno (Step.assign rfl) rfl ?_)
    refine RV.nil ?_
    refine KV.then_n ?_
    refine KV.env [(0, _), (3, _), (4, _)] ⟨rfl, rfl, rfl, trivial⟩ ?_
    refine CV.block ?_
    -- loop L5; live [0, 3, 4]
    refine KV.sel [0] [_] rfl ?_
    refine CV.loop3 (fun (j : Nat) (A2 : Option Addr) (c2 : Nat) => 1 ≤ j ∧ j ≤ tabN raw) (fun (j : Nat) (A2 : Option Addr) (c2 : Nat) => 8 - j) (fun (j : Nat) (A2 : Option Addr) (c2 : Nat) => [(0, .slice A raw.length c), (3, .slice A2 (tabM raw j).length c2), (4, .int .i64 j)]) (fun (j : Nat) (A2 : Option Addr) (c2 : Nat) => Hp I w [OS 25 ptK A2 c2 (tabM raw j)]) (1) (A0) (1) ⟨Nat.le_refl _, (tabN_pos raw).1⟩ ⟨rfl, rfl, rfl, trivial⟩ (fun _ h => h) ?_
    intro j A2 c2 hinv
    refine CV.seq ?_
    refine CV.seq ?_
    -- region 5 law.go:26
    refine CV.region ?_
    refine RV.op (OV.step gno (Step.move rfl) rfl ?_)
    refine RV.op (OV.step gno (Step.move rfl) rfl ?_)
    refine RV.op (OV.step gno (Step.lenSl Try.underlying22 rfl) rfl ?_)
    refine RV.op (OV.split gno (Step.lss rfl rfl) rfl (fun hq1 => ?_) (fun hq1 => ?_))
    · -- True
      refine RV.op (OV.step gno (Step.move rfl) rfl ?_)
      refine RV.op (OV.step (gyes rfl) (Step.move rfl) rfl ?_)
      refine RV.op (OV.split (gyes rfl) (Step.lss rfl rfl) rfl (fun hq2 => ?_) (fun hq2 => ?_))
      · -- True
        refine RV.op (OV.step gno (Step.pick_t rfl rfl) rfl ?_)
        refine RV.nil ?_
        refine KV.then_n ?_
        refine KV.env [(0, _), (3, _), (4, _), (37, _)] ⟨rfl, rfl, rfl, rfl, trivial⟩ ?_
        refine CV.cond_t rfl ?_
        refine CV.skip ?_
        refine KV.then_n ?_
        refine KV.env [(0, _), (3, _), (4, _)] ⟨rfl, rfl, rfl, trivial⟩ ?_
        refine CV.seq ?_
        refine CV.block ?_
        refine CV.seq ?_
        -- region 7 law.go:27
        have h0 := hf j
        unfold fitP at h0
        have a1 := tmB (pt raw j).f 100 (by omega) (by omega)
        have a2 := tmB (pt raw j).v 4 (by omega) (by omega)
        have a3 := tmB (pt raw j).p 30 (by omega) (by omega)
        have hb := tabE_bd hf (j - 1)
        unfold pt at h0 a1 a2 a3
        refine CV.region ?_
        refine RV.op (OV.step gno (Step.move rfl) rfl ?_)
        refine RV.op (OV.step gno (Step.move rfl) rfl ?_)
        (first | refine RV.op (OV.step gno (Step.sub rfl rfl (wI64 (by omega) (by omega))) rfl ?_) | refine RV.op (OV.step gno (Step.sub rfl rfl rfl) rfl ?_))
        refine RV.op (OV.step gno (Step.idx Try.underlying22 I25 (fun w h => h.os 0 rfl) rfl rfl (rfl) _ (show (j : Int) - 1 = ((j - 1 : Nat) : Int) by omega) (by first | omega | (rw [tabM_length]; omega) | decide)) rfl ?_)
        refine RV.op (OV.step gno (Step.loadN _ Try.underlying25 rfl I25 rfl rfl (fun w h => (h.os 0 rfl).cells (by rw [tabM_length]; omega))) rfl ?_)
        refine RV.op (OV.alloc #[.int .u64 0, .int .u64 0, .int .u64 0] I25 rfl gno rfl (fun b7_5 => ?_))
        refine RV.op (OV.store 1 [_, _, _] #[_, _, _] I25 rfl rfl rfl rfl rfl (Nat.le_of_ble_eq_true rfl) (by simp [Value.oneCell']) rfl gno ?_)
        refine RV.nil ?_
        refine KV.then_n ?_
        refine KV.env [(0, _), (3, _), (4, _), (5, _)] ⟨rfl, rfl, rfl, rfl, trivial⟩ ?_
        refine CV.seq ?_
        -- region 8 law.go:28
        have hge : (tabM raw j).getD (j - 1) ptK.d = tabE raw (j - 1) := tabM_get raw (by omega)
        rw [hge]
        refine CV.stillTail 10 (by kernel_rfl) (by kernel_rfl) (fun _ h => h.drew) ?_
        refine SV.step gno (Step.fieldAddr rfl (F25_0 _ _)) rfl ?_
        refine SV.step gno (Step.load Try.underlying23 rfl rfl (fun w h => h.cell 1 rfl rfl)) rfl ?_
        (first | refine SV.step gno (Step.add rfl rfl (wU64 (by omega) (by omega))) rfl ?_ | refine SV.step gno (Step.add rfl rfl rfl) rfl ?_)
        refine SV.step gno (Step.move rfl) rfl ?_
        refine SV.step gno (Step.move rfl) rfl ?_
        refine SV.step gno (Step.idx Try.underlying22 I25 (fun w h => h.rs hr (fun _ => hI _)) rfl rfl (rfl) _ rfl (by first | omega | (rw [tabM_length]; omega) | decide)) rfl ?_
        refine SV.step gno (Step.fieldAddr rfl (F25_0 _ _)) rfl ?_
        refine SV.step gno (Step.load Try.underlying23 rfl rfl (fun w h => (h.rs hr (fun _ => hI _)).cell0 (by omega) rfl)) rfl ?_
        refine SV.step gno (Step.rem rfl rfl (by omega) (rfl)) rfl ?_
        (first | refine SV.step gno (Step.add rfl rfl (wU64 (by omega) (by omega))) rfl ?_ | refine SV.step gno (Step.add rfl rfl rfl) rfl ?_)
        refine SV.nil ?_
        show KV _ (wpList _ _ _ _) _ _
        refine RV.op (OV.step gno (Step.fieldAddr rfl (F25_0 _ _)) rfl ?_)
        refine RV.op (OV.store 1 [_] #[_, _, _] I23 rfl rfl rfl rfl rfl (Nat.le_of_ble_eq_true rfl) (by simp [Value.oneCell']) rfl gno ?_)
        refine RV.nil ?_
        refine KV.then_n ?_
        refine KV.env [(0, _), (3, _), (4, _), (5, _)] ⟨rfl, rfl, rfl, rfl, trivial⟩ ?_
        refine CV.seq ?_
        -- region 9 law.go:29
        refine CV.stillTail 9 (by kernel_rfl) (by kernel_rfl) (fun _ h => h.drew) ?_
        refine SV.step gno (Step.fieldAddr rfl (F25_1 _ _)) rfl ?_
        refine SV.step gno (Step.load Try.underlying23 rfl rfl (fun w h => h.cell 1 rfl rfl)) rfl ?_
        refine SV.step gno (Step.move rfl) rfl ?_
        refine SV.step gno (Step.move rfl) rfl ?_
        refine SV.step gno (Step.idx Try.underlying22 I25 (fun w h => h.rs hr (fun _ => hI _)) rfl rfl (rfl) _ rfl (by first | omega | (rw [tabM_length]; omega) | decide)) rfl ?_
        refine SV.step gno (Step.fieldAddr rfl (F25_1 _ _)) rfl ?_
        refine SV.step gno (Step.load Try.underlying23 rfl rfl (fun w h => (h.rs hr (fun _ => hI _)).cell (by omega) rfl)) rfl ?_
        refine SV.step gno (Step.rem rfl rfl (by omega) (rfl)) rfl ?_
        (first | refine SV.step gno (Step.add rfl rfl (wU64 (by omega) (by omega))) rfl ?_ | refine SV.step gno (Step.add rfl rfl rfl) rfl ?_)
        refine SV.nil ?_
        show KV _ (wpList _ _ _ _) _ _
        refine RV.op (OV.step gno (Step.fieldAddr rfl (F25_1 _ _)) rfl ?_)
        refine RV.op (OV.store 1 [_] #[_, _, _] I23 rfl rfl rfl rfl rfl (Nat.le_of_ble_eq_true rfl) (by simp [Value.oneCell']) rfl gno ?_)
        refine RV.nil ?_
        refine KV.then_n ?_
        refine KV.env [(0, _), (3, _), (4, _), (5, _)] ⟨rfl, rfl, rfl, rfl, trivial⟩ ?_
        refine CV.seq ?_
        -- region 10 law.go:30
        refine CV.stillTail 9 (by kernel_rfl) (by kernel_rfl) (fun _ h => h.drew) ?_
        refine SV.step gno (Step.fieldAddr rfl (F25_2 _ _)) rfl ?_
        refine SV.step gno (Step.load Try.underlying23 rfl rfl (fun w h => h.cell 1 rfl rfl)) rfl ?_
        refine SV.step gno (Step.move rfl) rfl ?_
        refine SV.step gno (Step.move rfl) rfl ?_
        refine SV.step gno (Step.idx Try.underlying22 I25 (fun w h => h.rs hr (fun _ => hI _)) rfl rfl (rfl) _ rfl (by first | omega | (rw [tabM_length]; omega) | decide)) rfl ?_
        refine SV.step gno (Step.fieldAddr rfl (F25_2 _ _)) rfl ?_
        refine SV.step gno (Step.load Try.underlying23 rfl rfl (fun w h => (h.rs hr (fun _ => hI _)).cell (by omega) rfl)) rfl ?_
        refine SV.step gno (Step.rem rfl rfl (by omega) (rfl)) rfl ?_
        (first | refine SV.step gno (Step.add rfl rfl (wU64 (by omega) (by omega))) rfl ?_ | refine SV.step gno (Step.add rfl rfl rfl) rfl ?_)
        refine SV.nil ?_
        show KV _ (wpList _ _ _ _) _ _
        refine RV.op (OV.step gno (Step.fieldAddr rfl (F25_2 _ _)) rfl ?_)
        refine RV.op (OV.store 1 [_] #[_, _, _] I23 rfl rfl rfl rfl rfl (Nat.le_of_ble_eq_true rfl) (by simp [Value.oneCell']) rfl gno ?_)
        refine RV.nil ?_
        refine KV.then_n ?_
        refine KV.env [(0, _), (3, _), (4, _), (5, _)] ⟨rfl, rfl, rfl, rfl, trivial⟩ ?_
        -- region 11 law.go:31
        refine CV.region ?_
        refine RV.op (OV.step gno (Step.move rfl) rfl ?_)
        refine RV.op (OV.step gno (Step.loadN _ Try.underlying25 rfl I25 rfl rfl (fun w h => h.cells 1 rfl)) rfl ?_)
        refine RV.op (OV.buildSlice (K := ptK) ([⟨_, _, _⟩]) rfl (Bs22_1_0 _ _ _) rfl rfl (by omega) gno rfl (fun b11_2 => ?_))
        refine RV.op (OV.append 0 Try.underlying22 I25 rfl rfl rfl rfl rfl rfl (fun w h => h.os 2 rfl) (by simp only [List.length_cons, List.length_nil, tabM_length]; omega) (by simp only [List.length_cons, List.length_nil, tabM_length]; omega) gno rfl (fun A3 c3 => ?_))
        refine RV.op (OV.step gno (Step.assign rfl) rfl ?_)
        refine RV.nil ?_
        refine KV.block_n ?_
        refine KV.then_n ?_
        refine KV.env [(0, _), (3, _), (4, _)] ⟨rfl, rfl, rfl, trivial⟩ ?_
        -- region 6 law.go:26
        refine CV.region ?_
        refine RV.op (OV.step gno (Step.move rfl) rfl ?_)
        (first | refine RV.op (OV.step gno (Step.add rfl rfl (wI64 (by omega) (by omega))) rfl ?_) | refine RV.op (OV.step gno (Step.add rfl rfl rfl) rfl ?_))
        refine RV.op (OV.step gno (Step.assign rfl) rfl ?_)
        refine RV.nil ?_
        refine KV.then_n ?_
        refine KV.env [(0, _), (3, _), (4, _)] ⟨rfl, rfl, rfl, trivial⟩ ?_
        refine KV.sel [0] [_] rfl ?_
        have hap := tabApp raw (j := j) (by omega)
        exact KV.loop3 (x := j) (y := A2) (z := c2) (j + 1) (A3) (c3) ⟨by omega, by unfold tabN; omega⟩ (by omega) ⟨rfl, (show some (Value.slice _ _ _) = some (Value.slice _ _ _) by rw [tabM_succ, List.length_append, List.length_append]; rfl), rfl, trivial⟩ (fun _ h => by rw [tabM_succ, hap]; exact h)
      · -- False
        refine RV.op (OV.step gno (Step.pick_t rfl rfl) rfl ?_)
        refine RV.nil ?_
        refine KV.then_n ?_
        refine KV.env [(0, _), (3, _), (4, _), (37, _)] ⟨rfl, rfl, rfl, rfl, trivial⟩ ?_
        refine CV.cond_f rfl ?_
        refine CV.exit ?_
        refine KV.then_exit ?_
        refine KV.then_exit ?_
        refine KV.block_hit ?_
        refine KV.then_n ?_
        refine KV.env [(3, _)] ⟨rfl, trivial⟩ ?_
        refine CV.seq ?_
        -- region 12 law.go:33
        refine CV.region ?_
        refine RV.op (OV.step gno (Step.move rfl) rfl ?_)
        refine RV.op (OV.step gno (Step.assign rfl) rfl ?_)
        refine RV.nil ?_
        refine KV.then_n ?_
        refine KV.env [(2, _)] ⟨rfl, trivial⟩ ?_
        refine CV.ret ?_
        -- return at r12
        refine KV.sel [0] [_] rfl ?_
        have hje : j = tabN raw := by unfold tabN at *; omega
        subst hje
        exact KV.ret1 rfl rfl _ (fun _ h => h) ⟨_, _, rfl, rfl⟩
    · -- False
      refine RV.op (OV.step gno (Step.move rfl) rfl ?_)
      refine RV.op (OV.skip rfl rfl ?_)
      refine RV.op (OV.skip rfl rfl ?_)
      refine RV.op (OV.step gno (Step.pick_f rfl rfl) rfl ?_)
      refine RV.nil ?_
      refine KV.then_n ?_
      refine KV.env [(0, _), (3, _), (4, _), (37, _)] ⟨rfl, rfl, rfl, rfl, trivial⟩ ?_
      refine CV.cond_f rfl ?_
      refine CV.exit ?_
      refine KV.then_exit ?_
      refine KV.then_exit ?_
      refine KV.block_hit ?_
      refine KV.then_n ?_
      refine KV.env [(3, _)] ⟨rfl, trivial⟩ ?_
      refine CV.seq ?_
      -- region 12 law.go:33
      refine CV.region ?_
      refine RV.op (OV.step gno (Step.move rfl) rfl ?_)
      refine RV.op (OV.step gno (Step.assign rfl) rfl ?_)
      refine RV.nil ?_
      refine KV.then_n ?_
      refine KV.env [(2, _)] ⟨rfl, trivial⟩ ?_
      refine CV.ret ?_
      -- return at r12
      refine KV.sel [0] [_] rfl ?_
      have hje : j = tabN raw := by unfold tabN at *; omega
      subst hje
      exact KV.ret1 rfl rfl _ (fun _ h => h) ⟨_, _, rfl, rfl⟩
end Go.Proofs.Ytaafpnoffdcbnaa
