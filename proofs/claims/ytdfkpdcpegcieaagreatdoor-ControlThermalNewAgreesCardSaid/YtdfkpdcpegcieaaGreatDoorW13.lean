/-
 Walks, part 13.
-/
import Derived.Test.YtdfkpdcpegcieaaGreatDoorTabA
import Derived.Test.YtdfkpdcpegcieaaGreatDoorW12
set_option linter.unusedSimpArgs false
set_option linter.unusedVariables false
namespace Go.Proofs.YtdfkpdcpegcieaaGreatDoor
open Go.Sv Go.Perf Go.Ctl
set_option maxRecDepth 100000 in
set_option maxHeartbeats 1000000 in
theorem large_fn {A : Option Addr} {n c : Nat} {l : List RB} {w : World} (hr : RS w rbK A l) (hn : n = l.length) (hl : l.length ≤ 9223372036854775807) : Fx Tryz.prog 9 [.slice A n c] w [] no (fun v L => ∃ b, v = .bool b ∧ (b = false → small l) ∧ L = []) := by
 subst hn
 refine Sv.Fx.body Tryz.func9 rfl T9 rfl ?_
 intro I hro hI
 refine KV.e1 0 (CV.seq (CV.region ?_))
 refine RV.a rfl rfl ?_
 refine RV.nil (KV.then_n (KV.e1 0 (CV.seq (CV.seq (CV.region ?_)))))
 refine RV.a rfl rfl ?_
 refine RV.nil (KV.then_n (KV.e2 0 3 (CV.block ?_)))
 refine KV.sel [] [] rfl ?_
 refine CV.loopI (fun (i : Nat) => i ≤ l.length ∧ ∀ k, k < i → (l.getD k rbK.d).ys.length ≤ 20 ∧ (l.getD k rbK.d).tr.length ≤ 20) (fun (i : Nat) => l.length - i) (fun (i : Nat) => [(0, .slice A l.length c), (3, .int .i64 i)]) (fun (i : Nat) => Hp I w []) (0) ⟨Nat.zero_le _, fun k hk => by omega⟩ ⟨rfl, rfl, trivial⟩ (fun _ h => h) ?_
 intro i hinv
 refine CV.seq (CV.seq (CV.region ?_))
 refine RV.m rfl rfl (RV.m rfl rfl (RV.s (Step.lenSl Tryz.underlying22 rfl) rfl ?_))
 refine RV.op (OV.split gno (Step.lss rfl rfl) rfl (fun cc1 => ?_) (fun cc1 => ?_))
 ·
  refine RV.nil (KV.then_n (KV.e3 0 3 7 (CV.cond_t rfl (CV.skip (KV.then_n ?_)))))
  refine KV.e2 0 3 (CV.seq (CV.block (CV.seq (CV.region ?_))))
  refine RV.m rfl rfl (RV.m rfl rfl ?_)
  refine RV.s (Step.idx Tryz.underlying22 I45 (fun w h => h.rs hr (fun _ => hI _)) rfl rfl (rfl) _ rfl (by omega)) rfl ?_
  refine RV.s (Step.fieldAddr rfl (F45_1 _ _)) rfl ?_
  (first | refine RV.op (OV.step gno (Step.load Tryz.underlying42 rfl rfl (fun w h => (h.rs hr (fun _ => hI _)).cell (by omega) rfl)) rfl ?_) | refine RV.op (OV.step gno (Step.load Tryz.underlying42 rfl rfl (fun w h => (h.rs hr (fun _ => hI _)).cell0 (by omega) rfl)) rfl ?_))
  refine RV.s (Step.lenSl Tryz.underlying42 rfl) rfl ?_
  refine RV.op (OV.split gno (Step.gtr rfl rfl) rfl (fun cc2 => ?_) (fun cc2 => ?_))
  ·
   refine RV.m rfl rfl (RV.k rfl rfl (RV.k rfl rfl (RV.k rfl rfl (RV.k rfl rfl (RV.k rfl rfl (RV.k rfl rfl (RV.k rfl rfl ?_)))))))
   refine RV.s (Step.pick_t rfl rfl) rfl ?_
   refine RV.nil (KV.then_n (KV.e3 0 3 25 (CV.cond_t rfl (CV.seq (CV.region ?_)))))
   refine RV.a rfl rfl ?_
   refine RV.nil (KV.then_n (KV.e1 2 (CV.ret (KV.block_ret (KV.then_ret ?_)))))
   refine KV.then_ret (KV.block_ret (KV.then_ret ?_))
   refine KV.sel [] [] rfl ?_
   exact KV.ret1 rfl rfl _ (fun _ h => h) ⟨true, rfl, (fun h => by cases h), rfl⟩
  ·
   refine RV.m rfl rfl (RV.gw rfl (Step.move rfl) rfl (RV.gw rfl (Step.move rfl) rfl ?_))
   refine RV.gw rfl (Step.idx Tryz.underlying22 I45 (fun w h => h.rs hr (fun _ => hI _)) rfl rfl (rfl) _ rfl (by omega)) rfl ?_
   refine RV.gw rfl (Step.fieldAddr rfl (F45_3 _ _)) rfl ?_
   (first | refine RV.op (OV.step (gyes rfl) (Step.load Tryz.underlying43 rfl rfl (fun w h => (h.rs hr (fun _ => hI _)).cell (by omega) rfl)) rfl ?_) | refine RV.op (OV.step (gyes rfl) (Step.load Tryz.underlying43 rfl rfl (fun w h => (h.rs hr (fun _ => hI _)).cell0 (by omega) rfl)) rfl ?_))
   refine RV.gw rfl (Step.lenSl Tryz.underlying43 rfl) rfl ?_
   refine RV.op (OV.split (gyes rfl) (Step.gtr rfl rfl) rfl (fun cc3 => ?_) (fun cc3 => ?_))
   ·
    refine RV.s (Step.pick_f rfl rfl) rfl ?_
    refine RV.nil (KV.then_n (KV.e3 0 3 25 (CV.cond_t rfl (CV.seq (CV.region ?_)))))
    refine RV.a rfl rfl ?_
    refine RV.nil (KV.then_n (KV.e1 2 (CV.ret (KV.block_ret (KV.then_ret ?_)))))
    refine KV.then_ret (KV.block_ret (KV.then_ret ?_))
    refine KV.sel [] [] rfl ?_
    exact KV.ret1 rfl rfl _ (fun _ h => h) ⟨true, rfl, (fun h => by cases h), rfl⟩
   ·
    refine RV.s (Step.pick_f rfl rfl) rfl ?_
    refine RV.nil (KV.then_n (KV.e3 0 3 25 (CV.cond_f rfl (CV.skip (KV.block_n ?_)))))
    refine KV.then_n (KV.e2 0 3 (CV.region ?_))
    refine RV.m rfl rfl ?_
    (first | refine RV.op (OV.step gno (Step.add rfl rfl (wI64 (by omega) (by omega))) rfl ?_) | refine RV.op (OV.step gno (Step.add rfl rfl rfl) rfl ?_))
    refine RV.a rfl rfl ?_
    refine RV.nil (KV.then_n (KV.e2 0 3 ?_))
    refine KV.sel [] [] rfl ?_
    exact KV.loopI (z := i) (i + 1) ⟨by omega, fun k hk => by by_cases e : k = i; (subst e; omega); exact hinv.2 k (by omega)⟩ (by omega) ⟨rfl, rfl, trivial⟩ (fun _ h => h)
 ·
  refine RV.nil (KV.then_n (KV.e3 0 3 7 (CV.cond_f rfl (CV.exit (KV.then_exit ?_)))))
  refine KV.then_exit (KV.block_hit (KV.then_n (KV.e1 0 (CV.seq (CV.region ?_)))))
  refine RV.m rfl rfl (RV.s (Step.lenSl Tryz.underlying22 rfl) rfl ?_)
  refine RV.op (OV.split gno (Step.gtr rfl rfl) rfl (fun cc4 => ?_) (fun cc4 => ?_))
  ·
   refine RV.a rfl rfl ?_
   refine RV.nil (KV.then_n (KV.e1 2 (CV.ret ?_)))
   refine KV.sel [] [] rfl ?_
   first | exact KV.ret1 rfl rfl _ (fun _ h => h) ⟨true, rfl, (fun h => by cases h), rfl⟩ | exact KV.ret1 rfl rfl _ (fun _ h => h) ⟨false, rfl, fun _ => ⟨by omega, fun k hk => hinv.2 k (by omega)⟩, rfl⟩
  ·
   refine RV.a rfl rfl ?_
   refine RV.nil (KV.then_n (KV.e1 2 (CV.ret ?_)))
   refine KV.sel [] [] rfl ?_
   first | exact KV.ret1 rfl rfl _ (fun _ h => h) ⟨true, rfl, (fun h => by cases h), rfl⟩ | exact KV.ret1 rfl rfl _ (fun _ h => h) ⟨false, rfl, fun _ => ⟨by omega, fun k hk => hinv.2 k (by omega)⟩, rfl⟩

set_option maxRecDepth 100000 in
set_option maxHeartbeats 1000000 in
theorem atR_fn (r : RN) (n : Nat) (hn : 0 < n) (hn2 : n ≤ 1000000) {w : World} : Fx Tryz.prog 15 [.agg #[.int .i64 r.dm, .int .i64 r.ld, .int .i64 r.md, .bool r.re, .bool r.rw], .int .i64 n] w [] no (fun v L => ∃ a b, v = .tuple #[.int .i64 a, .int .i64 b] ∧ (r.rw = false → (0 ≤ a ∧ a < n) ∧ 0 ≤ b ∧ b ≤ 100) ∧ L = []) := by
 refine Sv.Fx.body Tryz.func15 rfl T15 rfl ?_
 intro I hro hI
 refine KV.e2 0 1 (CV.seq (CV.region ?_))
 refine RV.op (OV.box (t := 50) #[_, _, _, _, _] rfl rfl gno rfl (fun b0_0 => ?_))
 refine RV.a rfl rfl (RV.a rfl rfl ?_)
 refine RV.nil (KV.then_n (KV.e2 1 2 (CV.seq (CV.seq (CV.region ?_)))))
 refine RV.s (Step.fieldAddr rfl (F50_4 _ _)) rfl (RV.s (Step.load Tryz.underlying4 rfl rfl (fun w h => h.cell 0 rfl rfl)) rfl ?_)
 refine RV.nil (KV.then_n (KV.e3 1 2 7 ?_))
 refine KV.cases 7 rfl (fun cc1 => ?_) (fun cc1 => ?_)
 ·
  have hrw := cc1
  refine CV.cond_t rfl (CV.seq ?_)
  refine CV.still (by kernel_rfl) (by kernel_rfl) (fun _ h => h.drew) ?_
  refine SV.step gno (Step.fieldAddr rfl (F50_0 _ _)) rfl ?_
  refine SV.step gno (Step.load Tryz.underlying3 rfl rfl (fun w h => h.cell 0 rfl rfl)) rfl ?_
  refine SV.step gno (Step.fieldAddr rfl (F50_1 _ _)) rfl ?_
  refine SV.step gno (Step.load Tryz.underlying3 rfl rfl (fun w h => h.cell 0 rfl rfl)) rfl ?_
  refine SV.step gno (Step.assign rfl) rfl ?_
  refine SV.step gno (Step.assign rfl) rfl ?_
  refine SV.nil (KV.then_n (KV.e2 4 5 (CV.ret (KV.then_ret ?_))))
  refine KV.sel [] [] rfl ?_
  exact KV.ret2 rfl rfl rfl _ (fun _ h => h) ⟨_, _, rfl, (fun h => by rw [hrw] at h; cases h), rfl⟩
 ·
  have hrw := cc1
  refine CV.cond_f rfl (CV.skip (KV.then_n (KV.e2 1 2 (CV.seq ?_))))
  refine CV.any (Hp I w [Blk b0_0 (.cells #[.int .i64 r.dm, .int .i64 r.ld, .int .i64 r.md, .bool r.re, .bool r.rw] 50 (0, 0))]) (by kernel_rfl) (fun _ h => h.drew) 9 rfl ?_
  refine AV.u 0 (bl 9 1) rfl gno (Step.fieldAddr rfl (F50_0 _ _)) rfl (fun _ h => h.sel [0] rfl) ?_
  refine AV.u 1 (bl 9 3) rfl gno (Step.load Tryz.underlying3 rfl rfl (fun w h => h.cell 0 rfl rfl)) rfl (fun _ h => h.sel [0] rfl) ?_
  refine AV.u 2 (bl 9 7) rfl gno (Step.move rfl) rfl (fun _ h => h.sel [0] rfl) ?_
  refine AV.u 4 (bl 9 23) rfl gno (Step.fieldAddr rfl (F50_1 _ _)) rfl (fun _ h => h.sel [0] rfl) ?_
  refine AV.u 5 (bl 9 55) rfl gno (Step.load Tryz.underlying3 rfl rfl (fun w h => h.cell 0 rfl rfl)) rfl (fun _ h => h.sel [0] rfl) ?_
  refine AV.all [3] (by kernel_rfl) (by decide) ?_
  refine ⟨⟨_, rfl, ?_⟩, trivial⟩
  ·
   refine OV.callP Tryz.func14 B14 N14 rfl (mod_fn _ n hn hn2) gno rfl ?_
   refine AV.next (bl 9 63) (by kernel_rfl) (fun _ h => h.sel [0] rfl) ?_
   refine AV.all [6] (by kernel_rfl) (by decide) ?_
   refine ⟨⟨_, rfl, ?_⟩, trivial⟩
   ·
    refine OV.callP Tryz.func14 B14 N14 rfl (mod_fn _ 101 (by omega) (by omega)) gno rfl ?_
    refine AV.next (bl 9 127) (by kernel_rfl) (fun _ h => h.sel [0] rfl) ?_
    refine AV.u 7 (bl 9 255) rfl gno (Step.assign rfl) rfl (fun _ h => h.sel [0] rfl) ?_
    refine AV.u 8 (bl 9 511) rfl gno (Step.assign rfl) rfl (fun _ h => h.sel [0] rfl) ?_
    refine AV.done (by kernel_rfl) ?_
    refine KV.then_n (KV.e2 4 5 (CV.ret ?_))
    refine KV.sel [] [] rfl ?_
    have h1 := modM_lt r.dm hn
    have h2 := modM_lt r.ld (n := 101) (by omega)
    exact KV.ret2 rfl rfl rfl _ (fun _ h => h) ⟨_, _, rfl, fun _ => ⟨h1, h2.1, by omega⟩, rfl⟩

set_option maxRecDepth 100000 in
set_option maxHeartbeats 1000000 in
theorem modeR_fn (r : RN) {w : World} : Fx Tryz.prog 18 [.agg #[.int .i64 r.dm, .int .i64 r.ld, .int .i64 r.md, .bool r.re, .bool r.rw]] w [] no (fun v L => v = .int .i64 (mdM r.md) ∧ L = []) := by
 refine Sv.Fx.body Tryz.func18 rfl T18 rfl ?_
 intro I hro hI
 refine KV.e1 0 (CV.seq (CV.region ?_))
 refine RV.op (OV.box (t := 50) #[_, _, _, _, _] rfl rfl gno rfl (fun b0_0 => ?_))
 refine RV.a rfl rfl ?_
 refine RV.nil (KV.then_n (KV.e1 1 (CV.seq (CV.seq (CV.region ?_)))))
 refine RV.s (Step.fieldAddr rfl (F50_2 _ _)) rfl (RV.s (Step.load Tryz.underlying3 rfl rfl (fun w h => h.cell 0 rfl rfl)) rfl ?_)
 refine RV.op (OV.callP Tryz.func14 B14 N14 rfl (mod_fn _ 8 (by omega) (by omega)) gno rfl ?_)
 refine RV.a rfl rfl ?_
 refine RV.nil (KV.then_n (KV.e1 3 (CV.seq (CV.region ?_))))
 refine RV.m rfl rfl ?_
 refine RV.op (OV.split gno (Step.leq rfl rfl) rfl (fun hq => ?_) (fun hq => ?_))
 ·
  refine RV.nil (KV.then_n (KV.e2 3 8 (CV.cond_t rfl (CV.seq (CV.region ?_)))))
  refine RV.m rfl rfl (RV.a rfl rfl ?_)
  refine RV.nil (KV.then_n (KV.e1 2 (CV.ret (KV.then_ret ?_))))
  refine KV.sel [] [] rfl ?_
  exact KV.ret1 rfl rfl _ (fun _ h => h) ⟨by rw [mdM, if_pos hq], rfl⟩
 ·
  refine RV.nil (KV.then_n (KV.e2 3 8 (CV.cond_f rfl (CV.skip (KV.then_n ?_)))))
  refine KV.env [] trivial (CV.seq (CV.region ?_))
  refine RV.a rfl rfl ?_
  refine RV.nil (KV.then_n (KV.e1 2 (CV.ret ?_)))
  refine KV.sel [] [] rfl ?_
  exact KV.ret1 rfl rfl _ (fun _ h => h) ⟨by rw [mdM, if_neg hq], rfl⟩

set_option maxRecDepth 100000 in
set_option maxHeartbeats 4000000 in
theorem some44_fn {A : Option Addr} {n c : Nat} {l0 : List RB} {w : World} (hr : RS w rbK A l0) (hn : n = l0.length) (hp0 : RawOk l0 w) {B : Option Addr} {m d : Nat} {M0 : List HL} (hr2 : RS w hlK B M0) (hm : m = M0.length) (amb lim0 bud : Int) (hb0 : 0 ≤ bud) (hb1 : bud ≤ 18446744073709551615) : Fx Tryz.prog 13 [.slice A n c, .slice B m d, .int .i64 amb, .int .i64 lim0, .int .u64 bud] w [] no (fun v L => ∃ A c l B2 d2 M base lim bd, v = .agg #[.slice A l.length c, .slice B2 M.length d2, .int .i64 base, .int .i64 lim, .int .u64 bd] ∧ ClOk l M base lim bd ∧ L = [OS 45 rbK A c l, Big rF l, OS 195 hlK B2 d2 M]) := by
 subst hn
 subst hm
 have hl : l0.length ≤ 1000000 := by have := hp0.s.1; omega
 refine Sv.Fx.body Tryz.func13 rfl T13 rfl ?_
 intro I hro hI
 refine KV.e5 0 1 2 3 4 (CV.seq (CV.region ?_))
 refine RV.op (OV.alloc #[.slice none 0 0, .slice none 0 0, .int .i64 0, .int .i64 0, .int .u64 0] I35 rfl gno rfl (fun b0_0 => ?_))
 refine RV.nil (KV.then_n (KV.e6 0 1 2 3 4 10 (CV.seq (CV.region ?_))))
 refine RV.a rfl rfl ?_
 refine RV.nil (KV.then_n (KV.e7 0 1 2 3 4 10 11 (CV.seq (CV.seq ?_))))
 refine KV.heap (fun w h => h.nilOS (e := 41) (K := hdK)) ?_
 refine CV.region ?_
 refine RV.a rfl rfl ?_
 refine RV.nil (KV.then_n (KV.e8 0 1 2 3 4 10 11 12 (CV.block ?_)))
 refine KV.sel [0, 0] [_, _] rfl ?_
 refine CV.loop2 (fun (i : Nat) (z : Option Addr × Nat) => i ≤ l0.length ∧ i ≤ 5) (fun (i : Nat) (z : Option Addr × Nat) => 5 - i) (fun (i : Nat) (z : Option Addr × Nat) => [(0, .slice A l0.length c), (1, .slice B M0.length d), (2, .int .i64 amb), (3, .int .i64 lim0), (4, .int .u64 bud), (10, .pointer (some ⟨b0_0, 0, none⟩)), (11, .slice z.1 (hdL l0 i).length z.2), (12, .int .i64 i)]) (fun (i : Nat) (z : Option Addr × Nat) => Hp I w [Blk b0_0 (.cells #[.slice none 0 0, .slice none 0 0, .int .i64 0, .int .i64 0, .int .u64 0] 35 (0, 0)), OS 41 hdK z.1 z.2 (hdL l0 i)]) (0) ((none, 0)) ⟨Nat.zero_le _, by omega⟩ ⟨rfl, rfl, rfl, rfl, rfl, rfl, rfl, rfl, trivial⟩ (fun _ h => h) ?_
 intro i z hinv
 refine CV.seq (CV.seq (CV.region ?_))
 refine RV.m rfl rfl (RV.m rfl rfl (RV.s (Step.lenSl Tryz.underlying22 rfl) rfl ?_))
 refine RV.op (OV.split gno (Step.lss rfl rfl) rfl (fun cc1 => ?_) (fun cc1 => ?_))
 ·
  refine RV.m rfl rfl (RV.gw rfl (Step.move rfl) rfl ?_)
  refine RV.op (OV.split (gyes rfl) (Step.lss rfl rfl) rfl (fun cc2 => ?_) (fun cc2 => ?_))
  ·
   refine RV.s (Step.pick_t rfl rfl) rfl ?_
   refine RV.nil (KV.then_n (KV.e9 0 1 2 3 4 10 11 12 26 (CV.cond_t rfl (CV.skip (KV.then_n ?_)))))
   refine KV.e8 0 1 2 3 4 10 11 12 (CV.seq (CV.block (CV.region ?_)))
   refine RV.m rfl rfl (RV.m rfl rfl (RV.m rfl rfl ?_))
   refine RV.s (Step.idx Tryz.underlying22 I45 (fun w h => h.rs hr (fun _ => hI _)) rfl rfl (rfl) _ rfl (by omega)) rfl ?_
   refine RV.s (Step.fieldAddr rfl (F45_0 _ _)) rfl ?_
   refine RV.s (Step.loadN _ Tryz.underlying41 rfl I41 rfl rfl (fun w h => (h.rs hr (fun _ => hI _)).cellsAt i 0 [.int .i64 (l0.getD i rbK.d).h.cap, .int .i64 (l0.getD i rbK.d).h.amb] (by omega) rfl rfl)) rfl ?_
   refine RV.op (OV.buildSlice (K := hdK) ([(l0.getD i rbK.d).h]) rfl (Bs104_1_0 _ _) rfl rfl (by omega) gno rfl (fun b5_6 => ?_))
   refine RV.op (OV.append 1 Tryz.underlying104 I41 rfl rfl rfl rfl rfl rfl (fun w h => h.os 2 rfl) (by have := hdL_len l0 (i := i) (by omega); simp only [List.length_cons, List.length_nil]; omega) (by have := hdL_len l0 (i := i) (by omega); simp only [List.length_cons, List.length_nil]; omega) gno rfl (fun A3 c3 => ?_))
   refine RV.a rfl rfl ?_
   refine RV.nil (KV.block_n (KV.then_n (KV.e8 0 1 2 3 4 10 11 12 (CV.region ?_))))
   refine RV.m rfl rfl ?_
   (first | refine RV.op (OV.step gno (Step.add rfl rfl (wI64 (by omega) (by omega))) rfl ?_) | refine RV.op (OV.step gno (Step.add rfl rfl rfl) rfl ?_))
   refine RV.a rfl rfl ?_
   refine RV.nil (KV.then_n (KV.e8 0 1 2 3 4 10 11 12 ?_))
   refine KV.sel [0, 0] [_, _] rfl ?_
   exact KV.loop2 (x := i) (y := z) (i + 1) ((A3, c3)) ⟨by omega, by omega⟩ (by omega) ⟨rfl, rfl, rfl, rfl, rfl, rfl, (show some (Value.slice _ _ _) = some (Value.slice _ _ _) by rw [hdL_succ l0 (by omega)]), rfl, trivial⟩ (fun _ h => by rw [hdL_succ l0 (by omega)]; exact h)
  ·
   refine RV.s (Step.pick_t rfl rfl) rfl ?_
   refine RV.nil (KV.then_n (KV.e9 0 1 2 3 4 10 11 12 26 (CV.cond_f rfl (CV.exit (KV.then_exit ?_)))))
   refine KV.then_exit (KV.block_hit (KV.then_n (KV.e7 0 1 2 3 4 10 11 (CV.seq (CV.region ?_)))))
   refine RV.m rfl rfl (RV.m rfl rfl (RV.m rfl rfl ?_))
   refine RV.op (OV.call [] (F := [_, _]) Tryz.func45 B45 N45 rfl rfl (fun w h => some38_fn (h.os 1 rfl) rfl (by have := hdL_len l0 (i := i) (by omega); omega) (h.rs hr2 (fun _ => hI _)) rfl amb) (fun _ hb => hb.elim) gno rfl (fun v L' hp => ?_))
   obtain ⟨DA, Dc, D, MB, Md, M, base, rfl, hsm, rfl⟩ := hp
   have hs1 := hsm.b1
   have hs2 := hsm.b2
   have hs3 := hsm.n2
   refine RV.op (OV.alloc #[.slice none 0 0, .slice none 0 0, .int .i64 0] I127 rfl gno rfl (fun b6_4 => ?_))
   refine RV.op (OV.store 4 [_, _, _] #[_, _, _] I127 rfl rfl rfl rfl rfl (Nat.le_of_ble_eq_true rfl) (by simp [Value.oneCell']) rfl gno ?_)
   refine RV.nil (KV.then_n (KV.e5 0 3 4 10 13 (CV.seq (CV.region ?_))))
   refine RV.s (Step.fieldAddr rfl (F127_1 _ _)) rfl (RV.s (Step.load Tryz.underlying23 rfl rfl (fun w h => h.cell 4 rfl rfl)) rfl (RV.s (Step.fieldAddr rfl (F127_2 _ _)) rfl (RV.s (Step.load Tryz.underlying2 rfl rfl (fun w h => h.cell 4 rfl rfl)) rfl (RV.s (Step.fieldAddr rfl (F127_2 _ _)) rfl (RV.s (Step.load Tryz.underlying2 rfl rfl (fun w h => h.cell 4 rfl rfl)) rfl (RV.m rfl rfl (RV.s (Step.convI Tryz.underlying2 Tryz.underlying24 rfl (rfl)) rfl ?_)))))))
   refine RV.s (Step.rem rfl rfl (by omega) (rfl)) rfl ?_
   have hwl := wr_rem lim0 (n := 80) (by omega)
   (first | refine RV.op (OV.step gno (Step.convI Tryz.underlying24 Tryz.underlying2 rfl (wI64 (by omega) (by omega))) rfl ?_) | refine RV.op (OV.step gno (Step.convI Tryz.underlying24 Tryz.underlying2 rfl rfl) rfl ?_))
   (first | refine RV.op (OV.step gno (Step.add rfl rfl (wI64 (by omega) (by omega))) rfl ?_) | refine RV.op (OV.step gno (Step.add rfl rfl rfl) rfl ?_))
   obtain ⟨lim, hlim⟩ : ∃ x : Int, base + (IntKind.u64.wrap lim0).tmod 80 = x := ⟨_, rfl⟩
   rw [hlim]
   refine RV.m rfl rfl ?_
   refine RV.s (Step.rem rfl rfl (by omega) (rfl)) rfl ?_
   have hwb := tmB bud 700 hb0 (by omega)
   obtain ⟨bd, hbd⟩ : ∃ x : Int, bud.tmod 700 = x := ⟨_, rfl⟩
   rw [hbd] at hwb ⊢
   refine RV.s (Step.build rfl (Bd35_1_2_3_4 _ _ _ _ _ _)) rfl ?_
   refine RV.op (OV.alloc #[.slice none 0 0, .slice none 0 0, .int .i64 0, .int .i64 0, .int .u64 0] I35 rfl gno rfl (fun b7_14 => ?_))
   refine RV.op (OV.store 5 [_, _, _, _, _] #[_, _, _, _, _] I35 rfl rfl rfl rfl rfl (Nat.le_of_ble_eq_true rfl) (by simp [Value.oneCell']) rfl gno ?_)
   refine RV.nil (KV.then_n (KV.e4 0 10 13 14 (CV.seq (CV.seq ?_))))
   refine KV.heap (fun w h => Hp.nilBig (F := rF) (h.nilOS (e := 45) (K := rbK))) ?_
   refine CV.region ?_
   refine RV.a rfl rfl ?_
   refine RV.nil (KV.then_n (KV.e5 0 10 13 14 15 (CV.block ?_)))
   refine KV.sel [0, 3, 1, 1, 1, 1, 1] [_, _, _, _, _, _, _] rfl ?_
   refine CV.loop2 (fun (q : Nat) (z : LBg) => q ≤ D.length ∧ clI D z.l q) (fun (q : Nat) (z : LBg) => D.length - q) (fun (q : Nat) (z : LBg) => [(0, .slice A l0.length c), (10, .pointer (some ⟨b0_0, 0, none⟩)), (13, .pointer (some ⟨b6_4, 0, none⟩)), (14, .pointer (some ⟨b7_14, 0, none⟩)), (15, .int .i64 q)]) (fun (q : Nat) (z : LBg) => Hp I w [Blk b0_0 (.cells #[.slice none 0 0, .slice none 0 0, .int .i64 0, .int .i64 0, .int .u64 0] 35 (0, 0)), Blk b6_4 (.cells #[.slice DA D.length Dc, .slice MB M.length Md, .int .i64 base] 127 (0, 0)), OS 41 hdK DA Dc D, OS 195 hlK MB Md M, Blk b7_14 (.cells #[.slice z.A z.l.length z.c, .slice MB M.length Md, .int .i64 base, .int .i64 lim, .int .u64 bd] 35 (0, 0)), OS 45 rbK z.A z.c z.l, Big rF z.l]) (0) (⟨[], none, 0⟩) ⟨Nat.zero_le _, rfl, fun k hk => by omega⟩ ⟨rfl, rfl, rfl, rfl, rfl, trivial⟩ (fun _ h => h) ?_
   intro q z hinv2
   refine CV.seq (CV.seq (CV.region ?_))
   refine RV.m rfl rfl (RV.s (Step.fieldAddr rfl (F127_0 _ _)) rfl ?_)
   (first | refine RV.op (OV.step gno (Step.load Tryz.underlying104 rfl rfl (fun w h => h.cell 1 rfl rfl)) rfl ?_) | refine RV.op (OV.step gno (Step.load Tryz.underlying104 rfl rfl (fun w h => h.cell 4 rfl rfl)) rfl ?_))
   refine RV.s (Step.lenSl Tryz.underlying104 rfl) rfl ?_
   refine RV.op (OV.split gno (Step.lss rfl rfl) rfl (fun cc3 => ?_) (fun cc3 => ?_))
   ·
    refine RV.nil (KV.then_n (KV.e6 0 10 13 14 15 59 (CV.cond_t rfl (CV.skip (KV.then_n ?_)))))
    refine KV.e5 0 10 13 14 15 (CV.seq (CV.block ?_))
    refine CV.join3 (fun (tA : Option Addr) (tc : Nat) (bb : Nat) => [(0, .slice A l0.length c), (10, .pointer (some ⟨b0_0, 0, none⟩)), (13, .pointer (some ⟨b6_4, 0, none⟩)), (14, .pointer (some ⟨b7_14, 0, none⟩)), (15, .int .i64 q), (16, .pointer (some ⟨bb, 0, none⟩))]) (fun (tA : Option Addr) (tc : Nat) (bb : Nat) => Hp I w [Blk b0_0 (.cells #[.slice none 0 0, .slice none 0 0, .int .i64 0, .int .i64 0, .int .u64 0] 35 (0, 0)), Blk b6_4 (.cells #[.slice DA D.length Dc, .slice MB M.length Md, .int .i64 base] 127 (0, 0)), OS 41 hdK DA Dc D, OS 195 hlK MB Md M, Blk b7_14 (.cells #[.slice z.A z.l.length z.c, .slice MB M.length Md, .int .i64 base, .int .i64 lim, .int .u64 bd] 35 (0, 0)), OS 45 rbK z.A z.c z.l, Big rF z.l, OS 61 ptK tA tc (tableM []), Blk bb (.cells #[.int .i64 (D.getD q hdK.d).cap, .int .i64 (D.getD q hdK.d).amb, .slice tA (tableM []).length tc, .int .i64 80, .int .i64 30, .int .i64 2, .slice none 0 0] 45 (0, 0))]) ?_ ?_
    ·
     skip
     refine CV.any (Hp I w [Blk b6_4 (.cells #[.slice DA D.length Dc, .slice MB M.length Md, .int .i64 base] 127 (0, 0)), OS 41 hdK DA Dc D]) (by kernel_rfl) (fun _ h => h.drew) 10 rfl ?_
     refine AV.u 0 (bl 10 1) rfl gno (Step.fieldAddr rfl (F127_0 _ _)) rfl (fun _ h => h.sel [1, 1] rfl) ?_
     refine AV.u 1 (bl 10 3) rfl gno (Step.load Tryz.underlying104 rfl rfl (fun w h => h.cell 0 rfl rfl)) rfl (fun _ h => h.sel [1, 1] rfl) ?_
     refine AV.u 2 (bl 10 7) rfl gno (Step.move rfl) rfl (fun _ h => h.sel [1, 1] rfl) ?_
     refine AV.u 3 (bl 10 15) rfl gno (Step.idx Tryz.underlying104 I41 (fun w h => h.os 1 rfl) rfl rfl (rfl) _ rfl (by omega)) rfl (fun _ h => h.sel [1, 1] rfl) ?_
     refine AV.u 4 (bl 10 31) rfl gno (Step.loadN _ Tryz.underlying41 rfl I41 rfl rfl (fun w h => (h.os 1 rfl).cells (by omega))) rfl (fun _ h => h.sel [1, 1] rfl) ?_
     refine AV.u 6 (bl 10 95) rfl gno (Step.build rfl (Bd39_0_1_2 _ _ _)) rfl (fun _ h => h.sel [1, 1] rfl) ?_
     refine AV.all [5, 8] (by kernel_rfl) (by decide) ?_
     refine ⟨⟨_, rfl, ?_⟩, ⟨⟨_, rfl, ?_⟩, trivial⟩⟩
     ·
      refine OV.call [] (F := [_, _, _, _, _, _, _]) Tryz.func46 B46 N46 rfl rfl (fun w h => table_fn (A := none) (c := 0) (raw := []) RS.nil rfl (by decide) fitT_nil) (fun _ hb => hb.elim) gno rfl (fun v L' hp => ?_)
      obtain ⟨tA, tc, rfl, rfl⟩ := hp
      refine AV.next (bl 10 127) (by kernel_rfl) (fun _ h => h.sel [1, 1] rfl) ?_
      refine AV.u 7 (bl 10 255) rfl gno (Step.build rfl (Bd45_0_1_2 _ _ _ _ _ _ _ _)) rfl (fun _ h => h.sel [1, 1] rfl) ?_
      refine AV.all [8] (by kernel_rfl) (by decide) ?_
      refine ⟨⟨_, rfl, ?_⟩, trivial⟩
      ·
       refine OV.alloc #[.int .i64 0, .int .i64 0, .slice none 0 0, .int .i64 0, .int .i64 0, .int .i64 0, .slice none 0 0] I45 rfl gno rfl (fun b11_8 => ?_)
       refine AV.next (bl 10 511) (by kernel_rfl) (fun _ h => h.sel [1, 1] rfl) ?_
       refine AV.all [9] (by kernel_rfl) (by decide) ?_
       refine ⟨⟨_, rfl, ?_⟩, trivial⟩
       ·
        refine OV.store 8 [_, _, _, _, _, _, _] #[_, _, _, _, _, _, _] I45 rfl rfl rfl rfl rfl (Nat.le_of_ble_eq_true rfl) (by simp [Value.oneCell']) rfl gno ?_
        refine AV.next (bl 10 1023) (by kernel_rfl) (fun _ h => h.sel [1, 1] rfl) ?_
        refine AV.done (by kernel_rfl) ?_
        refine KV.then_n (KV.e6 0 10 13 14 15 16 ?_)
        refine KV.sel [0, 0, 0, 0, 0, 0, 0, 0, 0] [_, _, _, _, _, _, _, _, _] rfl ?_
        exact KV.join3 (tA) (tc) (b11_8) ⟨rfl, rfl, rfl, rfl, rfl, rfl, trivial⟩ (fun _ h => h)
     ·
      refine OV.alloc #[.int .i64 0, .int .i64 0, .slice none 0 0, .int .i64 0, .int .i64 0, .int .i64 0, .slice none 0 0] I45 rfl gno rfl (fun b11_8 => ?_)
      refine AV.next (bl 10 351) (by kernel_rfl) (fun _ h => h.sel [1, 1] rfl) ?_
      refine AV.all [5] (by kernel_rfl) (by decide) ?_
      refine ⟨⟨_, rfl, ?_⟩, trivial⟩
      ·
       refine OV.call [] (F := [_, _, _, _, _, _, _, _]) Tryz.func46 B46 N46 rfl rfl (fun w h => table_fn (A := none) (c := 0) (raw := []) RS.nil rfl (by decide) fitT_nil) (fun _ hb => hb.elim) gno rfl (fun v L' hp => ?_)
       obtain ⟨tA, tc, rfl, rfl⟩ := hp
       refine AV.next (bl 10 383) (by kernel_rfl) (fun _ h => h.sel [1, 1] rfl) ?_
       refine AV.u 7 (bl 10 511) rfl gno (Step.build rfl (Bd45_0_1_2 _ _ _ _ _ _ _ _)) rfl (fun _ h => h.sel [1, 1] rfl) ?_
       refine AV.all [9] (by kernel_rfl) (by decide) ?_
       refine ⟨⟨_, rfl, ?_⟩, trivial⟩
       ·
        refine OV.store 7 [_, _, _, _, _, _, _] #[_, _, _, _, _, _, _] I45 rfl rfl rfl rfl rfl (Nat.le_of_ble_eq_true rfl) (by simp [Value.oneCell']) rfl gno ?_
        refine AV.next (bl 10 1023) (by kernel_rfl) (fun _ h => h.sel [1, 1] rfl) ?_
        refine AV.done (by kernel_rfl) ?_
        refine KV.then_n (KV.e6 0 10 13 14 15 16 ?_)
        refine KV.sel [0, 0, 0, 0, 0, 0, 0, 1, 0] [_, _, _, _, _, _, _, _, _] rfl ?_
        exact KV.join3 (tA) (tc) (b11_8) ⟨rfl, rfl, rfl, rfl, rfl, rfl, trivial⟩ (fun _ h => h)
    ·
     intro tA tc bb
     refine CV.join (fun (r : RB) => [(0, .slice A l0.length c), (10, .pointer (some ⟨b0_0, 0, none⟩)), (13, .pointer (some ⟨b6_4, 0, none⟩)), (14, .pointer (some ⟨b7_14, 0, none⟩)), (15, .int .i64 q), (16, .pointer (some ⟨bb, 0, none⟩))]) (fun (r : RB) => (fun w9 => RbOk (D.getD q hdK.d) r ∧ Hp I w [Blk b0_0 (.cells #[.slice none 0 0, .slice none 0 0, .int .i64 0, .int .i64 0, .int .u64 0] 35 (0, 0)), Blk b6_4 (.cells #[.slice DA D.length Dc, .slice MB M.length Md, .int .i64 base] 127 (0, 0)), OS 41 hdK DA Dc D, OS 195 hlK MB Md M, Blk b7_14 (.cells #[.slice z.A z.l.length z.c, .slice MB M.length Md, .int .i64 base, .int .i64 lim, .int .u64 bd] 35 (0, 0)), OS 45 rbK z.A z.c z.l, Big rF z.l, Blk bb (.cells #[.int .i64 r.h.cap, .int .i64 r.h.amb, .slice r.A r.ys.length r.c, .int .i64 r.up, .int .i64 r.dn, .int .i64 r.sm, .slice r.B r.tr.length r.e] 45 (0, 0)), OS 61 ptK r.A r.c r.ys, OS 190 trK r.B r.e r.tr] w9)) ?_ ?_
     ·
      skip
      refine CV.seq ?_
      refine KV.heap (fun w h => h.nilOS (e := 190) (K := trK)) ?_
      refine CV.region ?_
      refine RV.m rfl rfl (RV.m rfl rfl (RV.s (Step.lenSl Tryz.underlying22 rfl) rfl ?_))
      refine RV.op (OV.split gno (Step.lss rfl rfl) rfl (fun hlt => ?_) (fun hlt => ?_))
      ·
       refine RV.nil (KV.then_n (KV.e7 0 10 13 14 15 16 73 (CV.cond_t rfl (CV.seq (CV.region ?_)))))
       refine RV.m rfl rfl (RV.m rfl rfl ?_)
       refine RV.s (Step.idx Tryz.underlying22 I45 (fun w h => h.rs hr (fun _ => hI _)) rfl rfl (rfl) _ rfl (by omega)) rfl ?_
       refine RV.s (Step.fieldAddr rfl (F45_2 _ _)) rfl ?_
       refine RV.s (Step.loadN _ Tryz.underlying39 rfl I39 rfl rfl (fun w h => (h.rs hr (fun _ => hI _)).cellsAt q 3 [.int .i64 (l0.getD q rbK.d).up, .int .i64 (l0.getD q rbK.d).dn, .int .i64 (l0.getD q rbK.d).sm] (by omega) rfl rfl)) rfl ?_
       refine RV.op (OV.alloc #[.int .i64 0, .int .i64 0, .int .i64 0] I39 rfl gno rfl (fun b13_5 => ?_))
       refine RV.op (OV.store 10 [_, _, _] #[_, _, _] I39 rfl rfl rfl rfl rfl (Nat.le_of_ble_eq_true rfl) (by simp [Value.oneCell']) rfl gno ?_)
       refine RV.nil (KV.then_n (KV.e7 0 10 13 14 15 16 17 (CV.seq (CV.region ?_))))
       refine RV.s (Step.fieldAddr rfl (F39_0 _ _)) rfl ?_
       (first | refine RV.op (OV.step gno (Step.load Tryz.underlying3 rfl rfl (fun w h => h.cell 1 rfl rfl)) rfl ?_) | refine RV.op (OV.step gno (Step.load Tryz.underlying3 rfl rfl (fun w h => h.cell 4 rfl rfl)) rfl ?_) | refine RV.op (OV.step gno (Step.load Tryz.underlying3 rfl rfl (fun w h => h.cell 8 rfl rfl)) rfl ?_) | refine RV.op (OV.step gno (Step.load Tryz.underlying3 rfl rfl (fun w h => h.cell 10 rfl rfl)) rfl ?_))
       refine RV.op (OV.callP Tryz.func14 B14 N14 rfl (mod_fn _ 100 (by omega) (by omega)) gno rfl ?_)
       obtain ⟨ku, hku, hkul⟩ := modNat (l0.getD q rbK.d).up (n := 100) (by omega)
       rw [hku]
       (first | refine RV.op (OV.step gno (Step.add rfl rfl (wI64 (by omega) (by omega))) rfl ?_) | refine RV.op (OV.step gno (Step.add rfl rfl rfl) rfl ?_))
       rw [show (1 + (ku : Int)) = ((ku + 1 : Nat) : Int) by omega]
       refine RV.a rfl rfl ?_
       refine RV.nil (KV.then_n (KV.e8 0 10 13 14 15 16 17 18 (CV.seq (CV.region ?_))))
       refine RV.m rfl rfl (RV.m rfl rfl ?_)
       refine RV.s (Step.idx Tryz.underlying22 I45 (fun w h => h.rs hr (fun _ => hI _)) rfl rfl (rfl) _ rfl (by omega)) rfl ?_
       refine RV.s (Step.fieldAddr rfl (F45_1 _ _)) rfl ?_
       refine RV.s (Step.load Tryz.underlying42 rfl rfl (fun w h => (h.rs hr (fun _ => hI _)).cell (by omega) rfl)) rfl ?_
       refine RV.op (OV.call [] (F := [_, _, _, _, _, _, _, _, _, _, _]) Tryz.func46 B46 N46 rfl rfl (fun w h => table_fn (h.rs (hp0.r q (by omega)).1 (fun _ => hI _)) rfl (by have := (hp0.s.2 q (by omega)).1; omega) (hp0.f q (by omega))) (fun _ hb => hb.elim) gno rfl (fun v L' hp => ?_))
       obtain ⟨tA2, tc2, rfl, rfl⟩ := hp
       refine RV.s (Step.fieldAddr rfl (F45_1 _ _)) rfl ?_
       refine RV.op (OV.store 8 [_] #[_, _, _, _, _, _, _] I42 rfl rfl rfl rfl rfl (Nat.le_of_ble_eq_true rfl) (by simp [Value.oneCell']) rfl gno ?_)
       refine RV.nil (KV.then_n (KV.e8 0 10 13 14 15 16 17 18 (CV.seq ?_)))
       refine CV.any (Hp I w [Blk b13_5 (.cells #[.int .i64 (l0.getD q rbK.d).up, .int .i64 (l0.getD q rbK.d).dn, .int .i64 (l0.getD q rbK.d).sm] 39 (0, 0))]) (by kernel_rfl) (fun _ h => h.drew) 12 rfl ?_
       refine AV.u 0 (bl 12 1) rfl gno (Step.move rfl) rfl (fun _ h => h.sel [10] rfl) ?_
       refine AV.u 1 (bl 12 3) rfl gno (Step.fieldAddr rfl (F39_1 _ _)) rfl (fun _ h => h.sel [10] rfl) ?_
       refine AV.u 2 (bl 12 7) rfl gno (Step.load Tryz.underlying3 rfl rfl (fun w h => h.cell 0 rfl rfl)) rfl (fun _ h => h.sel [10] rfl) ?_
       refine AV.u 3 (bl 12 15) rfl gno (Step.move rfl) rfl (fun _ h => h.sel [10] rfl) ?_
       refine AV.u 5 (bl 12 47) rfl gno (Step.fieldAddr rfl (F39_2 _ _)) rfl (fun _ h => h.sel [10] rfl) ?_
       refine AV.u 6 (bl 12 111) rfl gno (Step.load Tryz.underlying3 rfl rfl (fun w h => h.cell 0 rfl rfl)) rfl (fun _ h => h.sel [10] rfl) ?_
       refine AV.all [4] (by kernel_rfl) (by decide) ?_
       refine ⟨⟨_, rfl, ?_⟩, trivial⟩
       ·
        refine OV.callP Tryz.func14 B14 N14 rfl (mod_fn _ (ku + 1) (by omega) (by omega)) gno rfl ?_
        obtain ⟨kd, hkd, hkdl⟩ := modNat (l0.getD q rbK.d).dn (n := ku + 1) (by omega)
        rw [hkd]
        refine AV.next (bl 12 127) (by kernel_rfl) (fun _ h => h.sel [10] rfl) ?_
        refine AV.all [7] (by kernel_rfl) (by decide) ?_
        refine ⟨⟨_, rfl, ?_⟩, trivial⟩
        ·
         refine OV.callP Tryz.func14 B14 N14 rfl (mod_fn _ 4 (by omega) (by omega)) gno rfl ?_
         obtain ⟨ks, hks, hksl⟩ := modNat (l0.getD q rbK.d).sm (n := 4) (by omega)
         rw [hks]
         refine AV.next (bl 12 255) (by kernel_rfl) (fun _ h => h.sel [10] rfl) ?_
         (first | refine AV.take 8 (bl 12 511) rfl (by kernel_rfl) (by kernel_rfl) (by kernel_rfl) (fun _ _ _ h => h) gno (Step.add rfl rfl (wI64 (by omega) (by omega))) rfl (fun _ h => h.sel [10] rfl) (by kernel_rfl) ?_ | refine AV.take 8 (bl 12 511) rfl (by kernel_rfl) (by kernel_rfl) (by kernel_rfl) (fun _ _ _ h => h) gno (Step.add rfl rfl rfl) rfl (fun _ h => h.sel [10] rfl) (by kernel_rfl) ?_)
         refine AV.u 9 (bl 12 1023) rfl gno (Step.build rfl (Bd39_0_1_2 _ _ _)) rfl (fun _ h => h.sel [10] rfl) ?_
         refine AV.u 10 (bl 12 2047) rfl gno (Step.fieldAddr rfl (F45_2 _ _)) rfl (fun _ h => h.sel [10] rfl) ?_
         refine AV.all [11] (by kernel_rfl) (by decide) ?_
         refine ⟨⟨_, rfl, ?_⟩, trivial⟩
         ·
          refine OV.store 8 [_, _, _] #[_, _, _, _, _, _, _] I39 rfl rfl rfl rfl rfl (Nat.le_of_ble_eq_true rfl) (by simp [Value.oneCell']) rfl gno ?_
          refine AV.next (bl 12 4095) (by kernel_rfl) (fun _ h => h.sel [10] rfl) ?_
          refine AV.done (by kernel_rfl) ?_
          refine KV.then_n (KV.e6 0 10 13 14 15 16 (CV.region ?_))
          refine RV.m rfl rfl (RV.m rfl rfl ?_)
          refine RV.s (Step.idx Tryz.underlying22 I45 (fun w h => h.rs hr (fun _ => hI _)) rfl rfl (rfl) _ rfl (by omega)) rfl ?_
          refine RV.s (Step.fieldAddr rfl (F45_3 _ _)) rfl ?_
          refine RV.s (Step.load Tryz.underlying43 rfl rfl (fun w h => (h.rs hr (fun _ => hI _)).cell (by omega) rfl)) rfl ?_
          refine RV.op (OV.call [] (F := [_, _, _, _, _, _, _, _, _, _, _, _]) Tryz.func47 B47 N47 rfl rfl (fun w h => trips_fn (h.rs (hp0.r q (by omega)).2 (fun _ => hI _)) rfl (by have := (hp0.s.2 q (by omega)).2; omega)) (fun _ hb => hb.elim) gno rfl (fun v L' hp => ?_))
          obtain ⟨rA, rc, tr, rfl, ⟨htc, htl⟩, rfl⟩ := hp
          refine RV.s (Step.fieldAddr rfl (F45_3 _ _)) rfl ?_
          refine RV.op (OV.store 8 [_] #[_, _, _, _, _, _, _] I43 rfl rfl rfl rfl rfl (Nat.le_of_ble_eq_true rfl) (by simp [Value.oneCell']) rfl gno ?_)
          refine RV.nil (KV.then_n (KV.e6 0 10 13 14 15 16 ?_))
          refine KV.sel [0, 0, 0, 0, 0, 0, 0, 1, 3, 3] [_, _, _, _, _, _, _, _, _, _] rfl ?_
          (first | exact KV.join (⟨(D.getD q hdK.d), tA, tc, tableM [], 80, 30, 2, none, 0, []⟩) ⟨rfl, rfl, rfl, rfl, rfl, rfl, trivial⟩ (fun _ h => by first | exact ⟨⟨rfl, fitT_table fitT_nil, newE_tab fitT_nil (by dsimp only; decide) (by dsimp only; decide) (by dsimp only; decide) (by dsimp only; decide) (by dsimp only; decide) (by dsimp only; decide), awC, tab_len8 _, Nat.zero_le _⟩, h⟩ | exact ⟨⟨rfl, fitT_table (hp0.f q (by omega)), newE_tab (hp0.f q (by omega)) (by dsimp only; omega) (by dsimp only; omega) (by dsimp only; omega) (by dsimp only; omega) (by dsimp only; omega) (by dsimp only; omega), htc, tab_len8 _, htl⟩, h⟩) | exact KV.join (⟨(D.getD q hdK.d), tA2, tc2, tableM (l0.getD q rbK.d).ys, ((ku + 1 : Nat) : Int), kd, 1 + (ks : Int), rA, rc, tr⟩) ⟨rfl, rfl, rfl, rfl, rfl, rfl, trivial⟩ (fun _ h => by first | exact ⟨⟨rfl, fitT_table fitT_nil, newE_tab fitT_nil (by dsimp only; decide) (by dsimp only; decide) (by dsimp only; decide) (by dsimp only; decide) (by dsimp only; decide) (by dsimp only; decide), awC, tab_len8 _, Nat.zero_le _⟩, h⟩ | exact ⟨⟨rfl, fitT_table (hp0.f q (by omega)), newE_tab (hp0.f q (by omega)) (by dsimp only; omega) (by dsimp only; omega) (by dsimp only; omega) (by dsimp only; omega) (by dsimp only; omega) (by dsimp only; omega), htc, tab_len8 _, htl⟩, h⟩))
      ·
       refine RV.nil (KV.then_n (KV.e7 0 10 13 14 15 16 73 (CV.cond_f rfl (CV.skip (KV.then_n ?_)))))
       refine KV.e6 0 10 13 14 15 16 ?_
       refine KV.sel [0, 0, 0, 0, 0, 0, 0, 1, 0, 0] [_, _, _, _, _, _, _, _, _, _] rfl ?_
       (first | exact KV.join (⟨(D.getD q hdK.d), tA, tc, tableM [], 80, 30, 2, none, 0, []⟩) ⟨rfl, rfl, rfl, rfl, rfl, rfl, trivial⟩ (fun _ h => by first | exact ⟨⟨rfl, fitT_table fitT_nil, newE_tab fitT_nil (by dsimp only; decide) (by dsimp only; decide) (by dsimp only; decide) (by dsimp only; decide) (by dsimp only; decide) (by dsimp only; decide), awC, tab_len8 _, Nat.zero_le _⟩, h⟩ | exact ⟨⟨rfl, fitT_table (hp0.f q (by omega)), newE_tab (hp0.f q (by omega)) (by dsimp only; omega) (by dsimp only; omega) (by dsimp only; omega) (by dsimp only; omega) (by dsimp only; omega) (by dsimp only; omega), htc, tab_len8 _, htl⟩, h⟩) | exact KV.join (⟨(D.getD q hdK.d), tA2, tc2, tableM (l0.getD q rbK.d).ys, ((ku + 1 : Nat) : Int), kd, 1 + (ks : Int), rA, rc, tr⟩) ⟨rfl, rfl, rfl, rfl, rfl, rfl, trivial⟩ (fun _ h => by first | exact ⟨⟨rfl, fitT_table fitT_nil, newE_tab fitT_nil (by dsimp only; decide) (by dsimp only; decide) (by dsimp only; decide) (by dsimp only; decide) (by dsimp only; decide) (by dsimp only; decide), awC, tab_len8 _, Nat.zero_le _⟩, h⟩ | exact ⟨⟨rfl, fitT_table (hp0.f q (by omega)), newE_tab (hp0.f q (by omega)) (by dsimp only; omega) (by dsimp only; omega) (by dsimp only; omega) (by dsimp only; omega) (by dsimp only; omega) (by dsimp only; omega), htc, tab_len8 _, htl⟩, h⟩))
     ·
      intro r
      refine KV.have (fun _ h => h.1) fun hro2 => ?_
      refine KV.heap (fun _ h => h.2) ?_
      refine CV.region ?_
      refine RV.s (Step.fieldAddr rfl (F35_0 _ _)) rfl ?_
      (first | refine RV.op (OV.step gno (Step.load Tryz.underlying22 rfl rfl (fun w h => h.cell 1 rfl rfl)) rfl ?_) | refine RV.op (OV.step gno (Step.load Tryz.underlying22 rfl rfl (fun w h => h.cell 4 rfl rfl)) rfl ?_) | refine RV.op (OV.step gno (Step.load Tryz.underlying22 rfl rfl (fun w h => h.cell 7 rfl rfl)) rfl ?_))
      refine RV.s (Step.loadN _ Tryz.underlying45 rfl I45 rfl rfl (fun w h => h.cells 7 rfl)) rfl ?_
      refine RV.op (OV.buildSlice (K := rbK) ([r]) rfl (Bs22_1_0 _ _ _ _ _ _ _) rfl rfl (by omega) gno rfl (fun b18_3 => ?_))
      refine RV.op (OV.append 5 Tryz.underlying22 I45 rfl rfl rfl rfl rfl rfl (fun w h => h.os 10 rfl) (by have := hinv2.2.1; have := hsm.n2; simp only [List.length_cons, List.length_nil]; omega) (by have := hinv2.2.1; have := hsm.n2; simp only [List.length_cons, List.length_nil]; omega) gno rfl (fun A4 c4 => ?_))
      refine RV.s (Step.fieldAddr rfl (F35_0 _ _)) rfl ?_
      refine RV.op (OV.store 4 [_] #[_, _, _, _, _] I22 rfl rfl rfl rfl rfl (Nat.le_of_ble_eq_true rfl) (by simp [Value.oneCell']) rfl gno ?_)
      refine RV.nil (KV.block_n (KV.then_n (KV.e5 0 10 13 14 15 ?_)))
      refine KV.sel [8, 8, 6, 0, 0, 0, 0, 0, 0] [_, _, _, _, _, _, _, _, _] rfl ?_
      refine KV.heap (fun w h => snocR h) ?_
      refine CV.region ?_
      refine RV.m rfl rfl ?_
      (first | refine RV.op (OV.step gno (Step.add rfl rfl (wI64 (by omega) (by omega))) rfl ?_) | refine RV.op (OV.step gno (Step.add rfl rfl rfl) rfl ?_))
      refine RV.a rfl rfl ?_
      refine RV.nil (KV.then_n (KV.e5 0 10 13 14 15 ?_))
      refine KV.sel [1, 1, 1, 1, 1, 1, 0] [_, _, _, _, _, _, _] rfl ?_
      exact KV.loop2 (x := q) (y := z) (q + 1) (⟨z.l ++ [r], A4, c4⟩) ⟨by omega, clI_next hinv2.2 hro2⟩ (by omega) ⟨rfl, rfl, rfl, rfl, rfl, trivial⟩ (fun _ h => h)
   ·
    refine RV.nil (KV.then_n (KV.e6 0 10 13 14 15 59 (CV.cond_f rfl (CV.exit (KV.then_exit ?_)))))
    refine KV.then_exit (KV.block_hit (KV.then_n (KV.e2 10 14 (CV.seq ?_))))
    have hqD : q = D.length := by omega
    rw [hqD] at hinv2
    refine CV.region ?_
    refine RV.s (Step.loadN _ Tryz.underlying35 rfl I35 rfl rfl (fun w h => h.cells 4 rfl)) rfl ?_
    refine RV.op (OV.store 0 [_, _, _, _, _] #[_, _, _, _, _] I35 rfl rfl rfl rfl rfl (Nat.le_of_ble_eq_true rfl) (by simp [Value.oneCell']) rfl gno ?_)
    refine RV.nil (KV.then_n (KV.e1 10 (CV.ret ?_)))
    refine KV.sel [5, 5, 3, 0] [_, _, _, _] rfl ?_
    exact KV.retC1 [_, _, _, _, _] rfl rfl Tryz.underlying35 rfl I35 rfl (fun w h => h.cells 3 rfl) [OS 45 rbK z.A z.c z.l, Big rF z.l, OS 195 hlK MB Md M] (fun _ h => h.sel [0, 0, 0] rfl) ⟨z.A, z.c, z.l, MB, Md, M, base, lim, bd, rfl, ClOk.of hsm hinv2.2 (by omega) (by omega) (by omega) (by omega), rfl⟩
 ·
  refine RV.m rfl rfl (RV.k rfl rfl (RV.k rfl rfl (RV.s (Step.pick_f rfl rfl) rfl ?_)))
  refine RV.nil (KV.then_n (KV.e9 0 1 2 3 4 10 11 12 26 (CV.cond_f rfl (CV.exit (KV.then_exit ?_)))))
  refine KV.then_exit (KV.block_hit (KV.then_n (KV.e7 0 1 2 3 4 10 11 (CV.seq (CV.region ?_)))))
  refine RV.m rfl rfl (RV.m rfl rfl (RV.m rfl rfl ?_))
  refine RV.op (OV.call [] (F := [_, _]) Tryz.func45 B45 N45 rfl rfl (fun w h => some38_fn (h.os 1 rfl) rfl (by have := hdL_len l0 (i := i) (by omega); omega) (h.rs hr2 (fun _ => hI _)) rfl amb) (fun _ hb => hb.elim) gno rfl (fun v L' hp => ?_))
  obtain ⟨DA, Dc, D, MB, Md, M, base, rfl, hsm, rfl⟩ := hp
  have hs1 := hsm.b1
  have hs2 := hsm.b2
  have hs3 := hsm.n2
  refine RV.op (OV.alloc #[.slice none 0 0, .slice none 0 0, .int .i64 0] I127 rfl gno rfl (fun b6_4 => ?_))
  refine RV.op (OV.store 4 [_, _, _] #[_, _, _] I127 rfl rfl rfl rfl rfl (Nat.le_of_ble_eq_true rfl) (by simp [Value.oneCell']) rfl gno ?_)
  refine RV.nil (KV.then_n (KV.e5 0 3 4 10 13 (CV.seq (CV.region ?_))))
  refine RV.s (Step.fieldAddr rfl (F127_1 _ _)) rfl (RV.s (Step.load Tryz.underlying23 rfl rfl (fun w h => h.cell 4 rfl rfl)) rfl (RV.s (Step.fieldAddr rfl (F127_2 _ _)) rfl (RV.s (Step.load Tryz.underlying2 rfl rfl (fun w h => h.cell 4 rfl rfl)) rfl (RV.s (Step.fieldAddr rfl (F127_2 _ _)) rfl (RV.s (Step.load Tryz.underlying2 rfl rfl (fun w h => h.cell 4 rfl rfl)) rfl (RV.m rfl rfl (RV.s (Step.convI Tryz.underlying2 Tryz.underlying24 rfl (rfl)) rfl ?_)))))))
  refine RV.s (Step.rem rfl rfl (by omega) (rfl)) rfl ?_
  have hwl := wr_rem lim0 (n := 80) (by omega)
  (first | refine RV.op (OV.step gno (Step.convI Tryz.underlying24 Tryz.underlying2 rfl (wI64 (by omega) (by omega))) rfl ?_) | refine RV.op (OV.step gno (Step.convI Tryz.underlying24 Tryz.underlying2 rfl rfl) rfl ?_))
  (first | refine RV.op (OV.step gno (Step.add rfl rfl (wI64 (by omega) (by omega))) rfl ?_) | refine RV.op (OV.step gno (Step.add rfl rfl rfl) rfl ?_))
  obtain ⟨lim, hlim⟩ : ∃ x : Int, base + (IntKind.u64.wrap lim0).tmod 80 = x := ⟨_, rfl⟩
  rw [hlim]
  refine RV.m rfl rfl ?_
  refine RV.s (Step.rem rfl rfl (by omega) (rfl)) rfl ?_
  have hwb := tmB bud 700 hb0 (by omega)
  obtain ⟨bd, hbd⟩ : ∃ x : Int, bud.tmod 700 = x := ⟨_, rfl⟩
  rw [hbd] at hwb ⊢
  refine RV.s (Step.build rfl (Bd35_1_2_3_4 _ _ _ _ _ _)) rfl ?_
  refine RV.op (OV.alloc #[.slice none 0 0, .slice none 0 0, .int .i64 0, .int .i64 0, .int .u64 0] I35 rfl gno rfl (fun b7_14 => ?_))
  refine RV.op (OV.store 5 [_, _, _, _, _] #[_, _, _, _, _] I35 rfl rfl rfl rfl rfl (Nat.le_of_ble_eq_true rfl) (by simp [Value.oneCell']) rfl gno ?_)
  refine RV.nil (KV.then_n (KV.e4 0 10 13 14 (CV.seq (CV.seq ?_))))
  refine KV.heap (fun w h => Hp.nilBig (F := rF) (h.nilOS (e := 45) (K := rbK))) ?_
  refine CV.region ?_
  refine RV.a rfl rfl ?_
  refine RV.nil (KV.then_n (KV.e5 0 10 13 14 15 (CV.block ?_)))
  refine KV.sel [0, 3, 1, 1, 1, 1, 1] [_, _, _, _, _, _, _] rfl ?_
  refine CV.loop2 (fun (q : Nat) (z : LBg) => q ≤ D.length ∧ clI D z.l q) (fun (q : Nat) (z : LBg) => D.length - q) (fun (q : Nat) (z : LBg) => [(0, .slice A l0.length c), (10, .pointer (some ⟨b0_0, 0, none⟩)), (13, .pointer (some ⟨b6_4, 0, none⟩)), (14, .pointer (some ⟨b7_14, 0, none⟩)), (15, .int .i64 q)]) (fun (q : Nat) (z : LBg) => Hp I w [Blk b0_0 (.cells #[.slice none 0 0, .slice none 0 0, .int .i64 0, .int .i64 0, .int .u64 0] 35 (0, 0)), Blk b6_4 (.cells #[.slice DA D.length Dc, .slice MB M.length Md, .int .i64 base] 127 (0, 0)), OS 41 hdK DA Dc D, OS 195 hlK MB Md M, Blk b7_14 (.cells #[.slice z.A z.l.length z.c, .slice MB M.length Md, .int .i64 base, .int .i64 lim, .int .u64 bd] 35 (0, 0)), OS 45 rbK z.A z.c z.l, Big rF z.l]) (0) (⟨[], none, 0⟩) ⟨Nat.zero_le _, rfl, fun k hk => by omega⟩ ⟨rfl, rfl, rfl, rfl, rfl, trivial⟩ (fun _ h => h) ?_
  intro q z hinv2
  refine CV.seq (CV.seq (CV.region ?_))
  refine RV.m rfl rfl (RV.s (Step.fieldAddr rfl (F127_0 _ _)) rfl ?_)
  (first | refine RV.op (OV.step gno (Step.load Tryz.underlying104 rfl rfl (fun w h => h.cell 1 rfl rfl)) rfl ?_) | refine RV.op (OV.step gno (Step.load Tryz.underlying104 rfl rfl (fun w h => h.cell 4 rfl rfl)) rfl ?_))
  refine RV.s (Step.lenSl Tryz.underlying104 rfl) rfl ?_
  refine RV.op (OV.split gno (Step.lss rfl rfl) rfl (fun cc4 => ?_) (fun cc4 => ?_))
  ·
   refine RV.nil (KV.then_n (KV.e6 0 10 13 14 15 59 (CV.cond_t rfl (CV.skip (KV.then_n ?_)))))
   refine KV.e5 0 10 13 14 15 (CV.seq (CV.block ?_))
   refine CV.join3 (fun (tA : Option Addr) (tc : Nat) (bb : Nat) => [(0, .slice A l0.length c), (10, .pointer (some ⟨b0_0, 0, none⟩)), (13, .pointer (some ⟨b6_4, 0, none⟩)), (14, .pointer (some ⟨b7_14, 0, none⟩)), (15, .int .i64 q), (16, .pointer (some ⟨bb, 0, none⟩))]) (fun (tA : Option Addr) (tc : Nat) (bb : Nat) => Hp I w [Blk b0_0 (.cells #[.slice none 0 0, .slice none 0 0, .int .i64 0, .int .i64 0, .int .u64 0] 35 (0, 0)), Blk b6_4 (.cells #[.slice DA D.length Dc, .slice MB M.length Md, .int .i64 base] 127 (0, 0)), OS 41 hdK DA Dc D, OS 195 hlK MB Md M, Blk b7_14 (.cells #[.slice z.A z.l.length z.c, .slice MB M.length Md, .int .i64 base, .int .i64 lim, .int .u64 bd] 35 (0, 0)), OS 45 rbK z.A z.c z.l, Big rF z.l, OS 61 ptK tA tc (tableM []), Blk bb (.cells #[.int .i64 (D.getD q hdK.d).cap, .int .i64 (D.getD q hdK.d).amb, .slice tA (tableM []).length tc, .int .i64 80, .int .i64 30, .int .i64 2, .slice none 0 0] 45 (0, 0))]) ?_ ?_
   ·
    skip
    refine CV.any (Hp I w [Blk b6_4 (.cells #[.slice DA D.length Dc, .slice MB M.length Md, .int .i64 base] 127 (0, 0)), OS 41 hdK DA Dc D]) (by kernel_rfl) (fun _ h => h.drew) 10 rfl ?_
    refine AV.u 0 (bl 10 1) rfl gno (Step.fieldAddr rfl (F127_0 _ _)) rfl (fun _ h => h.sel [1, 1] rfl) ?_
    refine AV.u 1 (bl 10 3) rfl gno (Step.load Tryz.underlying104 rfl rfl (fun w h => h.cell 0 rfl rfl)) rfl (fun _ h => h.sel [1, 1] rfl) ?_
    refine AV.u 2 (bl 10 7) rfl gno (Step.move rfl) rfl (fun _ h => h.sel [1, 1] rfl) ?_
    refine AV.u 3 (bl 10 15) rfl gno (Step.idx Tryz.underlying104 I41 (fun w h => h.os 1 rfl) rfl rfl (rfl) _ rfl (by omega)) rfl (fun _ h => h.sel [1, 1] rfl) ?_
    refine AV.u 4 (bl 10 31) rfl gno (Step.loadN _ Tryz.underlying41 rfl I41 rfl rfl (fun w h => (h.os 1 rfl).cells (by omega))) rfl (fun _ h => h.sel [1, 1] rfl) ?_
    refine AV.u 6 (bl 10 95) rfl gno (Step.build rfl (Bd39_0_1_2 _ _ _)) rfl (fun _ h => h.sel [1, 1] rfl) ?_
    refine AV.all [5, 8] (by kernel_rfl) (by decide) ?_
    refine ⟨⟨_, rfl, ?_⟩, ⟨⟨_, rfl, ?_⟩, trivial⟩⟩
    ·
     refine OV.call [] (F := [_, _, _, _, _, _, _]) Tryz.func46 B46 N46 rfl rfl (fun w h => table_fn (A := none) (c := 0) (raw := []) RS.nil rfl (by decide) fitT_nil) (fun _ hb => hb.elim) gno rfl (fun v L' hp => ?_)
     obtain ⟨tA, tc, rfl, rfl⟩ := hp
     refine AV.next (bl 10 127) (by kernel_rfl) (fun _ h => h.sel [1, 1] rfl) ?_
     refine AV.u 7 (bl 10 255) rfl gno (Step.build rfl (Bd45_0_1_2 _ _ _ _ _ _ _ _)) rfl (fun _ h => h.sel [1, 1] rfl) ?_
     refine AV.all [8] (by kernel_rfl) (by decide) ?_
     refine ⟨⟨_, rfl, ?_⟩, trivial⟩
     ·
      refine OV.alloc #[.int .i64 0, .int .i64 0, .slice none 0 0, .int .i64 0, .int .i64 0, .int .i64 0, .slice none 0 0] I45 rfl gno rfl (fun b11_8 => ?_)
      refine AV.next (bl 10 511) (by kernel_rfl) (fun _ h => h.sel [1, 1] rfl) ?_
      refine AV.all [9] (by kernel_rfl) (by decide) ?_
      refine ⟨⟨_, rfl, ?_⟩, trivial⟩
      ·
       refine OV.store 8 [_, _, _, _, _, _, _] #[_, _, _, _, _, _, _] I45 rfl rfl rfl rfl rfl (Nat.le_of_ble_eq_true rfl) (by simp [Value.oneCell']) rfl gno ?_
       refine AV.next (bl 10 1023) (by kernel_rfl) (fun _ h => h.sel [1, 1] rfl) ?_
       refine AV.done (by kernel_rfl) ?_
       refine KV.then_n (KV.e6 0 10 13 14 15 16 ?_)
       refine KV.sel [0, 0, 0, 0, 0, 0, 0, 0, 0] [_, _, _, _, _, _, _, _, _] rfl ?_
       exact KV.join3 (tA) (tc) (b11_8) ⟨rfl, rfl, rfl, rfl, rfl, rfl, trivial⟩ (fun _ h => h)
    ·
     refine OV.alloc #[.int .i64 0, .int .i64 0, .slice none 0 0, .int .i64 0, .int .i64 0, .int .i64 0, .slice none 0 0] I45 rfl gno rfl (fun b11_8 => ?_)
     refine AV.next (bl 10 351) (by kernel_rfl) (fun _ h => h.sel [1, 1] rfl) ?_
     refine AV.all [5] (by kernel_rfl) (by decide) ?_
     refine ⟨⟨_, rfl, ?_⟩, trivial⟩
     ·
      refine OV.call [] (F := [_, _, _, _, _, _, _, _]) Tryz.func46 B46 N46 rfl rfl (fun w h => table_fn (A := none) (c := 0) (raw := []) RS.nil rfl (by decide) fitT_nil) (fun _ hb => hb.elim) gno rfl (fun v L' hp => ?_)
      obtain ⟨tA, tc, rfl, rfl⟩ := hp
      refine AV.next (bl 10 383) (by kernel_rfl) (fun _ h => h.sel [1, 1] rfl) ?_
      refine AV.u 7 (bl 10 511) rfl gno (Step.build rfl (Bd45_0_1_2 _ _ _ _ _ _ _ _)) rfl (fun _ h => h.sel [1, 1] rfl) ?_
      refine AV.all [9] (by kernel_rfl) (by decide) ?_
      refine ⟨⟨_, rfl, ?_⟩, trivial⟩
      ·
       refine OV.store 7 [_, _, _, _, _, _, _] #[_, _, _, _, _, _, _] I45 rfl rfl rfl rfl rfl (Nat.le_of_ble_eq_true rfl) (by simp [Value.oneCell']) rfl gno ?_
       refine AV.next (bl 10 1023) (by kernel_rfl) (fun _ h => h.sel [1, 1] rfl) ?_
       refine AV.done (by kernel_rfl) ?_
       refine KV.then_n (KV.e6 0 10 13 14 15 16 ?_)
       refine KV.sel [0, 0, 0, 0, 0, 0, 0, 1, 0] [_, _, _, _, _, _, _, _, _] rfl ?_
       exact KV.join3 (tA) (tc) (b11_8) ⟨rfl, rfl, rfl, rfl, rfl, rfl, trivial⟩ (fun _ h => h)
   ·
    intro tA tc bb
    refine CV.join (fun (r : RB) => [(0, .slice A l0.length c), (10, .pointer (some ⟨b0_0, 0, none⟩)), (13, .pointer (some ⟨b6_4, 0, none⟩)), (14, .pointer (some ⟨b7_14, 0, none⟩)), (15, .int .i64 q), (16, .pointer (some ⟨bb, 0, none⟩))]) (fun (r : RB) => (fun w9 => RbOk (D.getD q hdK.d) r ∧ Hp I w [Blk b0_0 (.cells #[.slice none 0 0, .slice none 0 0, .int .i64 0, .int .i64 0, .int .u64 0] 35 (0, 0)), Blk b6_4 (.cells #[.slice DA D.length Dc, .slice MB M.length Md, .int .i64 base] 127 (0, 0)), OS 41 hdK DA Dc D, OS 195 hlK MB Md M, Blk b7_14 (.cells #[.slice z.A z.l.length z.c, .slice MB M.length Md, .int .i64 base, .int .i64 lim, .int .u64 bd] 35 (0, 0)), OS 45 rbK z.A z.c z.l, Big rF z.l, Blk bb (.cells #[.int .i64 r.h.cap, .int .i64 r.h.amb, .slice r.A r.ys.length r.c, .int .i64 r.up, .int .i64 r.dn, .int .i64 r.sm, .slice r.B r.tr.length r.e] 45 (0, 0)), OS 61 ptK r.A r.c r.ys, OS 190 trK r.B r.e r.tr] w9)) ?_ ?_
    ·
     skip
     refine CV.seq ?_
     refine KV.heap (fun w h => h.nilOS (e := 190) (K := trK)) ?_
     refine CV.region ?_
     refine RV.m rfl rfl (RV.m rfl rfl (RV.s (Step.lenSl Tryz.underlying22 rfl) rfl ?_))
     refine RV.op (OV.split gno (Step.lss rfl rfl) rfl (fun hlt => ?_) (fun hlt => ?_))
     ·
      refine RV.nil (KV.then_n (KV.e7 0 10 13 14 15 16 73 (CV.cond_t rfl (CV.seq (CV.region ?_)))))
      refine RV.m rfl rfl (RV.m rfl rfl ?_)
      refine RV.s (Step.idx Tryz.underlying22 I45 (fun w h => h.rs hr (fun _ => hI _)) rfl rfl (rfl) _ rfl (by omega)) rfl ?_
      refine RV.s (Step.fieldAddr rfl (F45_2 _ _)) rfl ?_
      refine RV.s (Step.loadN _ Tryz.underlying39 rfl I39 rfl rfl (fun w h => (h.rs hr (fun _ => hI _)).cellsAt q 3 [.int .i64 (l0.getD q rbK.d).up, .int .i64 (l0.getD q rbK.d).dn, .int .i64 (l0.getD q rbK.d).sm] (by omega) rfl rfl)) rfl ?_
      refine RV.op (OV.alloc #[.int .i64 0, .int .i64 0, .int .i64 0] I39 rfl gno rfl (fun b13_5 => ?_))
      refine RV.op (OV.store 10 [_, _, _] #[_, _, _] I39 rfl rfl rfl rfl rfl (Nat.le_of_ble_eq_true rfl) (by simp [Value.oneCell']) rfl gno ?_)
      refine RV.nil (KV.then_n (KV.e7 0 10 13 14 15 16 17 (CV.seq (CV.region ?_))))
      refine RV.s (Step.fieldAddr rfl (F39_0 _ _)) rfl ?_
      (first | refine RV.op (OV.step gno (Step.load Tryz.underlying3 rfl rfl (fun w h => h.cell 1 rfl rfl)) rfl ?_) | refine RV.op (OV.step gno (Step.load Tryz.underlying3 rfl rfl (fun w h => h.cell 4 rfl rfl)) rfl ?_) | refine RV.op (OV.step gno (Step.load Tryz.underlying3 rfl rfl (fun w h => h.cell 8 rfl rfl)) rfl ?_) | refine RV.op (OV.step gno (Step.load Tryz.underlying3 rfl rfl (fun w h => h.cell 10 rfl rfl)) rfl ?_))
      refine RV.op (OV.callP Tryz.func14 B14 N14 rfl (mod_fn _ 100 (by omega) (by omega)) gno rfl ?_)
      obtain ⟨ku, hku, hkul⟩ := modNat (l0.getD q rbK.d).up (n := 100) (by omega)
      rw [hku]
      (first | refine RV.op (OV.step gno (Step.add rfl rfl (wI64 (by omega) (by omega))) rfl ?_) | refine RV.op (OV.step gno (Step.add rfl rfl rfl) rfl ?_))
      rw [show (1 + (ku : Int)) = ((ku + 1 : Nat) : Int) by omega]
      refine RV.a rfl rfl ?_
      refine RV.nil (KV.then_n (KV.e8 0 10 13 14 15 16 17 18 (CV.seq (CV.region ?_))))
      refine RV.m rfl rfl (RV.m rfl rfl ?_)
      refine RV.s (Step.idx Tryz.underlying22 I45 (fun w h => h.rs hr (fun _ => hI _)) rfl rfl (rfl) _ rfl (by omega)) rfl ?_
      refine RV.s (Step.fieldAddr rfl (F45_1 _ _)) rfl ?_
      refine RV.s (Step.load Tryz.underlying42 rfl rfl (fun w h => (h.rs hr (fun _ => hI _)).cell (by omega) rfl)) rfl ?_
      refine RV.op (OV.call [] (F := [_, _, _, _, _, _, _, _, _, _, _]) Tryz.func46 B46 N46 rfl rfl (fun w h => table_fn (h.rs (hp0.r q (by omega)).1 (fun _ => hI _)) rfl (by have := (hp0.s.2 q (by omega)).1; omega) (hp0.f q (by omega))) (fun _ hb => hb.elim) gno rfl (fun v L' hp => ?_))
      obtain ⟨tA2, tc2, rfl, rfl⟩ := hp
      refine RV.s (Step.fieldAddr rfl (F45_1 _ _)) rfl ?_
      refine RV.op (OV.store 8 [_] #[_, _, _, _, _, _, _] I42 rfl rfl rfl rfl rfl (Nat.le_of_ble_eq_true rfl) (by simp [Value.oneCell']) rfl gno ?_)
      refine RV.nil (KV.then_n (KV.e8 0 10 13 14 15 16 17 18 (CV.seq ?_)))
      refine CV.any (Hp I w [Blk b13_5 (.cells #[.int .i64 (l0.getD q rbK.d).up, .int .i64 (l0.getD q rbK.d).dn, .int .i64 (l0.getD q rbK.d).sm] 39 (0, 0))]) (by kernel_rfl) (fun _ h => h.drew) 12 rfl ?_
      refine AV.u 0 (bl 12 1) rfl gno (Step.move rfl) rfl (fun _ h => h.sel [10] rfl) ?_
      refine AV.u 1 (bl 12 3) rfl gno (Step.fieldAddr rfl (F39_1 _ _)) rfl (fun _ h => h.sel [10] rfl) ?_
      refine AV.u 2 (bl 12 7) rfl gno (Step.load Tryz.underlying3 rfl rfl (fun w h => h.cell 0 rfl rfl)) rfl (fun _ h => h.sel [10] rfl) ?_
      refine AV.u 3 (bl 12 15) rfl gno (Step.move rfl) rfl (fun _ h => h.sel [10] rfl) ?_
      refine AV.u 5 (bl 12 47) rfl gno (Step.fieldAddr rfl (F39_2 _ _)) rfl (fun _ h => h.sel [10] rfl) ?_
      refine AV.u 6 (bl 12 111) rfl gno (Step.load Tryz.underlying3 rfl rfl (fun w h => h.cell 0 rfl rfl)) rfl (fun _ h => h.sel [10] rfl) ?_
      refine AV.all [4] (by kernel_rfl) (by decide) ?_
      refine ⟨⟨_, rfl, ?_⟩, trivial⟩
      ·
       refine OV.callP Tryz.func14 B14 N14 rfl (mod_fn _ (ku + 1) (by omega) (by omega)) gno rfl ?_
       obtain ⟨kd, hkd, hkdl⟩ := modNat (l0.getD q rbK.d).dn (n := ku + 1) (by omega)
       rw [hkd]
       refine AV.next (bl 12 127) (by kernel_rfl) (fun _ h => h.sel [10] rfl) ?_
       refine AV.all [7] (by kernel_rfl) (by decide) ?_
       refine ⟨⟨_, rfl, ?_⟩, trivial⟩
       ·
        refine OV.callP Tryz.func14 B14 N14 rfl (mod_fn _ 4 (by omega) (by omega)) gno rfl ?_
        obtain ⟨ks, hks, hksl⟩ := modNat (l0.getD q rbK.d).sm (n := 4) (by omega)
        rw [hks]
        refine AV.next (bl 12 255) (by kernel_rfl) (fun _ h => h.sel [10] rfl) ?_
        (first | refine AV.take 8 (bl 12 511) rfl (by kernel_rfl) (by kernel_rfl) (by kernel_rfl) (fun _ _ _ h => h) gno (Step.add rfl rfl (wI64 (by omega) (by omega))) rfl (fun _ h => h.sel [10] rfl) (by kernel_rfl) ?_ | refine AV.take 8 (bl 12 511) rfl (by kernel_rfl) (by kernel_rfl) (by kernel_rfl) (fun _ _ _ h => h) gno (Step.add rfl rfl rfl) rfl (fun _ h => h.sel [10] rfl) (by kernel_rfl) ?_)
        refine AV.u 9 (bl 12 1023) rfl gno (Step.build rfl (Bd39_0_1_2 _ _ _)) rfl (fun _ h => h.sel [10] rfl) ?_
        refine AV.u 10 (bl 12 2047) rfl gno (Step.fieldAddr rfl (F45_2 _ _)) rfl (fun _ h => h.sel [10] rfl) ?_
        refine AV.all [11] (by kernel_rfl) (by decide) ?_
        refine ⟨⟨_, rfl, ?_⟩, trivial⟩
        ·
         refine OV.store 8 [_, _, _] #[_, _, _, _, _, _, _] I39 rfl rfl rfl rfl rfl (Nat.le_of_ble_eq_true rfl) (by simp [Value.oneCell']) rfl gno ?_
         refine AV.next (bl 12 4095) (by kernel_rfl) (fun _ h => h.sel [10] rfl) ?_
         refine AV.done (by kernel_rfl) ?_
         refine KV.then_n (KV.e6 0 10 13 14 15 16 (CV.region ?_))
         refine RV.m rfl rfl (RV.m rfl rfl ?_)
         refine RV.s (Step.idx Tryz.underlying22 I45 (fun w h => h.rs hr (fun _ => hI _)) rfl rfl (rfl) _ rfl (by omega)) rfl ?_
         refine RV.s (Step.fieldAddr rfl (F45_3 _ _)) rfl ?_
         refine RV.s (Step.load Tryz.underlying43 rfl rfl (fun w h => (h.rs hr (fun _ => hI _)).cell (by omega) rfl)) rfl ?_
         refine RV.op (OV.call [] (F := [_, _, _, _, _, _, _, _, _, _, _, _]) Tryz.func47 B47 N47 rfl rfl (fun w h => trips_fn (h.rs (hp0.r q (by omega)).2 (fun _ => hI _)) rfl (by have := (hp0.s.2 q (by omega)).2; omega)) (fun _ hb => hb.elim) gno rfl (fun v L' hp => ?_))
         obtain ⟨rA, rc, tr, rfl, ⟨htc, htl⟩, rfl⟩ := hp
         refine RV.s (Step.fieldAddr rfl (F45_3 _ _)) rfl ?_
         refine RV.op (OV.store 8 [_] #[_, _, _, _, _, _, _] I43 rfl rfl rfl rfl rfl (Nat.le_of_ble_eq_true rfl) (by simp [Value.oneCell']) rfl gno ?_)
         refine RV.nil (KV.then_n (KV.e6 0 10 13 14 15 16 ?_))
         refine KV.sel [0, 0, 0, 0, 0, 0, 0, 1, 3, 3] [_, _, _, _, _, _, _, _, _, _] rfl ?_
         (first | exact KV.join (⟨(D.getD q hdK.d), tA, tc, tableM [], 80, 30, 2, none, 0, []⟩) ⟨rfl, rfl, rfl, rfl, rfl, rfl, trivial⟩ (fun _ h => by first | exact ⟨⟨rfl, fitT_table fitT_nil, newE_tab fitT_nil (by dsimp only; decide) (by dsimp only; decide) (by dsimp only; decide) (by dsimp only; decide) (by dsimp only; decide) (by dsimp only; decide), awC, tab_len8 _, Nat.zero_le _⟩, h⟩ | exact ⟨⟨rfl, fitT_table (hp0.f q (by omega)), newE_tab (hp0.f q (by omega)) (by dsimp only; omega) (by dsimp only; omega) (by dsimp only; omega) (by dsimp only; omega) (by dsimp only; omega) (by dsimp only; omega), htc, tab_len8 _, htl⟩, h⟩) | exact KV.join (⟨(D.getD q hdK.d), tA2, tc2, tableM (l0.getD q rbK.d).ys, ((ku + 1 : Nat) : Int), kd, 1 + (ks : Int), rA, rc, tr⟩) ⟨rfl, rfl, rfl, rfl, rfl, rfl, trivial⟩ (fun _ h => by first | exact ⟨⟨rfl, fitT_table fitT_nil, newE_tab fitT_nil (by dsimp only; decide) (by dsimp only; decide) (by dsimp only; decide) (by dsimp only; decide) (by dsimp only; decide) (by dsimp only; decide), awC, tab_len8 _, Nat.zero_le _⟩, h⟩ | exact ⟨⟨rfl, fitT_table (hp0.f q (by omega)), newE_tab (hp0.f q (by omega)) (by dsimp only; omega) (by dsimp only; omega) (by dsimp only; omega) (by dsimp only; omega) (by dsimp only; omega) (by dsimp only; omega), htc, tab_len8 _, htl⟩, h⟩))
     ·
      refine RV.nil (KV.then_n (KV.e7 0 10 13 14 15 16 73 (CV.cond_f rfl (CV.skip (KV.then_n ?_)))))
      refine KV.e6 0 10 13 14 15 16 ?_
      refine KV.sel [0, 0, 0, 0, 0, 0, 0, 1, 0, 0] [_, _, _, _, _, _, _, _, _, _] rfl ?_
      (first | exact KV.join (⟨(D.getD q hdK.d), tA, tc, tableM [], 80, 30, 2, none, 0, []⟩) ⟨rfl, rfl, rfl, rfl, rfl, rfl, trivial⟩ (fun _ h => by first | exact ⟨⟨rfl, fitT_table fitT_nil, newE_tab fitT_nil (by dsimp only; decide) (by dsimp only; decide) (by dsimp only; decide) (by dsimp only; decide) (by dsimp only; decide) (by dsimp only; decide), awC, tab_len8 _, Nat.zero_le _⟩, h⟩ | exact ⟨⟨rfl, fitT_table (hp0.f q (by omega)), newE_tab (hp0.f q (by omega)) (by dsimp only; omega) (by dsimp only; omega) (by dsimp only; omega) (by dsimp only; omega) (by dsimp only; omega) (by dsimp only; omega), htc, tab_len8 _, htl⟩, h⟩) | exact KV.join (⟨(D.getD q hdK.d), tA2, tc2, tableM (l0.getD q rbK.d).ys, ((ku + 1 : Nat) : Int), kd, 1 + (ks : Int), rA, rc, tr⟩) ⟨rfl, rfl, rfl, rfl, rfl, rfl, trivial⟩ (fun _ h => by first | exact ⟨⟨rfl, fitT_table fitT_nil, newE_tab fitT_nil (by dsimp only; decide) (by dsimp only; decide) (by dsimp only; decide) (by dsimp only; decide) (by dsimp only; decide) (by dsimp only; decide), awC, tab_len8 _, Nat.zero_le _⟩, h⟩ | exact ⟨⟨rfl, fitT_table (hp0.f q (by omega)), newE_tab (hp0.f q (by omega)) (by dsimp only; omega) (by dsimp only; omega) (by dsimp only; omega) (by dsimp only; omega) (by dsimp only; omega) (by dsimp only; omega), htc, tab_len8 _, htl⟩, h⟩))
    ·
     intro r
     refine KV.have (fun _ h => h.1) fun hro2 => ?_
     refine KV.heap (fun _ h => h.2) ?_
     refine CV.region ?_
     refine RV.s (Step.fieldAddr rfl (F35_0 _ _)) rfl ?_
     (first | refine RV.op (OV.step gno (Step.load Tryz.underlying22 rfl rfl (fun w h => h.cell 1 rfl rfl)) rfl ?_) | refine RV.op (OV.step gno (Step.load Tryz.underlying22 rfl rfl (fun w h => h.cell 4 rfl rfl)) rfl ?_) | refine RV.op (OV.step gno (Step.load Tryz.underlying22 rfl rfl (fun w h => h.cell 7 rfl rfl)) rfl ?_))
     refine RV.s (Step.loadN _ Tryz.underlying45 rfl I45 rfl rfl (fun w h => h.cells 7 rfl)) rfl ?_
     refine RV.op (OV.buildSlice (K := rbK) ([r]) rfl (Bs22_1_0 _ _ _ _ _ _ _) rfl rfl (by omega) gno rfl (fun b18_3 => ?_))
     refine RV.op (OV.append 5 Tryz.underlying22 I45 rfl rfl rfl rfl rfl rfl (fun w h => h.os 10 rfl) (by have := hinv2.2.1; have := hsm.n2; simp only [List.length_cons, List.length_nil]; omega) (by have := hinv2.2.1; have := hsm.n2; simp only [List.length_cons, List.length_nil]; omega) gno rfl (fun A4 c4 => ?_))
     refine RV.s (Step.fieldAddr rfl (F35_0 _ _)) rfl ?_
     refine RV.op (OV.store 4 [_] #[_, _, _, _, _] I22 rfl rfl rfl rfl rfl (Nat.le_of_ble_eq_true rfl) (by simp [Value.oneCell']) rfl gno ?_)
     refine RV.nil (KV.block_n (KV.then_n (KV.e5 0 10 13 14 15 ?_)))
     refine KV.sel [8, 8, 6, 0, 0, 0, 0, 0, 0] [_, _, _, _, _, _, _, _, _] rfl ?_
     refine KV.heap (fun w h => snocR h) ?_
     refine CV.region ?_
     refine RV.m rfl rfl ?_
     (first | refine RV.op (OV.step gno (Step.add rfl rfl (wI64 (by omega) (by omega))) rfl ?_) | refine RV.op (OV.step gno (Step.add rfl rfl rfl) rfl ?_))
     refine RV.a rfl rfl ?_
     refine RV.nil (KV.then_n (KV.e5 0 10 13 14 15 ?_))
     refine KV.sel [1, 1, 1, 1, 1, 1, 0] [_, _, _, _, _, _, _] rfl ?_
     exact KV.loop2 (x := q) (y := z) (q + 1) (⟨z.l ++ [r], A4, c4⟩) ⟨by omega, clI_next hinv2.2 hro2⟩ (by omega) ⟨rfl, rfl, rfl, rfl, rfl, trivial⟩ (fun _ h => h)
  ·
   refine RV.nil (KV.then_n (KV.e6 0 10 13 14 15 59 (CV.cond_f rfl (CV.exit (KV.then_exit ?_)))))
   refine KV.then_exit (KV.block_hit (KV.then_n (KV.e2 10 14 (CV.seq ?_))))
   have hqD : q = D.length := by omega
   rw [hqD] at hinv2
   refine CV.region ?_
   refine RV.s (Step.loadN _ Tryz.underlying35 rfl I35 rfl rfl (fun w h => h.cells 4 rfl)) rfl ?_
   refine RV.op (OV.store 0 [_, _, _, _, _] #[_, _, _, _, _] I35 rfl rfl rfl rfl rfl (Nat.le_of_ble_eq_true rfl) (by simp [Value.oneCell']) rfl gno ?_)
   refine RV.nil (KV.then_n (KV.e1 10 (CV.ret ?_)))
   refine KV.sel [5, 5, 3, 0] [_, _, _, _] rfl ?_
   exact KV.retC1 [_, _, _, _, _] rfl rfl Tryz.underlying35 rfl I35 rfl (fun w h => h.cells 3 rfl) [OS 45 rbK z.A z.c z.l, Big rF z.l, OS 195 hlK MB Md M] (fun _ h => h.sel [0, 0, 0] rfl) ⟨z.A, z.c, z.l, MB, Md, M, base, lim, bd, rfl, ClOk.of hsm hinv2.2 (by omega) (by omega) (by omega) (by omega), rfl⟩
end Go.Proofs.YtdfkpdcpegcieaaGreatDoor
