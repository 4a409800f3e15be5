/-
 Walks, part 10.
-/
import Derived.Test.YtdfkpdcpegcieaaGreatDoorTabA
import Derived.Test.YtdfkpdcpegcieaaGreatDoorW9
import Derived.Test.YtdfkpdcpegcieaaGreatDoorObA
set_option linter.unusedSimpArgs false
set_option linter.unusedVariables false
namespace Go.Proofs.YtdfkpdcpegcieaaGreatDoor
open Go.Sv Go.Perf Go.Ctl
set_option maxRecDepth 100000 in
set_option maxHeartbeats 1000000 in
theorem equalI_fn {A B : Option Addr} {n m c d : Nat} {xs ys : List Int} {w : World} (hx : RS w (intK .i64) A xs) (hn : n = xs.length) (hy : RS w (intK .i64) B ys) (hm : m = ys.length) (hl : xs.length ≤ 1000000) (hl2 : ys.length ≤ 1000000) : Fx Tryz.prog 23 [.slice A n c, .slice B m d] w [] no (fun v L => v = .bool (decide (xs = ys)) ∧ L = []) := by
 subst hn
 subst hm
 refine Sv.Fx.body Tryz.func23 rfl T23 rfl ?_
 intro I hro hI
 refine KV.e2 0 1 (CV.seq (CV.region ?_))
 refine RV.a rfl rfl ?_
 refine RV.nil (KV.then_n (KV.e2 0 1 (CV.seq (CV.seq (CV.region ?_)))))
 refine RV.m rfl rfl (RV.s (Step.lenSl Tryz.underlying56 rfl) rfl (RV.m rfl rfl (RV.s (Step.lenSl Tryz.underlying56 rfl) rfl ?_)))
 refine RV.op (OV.split gno (Step.neq rfl rfl) rfl (fun hne => ?_) (fun hne => ?_))
 ·
  refine RV.nil (KV.then_n (KV.e3 0 1 10 (CV.cond_t rfl (CV.seq (CV.region ?_)))))
  refine RV.a rfl rfl ?_
  refine RV.nil (KV.then_n (KV.e1 4 (CV.ret (KV.then_ret ?_))))
  refine KV.sel [] [] rfl ?_
  exact KV.ret1 rfl rfl _ (fun _ h => h) ⟨by rw [decide_eq_false]; rintro rfl; exact hne rfl, rfl⟩
 ·
  refine RV.nil (KV.then_n (KV.e3 0 1 10 (CV.cond_f rfl (CV.skip (KV.then_n ?_)))))
  refine KV.e2 0 1 (CV.seq (CV.seq (CV.region ?_)))
  refine RV.a rfl rfl ?_
  refine RV.nil (KV.then_n (KV.e3 0 1 5 (CV.block ?_)))
  refine KV.sel [] [] rfl ?_
  refine CV.loopI (fun (j : Nat) => j ≤ xs.length ∧ ∀ i, i < j → xs.getD i (intK .i64).d = ys.getD i (intK .i64).d) (fun (j : Nat) => xs.length - j) (fun (j : Nat) => [(0, .slice A xs.length c), (1, .slice B ys.length d), (5, .int .i64 j)]) (fun (j : Nat) => Hp I w []) (0) ⟨Nat.zero_le _, fun _ h => by omega⟩ ⟨rfl, rfl, rfl, trivial⟩ (fun _ h => h) ?_
  intro j hinv
  refine CV.seq (CV.seq (CV.region ?_))
  refine RV.m rfl rfl (RV.m rfl rfl (RV.s (Step.lenSl Tryz.underlying56 rfl) rfl ?_))
  refine RV.op (OV.split gno (Step.lss rfl rfl) rfl (fun hlt2 => ?_) (fun hlt2 => ?_))
  ·
   refine RV.nil (KV.then_n (KV.e4 0 1 5 14 (CV.cond_t rfl (CV.skip (KV.then_n ?_)))))
   refine KV.e3 0 1 5 (CV.seq (CV.block (CV.seq ?_)))
   refine CV.still (by kernel_rfl) (by kernel_rfl) (fun _ h => h.drew) ?_
   refine SV.step gno (Step.move rfl) rfl ?_
   refine SV.step gno (Step.move rfl) rfl ?_
   refine SV.step gno (Step.idx Tryz.underlying56 I2 (fun w h => h.rs hx (fun _ => hI _)) rfl rfl (rfl) _ rfl (by omega)) rfl ?_
   refine SV.step gno (Step.load Tryz.underlying2 rfl rfl (fun w h => (h.rs hx (fun _ => hI _)).cell0 (by omega) rfl)) rfl ?_
   refine SV.step gno (Step.move rfl) rfl ?_
   refine SV.step gno (Step.move rfl) rfl ?_
   refine SV.step gno (Step.idx Tryz.underlying56 I2 (fun w h => h.rs hy (fun _ => hI _)) rfl rfl (rfl) _ rfl (by omega)) rfl ?_
   refine SV.step gno (Step.load Tryz.underlying2 rfl rfl (fun w h => (h.rs hy (fun _ => hI _)).cell0 (by omega) rfl)) rfl ?_
   refine SV.split gno (Step.neq rfl rfl) rfl (fun hq => ?_) (fun hq => ?_)
   ·
    refine SV.nil (KV.then_n (KV.e4 0 1 5 25 (CV.cond_t rfl (CV.seq (CV.region ?_)))))
    refine RV.a rfl rfl ?_
    refine RV.nil (KV.then_n (KV.e1 4 (CV.ret (KV.block_ret (KV.then_ret ?_)))))
    refine KV.then_ret (KV.block_ret (KV.then_ret ?_))
    refine KV.sel [] [] rfl ?_
    exact KV.ret1 rfl rfl _ (fun _ h => h) ⟨by rw [decide_eq_false]; rintro rfl; exact hq rfl, rfl⟩
   ·
    refine SV.nil (KV.then_n (KV.e4 0 1 5 25 (CV.cond_f rfl (CV.skip (KV.block_n ?_)))))
    refine KV.then_n (KV.e3 0 1 5 (CV.region ?_))
    refine RV.m rfl rfl ?_
    (first | refine RV.op (OV.step gno (Step.add rfl rfl (wI64 (by omega) (by omega))) rfl ?_) | refine RV.op (OV.step gno (Step.add rfl rfl rfl) rfl ?_))
    refine RV.a rfl rfl ?_
    refine RV.nil (KV.then_n (KV.e3 0 1 5 ?_))
    refine KV.sel [] [] rfl ?_
    exact KV.loopI (z := j) (j + 1) ⟨by omega, fun i hi => by by_cases e : i = j; (subst e; exact Decidable.not_not.1 hq); exact hinv.2 i (by omega)⟩ (by omega) ⟨rfl, rfl, rfl, trivial⟩ (fun _ h => h)
  ·
   refine RV.nil (KV.then_n (KV.e4 0 1 5 14 (CV.cond_f rfl (CV.exit (KV.then_exit ?_)))))
   refine KV.then_exit (KV.block_hit (KV.then_n (KV.env [] trivial (CV.seq (CV.region ?_)))))
   refine RV.a rfl rfl ?_
   refine RV.nil (KV.then_n (KV.e1 4 (CV.ret ?_)))
   refine KV.sel [] [] rfl ?_
   exact KV.ret1 rfl rfl _ (fun _ h => h) ⟨by rw [decide_eq_true (ext0' (d := (intK .i64).d) (by omega) fun i hi => hinv.2 i (by omega))], rfl⟩

set_option maxRecDepth 100000 in
set_option maxHeartbeats 1000000 in
theorem equalN_fn {A B : Option Addr} {n m c d : Nat} {xs ys : List Int} {w : World} (hx : RS w (intK .i64) A xs) (hn : n = xs.length) (hy : RS w (intK .i64) B ys) (hm : m = ys.length) (hl : xs.length ≤ 1000000) (hl2 : ys.length ≤ 1000000) : Fx Tryz.prog 24 [.slice A n c, .slice B m d] w [] no (fun v L => v = .bool (decide (xs = ys)) ∧ L = []) := by
 subst hn
 subst hm
 refine Sv.Fx.body Tryz.func24 rfl T24 rfl ?_
 intro I hro hI
 refine KV.e2 0 1 (CV.seq (CV.region ?_))
 refine RV.a rfl rfl ?_
 refine RV.nil (KV.then_n (KV.e2 0 1 (CV.seq (CV.seq (CV.region ?_)))))
 refine RV.m rfl rfl (RV.s (Step.lenSl Tryz.underlying48 rfl) rfl (RV.m rfl rfl (RV.s (Step.lenSl Tryz.underlying48 rfl) rfl ?_)))
 refine RV.op (OV.split gno (Step.neq rfl rfl) rfl (fun hne => ?_) (fun hne => ?_))
 ·
  refine RV.nil (KV.then_n (KV.e3 0 1 10 (CV.cond_t rfl (CV.seq (CV.region ?_)))))
  refine RV.a rfl rfl ?_
  refine RV.nil (KV.then_n (KV.e1 4 (CV.ret (KV.then_ret ?_))))
  refine KV.sel [] [] rfl ?_
  exact KV.ret1 rfl rfl _ (fun _ h => h) ⟨by rw [decide_eq_false]; rintro rfl; exact hne rfl, rfl⟩
 ·
  refine RV.nil (KV.then_n (KV.e3 0 1 10 (CV.cond_f rfl (CV.skip (KV.then_n ?_)))))
  refine KV.e2 0 1 (CV.seq (CV.seq (CV.region ?_)))
  refine RV.a rfl rfl ?_
  refine RV.nil (KV.then_n (KV.e3 0 1 5 (CV.block ?_)))
  refine KV.sel [] [] rfl ?_
  refine CV.loopI (fun (j : Nat) => j ≤ xs.length ∧ ∀ i, i < j → xs.getD i (intK .i64).d = ys.getD i (intK .i64).d) (fun (j : Nat) => xs.length - j) (fun (j : Nat) => [(0, .slice A xs.length c), (1, .slice B ys.length d), (5, .int .i64 j)]) (fun (j : Nat) => Hp I w []) (0) ⟨Nat.zero_le _, fun _ h => by omega⟩ ⟨rfl, rfl, rfl, trivial⟩ (fun _ h => h) ?_
  intro j hinv
  refine CV.seq (CV.seq (CV.region ?_))
  refine RV.m rfl rfl (RV.m rfl rfl (RV.s (Step.lenSl Tryz.underlying48 rfl) rfl ?_))
  refine RV.op (OV.split gno (Step.lss rfl rfl) rfl (fun hlt2 => ?_) (fun hlt2 => ?_))
  ·
   refine RV.nil (KV.then_n (KV.e4 0 1 5 14 (CV.cond_t rfl (CV.skip (KV.then_n ?_)))))
   refine KV.e3 0 1 5 (CV.seq (CV.block (CV.seq ?_)))
   refine CV.still (by kernel_rfl) (by kernel_rfl) (fun _ h => h.drew) ?_
   refine SV.step gno (Step.move rfl) rfl ?_
   refine SV.step gno (Step.move rfl) rfl ?_
   refine SV.step gno (Step.idx Tryz.underlying48 I3 (fun w h => h.rs hx (fun _ => hI _)) rfl rfl (rfl) _ rfl (by omega)) rfl ?_
   refine SV.step gno (Step.load Tryz.underlying3 rfl rfl (fun w h => (h.rs hx (fun _ => hI _)).cell0 (by omega) rfl)) rfl ?_
   refine SV.step gno (Step.move rfl) rfl ?_
   refine SV.step gno (Step.move rfl) rfl ?_
   refine SV.step gno (Step.idx Tryz.underlying48 I3 (fun w h => h.rs hy (fun _ => hI _)) rfl rfl (rfl) _ rfl (by omega)) rfl ?_
   refine SV.step gno (Step.load Tryz.underlying3 rfl rfl (fun w h => (h.rs hy (fun _ => hI _)).cell0 (by omega) rfl)) rfl ?_
   refine SV.split gno (Step.neq rfl rfl) rfl (fun hq => ?_) (fun hq => ?_)
   ·
    refine SV.nil (KV.then_n (KV.e4 0 1 5 25 (CV.cond_t rfl (CV.seq (CV.region ?_)))))
    refine RV.a rfl rfl ?_
    refine RV.nil (KV.then_n (KV.e1 4 (CV.ret (KV.block_ret (KV.then_ret ?_)))))
    refine KV.then_ret (KV.block_ret (KV.then_ret ?_))
    refine KV.sel [] [] rfl ?_
    exact KV.ret1 rfl rfl _ (fun _ h => h) ⟨by rw [decide_eq_false]; rintro rfl; exact hq rfl, rfl⟩
   ·
    refine SV.nil (KV.then_n (KV.e4 0 1 5 25 (CV.cond_f rfl (CV.skip (KV.block_n ?_)))))
    refine KV.then_n (KV.e3 0 1 5 (CV.region ?_))
    refine RV.m rfl rfl ?_
    (first | refine RV.op (OV.step gno (Step.add rfl rfl (wI64 (by omega) (by omega))) rfl ?_) | refine RV.op (OV.step gno (Step.add rfl rfl rfl) rfl ?_))
    refine RV.a rfl rfl ?_
    refine RV.nil (KV.then_n (KV.e3 0 1 5 ?_))
    refine KV.sel [] [] rfl ?_
    exact KV.loopI (z := j) (j + 1) ⟨by omega, fun i hi => by by_cases e : i = j; (subst e; exact Decidable.not_not.1 hq); exact hinv.2 i (by omega)⟩ (by omega) ⟨rfl, rfl, rfl, trivial⟩ (fun _ h => h)
  ·
   refine RV.nil (KV.then_n (KV.e4 0 1 5 14 (CV.cond_f rfl (CV.exit (KV.then_exit ?_)))))
   refine KV.then_exit (KV.block_hit (KV.then_n (KV.env [] trivial (CV.seq (CV.region ?_)))))
   refine RV.a rfl rfl ?_
   refine RV.nil (KV.then_n (KV.e1 4 (CV.ret ?_)))
   refine KV.sel [] [] rfl ?_
   exact KV.ret1 rfl rfl _ (fun _ h => h) ⟨by rw [decide_eq_true (ext0' (d := (intK .i64).d) (by omega) fun i hi => hinv.2 i (by omega))], rfl⟩

set_option maxRecDepth 100000 in
set_option maxHeartbeats 4000000 in
theorem awake_fn {w : World} : Fx Tryz.prog 10 [] w [] no (fun v L => v = .bool true ∧ L = []) := by
 refine Sv.Fx.body Tryz.func10 rfl T10 rfl ?_
 intro I hro hI
 refine KV.env [] trivial (CV.seq (CV.region ?_))
 refine RV.a rfl rfl ?_
 refine RV.nil (KV.then_n (KV.env [] trivial (CV.seq (CV.region ?_))))
 refine RV.op (OV.call [] (F := []) Tryz.func32 B32 N32 rfl rfl (fun w h => busNew_fn) (fun _ hb => hb.elim) gno rfl (fun v L' hp => ?_))
 obtain ⟨⟨bb, rfl⟩, rfl⟩ := hp
 simp only [List.append_nil]
 refine RV.a rfl rfl ?_
 refine RV.nil (KV.then_n (KV.e1 1 (CV.seq (CV.seq (CV.region ?_)))))
 refine RV.m rfl rfl (RV.s (Step.eqlP Tryz.underlying68 rfl rfl) rfl ?_)
 refine RV.nil (KV.then_n (KV.e2 1 13 (CV.cond_f rfl (CV.skip (KV.then_n ?_)))))
 refine KV.e1 1 (CV.seq (CV.region ?_))
 refine RV.m rfl rfl ?_
 refine RV.op (OV.call [] (F := []) Tryz.func33 B33 N33 rfl rfl (fun w h => powerNew0_fn _) (fun _ hb => hb.elim) gno rfl (fun v L' hp => ?_))
 obtain ⟨p, tp, mp, oA, oc, rfl, rfl⟩ := hp
 refine RV.m rfl rfl (RV.s (Step.extract0 rfl rfl) rfl (RV.s (Step.extract0 rfl rfl) rfl (RV.a rfl rfl (RV.a rfl rfl ?_))))
 refine RV.nil (KV.then_n (KV.e2 2 3 (CV.seq (CV.region ?_))))
 refine RV.op (OV.call [] (F := [_]) Tryz.func34 B34 N34 rfl rfl (fun w h => srcNew_fn 1 (by decide)) (fun _ hb => hb.elim) gno rfl (fun v L' hp => ?_))
 obtain ⟨w0, rfl, rfl⟩ := hp
 refine RV.m rfl rfl (RV.s (Step.extract0 rfl rfl) rfl (RV.s (Step.extract0 rfl rfl) rfl (RV.a rfl rfl (RV.a rfl rfl ?_))))
 refine RV.nil (KV.then_n (KV.e4 2 3 4 5 (CV.seq (CV.region ?_))))
 refine RV.op (OV.call [] (F := [_, _]) Tryz.func35 B35 N35 rfl rfl (fun w h => frNew_fn 1 (by decide)) (fun _ hb => hb.elim) gno rfl (fun v L' hp => ?_))
 obtain ⟨f, fA, rfl, rfl⟩ := hp
 refine RV.m rfl rfl (RV.s (Step.extract0 rfl rfl) rfl (RV.s (Step.extract0 rfl rfl) rfl (RV.a rfl rfl (RV.a rfl rfl ?_))))
 refine RV.nil (KV.then_n (KV.e6 2 3 4 5 6 7 (CV.seq (CV.seq (CV.region ?_)))))
 refine RV.m rfl rfl (RV.s (Step.neq rfl rfl) rfl (RV.m rfl rfl (RV.gw rfl (Step.move rfl) rfl (RV.gw rfl (Step.neq rfl rfl) rfl (RV.s (Step.pick_f rfl rfl) rfl (RV.m rfl rfl (RV.gw rfl (Step.move rfl) rfl ?_)))))))
 refine RV.gw rfl (Step.neq rfl rfl) rfl (RV.s (Step.pick_f rfl rfl) rfl (RV.m rfl rfl (RV.gw rfl (Step.move rfl) rfl (RV.gw rfl (Step.eqlP Tryz.underlying67 rfl rfl) rfl (RV.s (Step.pick_f rfl rfl) rfl (RV.m rfl rfl (RV.gw rfl (Step.move rfl) rfl ?_)))))))
 refine RV.gw rfl (Step.eqlP Tryz.underlying74 rfl rfl) rfl (RV.s (Step.pick_f rfl rfl) rfl (RV.m rfl rfl (RV.gw rfl (Step.move rfl) rfl (RV.gw rfl (Step.eqlP Tryz.underlying75 rfl rfl) rfl (RV.s (Step.pick_f rfl rfl) rfl ?_)))))
 refine RV.nil (KV.then_n (KV.e4 2 4 6 48 (CV.cond_f rfl (CV.skip (KV.then_n ?_)))))
 refine KV.e3 2 4 6 (CV.seq (CV.region ?_))
 refine RV.m rfl rfl (RV.m rfl rfl (RV.m rfl rfl ?_))
 refine RV.op (OV.call [] (F := [_, _, _, _]) Tryz.func36 B36 N36 rfl rfl (fun w h => sleepNew_fn _ _ _) (fun _ hb => hb.elim) gno rfl (fun v L' hp => ?_))
 obtain ⟨s, rfl, rfl⟩ := hp
 refine RV.a rfl rfl ?_
 refine RV.nil (KV.then_n (KV.e1 8 (CV.seq (CV.region ?_))))
 refine RV.s (Step.build rfl (Bd41_0_1 _ _)) rfl (RV.s (Step.build rfl (Bd61_0_2 _ _)) rfl ?_)
 refine RV.op (OV.buildSlice (K := ptK) ([⟨1, 0, 8⟩]) rfl (Bs42_1_0 _ _ _) rfl rfl (by omega) gno rfl (fun b10_2 => ?_))
 refine RV.s (Step.build rfl (Bd39_0_2 _ _)) rfl (RV.s (Step.build rfl (Bd45_0_1_2 _ _ _ _ _ _ _ _)) rfl ?_)
 refine RV.op (OV.buildSlice (K := rbK) ([⟨⟨10, 1⟩, b10_2, 1, [⟨1, 0, 8⟩], 50, 0, 1, none, 0, []⟩]) rfl (Bs22_1_0 _ _ _ _ _ _ _) rfl rfl (by omega) gno rfl (fun b10_5 => ?_))
 refine RV.op (OV.call [] (F := [_, _, _, _, _, _, _]) Tryz.func11 B11 N11 rfl rfl (fun w h => newThermal_fn (h.os 6 rfl) rfl (by show 1 ≤ 1000000; decide) (fun i hi => by obtain rfl : i = 0 := Nat.lt_one_iff.1 hi; exact ⟨h.os 5 rfl, RS.nil⟩) (fun i hi => by obtain rfl : i = 0 := Nat.lt_one_iff.1 hi; exact ⟨by show 1 ≤ 1000000; decide, by show 0 ≤ 1000000; decide⟩) (B := none) (d := 0) (M := []) RS.nil rfl (by decide) 20 30 9) (fun _ hb => hb.elim) gno rfl (fun v L' hp => ?_))
 obtain ⟨t, rfl, ht, rfl⟩ := (hp.1 awN).1 (by show 0 < 1; decide)
 have hT : t.T.ok 30 := by rw [ht]; exact awT
 obtain ⟨hd1, hd2, hd3⟩ := aw_ds ht
 have hsl : slOk t 0 50 := ⟨⟨by decide, by omega⟩, by decide, by decide⟩
 have hT1 := slT_ok hT hsl
 refine RV.m rfl rfl (RV.s (Step.extract0 rfl rfl) rfl (RV.s (Step.extract0 rfl rfl) rfl (RV.a rfl rfl (RV.a rfl rfl ?_))))
 refine RV.nil (KV.then_n (KV.e3 8 9 10 (CV.seq (CV.seq (CV.region ?_)))))
 refine RV.m rfl rfl (RV.s (Step.eqlP Tryz.underlying73 rfl rfl) rfl (RV.m rfl rfl (RV.gw rfl (Step.move rfl) rfl (RV.gw rfl (Step.eqlP Tryz.underlying27 rfl rfl) rfl (RV.s (Step.pick_f rfl rfl) rfl (RV.m rfl rfl (RV.gw rfl (Step.move rfl) rfl ?_)))))))
 refine RV.gw rfl (Step.neq rfl rfl) rfl (RV.s (Step.pick_f rfl rfl) rfl (RV.m rfl rfl (RV.gw rfl (Step.move rfl) rfl ?_)))
 refine RV.op (OV.call [4, 1, 0, 0, 0] (F := [_, _, _, _, _, _, _, _, _, _]) Tryz.func28 B28 N28 rfl rfl (fun w h => sbegin_fn s w0 p f 1 (by decide) false 0 none (some tp) (some mp) _ oA oc 0 0 0 fA 1 (List.replicate 1 0) (by decide) 0 0 3 0 10 (by decide) (by decide) (by decide) (by decide) (by decide) (by decide) (by decide) (by decide)) (fun _ hb => hb.elim) (gyes rfl) rfl (fun v L' hp => ?_))
 obtain ⟨rfl, q, Aq, cq, rest, rfl⟩ := hp
 refine RV.gw rfl (Step.neq rfl rfl) rfl (RV.s (Step.pick_f rfl rfl) rfl (RV.m rfl rfl (RV.gw rfl (Step.move rfl) rfl ?_)))
 refine RV.op (OV.call [2, 2, 2, 2, 2, 2, 2, 2] (F := [_, _, _, _, _, _, _, _]) Tryz.func16 B16 N16 rfl rfl (fun w h => setLoad_fn t 0 50) (fun _ hb => hb.elim) (gyes rfl) rfl (fun v L' hp => ?_))
 obtain ⟨rfl, rfl⟩ := hp.1 hsl
 refine RV.gw rfl (Step.neq rfl rfl) rfl (RV.s (Step.pick_f rfl rfl) rfl ?_)
 refine RV.nil (KV.then_n (KV.e3 8 9 82 (CV.cond_f rfl (CV.skip (KV.then_n ?_)))))
 refine KV.e2 8 9 (CV.seq (CV.region ?_))
 refine RV.m rfl rfl ?_
 refine RV.op (OV.call [8, 8, 8, 8, 8, 8, 8, 8] (F := [_, _, _, _, _, _, _, _]) Tryz.func17 B17 N17 rfl rfl (fun w h => run_fn (slT t 0 50) hT1 (by show 0 < (t.ds.set 0 _).length; rw [List.length_set]; omega) 1) (fun _ hb => hb.elim) gno rfl (fun v L' hp => ?_))
 obtain ⟨t2, hR, ha, rfl⟩ := hp
 have ha2 : t2.a = t.a := ha
 have hT2 := hR.ok hT1
 have hp4 : t2.p = [4] := aw_pow (by have h1 := hR.p; rw [if_neg (by decide)] at h1; have h2 : (slT t 0 50).T.bud = 9 := hd3; rw [hd1, h2] at h1; exact h1)
 rw [← ha2]
 refine RV.nil (KV.then_n (KV.e2 8 9 (CV.seq (CV.region ?_))))
 refine RV.m rfl rfl ?_
 refine RV.op (OV.call [] (F := [_, _, _, _, _, _, _, _, _, _, _, _, _, _, _, _]) Tryz.func30 B30 N30 rfl rfl (fun w h => mode_fn s (h.blk 2 rfl)) (fun _ hb => hb.elim) gno rfl (fun v L' hp => ?_))
 obtain ⟨rfl, rfl⟩ := hp
 simp only [List.append_nil]
 refine RV.s (Step.eql rfl rfl) rfl (RV.m rfl rfl (RV.gw rfl (Step.move rfl) rfl ?_))
 refine RV.op (OV.call [] (F := [_, _, _, _, _, _, _, _, _, _, _, _, _, _, _, _]) Tryz.func37 B37 N37 rfl rfl (fun w h => system_fn s (h.blk 2 rfl)) (fun _ hb => hb.elim) (gyes rfl) rfl (fun v L' hp => ?_))
 obtain ⟨rfl, rfl⟩ := hp
 simp only [List.append_nil]
 refine RV.gw rfl (Step.eql rfl rfl) rfl (RV.s (Step.pick_t rfl rfl) rfl (RV.m rfl rfl (RV.gw rfl (Step.move rfl) rfl ?_)))
 refine RV.op (OV.call [8, 8, 8, 8, 8, 8, 8, 8] (F := [_, _, _, _, _, _, _, _]) Tryz.func19 B19 N19 rfl rfl (fun w h => powers_fn t2 hT2.pl' hT2.n8') (fun _ hb => hb.elim) (gyes rfl) rfl (fun v L' hp => ?_))
 obtain ⟨Ap, cp, rfl, rfl⟩ := hp
 refine RV.op (OV.buildSlice (K := (intK .i64)) ([4]) rfl (Bs56_1_0 _) rfl rfl (by omega) (gyes rfl) rfl (fun b14_11 => ?_))
 refine RV.op (OV.call [] (F := [_, _, _, _, _, _, _, _, _, _, _, _, _, _, _, _, _, _]) Tryz.func23 B23 N23 rfl rfl (fun w h => equalI_fn (h.os 16 rfl) rfl (h.os 17 rfl) rfl (by rw [hp4]; decide) (by decide)) (fun _ hb => hb.elim) (gyes rfl) rfl (fun v L' hp => ?_))
 obtain ⟨rfl, rfl⟩ := hp
 simp only [List.append_nil]
 rw [decide_eq_true hp4]
 refine RV.s (Step.pick_t rfl rfl) rfl (RV.a rfl rfl ?_)
 refine RV.nil (KV.then_n (KV.e1 0 (CV.ret ?_)))
 refine KV.sel [] [] rfl ?_
 exact KV.ret1 rfl rfl _ (fun _ h => h) ⟨rfl, rfl⟩
end Go.Proofs.YtdfkpdcpegcieaaGreatDoor
