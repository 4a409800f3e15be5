/-
 Walks, part 11.
-/
import Derived.Test.YtdfkpdcpegcieaaGreatDoorTabA
import Derived.Test.YtdfkpdcpegcieaaGreatDoorW10
import Derived.Test.YtdfkpdcpegcieaaGreatDoorObA
set_option linter.unusedSimpArgs false
set_option linter.unusedVariables false
namespace Go.Proofs.YtdfkpdcpegcieaaGreatDoor
open Go.Sv Go.Perf Go.Ctl
set_option maxRecDepth 100000 in
set_option maxHeartbeats 1000000 in
theorem trips_fn {A : Option Addr} {n c : Nat} {raw : List Trp} {w : World} (hr : RS w trK A raw) (hn : n = raw.length) (hl : raw.length ≤ 1000000) : Fx Tryz.prog 47 [.slice A n c] w [] no (fun v L => ∃ A2 c2 tr, v = .slice A2 tr.length c2 ∧ (chkT tr = 0 ∧ tr.length ≤ 6) ∧ L = [OS 190 trK A2 c2 tr]) := by
 subst hn
 refine Sv.Fx.body Tryz.func47 rfl T47 rfl ?_
 intro I hro hI
 refine KV.e1 0 (CV.seq (CV.region ?_))
 refine RV.a rfl rfl ?_
 refine RV.nil (KV.then_n (KV.e1 0 (CV.seq (CV.region ?_))))
 refine RV.a rfl rfl ?_
 refine RV.nil (KV.then_n (KV.e2 0 3 (CV.seq (CV.seq ?_))))
 refine KV.heap (fun w h => h.nilOS (e := 190) (K := trK)) ?_
 refine CV.region ?_
 refine RV.a rfl rfl ?_
 refine RV.nil (KV.then_n (KV.e3 0 3 4 (CV.block ?_)))
 refine KV.sel [0] [_] rfl ?_
 refine CV.loop3 (fun (i : Nat) (tr : List Trp) (z : Option Addr × Nat) => (i ≤ 6 ∧ tr.length = i) ∧ ∀ k, k < i → ¬ badT (tr.getD k trK.d)) (fun (i : Nat) (tr : List Trp) (z : Option Addr × Nat) => 6 - i) (fun (i : Nat) (tr : List Trp) (z : Option Addr × Nat) => [(0, .slice A raw.length c), (3, .slice z.1 tr.length z.2), (4, .int .i64 i)]) (fun (i : Nat) (tr : List Trp) (z : Option Addr × Nat) => Hp I w [OS 190 trK z.1 z.2 tr]) (0) ([]) ((none, 0)) ⟨⟨by omega, rfl⟩, fun k hk => by omega⟩ ⟨rfl, rfl, rfl, trivial⟩ (fun _ h => h) ?_
 intro i tr z hinv
 refine CV.seq (CV.seq (CV.region ?_))
 refine RV.m rfl rfl (RV.m rfl rfl (RV.s (Step.lenSl Tryz.underlying43 rfl) rfl ?_))
 refine RV.op (OV.split gno (Step.lss rfl rfl) rfl (fun cc1 => ?_) (fun cc1 => ?_))
 ·
  refine RV.m rfl rfl (RV.gw rfl (Step.move rfl) rfl ?_)
  refine RV.op (OV.split (gyes rfl) (Step.lss rfl rfl) rfl (fun cc2 => ?_) (fun cc2 => ?_))
  ·
   refine RV.s (Step.pick_t rfl rfl) rfl ?_
   refine RV.nil (KV.then_n (KV.e4 0 3 4 12 (CV.cond_t rfl (CV.skip (KV.then_n ?_)))))
   refine KV.e3 0 3 4 (CV.seq (CV.block ?_))
   refine CV.any (Hp I w []) (by kernel_rfl) (fun _ h => h.drew) 29 rfl ?_
   refine AV.u 0 (bl 29 1) rfl gno (Step.move rfl) rfl (fun _ h => h.sel [] rfl) ?_
   refine AV.u 1 (bl 29 3) rfl gno (Step.move rfl) rfl (fun _ h => h.sel [] rfl) ?_
   refine AV.u 2 (bl 29 7) rfl gno (Step.move rfl) rfl (fun _ h => h.sel [] rfl) ?_
   refine AV.u 3 (bl 29 15) rfl gno (Step.idx Tryz.underlying43 I190 (fun w h => h.rs hr (fun _ => hI _)) rfl rfl (rfl) _ rfl (by omega)) rfl (fun _ h => h.sel [] rfl) ?_
   refine AV.u 4 (bl 29 31) rfl gno (Step.fieldAddr rfl (F190_0 _ _)) rfl (fun _ h => h.sel [] rfl) ?_
   refine AV.u 5 (bl 29 63) rfl gno (Step.load Tryz.underlying3 rfl rfl (fun w h => (h.rs hr (fun _ => hI _)).cell0 (by omega) rfl)) rfl (fun _ h => h.sel [] rfl) ?_
   refine AV.u 8 (bl 29 319) rfl gno (Step.move rfl) rfl (fun _ h => h.sel [] rfl) ?_
   refine AV.u 9 (bl 29 831) rfl gno (Step.move rfl) rfl (fun _ h => h.sel [] rfl) ?_
   refine AV.u 10 (bl 29 1855) rfl gno (Step.idx Tryz.underlying43 I190 (fun w h => h.rs hr (fun _ => hI _)) rfl rfl (rfl) _ rfl (by omega)) rfl (fun _ h => h.sel [] rfl) ?_
   refine AV.u 11 (bl 29 3903) rfl gno (Step.fieldAddr rfl (F190_1 _ _)) rfl (fun _ h => h.sel [] rfl) ?_
   refine AV.u 12 (bl 29 7999) rfl gno (Step.load Tryz.underlying2 rfl rfl (fun w h => (h.rs hr (fun _ => hI _)).cell (by omega) rfl)) rfl (fun _ h => h.sel [] rfl) ?_
   refine AV.u 13 (bl 29 16191) rfl gno (Step.convI Tryz.underlying2 Tryz.underlying24 rfl (rfl)) rfl (fun _ h => h.sel [] rfl) ?_
   refine AV.u 14 (bl 29 32575) rfl gno (Step.rem rfl rfl (by omega) (rfl)) rfl (fun _ h => h.sel [] rfl) ?_
   have hw1 := wr_rem (raw.getD i trK.d).tp (n := 101) (by omega)
   (first | refine AV.take 15 (bl 29 65343) rfl (by kernel_rfl) (by kernel_rfl) (by kernel_rfl) (fun _ _ _ h => h) gno (Step.convI Tryz.underlying24 Tryz.underlying2 rfl (wI64 (by omega) (by omega))) rfl (fun _ h => h.sel [] rfl) (by kernel_rfl) ?_ | refine AV.take 15 (bl 29 65343) rfl (by kernel_rfl) (by kernel_rfl) (by kernel_rfl) (fun _ _ _ h => h) gno (Step.convI Tryz.underlying24 Tryz.underlying2 rfl rfl) rfl (fun _ h => h.sel [] rfl) (by kernel_rfl) ?_)
   (first | refine AV.take 16 (bl 29 130879) rfl (by kernel_rfl) (by kernel_rfl) (by kernel_rfl) (fun _ _ _ h => h) gno (Step.sub rfl rfl (wI64 (by omega) (by omega))) rfl (fun _ h => h.sel [] rfl) (by kernel_rfl) ?_ | refine AV.take 16 (bl 29 130879) rfl (by kernel_rfl) (by kernel_rfl) (by kernel_rfl) (fun _ _ _ h => h) gno (Step.sub rfl rfl rfl) rfl (fun _ h => h.sel [] rfl) (by kernel_rfl) ?_)
   refine AV.u 17 (bl 29 261951) rfl gno (Step.move rfl) rfl (fun _ h => h.sel [] rfl) ?_
   refine AV.u 18 (bl 29 524095) rfl gno (Step.move rfl) rfl (fun _ h => h.sel [] rfl) ?_
   refine AV.u 19 (bl 29 1048383) rfl gno (Step.idx Tryz.underlying43 I190 (fun w h => h.rs hr (fun _ => hI _)) rfl rfl (rfl) _ rfl (by omega)) rfl (fun _ h => h.sel [] rfl) ?_
   refine AV.u 20 (bl 29 2096959) rfl gno (Step.fieldAddr rfl (F190_2 _ _)) rfl (fun _ h => h.sel [] rfl) ?_
   refine AV.u 21 (bl 29 4194111) rfl gno (Step.load Tryz.underlying2 rfl rfl (fun w h => (h.rs hr (fun _ => hI _)).cell (by omega) rfl)) rfl (fun _ h => h.sel [] rfl) ?_
   refine AV.u 22 (bl 29 8388415) rfl gno (Step.convI Tryz.underlying2 Tryz.underlying24 rfl (rfl)) rfl (fun _ h => h.sel [] rfl) ?_
   refine AV.u 23 (bl 29 16777023) rfl gno (Step.rem rfl rfl (by omega) (rfl)) rfl (fun _ h => h.sel [] rfl) ?_
   have hw2 := wr_rem (raw.getD i trK.d).hy (n := 20) (by omega)
   (first | refine AV.take 24 (bl 29 33554239) rfl (by kernel_rfl) (by kernel_rfl) (by kernel_rfl) (fun _ _ _ h => h) gno (Step.convI Tryz.underlying24 Tryz.underlying2 rfl (wI64 (by omega) (by omega))) rfl (fun _ h => h.sel [] rfl) (by kernel_rfl) ?_ | refine AV.take 24 (bl 29 33554239) rfl (by kernel_rfl) (by kernel_rfl) (by kernel_rfl) (fun _ _ _ h => h) gno (Step.convI Tryz.underlying24 Tryz.underlying2 rfl rfl) rfl (fun _ h => h.sel [] rfl) (by kernel_rfl) ?_)
   refine AV.all [6] (by kernel_rfl) (by decide) ?_
   refine ⟨⟨_, rfl, ?_⟩, trivial⟩
   ·
    refine OV.callP Tryz.func14 B14 N14 rfl (mod_fn _ 3 (by omega) (by omega)) gno rfl ?_
    obtain ⟨k1, hk1, hk1l⟩ := modNat _ (n := 3) (by omega)
    rw [hk1]
    refine AV.next (bl 29 33554303) (by kernel_rfl) (fun _ h => h.sel [] rfl) ?_
    (first | refine AV.take 7 (bl 29 33554431) rfl (by kernel_rfl) (by kernel_rfl) (by kernel_rfl) (fun _ _ _ h => h) gno (Step.add rfl rfl (wI64 (by omega) (by omega))) rfl (fun _ h => h.sel [] rfl) (by kernel_rfl) ?_ | refine AV.take 7 (bl 29 33554431) rfl (by kernel_rfl) (by kernel_rfl) (by kernel_rfl) (fun _ _ _ h => h) gno (Step.add rfl rfl rfl) rfl (fun _ h => h.sel [] rfl) (by kernel_rfl) ?_)
    refine AV.u 25 (bl 29 67108863) rfl gno (Step.build rfl (Bd190_0_1_2 _ _ _)) rfl (fun _ h => h.sel [] rfl) ?_
    refine AV.all [26] (by kernel_rfl) (by decide) ?_
    refine ⟨⟨_, rfl, ?_⟩, trivial⟩
    ·
     refine OV.buildSlice (K := trK) ([⟨1 + (k1 : Int), (IntKind.u64.wrap (raw.getD i trK.d).tp).tmod 101 - 50, (IntKind.u64.wrap (raw.getD i trK.d).hy).tmod 20⟩]) rfl (Bs43_1_0 _ _ _) rfl rfl (by omega) gno rfl (fun b5_26 => ?_)
     refine AV.next (bl 29 134217727) (by kernel_rfl) (fun _ h => h.sel [] rfl) ?_
     refine AV.all [27] (by kernel_rfl) (by decide) ?_
     refine ⟨⟨_, rfl, ?_⟩, trivial⟩
     ·
      refine OV.append 0 Tryz.underlying43 I190 rfl rfl rfl rfl rfl rfl (fun w h => h.os 1 rfl) (by simp only [List.length_cons, List.length_nil]; omega) (by simp only [List.length_cons, List.length_nil]; omega) gno rfl (fun A3 c3 => ?_)
      refine AV.next (bl 29 268435455) (by kernel_rfl) (fun _ h => h.sel [] rfl) ?_
      refine AV.u 28 (bl 29 536870911) rfl gno (Step.assign rfl) rfl (fun _ h => h.sel [] rfl) ?_
      refine AV.done (by kernel_rfl) ?_
      refine KV.block_n (KV.then_n (KV.e3 0 3 4 (CV.region ?_)))
      refine RV.m rfl rfl ?_
      (first | refine RV.op (OV.step gno (Step.add rfl rfl (wI64 (by omega) (by omega))) rfl ?_) | refine RV.op (OV.step gno (Step.add rfl rfl rfl) rfl ?_))
      refine RV.a rfl rfl ?_
      refine RV.nil (KV.then_n (KV.e3 0 3 4 ?_))
      refine KV.sel [0] [_] rfl ?_
      exact KV.loop3 (x := i) (y := tr) (z := z) (i + 1) ((tr ++ [⟨1 + (k1 : Int), (IntKind.u64.wrap (raw.getD i trK.d).tp).tmod 101 - 50, (IntKind.u64.wrap (raw.getD i trK.d).hy).tmod 20⟩])) ((A3, c3)) ⟨⟨by omega, by rw [List.length_append, hinv.1.2]; rfl⟩, tr_next hinv.1.2 hinv.2 (by unfold badT; dsimp only; omega)⟩ (by omega) ⟨rfl, (show some (Value.slice _ _ _) = some (Value.slice _ _ _) by first | rfl | rw [List.length_append]), rfl, trivial⟩ (fun _ h => h)
  ·
   refine RV.s (Step.pick_t rfl rfl) rfl ?_
   refine RV.nil (KV.then_n (KV.e4 0 3 4 12 (CV.cond_f rfl (CV.exit (KV.then_exit ?_)))))
   refine KV.then_exit (KV.block_hit (KV.then_n (KV.e1 3 (CV.seq (CV.region ?_)))))
   refine RV.m rfl rfl (RV.a rfl rfl ?_)
   refine RV.nil (KV.then_n (KV.e1 2 (CV.ret ?_)))
   refine KV.sel [0] [_] rfl ?_
   exact KV.ret1 rfl rfl _ (fun _ h => h) ⟨_, _, _, rfl, ⟨chkT_ok (by omega) (fun k hk => hinv.2 k (by omega)), by omega⟩, rfl⟩
 ·
  refine RV.m rfl rfl (RV.k rfl rfl (RV.k rfl rfl (RV.s (Step.pick_f rfl rfl) rfl ?_)))
  refine RV.nil (KV.then_n (KV.e4 0 3 4 12 (CV.cond_f rfl (CV.exit (KV.then_exit ?_)))))
  refine KV.then_exit (KV.block_hit (KV.then_n (KV.e1 3 (CV.seq (CV.region ?_)))))
  refine RV.m rfl rfl (RV.a rfl rfl ?_)
  refine RV.nil (KV.then_n (KV.e1 2 (CV.ret ?_)))
  refine KV.sel [0] [_] rfl ?_
  exact KV.ret1 rfl rfl _ (fun _ h => h) ⟨_, _, _, rfl, ⟨chkT_ok (by omega) (fun k hk => hinv.2 k (by omega)), by omega⟩, rfl⟩

set_option maxRecDepth 100000 in
set_option maxHeartbeats 1000000 in
theorem table_fn {A : Option Addr} {n c : Nat} {raw : List Pt} {w : World} (hr : RS w ptK A raw) (hn : n = raw.length) (hl : raw.length ≤ 1000000) (hf : fitT raw) : Fx Tryz.prog 46 [.slice A n c] w [] no (fun v L => ∃ A2 c2, v = .slice A2 (tableM raw).length c2 ∧ L = [OS 61 ptK A2 c2 (tableM raw)]) := by
 subst hn
 refine Sv.Fx.body Tryz.func46 rfl T46 rfl ?_
 intro I hro hI
 refine KV.e1 0 (CV.seq (CV.region ?_))
 refine RV.a rfl rfl ?_
 refine RV.nil (KV.then_n (KV.e1 0 (CV.seq (CV.region ?_))))
 refine RV.s (Step.build rfl (Bd61_0_1 _ _)) rfl ?_
 refine RV.op (OV.buildSlice (K := ptK) ([⟨_, _, _⟩]) rfl (Bs42_1_0 _ _ _) rfl rfl (by omega) gno rfl (fun A0 => ?_))
 refine RV.a rfl rfl ?_
 refine RV.nil (KV.then_n (KV.e2 0 3 ?_))
 refine CV.join (α := Unit) (fun _ => [(0, .slice A raw.length c), (3, .slice A0 1 1)]) (fun _ => Hp I w [OS 61 ptK A0 1 (tabM raw 1)]) ?_ ?_
 ·
  skip
  refine CV.seq (CV.region ?_)
  refine RV.m rfl rfl (RV.s (Step.lenSl Tryz.underlying42 rfl) rfl ?_)
  refine RV.op (OV.split gno (Step.gtr rfl rfl) rfl (fun hpos => ?_) (fun hpos => ?_))
  ·
   refine RV.nil (KV.then_n (KV.e3 0 3 10 (CV.cond_t rfl ?_)))
   have h0 := hf 0
   unfold fitP at h0
   have a1 := tmB (pt raw 0).f 100 (by omega) (by omega)
   unfold pt at h0 a1
   refine CV.stillTail 18 (by kernel_rfl) (by kernel_rfl) (fun _ h => h.drew) ?_
   refine SV.step gno (Step.move rfl) rfl ?_
   refine SV.step gno (Step.move rfl) rfl ?_
   refine SV.step gno (Step.idx Tryz.underlying42 I61 (fun w h => h.rs hr (fun _ => hI _)) rfl rfl (rfl) _ (show (0 : Int) = ((0 : Nat) : Int) from rfl) (by first | omega | (rw [tabM_length]; omega) | decide)) rfl ?_
   refine SV.step gno (Step.fieldAddr rfl (F61_0 _ _)) rfl ?_
   refine SV.step gno (Step.load Tryz.underlying24 rfl rfl (fun w h => (h.rs hr (fun _ => hI _)).cell0 (by omega) rfl)) rfl ?_
   refine SV.step gno (Step.rem rfl rfl (by omega) (rfl)) rfl ?_
   (first | refine SV.step gno (Step.add rfl rfl (wU64 (by omega) (by omega))) rfl ?_ | refine SV.step gno (Step.add rfl rfl rfl) rfl ?_)
   refine SV.step gno (Step.move rfl) rfl ?_
   refine SV.step gno (Step.idx Tryz.underlying42 I61 (fun w h => h.rs hr (fun _ => hI _)) rfl rfl (rfl) _ (show (0 : Int) = ((0 : Nat) : Int) from rfl) (by first | omega | (rw [tabM_length]; omega) | decide)) rfl ?_
   refine SV.step gno (Step.fieldAddr rfl (F61_1 _ _)) rfl ?_
   refine SV.step gno (Step.load Tryz.underlying24 rfl rfl (fun w h => (h.rs hr (fun _ => hI _)).cell (by omega) rfl)) rfl ?_
   refine SV.step gno (Step.rem rfl rfl (by omega) (rfl)) rfl ?_
   refine SV.step gno (Step.move rfl) rfl ?_
   refine SV.step gno (Step.idx Tryz.underlying42 I61 (fun w h => h.rs hr (fun _ => hI _)) rfl rfl (rfl) _ (show (0 : Int) = ((0 : Nat) : Int) from rfl) (by first | omega | (rw [tabM_length]; omega) | decide)) rfl ?_
   refine SV.step gno (Step.fieldAddr rfl (F61_2 _ _)) rfl ?_
   refine SV.step gno (Step.load Tryz.underlying24 rfl rfl (fun w h => (h.rs hr (fun _ => hI _)).cell (by omega) rfl)) rfl ?_
   refine SV.step gno (Step.rem rfl rfl (by omega) (rfl)) rfl ?_
   refine SV.step gno (Step.build rfl (Bd61_0_1_2 _ _ _)) rfl ?_
   refine SV.nil ?_
   show KV _ (wpList _ _ _ _) _ _
   refine RV.op (OV.step gno (Step.idx Tryz.underlying42 I61 (fun w h => h.os 0 rfl) rfl rfl (rfl) _ (show (0 : Int) = ((0 : Nat) : Int) from rfl) (by first | omega | (rw [tabM_length]; omega) | decide)) rfl ?_)
   refine RV.op (OV.storeE 0 (0) (⟨_, _, _⟩) (j := 0) [_, _, _] I61 rfl rfl rfl rfl rfl rfl (by decide) rfl (Nat.le_of_ble_eq_true rfl) gno ?_)
   refine RV.nil (KV.then_n (KV.e2 0 3 ?_))
   refine KV.sel [0] [_] rfl ?_
   exact KV.join () ⟨rfl, rfl, trivial⟩ (fun _ h => by rw [tab1]; first | (rw [tab0_pos (by omega)]; exact h) | (rw [tab0_neg (by omega)]; exact h))
  ·
   refine RV.nil (KV.then_n (KV.e3 0 3 10 (CV.cond_f rfl (CV.skip (KV.then_n ?_)))))
   refine KV.e2 0 3 ?_
   refine KV.sel [0] [_] rfl ?_
   exact KV.join () ⟨rfl, rfl, trivial⟩ (fun _ h => by rw [tab1]; first | (rw [tab0_pos (by omega)]; exact h) | (rw [tab0_neg (by omega)]; exact h))
 ·
  intro _
  refine CV.seq (CV.seq (CV.region ?_))
  refine RV.a rfl rfl ?_
  refine RV.nil (KV.then_n (KV.e3 0 3 4 (CV.block ?_)))
  refine KV.sel [0] [_] rfl ?_
  refine CV.loop3 (fun (j : Nat) (A2 : Option Addr) (c2 : Nat) => 1 ≤ j ∧ j ≤ tabN raw) (fun (j : Nat) (A2 : Option Addr) (c2 : Nat) => 8 - j) (fun (j : Nat) (A2 : Option Addr) (c2 : Nat) => [(0, .slice A raw.length c), (3, .slice A2 (tabM raw j).length c2), (4, .int .i64 j)]) (fun (j : Nat) (A2 : Option Addr) (c2 : Nat) => Hp I w [OS 61 ptK A2 c2 (tabM raw j)]) (1) (A0) (1) ⟨Nat.le_refl _, (tabN_pos raw).1⟩ ⟨rfl, rfl, rfl, trivial⟩ (fun _ h => h) ?_
  intro j A2 c2 hinv
  refine CV.seq (CV.seq (CV.region ?_))
  refine RV.m rfl rfl (RV.m rfl rfl (RV.s (Step.lenSl Tryz.underlying42 rfl) rfl ?_))
  refine RV.op (OV.split gno (Step.lss rfl rfl) rfl (fun hq1 => ?_) (fun hq1 => ?_))
  ·
   refine RV.m rfl rfl (RV.gw rfl (Step.move rfl) rfl ?_)
   refine RV.op (OV.split (gyes rfl) (Step.lss rfl rfl) rfl (fun hq2 => ?_) (fun hq2 => ?_))
   ·
    refine RV.s (Step.pick_t rfl rfl) rfl ?_
    refine RV.nil (KV.then_n (KV.e4 0 3 4 37 (CV.cond_t rfl (CV.skip (KV.then_n ?_)))))
    refine KV.e3 0 3 4 (CV.seq (CV.block (CV.seq ?_)))
    have h0 := hf j
    unfold fitP at h0
    have a1 := tmB (pt raw j).f 100 (by omega) (by omega)
    have a2 := tmB (pt raw j).v 4 (by omega) (by omega)
    have a3 := tmB (pt raw j).p 30 (by omega) (by omega)
    have hb := tabE_bd hf (j - 1)
    unfold pt at h0 a1 a2 a3
    refine CV.region ?_
    refine RV.m rfl rfl (RV.m rfl rfl ?_)
    (first | refine RV.op (OV.step gno (Step.sub rfl rfl (wI64 (by omega) (by omega))) rfl ?_) | refine RV.op (OV.step gno (Step.sub rfl rfl rfl) rfl ?_))
    refine RV.op (OV.step gno (Step.idx Tryz.underlying42 I61 (fun w h => h.os 0 rfl) rfl rfl (rfl) _ (show (j : Int) - 1 = ((j - 1 : Nat) : Int) by omega) (by first | omega | (rw [tabM_length]; omega) | decide)) rfl ?_)
    refine RV.s (Step.loadN _ Tryz.underlying61 rfl I61 rfl rfl (fun w h => (h.os 0 rfl).cells (by rw [tabM_length]; omega))) rfl ?_
    refine RV.op (OV.alloc #[.int .u64 0, .int .u64 0, .int .u64 0] I61 rfl gno rfl (fun b7_5 => ?_))
    refine RV.op (OV.store 1 [_, _, _] #[_, _, _] I61 rfl rfl rfl rfl rfl (Nat.le_of_ble_eq_true rfl) (by simp [Value.oneCell']) rfl gno ?_)
    refine RV.nil (KV.then_n (KV.e4 0 3 4 5 (CV.seq ?_)))
    have hge : (tabM raw j).getD (j - 1) ptK.d = tabE raw (j - 1) := tabM_get raw (by omega)
    rw [hge]
    refine CV.stillTail 10 (by kernel_rfl) (by kernel_rfl) (fun _ h => h.drew) ?_
    refine SV.step gno (Step.fieldAddr rfl (F61_0 _ _)) rfl ?_
    refine SV.step gno (Step.load Tryz.underlying24 rfl rfl (fun w h => h.cell 1 rfl rfl)) rfl ?_
    (first | refine SV.step gno (Step.add rfl rfl (wU64 (by omega) (by omega))) rfl ?_ | refine SV.step gno (Step.add rfl rfl rfl) rfl ?_)
    refine SV.step gno (Step.move rfl) rfl ?_
    refine SV.step gno (Step.move rfl) rfl ?_
    refine SV.step gno (Step.idx Tryz.underlying42 I61 (fun w h => h.rs hr (fun _ => hI _)) rfl rfl (rfl) _ rfl (by first | omega | (rw [tabM_length]; omega) | decide)) rfl ?_
    refine SV.step gno (Step.fieldAddr rfl (F61_0 _ _)) rfl ?_
    refine SV.step gno (Step.load Tryz.underlying24 rfl rfl (fun w h => (h.rs hr (fun _ => hI _)).cell0 (by omega) rfl)) rfl ?_
    refine SV.step gno (Step.rem rfl rfl (by omega) (rfl)) rfl ?_
    (first | refine SV.step gno (Step.add rfl rfl (wU64 (by omega) (by omega))) rfl ?_ | refine SV.step gno (Step.add rfl rfl rfl) rfl ?_)
    refine SV.nil ?_
    show KV _ (wpList _ _ _ _) _ _
    refine RV.s (Step.fieldAddr rfl (F61_0 _ _)) rfl ?_
    refine RV.op (OV.store 1 [_] #[_, _, _] I24 rfl rfl rfl rfl rfl (Nat.le_of_ble_eq_true rfl) (by simp [Value.oneCell']) rfl gno ?_)
    refine RV.nil (KV.then_n (KV.e4 0 3 4 5 (CV.seq ?_)))
    refine CV.stillTail 9 (by kernel_rfl) (by kernel_rfl) (fun _ h => h.drew) ?_
    refine SV.step gno (Step.fieldAddr rfl (F61_1 _ _)) rfl ?_
    refine SV.step gno (Step.load Tryz.underlying24 rfl rfl (fun w h => h.cell 1 rfl rfl)) rfl ?_
    refine SV.step gno (Step.move rfl) rfl ?_
    refine SV.step gno (Step.move rfl) rfl ?_
    refine SV.step gno (Step.idx Tryz.underlying42 I61 (fun w h => h.rs hr (fun _ => hI _)) rfl rfl (rfl) _ rfl (by first | omega | (rw [tabM_length]; omega) | decide)) rfl ?_
    refine SV.step gno (Step.fieldAddr rfl (F61_1 _ _)) rfl ?_
    refine SV.step gno (Step.load Tryz.underlying24 rfl rfl (fun w h => (h.rs hr (fun _ => hI _)).cell (by omega) rfl)) rfl ?_
    refine SV.step gno (Step.rem rfl rfl (by omega) (rfl)) rfl ?_
    (first | refine SV.step gno (Step.add rfl rfl (wU64 (by omega) (by omega))) rfl ?_ | refine SV.step gno (Step.add rfl rfl rfl) rfl ?_)
    refine SV.nil ?_
    show KV _ (wpList _ _ _ _) _ _
    refine RV.s (Step.fieldAddr rfl (F61_1 _ _)) rfl ?_
    refine RV.op (OV.store 1 [_] #[_, _, _] I24 rfl rfl rfl rfl rfl (Nat.le_of_ble_eq_true rfl) (by simp [Value.oneCell']) rfl gno ?_)
    refine RV.nil (KV.then_n (KV.e4 0 3 4 5 (CV.seq ?_)))
    refine CV.stillTail 9 (by kernel_rfl) (by kernel_rfl) (fun _ h => h.drew) ?_
    refine SV.step gno (Step.fieldAddr rfl (F61_2 _ _)) rfl ?_
    refine SV.step gno (Step.load Tryz.underlying24 rfl rfl (fun w h => h.cell 1 rfl rfl)) rfl ?_
    refine SV.step gno (Step.move rfl) rfl ?_
    refine SV.step gno (Step.move rfl) rfl ?_
    refine SV.step gno (Step.idx Tryz.underlying42 I61 (fun w h => h.rs hr (fun _ => hI _)) rfl rfl (rfl) _ rfl (by first | omega | (rw [tabM_length]; omega) | decide)) rfl ?_
    refine SV.step gno (Step.fieldAddr rfl (F61_2 _ _)) rfl ?_
    refine SV.step gno (Step.load Tryz.underlying24 rfl rfl (fun w h => (h.rs hr (fun _ => hI _)).cell (by omega) rfl)) rfl ?_
    refine SV.step gno (Step.rem rfl rfl (by omega) (rfl)) rfl ?_
    (first | refine SV.step gno (Step.add rfl rfl (wU64 (by omega) (by omega))) rfl ?_ | refine SV.step gno (Step.add rfl rfl rfl) rfl ?_)
    refine SV.nil ?_
    show KV _ (wpList _ _ _ _) _ _
    refine RV.s (Step.fieldAddr rfl (F61_2 _ _)) rfl ?_
    refine RV.op (OV.store 1 [_] #[_, _, _] I24 rfl rfl rfl rfl rfl (Nat.le_of_ble_eq_true rfl) (by simp [Value.oneCell']) rfl gno ?_)
    refine RV.nil (KV.then_n (KV.e4 0 3 4 5 (CV.region ?_)))
    refine RV.m rfl rfl (RV.s (Step.loadN _ Tryz.underlying61 rfl I61 rfl rfl (fun w h => h.cells 1 rfl)) rfl ?_)
    refine RV.op (OV.buildSlice (K := ptK) ([⟨_, _, _⟩]) rfl (Bs42_1_0 _ _ _) rfl rfl (by omega) gno rfl (fun b11_2 => ?_))
    refine RV.op (OV.append 0 Tryz.underlying42 I61 rfl rfl rfl rfl rfl rfl (fun w h => h.os 2 rfl) (by simp only [List.length_cons, List.length_nil, tabM_length]; omega) (by simp only [List.length_cons, List.length_nil, tabM_length]; omega) gno rfl (fun A3 c3 => ?_))
    refine RV.a rfl rfl ?_
    refine RV.nil (KV.block_n (KV.then_n (KV.e3 0 3 4 (CV.region ?_))))
    refine RV.m rfl rfl ?_
    (first | refine RV.op (OV.step gno (Step.add rfl rfl (wI64 (by omega) (by omega))) rfl ?_) | refine RV.op (OV.step gno (Step.add rfl rfl rfl) rfl ?_))
    refine RV.a rfl rfl ?_
    refine RV.nil (KV.then_n (KV.e3 0 3 4 ?_))
    refine KV.sel [0] [_] rfl ?_
    have hap := tabApp raw (j := j) (by omega)
    exact KV.loop3 (x := j) (y := A2) (z := c2) (j + 1) (A3) (c3) ⟨by omega, by unfold tabN; omega⟩ (by omega) ⟨rfl, (show some (Value.slice _ _ _) = some (Value.slice _ _ _) by rw [tabM_succ, List.length_append, List.length_append]; rfl), rfl, trivial⟩ (fun _ h => by rw [tabM_succ, hap]; exact h)
   ·
    refine RV.s (Step.pick_t rfl rfl) rfl ?_
    refine RV.nil (KV.then_n (KV.e4 0 3 4 37 (CV.cond_f rfl (CV.exit (KV.then_exit ?_)))))
    refine KV.then_exit (KV.block_hit (KV.then_n (KV.e1 3 (CV.seq (CV.region ?_)))))
    refine RV.m rfl rfl (RV.a rfl rfl ?_)
    refine RV.nil (KV.then_n (KV.e1 2 (CV.ret ?_)))
    refine KV.sel [0] [_] rfl ?_
    have hje : j = tabN raw := by unfold tabN at *; omega
    subst hje
    exact KV.ret1 rfl rfl _ (fun _ h => h) ⟨_, _, rfl, rfl⟩
  ·
   refine RV.m rfl rfl (RV.k rfl rfl (RV.k rfl rfl (RV.s (Step.pick_f rfl rfl) rfl ?_)))
   refine RV.nil (KV.then_n (KV.e4 0 3 4 37 (CV.cond_f rfl (CV.exit (KV.then_exit ?_)))))
   refine KV.then_exit (KV.block_hit (KV.then_n (KV.e1 3 (CV.seq (CV.region ?_)))))
   refine RV.m rfl rfl (RV.a rfl rfl ?_)
   refine RV.nil (KV.then_n (KV.e1 2 (CV.ret ?_)))
   refine KV.sel [0] [_] rfl ?_
   have hje : j = tabN raw := by unfold tabN at *; omega
   subst hje
   exact KV.ret1 rfl rfl _ (fun _ h => h) ⟨_, _, rfl, rfl⟩
end Go.Proofs.YtdfkpdcpegcieaaGreatDoor
