/-
 Walks, part 17.
-/
import Derived.Test.YtdfkpdcpegcieaaGreatDoorTabB
import Derived.Test.YtdfkpdcpegcieaaGreatDoorW16
import Derived.Test.YtdfkpdcpegcieaaGreatDoorLa2
set_option linter.unusedSimpArgs false
set_option linter.unusedVariables false
namespace Go.Proofs.YtdfkpdcpegcieaaGreatDoor
open Go.Sv Go.Perf Go.Ctl
set_option maxRecDepth 100000 in
set_option maxHeartbeats 4000000 in
theorem keepsBudget_fn {A : Option Addr} {n c : Nat} {l0 : List RB} {w : World} (hr : RS w rbK A l0) (hn : n = l0.length) (hl : l0.length ≤ 9223372036854775807) (hp0 : ∀ i, i < l0.length → (l0.getD i rbK.d).rs w) (hf0 : ∀ i, i < l0.length → fitT (l0.getD i rbK.d).ys) {B : Option Addr} {m d : Nat} {M0 : List HL} (hr2 : RS w hlK B M0) (hm : m = M0.length) (amb lim0 bud : Int) (hb0 : 0 ≤ bud) (hb1 : bud ≤ 18446744073709551615) {RA : Option Addr} {rn rc : Nat} {R : List RN} (hr3 : RS w rnK RA R) (hrn : rn = R.length) : Fx Tryz.prog 4 [.slice A n c, .slice B m d, .int .i64 amb, .int .i64 lim0, .int .u64 bud, .slice RA rn rc] w [] no (fun v L => v = .bool true ∧ L = []) := by
 subst hn
 subst hm
 subst hrn
 refine Sv.Fx.body Tryz.func4 rfl T4 rfl ?_
 intro I hro hI
 refine KV.env [(0, _), (1, _), (2, _), (3, _), (4, _), (5, _)] ⟨rfl, rfl, rfl, rfl, rfl, rfl, trivial⟩ (CV.seq (CV.region ?_))
 refine RV.a rfl rfl ?_
 refine RV.nil (KV.then_n (KV.env [(0, _), (1, _), (2, _), (3, _), (4, _), (5, _)] ⟨rfl, rfl, rfl, rfl, rfl, rfl, trivial⟩ (CV.seq (CV.seq (CV.region ?_)))))
 refine RV.m rfl rfl ?_
 refine RV.op (OV.call [] (F := []) Tryz.func9 B9 N9 rfl rfl (fun w h => large_fn (h.rs hr (fun _ => hI _)) rfl hl) (fun _ hb => hb.elim) gno rfl (fun v L' hp => ?_))
 obtain ⟨big, rfl, hsm, rfl⟩ := hp
 simp only [List.append_nil]
 refine RV.m rfl rfl ?_
 refine KV.cases 29 rfl (fun cc1 => ?_) (fun cc1 => ?_)
 ·
  refine RV.k rfl rfl (RV.k rfl rfl (RV.k rfl rfl (RV.s (Step.pick_t rfl rfl) rfl ?_)))
  refine RV.nil (KV.then_n (KV.env [(0, _), (1, _), (2, _), (3, _), (4, _), (5, _), (33, _)] ⟨rfl, rfl, rfl, rfl, rfl, rfl, rfl, trivial⟩ (CV.cond_t rfl (CV.seq (CV.region ?_)))))
  refine RV.op (OV.call [] (F := []) Tryz.func10 B10 N10 rfl rfl (fun w h => awake_fn) (fun _ hb => hb.elim) gno rfl (fun v L' hp => ?_))
  obtain ⟨rfl, rfl⟩ := hp
  simp only [List.append_nil]
  refine RV.a rfl rfl ?_
  refine RV.nil (KV.then_n (KV.env [(12, _)] ⟨rfl, trivial⟩ (CV.ret (KV.then_ret ?_))))
  refine KV.sel [] [] rfl ?_
  exact KV.ret1 rfl rfl _ (fun _ h => h) ⟨rfl, rfl⟩
 ·
  have hbig := cc1
  refine RV.gw rfl (Step.move rfl) rfl (RV.gw rfl (Step.lenSl Tryz.underlying47 rfl) rfl ?_)
  refine RV.op (OV.split (gyes rfl) (Step.gtr rfl rfl) rfl (fun cc2 => ?_) (fun cc2 => ?_))
  ·
   refine RV.s (Step.pick_f rfl rfl) rfl ?_
   refine RV.nil (KV.then_n (KV.env [(0, _), (1, _), (2, _), (3, _), (4, _), (5, _), (33, _)] ⟨rfl, rfl, rfl, rfl, rfl, rfl, rfl, trivial⟩ (CV.cond_t rfl (CV.seq (CV.region ?_)))))
   refine RV.op (OV.call [] (F := []) Tryz.func10 B10 N10 rfl rfl (fun w h => awake_fn) (fun _ hb => hb.elim) gno rfl (fun v L' hp => ?_))
   obtain ⟨rfl, rfl⟩ := hp
   simp only [List.append_nil]
   refine RV.a rfl rfl ?_
   refine RV.nil (KV.then_n (KV.env [(12, _)] ⟨rfl, trivial⟩ (CV.ret (KV.then_ret ?_))))
   refine KV.sel [] [] rfl ?_
   exact KV.ret1 rfl rfl _ (fun _ h => h) ⟨rfl, rfl⟩
  ·
   refine RV.s (Step.pick_f rfl rfl) rfl ?_
   refine RV.nil (KV.then_n (KV.env [(0, _), (1, _), (2, _), (3, _), (4, _), (5, _), (33, _)] ⟨rfl, rfl, rfl, rfl, rfl, rfl, rfl, trivial⟩ (CV.cond_f rfl (CV.skip (KV.then_n ?_)))))
   refine KV.env [(0, _), (1, _), (2, _), (3, _), (4, _), (5, _)] ⟨rfl, rfl, rfl, rfl, rfl, rfl, trivial⟩ (CV.seq (CV.region ?_))
   refine RV.m rfl rfl (RV.m rfl rfl (RV.m rfl rfl (RV.m rfl rfl (RV.m rfl rfl ?_))))
   refine RV.op (OV.call [] (F := []) Tryz.func13 B13 N13 rfl rfl (fun w h => some44_fn (h.rs hr (fun _ => hI _)) rfl ⟨fun i hi => ⟨h.rs (hp0 i hi).1 (fun _ => hI _), h.rs (hp0 i hi).2 (fun _ => hI _)⟩, hf0, hsm hbig⟩ (h.rs hr2 (fun _ => hI _)) rfl amb lim0 bud hb0 hb1) (fun _ hb => hb.elim) gno rfl (fun v L' hp => ?_))
   obtain ⟨A3, c3, l, B3, d3, M, base, lim, bd, rfl, hcl, rfl⟩ := hp
   have hn1 := hcl.n1
   have hn2 := hcl.n2
   refine RV.op (OV.alloc #[.slice none 0 0, .slice none 0 0, .int .i64 0, .int .i64 0, .int .u64 0] I35 rfl gno rfl (fun b3_6 => ?_))
   refine RV.op (OV.store 3 [_, _, _, _, _] #[_, _, _, _, _] I35 rfl rfl rfl rfl rfl (Nat.le_of_ble_eq_true rfl) (by simp [Value.oneCell']) rfl gno ?_)
   refine RV.nil (KV.then_n (KV.env [(5, _), (13, _)] ⟨rfl, rfl, trivial⟩ (CV.seq (CV.region ?_))))
   refine RV.s (Step.fieldAddr rfl (F35_0 _ _)) rfl (RV.s (Step.load Tryz.underlying22 rfl rfl (fun w h => h.cell 3 rfl rfl)) rfl (RV.s (Step.fieldAddr rfl (F35_1 _ _)) rfl (RV.s (Step.load Tryz.underlying23 rfl rfl (fun w h => h.cell 3 rfl rfl)) rfl (RV.s (Step.fieldAddr rfl (F35_2 _ _)) rfl (RV.s (Step.load Tryz.underlying2 rfl rfl (fun w h => h.cell 3 rfl rfl)) rfl (RV.s (Step.fieldAddr rfl (F35_3 _ _)) rfl (RV.s (Step.load Tryz.underlying2 rfl rfl (fun w h => h.cell 3 rfl rfl)) rfl ?_)))))))
   refine RV.s (Step.fieldAddr rfl (F35_4 _ _)) rfl (RV.s (Step.load Tryz.underlying24 rfl rfl (fun w h => h.cell 3 rfl rfl)) rfl ?_)
   refine RV.op (OV.call [] (F := [_, _, _, _]) Tryz.func11 B11 N11 rfl rfl (fun w h => newA_fn (h.os 0 rfl) rfl (fun i hi => h.bigOS (G := fun r w => r.rs w) rbK.d (k := 1) rfl (m := i) hi fun _ _ hs => rF.rs hs) (h.os 2 rfl) rfl hcl) (fun _ hb => hb.elim) gno rfl (fun v L' hp => ?_))
   obtain ⟨t0, rfl, ht0, hT0, hn0, hb0', rfl⟩ := hp
   have hB0 : Bdg l lim base bd t0.T (List.replicate l.length 0) := by rw [ht0]; exact Bdg.new hcl
   refine RV.m rfl rfl (RV.s (Step.extract0 rfl rfl) rfl (RV.s (Step.extract0 rfl rfl) rfl (RV.a rfl rfl (RV.a rfl rfl ?_))))
   refine RV.nil (KV.then_n (KV.env [(5, _), (13, _), (14, _), (15, _)] ⟨rfl, rfl, rfl, rfl, trivial⟩ (CV.seq (CV.seq (CV.region ?_)))))
   refine RV.m rfl rfl (RV.s (Step.neq rfl rfl) rfl (RV.m rfl rfl (RV.gw rfl (Step.move rfl) rfl (RV.gw rfl (Step.eqlP Tryz.underlying27 rfl rfl) rfl (RV.s (Step.pick_f rfl rfl) rfl ?_)))))
   refine RV.nil (KV.then_n (KV.env [(5, _), (13, _), (14, _), (60, _)] ⟨rfl, rfl, rfl, rfl, trivial⟩ (CV.cond_f rfl (CV.skip (KV.then_n ?_)))))
   refine KV.env [(5, _), (13, _), (14, _)] ⟨rfl, rfl, rfl, trivial⟩ (CV.seq (CV.region ?_))
   refine RV.s (Step.fieldAddr rfl (F35_0 _ _)) rfl (RV.s (Step.load Tryz.underlying22 rfl rfl (fun w h => h.cell 3 rfl rfl)) rfl (RV.s (Step.lenSl Tryz.underlying22 rfl) rfl ?_))
   refine RV.op (OV.make (K := (intK .i64)) (l.length) (l.length) (0) Tryz.underlying48 I3 rfl rfl rfl rfl rfl (by omega) (by omega) (by omega) gno rfl (fun b7_3 => ?_))
   refine RV.a rfl rfl ?_
   refine RV.nil (KV.then_n (KV.env [(5, _), (13, _), (14, _), (16, _)] ⟨rfl, rfl, rfl, rfl, trivial⟩ (CV.seq (CV.seq (CV.region ?_)))))
   refine RV.a rfl rfl ?_
   refine RV.nil (KV.then_n (KV.env [(5, _), (13, _), (14, _), (16, _), (17, _)] ⟨rfl, rfl, rfl, rfl, rfl, trivial⟩ (CV.block ?_)))
   refine KV.sel [4, 4, 4, 4, 4, 4, 4, 4, 3, 0, 0, 1] [_, _, _, _, _, _, _, _, _, _, _, _] rfl ?_
   refine CV.loop3 (fun (i : Nat) (t : PT) (lds : List Int) => (i ≤ R.length ∧ t.ds.length = l.length) ∧ Bdg l lim base bd t.T lds) (fun (i : Nat) (t : PT) (lds : List Int) => R.length - i) (fun (i : Nat) (t : PT) (lds : List Int) => [(5, .slice RA R.length rc), (13, .pointer (some ⟨b3_6, 0, none⟩)), (14, .pointer (some ⟨t.a.b, 0, none⟩)), (16, .slice b7_3 l.length l.length), (17, .int .i64 i)]) (fun (i : Nat) (t : PT) (lds : List Int) => Hp I w (tobj t ++ [Blk b3_6 (.cells #[.slice A3 l.length c3, .slice B3 M.length d3, .int .i64 base, .int .i64 lim, .int .u64 bd] 35 (0, 0)), OS 45 rbK A3 c3 l, Big rF l, OS 3 (intK .i64) b7_3 l.length lds])) (0) (t0) ((List.replicate l.length 0)) ⟨⟨Nat.zero_le _, hn0⟩, hB0⟩ ⟨rfl, rfl, rfl, rfl, rfl, trivial⟩ (fun _ h => h) ?_
   intro i t lds hinv
   have hB := hinv.2
   have hnl := hinv.1.2
   refine CV.seq (CV.seq (CV.region ?_))
   refine RV.m rfl rfl (RV.m rfl rfl (RV.s (Step.lenSl Tryz.underlying47 rfl) rfl ?_))
   refine RV.op (OV.split gno (Step.lss rfl rfl) rfl (fun cc3 => ?_) (fun cc3 => ?_))
   ·
    refine RV.nil (KV.then_n (KV.env [(5, _), (13, _), (14, _), (16, _), (17, _), (68, _)] ⟨rfl, rfl, rfl, rfl, rfl, rfl, trivial⟩ (CV.cond_t rfl (CV.skip (KV.then_n ?_)))))
    refine KV.env [(5, _), (13, _), (14, _), (16, _), (17, _)] ⟨rfl, rfl, rfl, rfl, rfl, trivial⟩ (CV.seq (CV.block (CV.seq (CV.region ?_))))
    refine RV.m rfl rfl (RV.m rfl rfl ?_)
    refine RV.op (OV.step gno (Step.idx Tryz.underlying47 I50 (fun w h => h.rs hr3 (fun _ => hI _)) rfl rfl (by first | rfl | omega | (rw [List.length_set, hB.ll]) | exact hB.ll.symm) _ rfl (by first | omega | (rw [List.length_set, hB.ll]; omega) | (rw [hB.ll]; omega))) rfl ?_)
    refine RV.s (Step.loadN _ Tryz.underlying50 rfl I50 rfl rfl (fun w h => (h.rs hr3 (fun _ => hI _)).cells (by omega))) rfl ?_
    refine RV.op (OV.alloc #[.int .i64 0, .int .i64 0, .int .i64 0, .bool false, .bool false] I50 rfl gno rfl (fun b11_4 => ?_))
    refine RV.op (OV.store 12 [_, _, _, _, _] #[_, _, _, _, _] I50 rfl rfl rfl rfl rfl (Nat.le_of_ble_eq_true rfl) (by simp [Value.oneCell']) rfl gno ?_)
    refine RV.nil (KV.then_n (KV.env [(5, _), (13, _), (14, _), (16, _), (17, _), (18, _)] ⟨rfl, rfl, rfl, rfl, rfl, rfl, trivial⟩ (CV.seq (CV.region ?_))))
    refine RV.s (Step.fieldAddr rfl (F50_4 _ _)) rfl ?_
    refine RV.op (OV.store 12 [_] #[_, _, _, _, _] I4 rfl rfl rfl rfl rfl (Nat.le_of_ble_eq_true rfl) (by simp [Value.oneCell']) rfl gno ?_)
    refine RV.nil (KV.then_n (KV.env [(5, _), (13, _), (14, _), (16, _), (17, _), (18, _)] ⟨rfl, rfl, rfl, rfl, rfl, rfl, trivial⟩ (CV.seq (CV.region ?_))))
    (first | refine RV.op (OV.step gno (Step.loadN _ Tryz.underlying50 rfl I50 rfl rfl (fun w h => h.cells 8 rfl)) rfl ?_) | refine RV.op (OV.step gno (Step.loadN _ Tryz.underlying50 rfl I50 rfl rfl (fun w h => h.cells 12 rfl)) rfl ?_))
    refine RV.s (Step.fieldAddr rfl (F35_0 _ _)) rfl ?_
    (first | refine RV.op (OV.step gno (Step.load Tryz.underlying22 rfl rfl (fun w h => h.cell 8 rfl rfl)) rfl ?_) | refine RV.op (OV.step gno (Step.load Tryz.underlying22 rfl rfl (fun w h => h.cell 12 rfl rfl)) rfl ?_))
    refine RV.s (Step.lenSl Tryz.underlying22 rfl) rfl ?_
    refine RV.op (OV.call [] (F := [_, _, _, _, _, _, _, _, _, _, _, _, _]) Tryz.func15 B15 N15 rfl rfl (fun w h => atR_fn { (R.getD i rnK.d) with rw := false } l.length (by omega) (by omega)) (fun _ hb => hb.elim) gno rfl (fun v L' hp => ?_))
    obtain ⟨ra, rb, rfl, hat, rfl⟩ := hp
    simp only [List.append_nil]
    obtain ⟨⟨ha0, ha1⟩, hr0, hr1⟩ := hat rfl
    obtain ⟨k, rfl⟩ := Int.eq_ofNat_of_zero_le ha0
    have hsl : slOk t k rb := ⟨⟨by omega, by omega⟩, hr0, hr1⟩
    have hB1 := hB.sl hsl
    have hk1 : k < l.length := by omega
    have hdn1 : (slT t k rb).ds.length = t.ds.length := List.length_set ..
    refine RV.m rfl rfl (RV.s (Step.extract0 rfl rfl) rfl (RV.s (Step.extract0 rfl rfl) rfl (RV.a rfl rfl (RV.a rfl rfl ?_))))
    refine RV.nil (KV.then_n (KV.env [(5, _), (13, _), (14, _), (16, _), (17, _), (18, _), (19, _), (20, _)] ⟨rfl, rfl, rfl, rfl, rfl, rfl, rfl, rfl, trivial⟩ (CV.seq (CV.seq (CV.region ?_)))))
    refine RV.m rfl rfl (RV.m rfl rfl (RV.m rfl rfl ?_))
    refine RV.op (OV.call [0, 0, 0, 0, 0, 0, 0, 0] (F := [_, _, _, _, _]) Tryz.func16 B16 N16 rfl rfl (fun w h => setLoad_fn t k rb) (fun _ hb => hb.elim) gno rfl (fun v L' hp => ?_))
    obtain ⟨rfl, rfl⟩ := hp.1 hsl
    refine RV.s (Step.neq rfl rfl) rfl ?_
    refine RV.nil (KV.then_n (KV.env [(5, _), (13, _), (14, _), (16, _), (17, _), (18, _), (19, _), (20, _), (88, _)] ⟨rfl, rfl, rfl, rfl, rfl, rfl, rfl, rfl, rfl, trivial⟩ (CV.cond_f rfl (CV.skip (KV.then_n ?_)))))
    refine KV.env [(5, _), (13, _), (14, _), (16, _), (17, _), (18, _), (19, _), (20, _)] ⟨rfl, rfl, rfl, rfl, rfl, rfl, rfl, rfl, trivial⟩ (CV.seq (CV.region ?_))
    refine RV.m rfl rfl (RV.m rfl rfl (RV.m rfl rfl ?_))
    refine RV.op (OV.step gno (Step.idx Tryz.underlying48 I3 (fun w h => h.os 3 rfl) rfl rfl (by first | rfl | omega | (rw [List.length_set, hB.ll]) | exact hB.ll.symm) _ rfl (by first | omega | (rw [List.length_set, hB.ll]; omega) | (rw [hB.ll]; omega))) rfl ?_)
    refine RV.op (OV.storeE 3 (k) (rb) (j := 0) [_] I3 rfl rfl rfl rfl rfl rfl (by rw [hB.ll]; exact hk1) rfl (Nat.le_of_ble_eq_true rfl) gno ?_)
    refine RV.nil (KV.then_n (KV.env [(5, _), (13, _), (14, _), (16, _), (17, _), (18, _)] ⟨rfl, rfl, rfl, rfl, rfl, rfl, trivial⟩ (CV.seq (CV.region ?_))))
    refine RV.m rfl rfl ?_
    (first | refine RV.op (OV.step gno (Step.loadN _ Tryz.underlying50 rfl I50 rfl rfl (fun w h => h.cells 0 rfl)) rfl ?_) | refine RV.op (OV.step gno (Step.loadN _ Tryz.underlying50 rfl I50 rfl rfl (fun w h => h.cells 4 rfl)) rfl ?_))
    refine RV.op (OV.call [] (F := [_, _, _, _, _, _, _, _, _, _, _, _, _]) Tryz.func18 B18 N18 rfl rfl (fun w h => modeR_fn { (R.getD i rnK.d) with rw := false }) (fun _ hb => hb.elim) gno rfl (fun v L' hp => ?_))
    obtain ⟨rfl, rfl⟩ := hp
    simp only [List.append_nil]
    refine RV.op (OV.call [5, 5, 5, 5, 5, 5, 5, 5] (F := [_, _, _, _, _]) Tryz.func17 B17 N17 rfl rfl (fun w h => runA_fn (slT t k rb) hB1.ok (by omega) _) (fun _ hb => hb.elim) gno rfl (fun v L' hp => ?_))
    obtain ⟨t4, hR, ha4, hn4, hT4, hbs4, rfl⟩ := hp
    have ha5 : t4.a = t.a := ha4
    rw [← ha5]
    have hB4 := hB1.run hR
    have hP : PwB l lim base bd _ (lds.set k rb) t4.p := hB1.pw hR
    have hpl4 : t4.p.length = l.length := hP.len
    refine RV.nil (KV.then_n (KV.env [(5, _), (13, _), (14, _), (16, _), (17, _), (18, _)] ⟨rfl, rfl, rfl, rfl, rfl, rfl, trivial⟩ (CV.seq (CV.region ?_))))
    refine RV.m rfl rfl ?_
    refine RV.op (OV.call [5, 5, 5, 5, 5, 5, 5, 5] (F := [_, _, _, _, _]) Tryz.func19 B19 N19 rfl rfl (fun w h => powers_fn t4 hT4.pl' hT4.n8') (fun _ hb => hb.elim) gno rfl (fun v L' hp => ?_))
    obtain ⟨A6, c6, rfl, rfl⟩ := hp
    refine RV.a rfl rfl ?_
    refine RV.nil (KV.then_n (KV.env [(5, _), (13, _), (14, _), (16, _), (17, _), (18, _), (21, _)] ⟨rfl, rfl, rfl, rfl, rfl, rfl, rfl, trivial⟩ (CV.seq (CV.seq (CV.region ?_)))))
    refine RV.m rfl rfl (RV.s (Step.lenSl Tryz.underlying56 rfl) rfl (RV.s (Step.fieldAddr rfl (F35_0 _ _)) rfl ?_))
    (first | refine RV.op (OV.step gno (Step.load Tryz.underlying22 rfl rfl (fun w h => h.cell 0 rfl rfl)) rfl ?_) | refine RV.op (OV.step gno (Step.load Tryz.underlying22 rfl rfl (fun w h => h.cell 4 rfl rfl)) rfl ?_))
    refine RV.s (Step.lenSl Tryz.underlying22 rfl) rfl ?_
    refine RV.op (OV.split gno (Step.neq rfl rfl) rfl (fun hne => ?_) (fun hne => ?_))
    ·
     exfalso; omega
    ·
     refine RV.nil (KV.then_n (KV.env [(5, _), (13, _), (14, _), (16, _), (17, _), (18, _), (21, _), (104, _)] ⟨rfl, rfl, rfl, rfl, rfl, rfl, rfl, rfl, trivial⟩ (CV.cond_f rfl (CV.skip (KV.then_n ?_)))))
     refine KV.env [(5, _), (13, _), (14, _), (16, _), (17, _), (18, _), (21, _)] ⟨rfl, rfl, rfl, rfl, rfl, rfl, rfl, trivial⟩ (CV.seq (CV.region ?_))
     refine RV.a rfl rfl ?_
     refine RV.nil (KV.then_n (KV.env [(5, _), (13, _), (14, _), (16, _), (17, _), (18, _), (21, _), (22, _)] ⟨rfl, rfl, rfl, rfl, rfl, rfl, rfl, rfl, trivial⟩ (CV.seq (CV.seq (CV.region ?_)))))
     refine RV.a rfl rfl ?_
     refine RV.nil (KV.then_n (KV.env [(5, _), (13, _), (14, _), (16, _), (17, _), (18, _), (21, _), (22, _), (23, _)] ⟨rfl, rfl, rfl, rfl, rfl, rfl, rfl, rfl, rfl, trivial⟩ (CV.block ?_)))
     refine KV.sel [5, 5, 5, 5, 5, 5, 5, 5, 0, 0, 0, 0, 0, 0] [_, _, _, _, _, _, _, _, _, _, _, _, _, _] rfl ?_
     refine CV.loopI (fun (j : Nat) => j ≤ l.length) (fun (j : Nat) => l.length - j) (fun (j : Nat) => [(5, .slice RA R.length rc), (13, .pointer (some ⟨b3_6, 0, none⟩)), (14, .pointer (some ⟨t4.a.b, 0, none⟩)), (16, .slice b7_3 l.length l.length), (17, .int .i64 i), (18, .pointer (some ⟨b11_4, 0, none⟩)), (21, .slice A6 t4.p.length c6), (22, .int .u64 (sumK t4.p j)), (23, .int .i64 j)]) (fun (j : Nat) => Hp I w (tobj t4 ++ [Blk b3_6 (.cells #[.slice A3 l.length c3, .slice B3 M.length d3, .int .i64 base, .int .i64 lim, .int .u64 bd] 35 (0, 0)), OS 45 rbK A3 c3 l, Big rF l, OS 3 (intK .i64) b7_3 l.length (lds.set k rb), Blk b11_4 (.cells #[.int .i64 (R.getD i rnK.d).dm, .int .i64 (R.getD i rnK.d).ld, .int .i64 (R.getD i rnK.d).md, .bool (R.getD i rnK.d).re, .bool false] 50 (0, 0)), OS 2 (intK .i64) A6 c6 t4.p])) (0) (Nat.zero_le _) ⟨rfl, rfl, rfl, rfl, rfl, rfl, rfl, rfl, rfl, trivial⟩ (fun _ h => h) ?_
     intro j hinv2
     refine CV.seq (CV.seq (CV.region ?_))
     refine RV.m rfl rfl (RV.m rfl rfl (RV.s (Step.lenSl Tryz.underlying56 rfl) rfl ?_))
     refine RV.op (OV.split gno (Step.lss rfl rfl) rfl (fun cc4 => ?_) (fun cc4 => ?_))
     ·
      refine RV.nil (KV.then_n (KV.env [(5, _), (13, _), (14, _), (16, _), (17, _), (18, _), (21, _), (22, _), (23, _), (108, _)] ⟨rfl, rfl, rfl, rfl, rfl, rfl, rfl, rfl, rfl, rfl, trivial⟩ (CV.cond_t rfl (CV.skip (KV.then_n ?_)))))
      refine KV.env [(5, _), (13, _), (14, _), (16, _), (17, _), (18, _), (21, _), (22, _), (23, _)] ⟨rfl, rfl, rfl, rfl, rfl, rfl, rfl, rfl, rfl, trivial⟩ (CV.seq (CV.block (CV.seq ?_)))
      have hjl : j < l.length := by omega
      have hj0 := hP.lo j hjl
      have hj1 := hP.gr j hjl
      have hj2 := hP.top j hjl
      have hj3 := hP.g2 j hjl
      have hys := hB4.y1 hjl
      have hy8 : (l.getD j rbK.d).ys.length ≤ 8 := (hcl.r j hjl).elim fun x hx => hx.y
      refine CV.any (Hp I w [Blk b3_6 (.cells #[.slice A3 l.length c3, .slice B3 M.length d3, .int .i64 base, .int .i64 lim, .int .u64 bd] 35 (0, 0)), OS 45 rbK A3 c3 l]) (by kernel_rfl) (fun _ h => h.drew) 16 rfl ?_
      refine AV.u 0 (bl 16 1) rfl gno (Step.fieldAddr rfl (F35_0 _ _)) rfl (fun _ h => h.sel [8, 8] rfl) ?_
      refine AV.u 1 (bl 16 3) rfl gno (Step.load Tryz.underlying22 rfl rfl (fun w h => h.cell 0 rfl rfl)) rfl (fun _ h => h.sel [8, 8] rfl) ?_
      refine AV.u 2 (bl 16 7) rfl gno (Step.move rfl) rfl (fun _ h => h.sel [8, 8] rfl) ?_
      refine AV.u 3 (bl 16 15) rfl gno (Step.idx Tryz.underlying22 I45 (fun w h => h.os 1 rfl) rfl rfl (by first | rfl | omega | (rw [List.length_set, hB.ll]) | exact hB.ll.symm) _ rfl (by first | omega | (rw [List.length_set, hB.ll]; omega) | (rw [hB.ll]; omega))) rfl (fun _ h => h.sel [8, 8] rfl) ?_
      refine AV.u 4 (bl 16 31) rfl gno (Step.fieldAddr rfl (F45_0 _ _)) rfl (fun _ h => h.sel [8, 8] rfl) ?_
      refine AV.u 5 (bl 16 63) rfl gno (Step.loadN _ Tryz.underlying41 rfl I41 rfl rfl (fun w h => (h.os 1 rfl).cellsAt j 0 [.int .i64 (l.getD j rbK.d).h.cap, .int .i64 (l.getD j rbK.d).h.amb] (by omega) rfl rfl)) rfl (fun _ h => h.sel [8, 8] rfl) ?_
      refine AV.u 6 (bl 16 127) rfl gno (Step.fieldAddr rfl (F35_2 _ _)) rfl (fun _ h => h.sel [8, 8] rfl) ?_
      refine AV.u 7 (bl 16 255) rfl gno (Step.load Tryz.underlying2 rfl rfl (fun w h => h.cell 0 rfl rfl)) rfl (fun _ h => h.sel [8, 8] rfl) ?_
      refine AV.u 8 (bl 16 511) rfl gno (Step.fieldAddr rfl (F35_3 _ _)) rfl (fun _ h => h.sel [8, 8] rfl) ?_
      refine AV.u 9 (bl 16 1023) rfl gno (Step.load Tryz.underlying2 rfl rfl (fun w h => h.cell 0 rfl rfl)) rfl (fun _ h => h.sel [8, 8] rfl) ?_
      refine AV.all [10] (by kernel_rfl) (by decide) ?_
      refine ⟨⟨_, rfl, ?_⟩, trivial⟩
      ·
       refine OV.call [] (F := [_, _, _, _, _, _, _, _, _, _, _, _, _, _]) Tryz.func20 B20 N20 rfl rfl (fun w h => sustainable_fn (l.getD j rbK.d).h base lim) (fun _ hb => hb.elim) gno rfl (fun v L' hp => ?_)
       obtain ⟨⟨hs, _⟩, rfl⟩ := hp
       obtain rfl := hs (by have h1 := (hcl.ok.d j (by rw [List.length_map]; omega)).1; rwa [bd_at l (by omega)] at h1)
       simp only [List.append_nil]
       refine AV.next (bl 16 2047) (by kernel_rfl) (fun _ h => h.sel [8, 8] rfl) ?_
       refine AV.u 11 (bl 16 4095) rfl gno (Step.move rfl) rfl (fun _ h => h.sel [8, 8] rfl) ?_
       refine AV.u 12 (bl 16 8191) rfl gno (Step.extract0 rfl rfl) rfl (fun _ h => h.sel [8, 8] rfl) ?_
       refine AV.u 13 (bl 16 16383) rfl gno (Step.extract0 rfl rfl) rfl (fun _ h => h.sel [8, 8] rfl) ?_
       refine AV.u 14 (bl 16 32767) rfl gno (Step.assign rfl) rfl (fun _ h => h.sel [8, 8] rfl) ?_
       refine AV.u 15 (bl 16 65535) rfl gno (Step.assign rfl) rfl (fun _ h => h.sel [8, 8] rfl) ?_
       refine AV.done (by kernel_rfl) ?_
       refine KV.then_n (KV.env [(5, _), (13, _), (14, _), (16, _), (17, _), (18, _), (21, _), (22, _), (23, _), (24, _), (25, _)] ⟨rfl, rfl, rfl, rfl, rfl, rfl, rfl, rfl, rfl, rfl, rfl, trivial⟩ (CV.seq ?_))
       refine CV.still (by kernel_rfl) (by kernel_rfl) (fun _ h => h.drew) ?_
       refine SV.step gno (Step.fieldAddr rfl (F35_0 _ _)) rfl ?_
       (first | refine SV.step gno (Step.load Tryz.underlying22 rfl rfl (fun w h => h.cell 8 rfl rfl)) rfl ?_ | refine SV.step gno (Step.load Tryz.underlying22 rfl rfl (fun w h => h.cell 12 rfl rfl)) rfl ?_)
       refine SV.step gno (Step.move rfl) rfl ?_
       refine SV.step gno (Step.idx Tryz.underlying22 I45 (fun w h => h.os 9 rfl) rfl rfl (by first | rfl | omega | (rw [List.length_set, hB.ll]) | exact hB.ll.symm) _ rfl (by first | omega | (rw [List.length_set, hB.ll]; omega) | (rw [hB.ll]; omega))) rfl ?_
       refine SV.step gno (Step.fieldAddr rfl (F45_1 _ _)) rfl ?_
       refine SV.step gno (Step.load Tryz.underlying42 rfl rfl (fun w h => (h.os 9 rfl).cell (by omega) rfl)) rfl ?_
       refine SV.step gno (Step.fieldAddr rfl (F35_0 _ _)) rfl ?_
       (first | refine SV.step gno (Step.load Tryz.underlying22 rfl rfl (fun w h => h.cell 8 rfl rfl)) rfl ?_ | refine SV.step gno (Step.load Tryz.underlying22 rfl rfl (fun w h => h.cell 12 rfl rfl)) rfl ?_)
       refine SV.step gno (Step.move rfl) rfl ?_
       refine SV.step gno (Step.idx Tryz.underlying22 I45 (fun w h => h.os 9 rfl) rfl rfl (by first | rfl | omega | (rw [List.length_set, hB.ll]) | exact hB.ll.symm) _ rfl (by first | omega | (rw [List.length_set, hB.ll]; omega) | (rw [hB.ll]; omega))) rfl ?_
       refine SV.step gno (Step.fieldAddr rfl (F45_1 _ _)) rfl ?_
       refine SV.step gno (Step.load Tryz.underlying42 rfl rfl (fun w h => (h.os 9 rfl).cell (by omega) rfl)) rfl ?_
       refine SV.step gno (Step.lenSl Tryz.underlying42 rfl) rfl ?_
       (first | refine SV.step gno (Step.sub rfl rfl (wI64 (by omega) (by omega))) rfl ?_ | refine SV.step gno (Step.sub rfl rfl rfl) rfl ?_)
       refine SV.step gno (Step.idx Tryz.underlying42 I61 (fun w h => (h.bigOS (G := fun (r : RB) w => r.rs w) rbK.d (k := 10) rfl (m := j) (by omega) fun _ _ hs => rF.rs hs).1) rfl rfl (by first | rfl | omega | (rw [List.length_set, hB.ll]) | exact hB.ll.symm) _ (show ((l.getD j rbK.d).ys.length : Int) - 1 = (((l.getD j rbK.d).ys.length - 1 : Nat) : Int) by omega) (by first | omega | (rw [List.length_set, hB.ll]; omega) | (rw [hB.ll]; omega))) rfl ?_
       refine SV.step gno (Step.fieldAddr rfl (F61_2 _ _)) rfl ?_
       refine SV.step gno (Step.load Tryz.underlying24 rfl rfl (fun w h => ((h.bigOS (G := fun (r : RB) w => r.rs w) rbK.d (k := 10) rfl (m := j) (by omega) fun _ _ hs => rF.rs hs).1).cell (by omega) rfl)) rfl ?_
       refine SV.step gno (Step.assign rfl) rfl ?_
       refine SV.nil (KV.then_n (KV.env [(5, _), (13, _), (14, _), (16, _), (17, _), (18, _), (21, _), (22, _), (23, _), (24, _), (25, _), (26, _)] ⟨rfl, rfl, rfl, rfl, rfl, rfl, rfl, rfl, rfl, rfl, rfl, rfl, trivial⟩ (CV.seq (CV.seq (CV.region ?_)))))
       refine RV.m rfl rfl (RV.s (Step.neq rfl rfl) rfl (RV.m rfl rfl (RV.gw rfl (Step.move rfl) rfl (RV.gw rfl (Step.move rfl) rfl ?_))))
       refine RV.op (OV.step (gyes rfl) (Step.idx Tryz.underlying56 I2 (fun w h => h.os 13 rfl) rfl rfl (by first | rfl | omega | (rw [List.length_set, hB.ll]) | exact hB.ll.symm) _ rfl (by first | omega | (rw [List.length_set, hB.ll]; omega) | (rw [hB.ll]; omega))) rfl ?_)
       refine RV.gw rfl (Step.load Tryz.underlying2 rfl rfl (fun w h => (h.os 13 rfl).cell0 (by omega) rfl)) rfl ?_
       refine RV.op (OV.split (gyes rfl) (Step.lss rfl rfl) rfl (fun h7 => ?_) (fun h7 => ?_))
       ·
        exfalso; omega
       ·
        refine RV.s (Step.pick_f rfl rfl) rfl (RV.m rfl rfl (RV.gw rfl (Step.move rfl) rfl (RV.gw rfl (Step.move rfl) rfl ?_)))
        refine RV.op (OV.step (gyes rfl) (Step.idx Tryz.underlying56 I2 (fun w h => h.os 13 rfl) rfl rfl (by first | rfl | omega | (rw [List.length_set, hB.ll]) | exact hB.ll.symm) _ rfl (by first | omega | (rw [List.length_set, hB.ll]; omega) | (rw [hB.ll]; omega))) rfl ?_)
        refine RV.gw rfl (Step.load Tryz.underlying2 rfl rfl (fun w h => (h.os 13 rfl).cell0 (by omega) rfl)) rfl ?_
        refine RV.gw rfl (Step.move rfl) rfl ?_
        refine RV.op (OV.split (gyes rfl) (Step.gtr rfl rfl) rfl (fun h15 => ?_) (fun h15 => ?_))
        ·
         exfalso; omega
        ·
         refine RV.s (Step.pick_f rfl rfl) rfl (RV.m rfl rfl (RV.gw rfl (Step.move rfl) rfl (RV.gw rfl (Step.move rfl) rfl ?_)))
         refine RV.op (OV.step (gyes rfl) (Step.idx Tryz.underlying56 I2 (fun w h => h.os 13 rfl) rfl rfl (by first | rfl | omega | (rw [List.length_set, hB.ll]) | exact hB.ll.symm) _ rfl (by first | omega | (rw [List.length_set, hB.ll]; omega) | (rw [hB.ll]; omega))) rfl ?_)
         refine RV.gw rfl (Step.load Tryz.underlying2 rfl rfl (fun w h => (h.os 13 rfl).cell0 (by omega) rfl)) rfl ?_
         (first | refine RV.op (OV.step (gyes rfl) (Step.convI Tryz.underlying2 Tryz.underlying24 rfl (wU64 (by omega) (by omega))) rfl ?_) | refine RV.op (OV.step (gyes rfl) (Step.convI Tryz.underlying2 Tryz.underlying24 rfl rfl) rfl ?_))
         refine RV.gw rfl (Step.move rfl) rfl ?_
         refine RV.op (OV.split (gyes rfl) (Step.gtr rfl rfl) rfl (fun h24 => ?_) (fun h24 => ?_))
         ·
          exfalso; omega
         ·
          refine RV.s (Step.pick_f rfl rfl) rfl (RV.m rfl rfl (RV.gw rfl (Step.move rfl) rfl (RV.gw rfl (Step.move rfl) rfl ?_)))
          refine RV.op (OV.step (gyes rfl) (Step.idx Tryz.underlying48 I3 (fun w h => h.os 11 rfl) rfl rfl (by first | rfl | omega | (rw [List.length_set, hB.ll]) | exact hB.ll.symm) _ rfl (by first | omega | (rw [List.length_set, hB.ll]; omega) | (rw [hB.ll]; omega))) rfl ?_)
          refine RV.gw rfl (Step.load Tryz.underlying3 rfl rfl (fun w h => (h.os 11 rfl).cell0 (by rw [List.length_set, hB.ll]; omega) rfl)) rfl ?_
          refine RV.op (OV.split (gyes rfl) (Step.eql rfl rfl) rfl (fun h31 => ?_) (fun h31 => ?_))
          ·
           refine RV.gw rfl (Step.move rfl) rfl (RV.k rfl rfl (RV.k rfl rfl (RV.k rfl rfl (RV.gw rfl (Step.pick_t rfl rfl) rfl (RV.gw rfl (Step.move rfl) rfl (RV.gw rfl (Step.move rfl) rfl (RV.gw rfl (Step.move rfl) rfl ?_)))))))
           refine RV.op (OV.step (gyes rfl) (Step.idx Tryz.underlying56 I2 (fun w h => h.os 13 rfl) rfl rfl (by first | rfl | omega | (rw [List.length_set, hB.ll]) | exact hB.ll.symm) _ rfl (by first | omega | (rw [List.length_set, hB.ll]; omega) | (rw [hB.ll]; omega))) rfl ?_)
           refine RV.gw rfl (Step.load Tryz.underlying2 rfl rfl (fun w h => (h.os 13 rfl).cell0 (by omega) rfl)) rfl ?_
           refine RV.op (OV.split (gyes rfl) (Step.neq rfl rfl) rfl (fun h42 => ?_) (fun h42 => ?_))
           ·
            exfalso; exact h42 (hP.off j (by omega) (by first | exact .inl h31 | exact .inr h35))
           ·
            refine RV.gw rfl (Step.pick_t rfl rfl) rfl (RV.s (Step.pick_f rfl rfl) rfl ?_)
            refine RV.nil (KV.then_n (KV.env [(5, _), (13, _), (14, _), (16, _), (17, _), (18, _), (21, _), (22, _), (23, _), (186, _)] ⟨rfl, rfl, rfl, rfl, rfl, rfl, rfl, rfl, rfl, rfl, trivial⟩ (CV.cond_f rfl (CV.skip (KV.then_n ?_)))))
            refine KV.env [(5, _), (13, _), (14, _), (16, _), (17, _), (18, _), (21, _), (22, _), (23, _)] ⟨rfl, rfl, rfl, rfl, rfl, rfl, rfl, rfl, rfl, trivial⟩ ?_
            have hs0 := hP.s0 j (by omega)
            have hs1 : sumK t4.p j + (t4.p.getD j (intK .i64).d) ≤ bd := hP.s1 (j + 1) (by omega)
            have hbd := hcl.b1
            refine CV.region ?_
            refine RV.m rfl rfl (RV.m rfl rfl (RV.m rfl rfl ?_))
            refine RV.op (OV.step gno (Step.idx Tryz.underlying56 I2 (fun w h => h.os 13 rfl) rfl rfl (by first | rfl | omega | (rw [List.length_set, hB.ll]) | exact hB.ll.symm) _ rfl (by first | omega | (rw [List.length_set, hB.ll]; omega) | (rw [hB.ll]; omega))) rfl ?_)
            refine RV.s (Step.load Tryz.underlying2 rfl rfl (fun w h => (h.os 13 rfl).cell0 (by omega) rfl)) rfl ?_
            (first | refine RV.op (OV.step gno (Step.convI Tryz.underlying2 Tryz.underlying24 rfl (wU64 (by omega) (by omega))) rfl ?_) | refine RV.op (OV.step gno (Step.convI Tryz.underlying2 Tryz.underlying24 rfl rfl) rfl ?_))
            (first | refine RV.op (OV.step gno (Step.add rfl rfl (wU64 (by omega) (by omega))) rfl ?_) | refine RV.op (OV.step gno (Step.add rfl rfl rfl) rfl ?_))
            refine RV.a rfl rfl ?_
            refine RV.nil (KV.block_n (KV.then_n (KV.env [(5, _), (13, _), (14, _), (16, _), (17, _), (18, _), (21, _), (22, _), (23, _)] ⟨rfl, rfl, rfl, rfl, rfl, rfl, rfl, rfl, rfl, trivial⟩ (CV.region ?_))))
            refine RV.m rfl rfl ?_
            (first | refine RV.op (OV.step gno (Step.add rfl rfl (wI64 (by omega) (by omega))) rfl ?_) | refine RV.op (OV.step gno (Step.add rfl rfl rfl) rfl ?_))
            refine RV.a rfl rfl ?_
            refine RV.nil (KV.then_n (KV.env [(5, _), (13, _), (14, _), (16, _), (17, _), (18, _), (21, _), (22, _), (23, _)] ⟨rfl, rfl, rfl, rfl, rfl, rfl, rfl, rfl, rfl, trivial⟩ ?_))
            refine KV.sel [0, 0, 0, 0, 0, 0, 0, 0, 0, 0, 0, 0, 0, 0] [_, _, _, _, _, _, _, _, _, _, _, _, _, _] rfl ?_
            exact KV.loopI (z := j) (j + 1) (by omega) (by omega) ⟨rfl, rfl, rfl, rfl, rfl, rfl, rfl, rfl, rfl, trivial⟩ (fun _ h => h)
          ·
           refine RV.gw rfl (Step.move rfl) rfl ?_
           (first | refine RV.op (OV.step (gyes rfl) (Step.loadN _ Tryz.underlying50 rfl I50 rfl rfl (fun w h => h.cells 8 rfl)) rfl ?_) | refine RV.op (OV.step (gyes rfl) (Step.loadN _ Tryz.underlying50 rfl I50 rfl rfl (fun w h => h.cells 12 rfl)) rfl ?_))
           refine RV.op (OV.call [] (F := [_, _, _, _, _, _, _, _, _, _, _, _, _, _]) Tryz.func18 B18 N18 rfl rfl (fun w h => modeR_fn { (R.getD i rnK.d) with rw := false }) (fun _ hb => hb.elim) (gyes rfl) rfl (fun v L' hp => ?_))
           obtain ⟨rfl, rfl⟩ := hp
           simp only [List.append_nil]
           refine RV.op (OV.split (gyes rfl) (Step.neq rfl rfl) rfl (fun h35 => ?_) (fun h35 => ?_))
           ·
            refine RV.gw rfl (Step.pick_f rfl rfl) rfl (RV.gw rfl (Step.move rfl) rfl (RV.gw rfl (Step.move rfl) rfl (RV.gw rfl (Step.move rfl) rfl ?_)))
            refine RV.op (OV.step (gyes rfl) (Step.idx Tryz.underlying56 I2 (fun w h => h.os 13 rfl) rfl rfl (by first | rfl | omega | (rw [List.length_set, hB.ll]) | exact hB.ll.symm) _ rfl (by first | omega | (rw [List.length_set, hB.ll]; omega) | (rw [hB.ll]; omega))) rfl ?_)
            refine RV.gw rfl (Step.load Tryz.underlying2 rfl rfl (fun w h => (h.os 13 rfl).cell0 (by omega) rfl)) rfl ?_
            refine RV.op (OV.split (gyes rfl) (Step.neq rfl rfl) rfl (fun h42 => ?_) (fun h42 => ?_))
            ·
             exfalso; exact h42 (hP.off j (by omega) (by first | exact .inl h31 | exact .inr h35))
            ·
             refine RV.gw rfl (Step.pick_t rfl rfl) rfl (RV.s (Step.pick_f rfl rfl) rfl ?_)
             refine RV.nil (KV.then_n (KV.env [(5, _), (13, _), (14, _), (16, _), (17, _), (18, _), (21, _), (22, _), (23, _), (186, _)] ⟨rfl, rfl, rfl, rfl, rfl, rfl, rfl, rfl, rfl, rfl, trivial⟩ (CV.cond_f rfl (CV.skip (KV.then_n ?_)))))
             refine KV.env [(5, _), (13, _), (14, _), (16, _), (17, _), (18, _), (21, _), (22, _), (23, _)] ⟨rfl, rfl, rfl, rfl, rfl, rfl, rfl, rfl, rfl, trivial⟩ ?_
             have hs0 := hP.s0 j (by omega)
             have hs1 : sumK t4.p j + (t4.p.getD j (intK .i64).d) ≤ bd := hP.s1 (j + 1) (by omega)
             have hbd := hcl.b1
             refine CV.region ?_
             refine RV.m rfl rfl (RV.m rfl rfl (RV.m rfl rfl ?_))
             refine RV.op (OV.step gno (Step.idx Tryz.underlying56 I2 (fun w h => h.os 13 rfl) rfl rfl (by first | rfl | omega | (rw [List.length_set, hB.ll]) | exact hB.ll.symm) _ rfl (by first | omega | (rw [List.length_set, hB.ll]; omega) | (rw [hB.ll]; omega))) rfl ?_)
             refine RV.s (Step.load Tryz.underlying2 rfl rfl (fun w h => (h.os 13 rfl).cell0 (by omega) rfl)) rfl ?_
             (first | refine RV.op (OV.step gno (Step.convI Tryz.underlying2 Tryz.underlying24 rfl (wU64 (by omega) (by omega))) rfl ?_) | refine RV.op (OV.step gno (Step.convI Tryz.underlying2 Tryz.underlying24 rfl rfl) rfl ?_))
             (first | refine RV.op (OV.step gno (Step.add rfl rfl (wU64 (by omega) (by omega))) rfl ?_) | refine RV.op (OV.step gno (Step.add rfl rfl rfl) rfl ?_))
             refine RV.a rfl rfl ?_
             refine RV.nil (KV.block_n (KV.then_n (KV.env [(5, _), (13, _), (14, _), (16, _), (17, _), (18, _), (21, _), (22, _), (23, _)] ⟨rfl, rfl, rfl, rfl, rfl, rfl, rfl, rfl, rfl, trivial⟩ (CV.region ?_))))
             refine RV.m rfl rfl ?_
             (first | refine RV.op (OV.step gno (Step.add rfl rfl (wI64 (by omega) (by omega))) rfl ?_) | refine RV.op (OV.step gno (Step.add rfl rfl rfl) rfl ?_))
             refine RV.a rfl rfl ?_
             refine RV.nil (KV.then_n (KV.env [(5, _), (13, _), (14, _), (16, _), (17, _), (18, _), (21, _), (22, _), (23, _)] ⟨rfl, rfl, rfl, rfl, rfl, rfl, rfl, rfl, rfl, trivial⟩ ?_))
             refine KV.sel [0, 0, 0, 0, 0, 0, 0, 0, 0, 0, 0, 0, 0, 0] [_, _, _, _, _, _, _, _, _, _, _, _, _, _] rfl ?_
             exact KV.loopI (z := j) (j + 1) (by omega) (by omega) ⟨rfl, rfl, rfl, rfl, rfl, rfl, rfl, rfl, rfl, trivial⟩ (fun _ h => h)
           ·
            refine RV.gw rfl (Step.pick_f rfl rfl) rfl (RV.gw rfl (Step.move rfl) rfl (RV.k rfl rfl (RV.k rfl rfl (RV.k rfl rfl (RV.k rfl rfl (RV.k rfl rfl (RV.gw rfl (Step.pick_f rfl rfl) rfl ?_)))))))
            refine RV.s (Step.pick_f rfl rfl) rfl ?_
            refine RV.nil (KV.then_n (KV.env [(5, _), (13, _), (14, _), (16, _), (17, _), (18, _), (21, _), (22, _), (23, _), (186, _)] ⟨rfl, rfl, rfl, rfl, rfl, rfl, rfl, rfl, rfl, rfl, trivial⟩ (CV.cond_f rfl (CV.skip (KV.then_n ?_)))))
            refine KV.env [(5, _), (13, _), (14, _), (16, _), (17, _), (18, _), (21, _), (22, _), (23, _)] ⟨rfl, rfl, rfl, rfl, rfl, rfl, rfl, rfl, rfl, trivial⟩ ?_
            have hs0 := hP.s0 j (by omega)
            have hs1 : sumK t4.p j + (t4.p.getD j (intK .i64).d) ≤ bd := hP.s1 (j + 1) (by omega)
            have hbd := hcl.b1
            refine CV.region ?_
            refine RV.m rfl rfl (RV.m rfl rfl (RV.m rfl rfl ?_))
            refine RV.op (OV.step gno (Step.idx Tryz.underlying56 I2 (fun w h => h.os 13 rfl) rfl rfl (by first | rfl | omega | (rw [List.length_set, hB.ll]) | exact hB.ll.symm) _ rfl (by first | omega | (rw [List.length_set, hB.ll]; omega) | (rw [hB.ll]; omega))) rfl ?_)
            refine RV.s (Step.load Tryz.underlying2 rfl rfl (fun w h => (h.os 13 rfl).cell0 (by omega) rfl)) rfl ?_
            (first | refine RV.op (OV.step gno (Step.convI Tryz.underlying2 Tryz.underlying24 rfl (wU64 (by omega) (by omega))) rfl ?_) | refine RV.op (OV.step gno (Step.convI Tryz.underlying2 Tryz.underlying24 rfl rfl) rfl ?_))
            (first | refine RV.op (OV.step gno (Step.add rfl rfl (wU64 (by omega) (by omega))) rfl ?_) | refine RV.op (OV.step gno (Step.add rfl rfl rfl) rfl ?_))
            refine RV.a rfl rfl ?_
            refine RV.nil (KV.block_n (KV.then_n (KV.env [(5, _), (13, _), (14, _), (16, _), (17, _), (18, _), (21, _), (22, _), (23, _)] ⟨rfl, rfl, rfl, rfl, rfl, rfl, rfl, rfl, rfl, trivial⟩ (CV.region ?_))))
            refine RV.m rfl rfl ?_
            (first | refine RV.op (OV.step gno (Step.add rfl rfl (wI64 (by omega) (by omega))) rfl ?_) | refine RV.op (OV.step gno (Step.add rfl rfl rfl) rfl ?_))
            refine RV.a rfl rfl ?_
            refine RV.nil (KV.then_n (KV.env [(5, _), (13, _), (14, _), (16, _), (17, _), (18, _), (21, _), (22, _), (23, _)] ⟨rfl, rfl, rfl, rfl, rfl, rfl, rfl, rfl, rfl, trivial⟩ ?_))
            refine KV.sel [0, 0, 0, 0, 0, 0, 0, 0, 0, 0, 0, 0, 0, 0] [_, _, _, _, _, _, _, _, _, _, _, _, _, _] rfl ?_
            exact KV.loopI (z := j) (j + 1) (by omega) (by omega) ⟨rfl, rfl, rfl, rfl, rfl, rfl, rfl, rfl, rfl, trivial⟩ (fun _ h => h)
     ·
      refine RV.nil (KV.then_n (KV.env [(5, _), (13, _), (14, _), (16, _), (17, _), (18, _), (21, _), (22, _), (23, _), (108, _)] ⟨rfl, rfl, rfl, rfl, rfl, rfl, rfl, rfl, rfl, rfl, trivial⟩ (CV.cond_f rfl (CV.exit (KV.then_exit ?_)))))
      refine KV.then_exit (KV.block_hit (KV.then_n (KV.env [(5, _), (13, _), (14, _), (16, _), (17, _), (22, _)] ⟨rfl, rfl, rfl, rfl, rfl, rfl, trivial⟩ (CV.seq (CV.region ?_)))))
      refine RV.m rfl rfl (RV.s (Step.fieldAddr rfl (F35_4 _ _)) rfl ?_)
      (first | refine RV.op (OV.step gno (Step.load Tryz.underlying24 rfl rfl (fun w h => h.cell 8 rfl rfl)) rfl ?_) | refine RV.op (OV.step gno (Step.load Tryz.underlying24 rfl rfl (fun w h => h.cell 12 rfl rfl)) rfl ?_))
      refine RV.op (OV.split gno (Step.gtr rfl rfl) rfl (fun h30 => ?_) (fun h30 => ?_))
      ·
       exfalso; have := hP.s1 j (by omega); omega
      ·
       refine RV.nil (KV.then_n (KV.env [(5, _), (13, _), (14, _), (16, _), (17, _), (197, _)] ⟨rfl, rfl, rfl, rfl, rfl, rfl, trivial⟩ (CV.cond_f rfl (CV.skip (KV.block_n ?_)))))
       refine KV.then_n (KV.env [(5, _), (13, _), (14, _), (16, _), (17, _)] ⟨rfl, rfl, rfl, rfl, rfl, trivial⟩ (CV.region ?_))
       refine RV.m rfl rfl ?_
       (first | refine RV.op (OV.step gno (Step.add rfl rfl (wI64 (by omega) (by omega))) rfl ?_) | refine RV.op (OV.step gno (Step.add rfl rfl rfl) rfl ?_))
       refine RV.a rfl rfl ?_
       refine RV.nil (KV.then_n (KV.env [(5, _), (13, _), (14, _), (16, _), (17, _)] ⟨rfl, rfl, rfl, rfl, rfl, trivial⟩ ?_))
       refine KV.sel [0, 0, 0, 0, 0, 0, 0, 0, 0, 0, 0, 0] [_, _, _, _, _, _, _, _, _, _, _, _] rfl ?_
       exact KV.loop3 (x := i) (y := t) (z := lds) (i + 1) (t4) ((lds.set k rb)) ⟨⟨by omega, by omega⟩, hB4⟩ (by omega) ⟨rfl, rfl, rfl, rfl, rfl, trivial⟩ (fun _ h => h)
   ·
    refine RV.nil (KV.then_n (KV.env [(5, _), (13, _), (14, _), (16, _), (17, _), (68, _)] ⟨rfl, rfl, rfl, rfl, rfl, rfl, trivial⟩ (CV.cond_f rfl (CV.exit (KV.then_exit ?_)))))
    refine KV.then_exit (KV.block_hit (KV.then_n (KV.env [] trivial (CV.seq (CV.region ?_)))))
    refine RV.op (OV.call [] (F := [_, _, _, _, _, _, _, _, _, _, _, _]) Tryz.func10 B10 N10 rfl rfl (fun w h => awake_fn) (fun _ hb => hb.elim) gno rfl (fun v L' hp => ?_))
    obtain ⟨rfl, rfl⟩ := hp
    simp only [List.append_nil]
    refine RV.a rfl rfl ?_
    refine RV.nil (KV.then_n (KV.env [(12, _)] ⟨rfl, trivial⟩ (CV.ret ?_)))
    refine KV.sel [] [] rfl ?_
    exact KV.ret1 rfl rfl _ (fun _ h => h) ⟨rfl, rfl⟩
end Go.Proofs.YtdfkpdcpegcieaaGreatDoor
