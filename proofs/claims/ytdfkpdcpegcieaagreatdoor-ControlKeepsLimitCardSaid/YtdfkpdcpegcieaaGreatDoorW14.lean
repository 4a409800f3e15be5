/-
 Walks, part 14.
-/
import Derived.Test.YtdfkpdcpegcieaaGreatDoorTabB
import Derived.Test.YtdfkpdcpegcieaaGreatDoorLa
set_option linter.unusedSimpArgs false
set_option linter.unusedVariables false
namespace Go.Proofs.YtdfkpdcpegcieaaGreatDoor
open Go.Sv Go.Perf Go.Ctl
set_option maxRecDepth 100000 in
set_option maxHeartbeats 4000000 in
theorem keepsLimit_fn {A : Option Addr} {n c : Nat} {l0 : List RB} {w : World} (hr : RS w rbK A l0) (hn : n = l0.length) (hl : l0.length ≤ 9223372036854775807) (hp0 : ∀ i, i < l0.length → (l0.getD i rbK.d).rs w) (hf0 : ∀ i, i < l0.length → fitT (l0.getD i rbK.d).ys) {B : Option Addr} {m d : Nat} {M0 : List HL} (hr2 : RS w hlK B M0) (hm : m = M0.length) (amb lim0 bud : Int) (hb0 : 0 ≤ bud) (hb1 : bud ≤ 18446744073709551615) {RA : Option Addr} {rn rc : Nat} {R : List RN} (hr3 : RS w rnK RA R) (hrn : rn = R.length) : Fx Tryz.prog 6 [.slice A n c, .slice B m d, .int .i64 amb, .int .i64 lim0, .int .u64 bud, .slice RA rn rc] w [] no (fun v L => v = .bool true ∧ L = []) := by
 subst hn
 subst hm
 subst hrn
 refine Sv.Fx.body Tryz.func6 rfl T6 rfl ?_
 intro I hro hI
 refine KV.env [(0, _), (1, _), (2, _), (3, _), (4, _), (5, _)] ⟨rfl, rfl, rfl, rfl, rfl, rfl, trivial⟩ (CV.seq (CV.region ?_))
 refine RV.a rfl rfl ?_
 refine RV.nil (KV.then_n (KV.env [(0, _), (1, _), (2, _), (3, _), (4, _), (5, _)] ⟨rfl, rfl, rfl, rfl, rfl, rfl, trivial⟩ (CV.seq (CV.seq (CV.region ?_)))))
 refine RV.m rfl rfl ?_
 refine RV.op (OV.call [] (F := []) Tryz.func9 B9 N9 rfl rfl (fun w h => large_fn (h.rs hr (fun _ => hI _)) rfl hl) (fun _ hb => hb.elim) gno rfl (fun v L' hp => ?_))
 obtain ⟨big, rfl, hsm, rfl⟩ := hp
 simp only [List.append_nil]
 refine RV.m rfl rfl ?_
 refine KV.cases 21 rfl (fun cc1 => ?_) (fun cc1 => ?_)
 ·
  refine RV.k rfl rfl (RV.k rfl rfl (RV.k rfl rfl (RV.s (Step.pick_t rfl rfl) rfl ?_)))
  refine RV.nil (KV.then_n (KV.env [(0, _), (1, _), (2, _), (3, _), (4, _), (5, _), (25, _)] ⟨rfl, rfl, rfl, rfl, rfl, rfl, rfl, trivial⟩ (CV.cond_t rfl (CV.seq (CV.region ?_)))))
  refine RV.op (OV.call [] (F := []) Tryz.func10 B10 N10 rfl rfl (fun w h => awake_fn) (fun _ hb => hb.elim) gno rfl (fun v L' hp => ?_))
  obtain ⟨rfl, rfl⟩ := hp
  simp only [List.append_nil]
  refine RV.a rfl rfl ?_
  refine RV.nil (KV.then_n (KV.env [(12, _)] ⟨rfl, trivial⟩ (CV.ret (KV.then_ret ?_))))
  refine KV.sel [] [] rfl ?_
  exact KV.ret1 rfl rfl _ (fun _ h => h) ⟨rfl, rfl⟩
 ·
  have hbig := cc1
  refine RV.gw rfl (Step.move rfl) rfl (RV.gw rfl (Step.lenSl Tryz.underlying47 rfl) rfl ?_)
  refine RV.op (OV.split (gyes rfl) (Step.gtr rfl rfl) rfl (fun cc2 => ?_) (fun cc2 => ?_))
  ·
   refine RV.s (Step.pick_f rfl rfl) rfl ?_
   refine RV.nil (KV.then_n (KV.env [(0, _), (1, _), (2, _), (3, _), (4, _), (5, _), (25, _)] ⟨rfl, rfl, rfl, rfl, rfl, rfl, rfl, trivial⟩ (CV.cond_t rfl (CV.seq (CV.region ?_)))))
   refine RV.op (OV.call [] (F := []) Tryz.func10 B10 N10 rfl rfl (fun w h => awake_fn) (fun _ hb => hb.elim) gno rfl (fun v L' hp => ?_))
   obtain ⟨rfl, rfl⟩ := hp
   simp only [List.append_nil]
   refine RV.a rfl rfl ?_
   refine RV.nil (KV.then_n (KV.env [(12, _)] ⟨rfl, trivial⟩ (CV.ret (KV.then_ret ?_))))
   refine KV.sel [] [] rfl ?_
   exact KV.ret1 rfl rfl _ (fun _ h => h) ⟨rfl, rfl⟩
  ·
   refine RV.s (Step.pick_f rfl rfl) rfl ?_
   refine RV.nil (KV.then_n (KV.env [(0, _), (1, _), (2, _), (3, _), (4, _), (5, _), (25, _)] ⟨rfl, rfl, rfl, rfl, rfl, rfl, rfl, trivial⟩ (CV.cond_f rfl (CV.skip (KV.then_n ?_)))))
   refine KV.env [(0, _), (1, _), (2, _), (3, _), (4, _), (5, _)] ⟨rfl, rfl, rfl, rfl, rfl, rfl, trivial⟩ (CV.seq (CV.region ?_))
   refine RV.m rfl rfl (RV.m rfl rfl (RV.m rfl rfl (RV.m rfl rfl (RV.m rfl rfl ?_))))
   refine RV.op (OV.call [] (F := []) Tryz.func13 B13 N13 rfl rfl (fun w h => some44_fn (h.rs hr (fun _ => hI _)) rfl ⟨fun i hi => ⟨h.rs (hp0 i hi).1 (fun _ => hI _), h.rs (hp0 i hi).2 (fun _ => hI _)⟩, hf0, hsm hbig⟩ (h.rs hr2 (fun _ => hI _)) rfl amb lim0 bud hb0 hb1) (fun _ hb => hb.elim) gno rfl (fun v L' hp => ?_))
   obtain ⟨A3, c3, l, B3, d3, M, base, lim, bd, rfl, hcl, rfl⟩ := hp
   have hn1 := hcl.n1
   have hn2 := hcl.n2
   refine RV.op (OV.alloc #[.slice none 0 0, .slice none 0 0, .int .i64 0, .int .i64 0, .int .u64 0] I35 rfl gno rfl (fun b3_6 => ?_))
   refine RV.op (OV.store 3 [_, _, _, _, _] #[_, _, _, _, _] I35 rfl rfl rfl rfl rfl (Nat.le_of_ble_eq_true rfl) (by simp [Value.oneCell']) rfl gno ?_)
   refine RV.nil (KV.then_n (KV.env [(5, _), (13, _)] ⟨rfl, rfl, trivial⟩ (CV.seq (CV.region ?_))))
   refine RV.s (Step.fieldAddr rfl (F35_0 _ _)) rfl (RV.s (Step.load Tryz.underlying22 rfl rfl (fun w h => h.cell 3 rfl rfl)) rfl (RV.s (Step.fieldAddr rfl (F35_1 _ _)) rfl (RV.s (Step.load Tryz.underlying23 rfl rfl (fun w h => h.cell 3 rfl rfl)) rfl (RV.s (Step.fieldAddr rfl (F35_2 _ _)) rfl (RV.s (Step.load Tryz.underlying2 rfl rfl (fun w h => h.cell 3 rfl rfl)) rfl (RV.s (Step.fieldAddr rfl (F35_3 _ _)) rfl (RV.s (Step.load Tryz.underlying2 rfl rfl (fun w h => h.cell 3 rfl rfl)) rfl ?_)))))))
   refine RV.s (Step.fieldAddr rfl (F35_4 _ _)) rfl (RV.s (Step.load Tryz.underlying24 rfl rfl (fun w h => h.cell 3 rfl rfl)) rfl ?_)
   refine RV.op (OV.call [] (F := [_, _, _, _]) Tryz.func11 B11 N11 rfl rfl (fun w h => newA_fn (h.os 0 rfl) rfl (fun i hi => h.bigOS (G := fun r w => r.rs w) rbK.d (k := 1) rfl (m := i) hi fun _ _ hs => rF.rs hs) (h.os 2 rfl) rfl hcl) (fun _ hb => hb.elim) gno rfl (fun v L' hp => ?_))
   obtain ⟨t0, rfl, ht0, hT0, hn0, hb0', rfl⟩ := hp
   refine RV.m rfl rfl (RV.s (Step.extract0 rfl rfl) rfl (RV.s (Step.extract0 rfl rfl) rfl (RV.a rfl rfl (RV.a rfl rfl ?_))))
   refine RV.nil (KV.then_n (KV.env [(5, _), (13, _), (14, _), (15, _)] ⟨rfl, rfl, rfl, rfl, trivial⟩ (CV.seq (CV.seq (CV.region ?_)))))
   refine RV.m rfl rfl (RV.s (Step.neq rfl rfl) rfl (RV.m rfl rfl (RV.gw rfl (Step.move rfl) rfl (RV.gw rfl (Step.eqlP Tryz.underlying27 rfl rfl) rfl (RV.s (Step.pick_f rfl rfl) rfl ?_)))))
   refine RV.nil (KV.then_n (KV.env [(5, _), (13, _), (14, _), (52, _)] ⟨rfl, rfl, rfl, rfl, trivial⟩ (CV.cond_f rfl (CV.skip (KV.then_n ?_)))))
   refine KV.env [(5, _), (13, _), (14, _)] ⟨rfl, rfl, rfl, trivial⟩ (CV.seq (CV.seq (CV.region ?_)))
   refine RV.a rfl rfl ?_
   refine RV.nil (KV.then_n (KV.env [(5, _), (13, _), (14, _), (16, _)] ⟨rfl, rfl, rfl, rfl, trivial⟩ (CV.block ?_)))
   refine KV.sel [4, 4, 4, 4, 4, 4, 4, 4, 3] [_, _, _, _, _, _, _, _, _] rfl ?_
   refine CV.loop2 (fun (i : Nat) (t : PT) => (i ≤ R.length ∧ t.ds.length = l.length) ∧ t.T.ok lim ∧ t.base = base) (fun (i : Nat) (t : PT) => R.length - i) (fun (i : Nat) (t : PT) => [(5, .slice RA R.length rc), (13, .pointer (some ⟨b3_6, 0, none⟩)), (14, .pointer (some ⟨t.a.b, 0, none⟩)), (16, .int .i64 i)]) (fun (i : Nat) (t : PT) => Hp I w (tobj t ++ [Blk b3_6 (.cells #[.slice A3 l.length c3, .slice B3 M.length d3, .int .i64 base, .int .i64 lim, .int .u64 bd] 35 (0, 0))])) (0) (t0) ⟨⟨Nat.zero_le _, hn0⟩, hT0, hb0'⟩ ⟨rfl, rfl, rfl, rfl, trivial⟩ (fun _ h => h) ?_
   intro i t hinv
   have hT := hinv.2.1
   have hbs := hinv.2.2
   refine CV.seq (CV.seq (CV.region ?_))
   refine RV.m rfl rfl (RV.m rfl rfl (RV.s (Step.lenSl Tryz.underlying47 rfl) rfl ?_))
   refine RV.op (OV.split gno (Step.lss rfl rfl) rfl (fun cc3 => ?_) (fun cc3 => ?_))
   ·
    refine RV.nil (KV.then_n (KV.env [(5, _), (13, _), (14, _), (16, _), (56, _)] ⟨rfl, rfl, rfl, rfl, rfl, trivial⟩ (CV.cond_t rfl (CV.skip (KV.then_n ?_)))))
    refine KV.env [(5, _), (13, _), (14, _), (16, _)] ⟨rfl, rfl, rfl, rfl, trivial⟩ (CV.seq (CV.block (CV.seq ?_)))
    refine CV.any (Hp I w [Blk b3_6 (.cells #[.slice A3 l.length c3, .slice B3 M.length d3, .int .i64 base, .int .i64 lim, .int .u64 bd] 35 (0, 0))]) (by kernel_rfl) (fun _ h => h.drew) 12 rfl ?_
    refine AV.u 0 (bl 12 1) rfl gno (Step.move rfl) rfl (fun _ h => h.sel [8] rfl) ?_
    refine AV.u 1 (bl 12 3) rfl gno (Step.move rfl) rfl (fun _ h => h.sel [8] rfl) ?_
    refine AV.u 2 (bl 12 7) rfl gno (Step.move rfl) rfl (fun _ h => h.sel [8] rfl) ?_
    refine AV.u 3 (bl 12 15) rfl gno (Step.idx Tryz.underlying47 I50 (fun w h => h.rs hr3 (fun _ => hI _)) rfl rfl (by first | rfl | omega | (rw [tmps_len]; omega)) _ rfl (by first | omega | (rw [tmps_len]; omega))) rfl (fun _ h => h.sel [8] rfl) ?_
    refine AV.u 4 (bl 12 31) rfl gno (Step.loadN _ Tryz.underlying50 rfl I50 rfl rfl (fun w h => (h.rs hr3 (fun _ => hI _)).cells (by omega))) rfl (fun _ h => h.sel [8] rfl) ?_
    refine AV.u 5 (bl 12 63) rfl gno (Step.fieldAddr rfl (F35_0 _ _)) rfl (fun _ h => h.sel [8] rfl) ?_
    refine AV.u 6 (bl 12 127) rfl gno (Step.load Tryz.underlying22 rfl rfl (fun w h => h.cell 0 rfl rfl)) rfl (fun _ h => h.sel [8] rfl) ?_
    refine AV.u 7 (bl 12 255) rfl gno (Step.lenSl Tryz.underlying22 rfl) rfl (fun _ h => h.sel [8] rfl) ?_
    refine AV.all [8] (by kernel_rfl) (by decide) ?_
    refine ⟨⟨_, rfl, ?_⟩, trivial⟩
    ·
     refine OV.call [] (F := [_, _, _, _, _, _, _, _, _]) Tryz.func15 B15 N15 rfl rfl (fun w h => atR_fn (R.getD i rnK.d) l.length (by omega) (by omega)) (fun _ hb => hb.elim) gno rfl (fun v L' hp => ?_)
     obtain ⟨ra, rb, rfl, hat, rfl⟩ := hp
     simp only [List.append_nil]
     refine AV.next (bl 12 511) (by kernel_rfl) (fun _ h => h.sel [8] rfl) ?_
     refine AV.u 9 (bl 12 1023) rfl gno (Step.extract0 rfl rfl) rfl (fun _ h => h.sel [8] rfl) ?_
     refine AV.u 10 (bl 12 2047) rfl gno (Step.extract0 rfl rfl) rfl (fun _ h => h.sel [8] rfl) ?_
     refine AV.all [11] (by kernel_rfl) (by decide) ?_
     refine ⟨⟨_, rfl, ?_⟩, trivial⟩
     ·
      refine OV.call [0, 0, 0, 0, 0, 0, 0, 0] (F := [_]) Tryz.func16 B16 N16 rfl rfl (fun w h => slA_fn t hT ra rb) (fun _ hb => hb.elim) gno rfl (fun v L' hp => ?_)
      obtain ⟨t2, hk2, ⟨e2, rfl⟩, rfl⟩ := hp
      rw [← hk2.a]
      have hT2 := hk2.ok
      have hn2' := hk2.n
      have hbs2 := hk2.base
      refine AV.next (bl 12 4095) (by kernel_rfl) (fun _ h => h.sel [0] rfl) ?_
      refine AV.done (by kernel_rfl) ?_
      refine KV.then_n (KV.env [(5, _), (13, _), (14, _), (16, _)] ⟨rfl, rfl, rfl, rfl, trivial⟩ ?_)
      refine CV.join (fun (t3 : PT) => [(5, .slice RA R.length rc), (13, .pointer (some ⟨b3_6, 0, none⟩)), (14, .pointer (some ⟨t3.a.b, 0, none⟩)), (16, .int .i64 i)]) (fun (t3 : PT) => (fun w9 => KpT lim t2 t3 ∧ Hp I w (tobj t3 ++ [Blk b3_6 (.cells #[.slice A3 l.length c3, .slice B3 M.length d3, .int .i64 base, .int .i64 lim, .int .u64 bd] 35 (0, 0))]) w9)) ?_ ?_
      ·
       skip
       refine CV.seq (CV.region ?_)
       refine RV.m rfl rfl (RV.m rfl rfl ?_)
       refine RV.op (OV.step gno (Step.idx Tryz.underlying47 I50 (fun w h => h.rs hr3 (fun _ => hI _)) rfl rfl (by first | rfl | omega | (rw [tmps_len]; omega)) _ rfl (by first | omega | (rw [tmps_len]; omega))) rfl ?_)
       refine RV.s (Step.fieldAddr rfl (F50_3 _ _)) rfl ?_
       refine RV.s (Step.load Tryz.underlying4 rfl rfl (fun w h => (h.rs hr3 (fun _ => hI _)).cell (by omega) rfl)) rfl ?_
       refine RV.m rfl rfl ?_
       refine KV.cases 76 rfl (fun cc4 => ?_) (fun cc4 => ?_)
       ·
        refine RV.gw rfl (Step.move rfl) rfl ?_
        refine RV.gw rfl (Step.rem rfl rfl (by omega) (rfl)) rfl ?_
        refine RV.op (OV.split (gyes rfl) (Step.eql rfl rfl) rfl (fun cc5 => ?_) (fun cc5 => ?_))
        ·
         refine RV.s (Step.pick_t rfl rfl) rfl ?_
         refine RV.nil (KV.then_n (KV.env [(5, _), (13, _), (14, _), (16, _), (80, _)] ⟨rfl, rfl, rfl, rfl, rfl, trivial⟩ (CV.cond_t rfl (CV.region ?_))))
         refine RV.m rfl rfl ?_
         refine RV.op (OV.call [1, 1, 1, 1, 1, 1, 1, 1] (F := [_]) Tryz.func22 B22 N22 rfl rfl (fun w h => resA_fn t2 hT2) (fun _ hb => hb.elim) gno rfl (fun v L' hp => ?_))
         obtain ⟨t3, hk3, hcu, rfl⟩ := hp
         rw [← hk3.a]
         refine RV.nil (KV.then_n (KV.env [(5, _), (13, _), (14, _), (16, _)] ⟨rfl, rfl, rfl, rfl, trivial⟩ ?_))
         refine KV.sel [1, 1, 1, 1, 1, 1, 1, 1, 0] [_, _, _, _, _, _, _, _, _] rfl ?_
         (first | exact KV.join (t3) ⟨rfl, rfl, rfl, rfl, trivial⟩ (fun _ h => by first | exact ⟨hk3, h⟩ | exact ⟨KpT.refl hT2, h⟩) | exact KV.join (t2) ⟨rfl, rfl, rfl, rfl, trivial⟩ (fun _ h => by first | exact ⟨hk3, h⟩ | exact ⟨KpT.refl hT2, h⟩))
        ·
         refine RV.s (Step.pick_t rfl rfl) rfl ?_
         refine RV.nil (KV.then_n (KV.env [(5, _), (13, _), (14, _), (16, _), (80, _)] ⟨rfl, rfl, rfl, rfl, rfl, trivial⟩ (CV.cond_f rfl (CV.skip (KV.then_n ?_)))))
         refine KV.env [(5, _), (13, _), (14, _), (16, _)] ⟨rfl, rfl, rfl, rfl, trivial⟩ ?_
         refine KV.sel [1, 1, 1, 1, 1, 1, 1, 1, 0] [_, _, _, _, _, _, _, _, _] rfl ?_
         (first | exact KV.join (t3) ⟨rfl, rfl, rfl, rfl, trivial⟩ (fun _ h => by first | exact ⟨hk3, h⟩ | exact ⟨KpT.refl hT2, h⟩) | exact KV.join (t2) ⟨rfl, rfl, rfl, rfl, trivial⟩ (fun _ h => by first | exact ⟨hk3, h⟩ | exact ⟨KpT.refl hT2, h⟩))
       ·
        refine RV.k rfl rfl (RV.k rfl rfl (RV.k rfl rfl (RV.s (Step.pick_f rfl rfl) rfl ?_)))
        refine RV.nil (KV.then_n (KV.env [(5, _), (13, _), (14, _), (16, _), (80, _)] ⟨rfl, rfl, rfl, rfl, rfl, trivial⟩ (CV.cond_f rfl (CV.skip (KV.then_n ?_)))))
        refine KV.env [(5, _), (13, _), (14, _), (16, _)] ⟨rfl, rfl, rfl, rfl, trivial⟩ ?_
        refine KV.sel [1, 1, 1, 1, 1, 1, 1, 1, 0] [_, _, _, _, _, _, _, _, _] rfl ?_
        (first | exact KV.join (t3) ⟨rfl, rfl, rfl, rfl, trivial⟩ (fun _ h => by first | exact ⟨hk3, h⟩ | exact ⟨KpT.refl hT2, h⟩) | exact KV.join (t2) ⟨rfl, rfl, rfl, rfl, trivial⟩ (fun _ h => by first | exact ⟨hk3, h⟩ | exact ⟨KpT.refl hT2, h⟩))
      ·
       intro t3
       refine KV.have (fun _ h => h.1) fun hk3 => ?_
       refine KV.heap (fun _ h => h.2) ?_
       have hT3 := hk3.ok
       have hn3 := hk3.n
       have hbs3 := hk3.base
       refine CV.seq (CV.region ?_)
       refine RV.m rfl rfl (RV.m rfl rfl (RV.m rfl rfl ?_))
       refine RV.op (OV.step gno (Step.idx Tryz.underlying47 I50 (fun w h => h.rs hr3 (fun _ => hI _)) rfl rfl (by first | rfl | omega | (rw [tmps_len]; omega)) _ rfl (by first | omega | (rw [tmps_len]; omega))) rfl ?_)
       refine RV.s (Step.loadN _ Tryz.underlying50 rfl I50 rfl rfl (fun w h => (h.rs hr3 (fun _ => hI _)).cells (by omega))) rfl ?_
       refine RV.op (OV.call [] (F := [_, _, _, _, _, _, _, _, _]) Tryz.func18 B18 N18 rfl rfl (fun w h => modeR_fn (R.getD i rnK.d)) (fun _ hb => hb.elim) gno rfl (fun v L' hp => ?_))
       obtain ⟨rfl, rfl⟩ := hp
       simp only [List.append_nil]
       refine RV.op (OV.call [0, 0, 0, 0, 0, 0, 0, 0] (F := [_]) Tryz.func17 B17 N17 rfl rfl (fun w h => runA_fn t3 hT3 (by omega) _) (fun _ hb => hb.elim) gno rfl (fun v L' hp => ?_))
       obtain ⟨t4, hR, ha4, hn4, hT4, hbs4, rfl⟩ := hp
       rw [← ha4]
       have htm := tm_bd hT4
       have hdl4 := hT4.dl'
       refine RV.nil (KV.then_n (KV.env [(5, _), (13, _), (14, _), (16, _)] ⟨rfl, rfl, rfl, rfl, trivial⟩ (CV.seq (CV.region ?_))))
       refine RV.m rfl rfl ?_
       refine RV.op (OV.call [1, 1, 1, 1, 1, 1, 1, 1] (F := [_]) Tryz.func21 B21 N21 rfl rfl (fun w h => temps_fn t4 hT4) (fun _ hb => hb.elim) gno rfl (fun v L' hp => ?_))
       obtain ⟨A5, c5, rfl, rfl⟩ := hp
       refine RV.a rfl rfl ?_
       refine RV.nil (KV.then_n (KV.env [(5, _), (13, _), (14, _), (16, _), (17, _)] ⟨rfl, rfl, rfl, rfl, rfl, trivial⟩ (CV.seq (CV.seq (CV.region ?_)))))
       refine RV.m rfl rfl (RV.s (Step.lenSl Tryz.underlying56 rfl) rfl (RV.s (Step.fieldAddr rfl (F35_0 _ _)) rfl (RV.s (Step.load Tryz.underlying22 rfl rfl (fun w h => h.cell 0 rfl rfl)) rfl (RV.s (Step.lenSl Tryz.underlying22 rfl) rfl ?_))))
       refine RV.op (OV.split gno (Step.neq rfl rfl) rfl (fun hne => ?_) (fun hne => ?_))
       ·
        exfalso; omega
       ·
        refine RV.nil (KV.then_n (KV.env [(5, _), (13, _), (14, _), (16, _), (17, _), (97, _)] ⟨rfl, rfl, rfl, rfl, rfl, rfl, trivial⟩ (CV.cond_f rfl (CV.skip (KV.then_n ?_)))))
        refine KV.env [(5, _), (13, _), (14, _), (16, _), (17, _)] ⟨rfl, rfl, rfl, rfl, rfl, trivial⟩ (CV.seq (CV.region ?_))
        refine RV.a rfl rfl ?_
        refine RV.nil (KV.then_n (KV.env [(5, _), (13, _), (14, _), (16, _), (17, _), (18, _)] ⟨rfl, rfl, rfl, rfl, rfl, rfl, trivial⟩ (CV.block ?_)))
        refine KV.sel [1, 1, 1, 1, 1, 1, 1, 1, 0, 0] [_, _, _, _, _, _, _, _, _, _] rfl ?_
        refine CV.loopI (fun (j : Nat) => j ≤ t4.ds.length) (fun (j : Nat) => t4.ds.length - j) (fun (j : Nat) => [(5, .slice RA R.length rc), (13, .pointer (some ⟨b3_6, 0, none⟩)), (14, .pointer (some ⟨t4.a.b, 0, none⟩)), (16, .int .i64 i), (17, .slice A5 t4.ds.length c5), (18, .int .i64 j)]) (fun (j : Nat) => Hp I w (tobj t4 ++ [Blk b3_6 (.cells #[.slice A3 l.length c3, .slice B3 M.length d3, .int .i64 base, .int .i64 lim, .int .u64 bd] 35 (0, 0)), OS 2 (intK .i64) A5 c5 (tmps t4.D t4.E)])) (0) (Nat.zero_le _) ⟨rfl, rfl, rfl, rfl, rfl, rfl, trivial⟩ (fun _ h => h) ?_
        intro j hinv2
        refine CV.seq (CV.seq (CV.region ?_))
        refine RV.m rfl rfl (RV.m rfl rfl (RV.s (Step.lenSl Tryz.underlying56 rfl) rfl ?_))
        refine RV.op (OV.split gno (Step.lss rfl rfl) rfl (fun cc6 => ?_) (fun cc6 => ?_))
        ·
         refine RV.nil (KV.then_n (KV.env [(5, _), (13, _), (14, _), (16, _), (17, _), (18, _), (101, _)] ⟨rfl, rfl, rfl, rfl, rfl, rfl, rfl, trivial⟩ (CV.cond_t rfl (CV.skip (KV.then_n ?_)))))
         refine KV.env [(5, _), (13, _), (14, _), (16, _), (17, _), (18, _)] ⟨rfl, rfl, rfl, rfl, rfl, rfl, trivial⟩ (CV.seq (CV.block (CV.seq ?_)))
         have htm1 := htm j (by omega)
         refine CV.still (by kernel_rfl) (by kernel_rfl) (fun _ h => h.drew) ?_
         refine SV.step gno (Step.move rfl) rfl ?_
         refine SV.step gno (Step.move rfl) rfl ?_
         refine SV.step gno (Step.idx Tryz.underlying56 I2 (fun w h => h.os 9 rfl) rfl rfl (by first | rfl | omega | (rw [tmps_len]; omega)) _ rfl (by first | omega | (rw [tmps_len]; omega))) rfl ?_
         refine SV.step gno (Step.load Tryz.underlying2 rfl rfl (fun w h => (h.os 9 rfl).cell0 (by rw [tmps_len]; omega) rfl)) rfl ?_
         refine SV.step gno (Step.fieldAddr rfl (F35_3 _ _)) rfl ?_
         refine SV.step gno (Step.load Tryz.underlying2 rfl rfl (fun w h => h.cell 8 rfl rfl)) rfl ?_
         refine SV.split gno (Step.gtr rfl rfl) rfl (fun h6 => ?_) (fun h6 => ?_)
         ·
          exfalso; omega
         ·
          refine SV.step gno (Step.move rfl) rfl ?_
          refine SV.step (gyes rfl) (Step.move rfl) rfl ?_
          refine SV.step (gyes rfl) (Step.move rfl) rfl ?_
          refine SV.step (gyes rfl) (Step.idx Tryz.underlying56 I2 (fun w h => h.os 9 rfl) rfl rfl (by first | rfl | omega | (rw [tmps_len]; omega)) _ rfl (by first | omega | (rw [tmps_len]; omega))) rfl ?_
          refine SV.step (gyes rfl) (Step.load Tryz.underlying2 rfl rfl (fun w h => (h.os 9 rfl).cell0 (by rw [tmps_len]; omega) rfl)) rfl ?_
          refine SV.step (gyes rfl) (Step.fieldAddr rfl (F35_2 _ _)) rfl ?_
          refine SV.step (gyes rfl) (Step.load Tryz.underlying2 rfl rfl (fun w h => h.cell 8 rfl rfl)) rfl ?_
          refine SV.split (gyes rfl) (Step.lss rfl rfl) rfl (fun h14 => ?_) (fun h14 => ?_)
          ·
           exfalso; omega
          ·
           refine SV.step gno (Step.pick_f rfl rfl) rfl ?_
           refine SV.nil (KV.then_n (KV.env [(5, _), (13, _), (14, _), (16, _), (17, _), (18, _), (119, _)] ⟨rfl, rfl, rfl, rfl, rfl, rfl, rfl, trivial⟩ (CV.cond_f rfl (CV.skip (KV.block_n ?_)))))
           refine KV.then_n (KV.env [(5, _), (13, _), (14, _), (16, _), (17, _), (18, _)] ⟨rfl, rfl, rfl, rfl, rfl, rfl, trivial⟩ (CV.region ?_))
           refine RV.m rfl rfl ?_
           (first | refine RV.op (OV.step gno (Step.add rfl rfl (wI64 (by omega) (by omega))) rfl ?_) | refine RV.op (OV.step gno (Step.add rfl rfl rfl) rfl ?_))
           refine RV.a rfl rfl ?_
           refine RV.nil (KV.then_n (KV.env [(5, _), (13, _), (14, _), (16, _), (17, _), (18, _)] ⟨rfl, rfl, rfl, rfl, rfl, rfl, trivial⟩ ?_))
           refine KV.sel [0, 0, 0, 0, 0, 0, 0, 0, 0, 0] [_, _, _, _, _, _, _, _, _, _] rfl ?_
           exact KV.loopI (z := j) (j + 1) (by omega) (by omega) ⟨rfl, rfl, rfl, rfl, rfl, rfl, trivial⟩ (fun _ h => h)
        ·
         refine RV.nil (KV.then_n (KV.env [(5, _), (13, _), (14, _), (16, _), (17, _), (18, _), (101, _)] ⟨rfl, rfl, rfl, rfl, rfl, rfl, rfl, trivial⟩ (CV.cond_f rfl (CV.exit (KV.then_exit ?_)))))
         refine KV.then_exit (KV.block_hit (KV.block_n (KV.then_n (KV.env [(5, _), (13, _), (14, _), (16, _)] ⟨rfl, rfl, rfl, rfl, trivial⟩ (CV.region ?_)))))
         refine RV.m rfl rfl ?_
         (first | refine RV.op (OV.step gno (Step.add rfl rfl (wI64 (by omega) (by omega))) rfl ?_) | refine RV.op (OV.step gno (Step.add rfl rfl rfl) rfl ?_))
         refine RV.a rfl rfl ?_
         refine RV.nil (KV.then_n (KV.env [(5, _), (13, _), (14, _), (16, _)] ⟨rfl, rfl, rfl, rfl, trivial⟩ ?_))
         refine KV.sel [0, 0, 0, 0, 0, 0, 0, 0, 0] [_, _, _, _, _, _, _, _, _] rfl ?_
         exact KV.loop2 (x := i) (y := t) (i + 1) (t4) ⟨⟨by omega, by omega⟩, hT4, by omega⟩ (by omega) ⟨rfl, rfl, rfl, rfl, trivial⟩ (fun _ h => h)
   ·
    refine RV.nil (KV.then_n (KV.env [(5, _), (13, _), (14, _), (16, _), (56, _)] ⟨rfl, rfl, rfl, rfl, rfl, trivial⟩ (CV.cond_f rfl (CV.exit (KV.then_exit ?_)))))
    refine KV.then_exit (KV.block_hit (KV.then_n (KV.env [] trivial (CV.seq (CV.region ?_)))))
    refine RV.op (OV.call [] (F := [_, _, _, _, _, _, _, _, _]) Tryz.func10 B10 N10 rfl rfl (fun w h => awake_fn) (fun _ hb => hb.elim) gno rfl (fun v L' hp => ?_))
    obtain ⟨rfl, rfl⟩ := hp
    simp only [List.append_nil]
    refine RV.a rfl rfl ?_
    refine RV.nil (KV.then_n (KV.env [(12, _)] ⟨rfl, trivial⟩ (CV.ret ?_)))
    refine KV.sel [] [] rfl ?_
    exact KV.ret1 rfl rfl _ (fun _ h => h) ⟨rfl, rfl⟩
end Go.Proofs.YtdfkpdcpegcieaaGreatDoor
