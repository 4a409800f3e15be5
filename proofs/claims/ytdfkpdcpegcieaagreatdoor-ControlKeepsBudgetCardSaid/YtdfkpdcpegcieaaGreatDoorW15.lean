/-
 Walks, part 15.
-/
import Derived.Test.YtdfkpdcpegcieaaGreatDoorTabB
import Derived.Test.YtdfkpdcpegcieaaGreatDoorW14
set_option linter.unusedSimpArgs false
set_option linter.unusedVariables false
namespace Go.Proofs.YtdfkpdcpegcieaaGreatDoor
open Go.Sv Go.Perf Go.Ctl
set_option maxRecDepth 100000 in
set_option maxHeartbeats 4000000 in
theorem coolsOff_fn {A : Option Addr} {n c : Nat} {l0 : List RB} {w : World} (hr : RS w rbK A l0) (hn : n = l0.length) (hl : l0.length ≤ 9223372036854775807) (hp0 : ∀ i, i < l0.length → (l0.getD i rbK.d).rs w) (hf0 : ∀ i, i < l0.length → fitT (l0.getD i rbK.d).ys) {B : Option Addr} {m d : Nat} {M0 : List HL} (hr2 : RS w hlK B M0) (hm : m = M0.length) (amb lim0 bud : Int) (hb0 : 0 ≤ bud) (hb1 : bud ≤ 18446744073709551615) {RA : Option Addr} {rn rc : Nat} {R : List RN} (hr3 : RS w rnK RA R) (hrn : rn = R.length) (mode : Int) : Fx Tryz.prog 5 [.slice A n c, .slice B m d, .int .i64 amb, .int .i64 lim0, .int .u64 bud, .slice RA rn rc, .int .i64 mode] w [] no (fun v L => v = .bool true ∧ L = []) := by
 subst hn
 subst hm
 subst hrn
 refine Sv.Fx.body Tryz.func5 rfl T5 rfl ?_
 intro I hro hI
 refine KV.env [(0, _), (1, _), (2, _), (3, _), (4, _), (5, _), (6, _)] ⟨rfl, rfl, rfl, rfl, rfl, rfl, rfl, trivial⟩ (CV.seq (CV.region ?_))
 refine RV.a rfl rfl ?_
 refine RV.nil (KV.then_n (KV.env [(0, _), (1, _), (2, _), (3, _), (4, _), (5, _), (6, _)] ⟨rfl, rfl, rfl, rfl, rfl, rfl, rfl, trivial⟩ (CV.seq (CV.seq (CV.region ?_)))))
 refine RV.m rfl rfl ?_
 refine RV.op (OV.call [] (F := []) Tryz.func9 B9 N9 rfl rfl (fun w h => large_fn (h.rs hr (fun _ => hI _)) rfl hl) (fun _ hb => hb.elim) gno rfl (fun v L' hp => ?_))
 obtain ⟨big, rfl, hsm, rfl⟩ := hp
 simp only [List.append_nil]
 refine RV.m rfl rfl ?_
 refine KV.cases 26 rfl (fun cc1 => ?_) (fun cc1 => ?_)
 ·
  refine RV.k rfl rfl (RV.k rfl rfl (RV.k rfl rfl (RV.s (Step.pick_t rfl rfl) rfl ?_)))
  refine RV.nil (KV.then_n (KV.env [(0, _), (1, _), (2, _), (3, _), (4, _), (5, _), (6, _), (30, _)] ⟨rfl, rfl, rfl, rfl, rfl, rfl, rfl, rfl, trivial⟩ (CV.cond_t rfl (CV.seq (CV.region ?_)))))
  refine RV.op (OV.call [] (F := []) Tryz.func10 B10 N10 rfl rfl (fun w h => awake_fn) (fun _ hb => hb.elim) gno rfl (fun v L' hp => ?_))
  obtain ⟨rfl, rfl⟩ := hp
  simp only [List.append_nil]
  refine RV.a rfl rfl ?_
  refine RV.nil (KV.then_n (KV.env [(14, _)] ⟨rfl, trivial⟩ (CV.ret (KV.then_ret ?_))))
  refine KV.sel [] [] rfl ?_
  exact KV.ret1 rfl rfl _ (fun _ h => h) ⟨rfl, rfl⟩
 ·
  have hbig := cc1
  refine RV.gw rfl (Step.move rfl) rfl (RV.gw rfl (Step.lenSl Tryz.underlying47 rfl) rfl ?_)
  refine RV.op (OV.split (gyes rfl) (Step.gtr rfl rfl) rfl (fun cc2 => ?_) (fun cc2 => ?_))
  ·
   refine RV.s (Step.pick_f rfl rfl) rfl ?_
   refine RV.nil (KV.then_n (KV.env [(0, _), (1, _), (2, _), (3, _), (4, _), (5, _), (6, _), (30, _)] ⟨rfl, rfl, rfl, rfl, rfl, rfl, rfl, rfl, trivial⟩ (CV.cond_t rfl (CV.seq (CV.region ?_)))))
   refine RV.op (OV.call [] (F := []) Tryz.func10 B10 N10 rfl rfl (fun w h => awake_fn) (fun _ hb => hb.elim) gno rfl (fun v L' hp => ?_))
   obtain ⟨rfl, rfl⟩ := hp
   simp only [List.append_nil]
   refine RV.a rfl rfl ?_
   refine RV.nil (KV.then_n (KV.env [(14, _)] ⟨rfl, trivial⟩ (CV.ret (KV.then_ret ?_))))
   refine KV.sel [] [] rfl ?_
   exact KV.ret1 rfl rfl _ (fun _ h => h) ⟨rfl, rfl⟩
  ·
   refine RV.s (Step.pick_f rfl rfl) rfl ?_
   refine RV.nil (KV.then_n (KV.env [(0, _), (1, _), (2, _), (3, _), (4, _), (5, _), (6, _), (30, _)] ⟨rfl, rfl, rfl, rfl, rfl, rfl, rfl, rfl, trivial⟩ (CV.cond_f rfl (CV.skip (KV.then_n ?_)))))
   refine KV.env [(0, _), (1, _), (2, _), (3, _), (4, _), (5, _), (6, _)] ⟨rfl, rfl, rfl, rfl, rfl, rfl, rfl, trivial⟩ (CV.seq (CV.region ?_))
   refine RV.m rfl rfl (RV.m rfl rfl (RV.m rfl rfl (RV.m rfl rfl (RV.m rfl rfl ?_))))
   refine RV.op (OV.call [] (F := []) Tryz.func13 B13 N13 rfl rfl (fun w h => some44_fn (h.rs hr (fun _ => hI _)) rfl ⟨fun i hi => ⟨h.rs (hp0 i hi).1 (fun _ => hI _), h.rs (hp0 i hi).2 (fun _ => hI _)⟩, hf0, hsm hbig⟩ (h.rs hr2 (fun _ => hI _)) rfl amb lim0 bud hb0 hb1) (fun _ hb => hb.elim) gno rfl (fun v L' hp => ?_))
   obtain ⟨A3, c3, l, B3, d3, M, base, lim, bd, rfl, hcl, rfl⟩ := hp
   have hn1 := hcl.n1
   have hn2 := hcl.n2
   refine RV.op (OV.alloc #[.slice none 0 0, .slice none 0 0, .int .i64 0, .int .i64 0, .int .u64 0] I35 rfl gno rfl (fun b3_6 => ?_))
   refine RV.op (OV.store 3 [_, _, _, _, _] #[_, _, _, _, _] I35 rfl rfl rfl rfl rfl (Nat.le_of_ble_eq_true rfl) (by simp [Value.oneCell']) rfl gno ?_)
   refine RV.nil (KV.then_n (KV.env [(5, _), (6, _), (15, _)] ⟨rfl, rfl, rfl, trivial⟩ (CV.seq (CV.region ?_))))
   refine RV.s (Step.fieldAddr rfl (F35_0 _ _)) rfl (RV.s (Step.load Tryz.underlying22 rfl rfl (fun w h => h.cell 3 rfl rfl)) rfl (RV.s (Step.fieldAddr rfl (F35_1 _ _)) rfl (RV.s (Step.load Tryz.underlying23 rfl rfl (fun w h => h.cell 3 rfl rfl)) rfl (RV.s (Step.fieldAddr rfl (F35_2 _ _)) rfl (RV.s (Step.load Tryz.underlying2 rfl rfl (fun w h => h.cell 3 rfl rfl)) rfl (RV.s (Step.fieldAddr rfl (F35_3 _ _)) rfl (RV.s (Step.load Tryz.underlying2 rfl rfl (fun w h => h.cell 3 rfl rfl)) rfl ?_)))))))
   refine RV.s (Step.fieldAddr rfl (F35_4 _ _)) rfl (RV.s (Step.load Tryz.underlying24 rfl rfl (fun w h => h.cell 3 rfl rfl)) rfl ?_)
   refine RV.op (OV.call [] (F := [_, _, _, _]) Tryz.func11 B11 N11 rfl rfl (fun w h => newA_fn (h.os 0 rfl) rfl (fun i hi => h.bigOS (G := fun r w => r.rs w) rbK.d (k := 1) rfl (m := i) hi fun _ _ hs => rF.rs hs) (h.os 2 rfl) rfl hcl) (fun _ hb => hb.elim) gno rfl (fun v L' hp => ?_))
   obtain ⟨t0, rfl, ht0, hT0, hn0, hb0', rfl⟩ := hp
   refine RV.m rfl rfl (RV.s (Step.extract0 rfl rfl) rfl (RV.s (Step.extract0 rfl rfl) rfl (RV.a rfl rfl (RV.a rfl rfl ?_))))
   refine RV.nil (KV.then_n (KV.env [(5, _), (6, _), (15, _), (16, _), (17, _)] ⟨rfl, rfl, rfl, rfl, rfl, trivial⟩ (CV.seq (CV.seq (CV.region ?_)))))
   refine RV.m rfl rfl (RV.s (Step.neq rfl rfl) rfl (RV.m rfl rfl (RV.gw rfl (Step.move rfl) rfl (RV.gw rfl (Step.eqlP Tryz.underlying27 rfl rfl) rfl (RV.s (Step.pick_f rfl rfl) rfl ?_)))))
   refine RV.nil (KV.then_n (KV.env [(5, _), (6, _), (15, _), (16, _), (57, _)] ⟨rfl, rfl, rfl, rfl, rfl, trivial⟩ (CV.cond_f rfl (CV.skip (KV.then_n ?_)))))
   refine KV.env [(5, _), (6, _), (15, _), (16, _)] ⟨rfl, rfl, rfl, rfl, trivial⟩ (CV.seq (CV.seq (CV.region ?_)))
   refine RV.a rfl rfl ?_
   refine RV.nil (KV.then_n (KV.env [(5, _), (6, _), (15, _), (16, _), (18, _)] ⟨rfl, rfl, rfl, rfl, rfl, trivial⟩ (CV.block ?_)))
   refine KV.sel [4, 4, 4, 4, 4, 4, 4, 4, 3] [_, _, _, _, _, _, _, _, _] rfl ?_
   refine CV.loop2 (fun (i : Nat) (t : PT) => (i ≤ R.length ∧ t.ds.length = l.length) ∧ t.T.ok lim) (fun (i : Nat) (t : PT) => R.length - i) (fun (i : Nat) (t : PT) => [(5, .slice RA R.length rc), (6, .int .i64 mode), (15, .pointer (some ⟨b3_6, 0, none⟩)), (16, .pointer (some ⟨t.a.b, 0, none⟩)), (18, .int .i64 i)]) (fun (i : Nat) (t : PT) => Hp I w (tobj t ++ [Blk b3_6 (.cells #[.slice A3 l.length c3, .slice B3 M.length d3, .int .i64 base, .int .i64 lim, .int .u64 bd] 35 (0, 0))])) (0) (t0) ⟨⟨Nat.zero_le _, hn0⟩, hT0⟩ ⟨rfl, rfl, rfl, rfl, rfl, trivial⟩ (fun _ h => h) ?_
   intro i t hinv
   have hT := hinv.2
   refine CV.seq (CV.seq (CV.region ?_))
   refine RV.m rfl rfl (RV.m rfl rfl (RV.s (Step.lenSl Tryz.underlying47 rfl) rfl ?_))
   refine RV.op (OV.split gno (Step.lss rfl rfl) rfl (fun cc3 => ?_) (fun cc3 => ?_))
   ·
    refine RV.nil (KV.then_n (KV.env [(5, _), (6, _), (15, _), (16, _), (18, _), (61, _)] ⟨rfl, rfl, rfl, rfl, rfl, rfl, trivial⟩ (CV.cond_t rfl (CV.skip (KV.then_n ?_)))))
    refine KV.env [(5, _), (6, _), (15, _), (16, _), (18, _)] ⟨rfl, rfl, rfl, rfl, rfl, trivial⟩ (CV.seq (CV.block (CV.seq ?_)))
    refine CV.any (Hp I w [Blk b3_6 (.cells #[.slice A3 l.length c3, .slice B3 M.length d3, .int .i64 base, .int .i64 lim, .int .u64 bd] 35 (0, 0))]) (by kernel_rfl) (fun _ h => h.drew) 12 rfl ?_
    refine AV.u 0 (bl 12 1) rfl gno (Step.move rfl) rfl (fun _ h => h.sel [8] rfl) ?_
    refine AV.u 1 (bl 12 3) rfl gno (Step.move rfl) rfl (fun _ h => h.sel [8] rfl) ?_
    refine AV.u 2 (bl 12 7) rfl gno (Step.move rfl) rfl (fun _ h => h.sel [8] rfl) ?_
    refine AV.u 3 (bl 12 15) rfl gno (Step.idx Tryz.underlying47 I50 (fun w h => h.rs hr3 (fun _ => hI _)) rfl rfl (by first | rfl | omega | (rw [tmps_len]; omega)) _ rfl (by first | omega | (rw [tmps_len]; omega) | (show 0 < _; omega) | (show 0 < _; rw [tmps_len]; omega))) rfl (fun _ h => h.sel [8] rfl) ?_
    refine AV.u 4 (bl 12 31) rfl gno (Step.loadN _ Tryz.underlying50 rfl I50 rfl rfl (fun w h => (h.rs hr3 (fun _ => hI _)).cells (by omega))) rfl (fun _ h => h.sel [8] rfl) ?_
    refine AV.u 5 (bl 12 63) rfl gno (Step.fieldAddr rfl (F35_0 _ _)) rfl (fun _ h => h.sel [8] rfl) ?_
    refine AV.u 6 (bl 12 127) rfl gno (Step.load Tryz.underlying22 rfl rfl (fun w h => h.cell 0 rfl rfl)) rfl (fun _ h => h.sel [8] rfl) ?_
    refine AV.u 7 (bl 12 255) rfl gno (Step.lenSl Tryz.underlying22 rfl) rfl (fun _ h => h.sel [8] rfl) ?_
    refine AV.all [8] (by kernel_rfl) (by decide) ?_
    refine ⟨⟨_, rfl, ?_⟩, trivial⟩
    ·
     refine OV.call [] (F := [_, _, _, _, _, _, _, _, _]) Tryz.func15 B15 N15 rfl rfl (fun w h => atR_fn (R.getD i rnK.d) l.length (by omega) (by omega)) (fun _ hb => hb.elim) gno rfl (fun v L' hp => ?_)
     obtain ⟨ra, rb, rfl, hat, rfl⟩ := hp
     simp only [List.append_nil]
     refine AV.next (bl 12 511) (by kernel_rfl) (fun _ h => h.sel [8] rfl) ?_
     refine AV.u 9 (bl 12 1023) rfl gno (Step.extract0 rfl rfl) rfl (fun _ h => h.sel [8] rfl) ?_
     refine AV.u 10 (bl 12 2047) rfl gno (Step.extract0 rfl rfl) rfl (fun _ h => h.sel [8] rfl) ?_
     refine AV.all [11] (by kernel_rfl) (by decide) ?_
     refine ⟨⟨_, rfl, ?_⟩, trivial⟩
     ·
      refine OV.call [0, 0, 0, 0, 0, 0, 0, 0] (F := [_]) Tryz.func16 B16 N16 rfl rfl (fun w h => slA_fn t hT ra rb) (fun _ hb => hb.elim) gno rfl (fun v L' hp => ?_)
      obtain ⟨t2, hk2, ⟨e2, rfl⟩, rfl⟩ := hp
      rw [← hk2.a]
      have hT2 := hk2.ok
      have hn2' := hk2.n
      have hbs2 := hk2.base
      refine AV.next (bl 12 4095) (by kernel_rfl) (fun _ h => h.sel [0] rfl) ?_
      refine AV.done (by kernel_rfl) ?_
      refine KV.then_n (KV.env [(5, _), (6, _), (15, _), (16, _), (18, _)] ⟨rfl, rfl, rfl, rfl, rfl, trivial⟩ (CV.region ?_))
      refine RV.m rfl rfl ?_
      refine RV.op (OV.call [1, 1, 1, 1, 1, 1, 1, 1] (F := [_]) Tryz.func17 B17 N17 rfl rfl (fun w h => runA_fn t2 hT2 (by omega) _) (fun _ hb => hb.elim) gno rfl (fun v L' hp => ?_))
      obtain ⟨t4, hR, ha4, hn4, hT4, hbs4, rfl⟩ := hp
      rw [← ha4]
      refine RV.nil (KV.block_n (KV.then_n (KV.env [(5, _), (6, _), (15, _), (16, _), (18, _)] ⟨rfl, rfl, rfl, rfl, rfl, trivial⟩ (CV.region ?_))))
      refine RV.m rfl rfl ?_
      (first | refine RV.op (OV.step gno (Step.add rfl rfl (wI64 (by omega) (by omega))) rfl ?_) | refine RV.op (OV.step gno (Step.add rfl rfl rfl) rfl ?_))
      refine RV.a rfl rfl ?_
      refine RV.nil (KV.then_n (KV.env [(5, _), (6, _), (15, _), (16, _), (18, _)] ⟨rfl, rfl, rfl, rfl, rfl, trivial⟩ ?_))
      refine KV.sel [1, 1, 1, 1, 1, 1, 1, 1, 0] [_, _, _, _, _, _, _, _, _] rfl ?_
      exact KV.loop2 (x := i) (y := t) (i + 1) (t4) ⟨⟨by omega, by omega⟩, hT4⟩ (by omega) ⟨rfl, rfl, rfl, rfl, rfl, trivial⟩ (fun _ h => h)
   ·
    refine RV.nil (KV.then_n (KV.env [(5, _), (6, _), (15, _), (16, _), (18, _), (61, _)] ⟨rfl, rfl, rfl, rfl, rfl, rfl, trivial⟩ (CV.cond_f rfl (CV.exit (KV.then_exit ?_)))))
    refine KV.then_exit (KV.block_hit (KV.then_n (KV.env [(6, _), (15, _), (16, _)] ⟨rfl, rfl, rfl, trivial⟩ (CV.seq ?_))))
    have hb4 := modM_lt mode (n := 4) (by omega)
    refine CV.region ?_
    refine RV.m rfl rfl ?_
    refine RV.op (OV.callP Tryz.func14 B14 N14 rfl (mod_fn _ 4 (by omega) (by omega)) gno rfl ?_)
    refine RV.a rfl rfl ?_
    refine RV.nil (KV.then_n (KV.env [(15, _), (16, _), (19, _)] ⟨rfl, rfl, rfl, trivial⟩ ?_))
    refine CV.join (fun (m : Int) => [(15, .pointer (some ⟨b3_6, 0, none⟩)), (16, .pointer (some ⟨t.a.b, 0, none⟩)), (19, .int .i64 m)]) (fun (m : Int) => (fun w9 => m ≠ 1 ∧ Hp I w (tobj t ++ [Blk b3_6 (.cells #[.slice A3 l.length c3, .slice B3 M.length d3, .int .i64 base, .int .i64 lim, .int .u64 bd] 35 (0, 0))]) w9)) ?_ ?_
    ·
     skip
     refine CV.seq (CV.region ?_)
     refine RV.m rfl rfl ?_
     refine RV.op (OV.split gno (Step.geq rfl rfl) rfl (fun hge => ?_) (fun hge => ?_))
     ·
      refine RV.nil (KV.then_n (KV.env [(15, _), (16, _), (19, _), (81, _)] ⟨rfl, rfl, rfl, rfl, trivial⟩ (CV.cond_t rfl (CV.region ?_))))
      refine RV.m rfl rfl ?_
      (first | refine RV.op (OV.step gno (Step.add rfl rfl (wI64 (by omega) (by omega))) rfl ?_) | refine RV.op (OV.step gno (Step.add rfl rfl rfl) rfl ?_))
      refine RV.a rfl rfl ?_
      refine RV.nil (KV.then_n (KV.env [(15, _), (16, _), (19, _)] ⟨rfl, rfl, rfl, trivial⟩ ?_))
      refine KV.sel [0, 0, 0, 0, 0, 0, 0, 0, 0] [_, _, _, _, _, _, _, _, _] rfl ?_
      exact KV.join (_) ⟨rfl, rfl, rfl, trivial⟩ (fun _ h => ⟨by omega, h⟩)
     ·
      refine RV.nil (KV.then_n (KV.env [(15, _), (16, _), (19, _), (81, _)] ⟨rfl, rfl, rfl, rfl, trivial⟩ (CV.cond_f rfl (CV.skip (KV.then_n ?_)))))
      refine KV.env [(15, _), (16, _), (19, _)] ⟨rfl, rfl, rfl, trivial⟩ ?_
      refine KV.sel [0, 0, 0, 0, 0, 0, 0, 0, 0] [_, _, _, _, _, _, _, _, _] rfl ?_
      exact KV.join (_) ⟨rfl, rfl, rfl, trivial⟩ (fun _ h => ⟨by omega, h⟩)
    ·
     intro m
     refine KV.have (fun _ h => h.1) fun hm1 => ?_
     refine KV.heap (fun _ h => h.2) ?_
     refine CV.seq (CV.region ?_)
     refine RV.s (Step.fieldAddr rfl (F35_3 _ _)) rfl (RV.s (Step.load Tryz.underlying2 rfl rfl (fun w h => h.cell 8 rfl rfl)) rfl (RV.a rfl rfl ?_))
     refine RV.nil (KV.then_n (KV.env [(15, _), (16, _), (19, _), (20, _)] ⟨rfl, rfl, rfl, rfl, trivial⟩ (CV.seq (CV.seq (CV.region ?_)))))
     refine RV.m rfl rfl ?_
     refine RV.nil (KV.then_n (KV.env [(15, _), (16, _), (19, _), (20, _), (86, _)] ⟨rfl, rfl, rfl, rfl, rfl, trivial⟩ (CV.block ?_)))
     refine KV.sel [0, 0, 0, 0, 0, 0, 0, 0, 0] [_, _, _, _, _, _, _, _, _] rfl ?_
     refine CV.loop3 (fun (k : Nat) (t : PT) (last : Int) => (k ≤ 40 ∧ t.ds.length = l.length) ∧ t.T.ok lim ∧ ∀ x, x < t.ds.length → tmp t.D t.E x ≤ last) (fun (k : Nat) (t : PT) (last : Int) => 40 - k) (fun (k : Nat) (t : PT) (last : Int) => [(15, .pointer (some ⟨b3_6, 0, none⟩)), (16, .pointer (some ⟨t.a.b, 0, none⟩)), (19, .int .i64 m), (20, .int .i64 last), (86, .int .i64 k)]) (fun (k : Nat) (t : PT) (last : Int) => Hp I w (tobj t ++ [Blk b3_6 (.cells #[.slice A3 l.length c3, .slice B3 M.length d3, .int .i64 base, .int .i64 lim, .int .u64 bd] 35 (0, 0))])) (0) (t) (lim) ⟨⟨Nat.zero_le _, hinv.1.2⟩, hT, fun x hx => (hT.tm x (by have := hT.dl'; show x < t.D.length; omega)).2⟩ ⟨rfl, rfl, rfl, rfl, rfl, trivial⟩ (fun _ h => h) ?_
     intro k t last hinv2
     have hT := hinv2.2.1
     refine CV.seq (CV.region ?_)
     refine RV.op (OV.split gno (Step.lss rfl rfl) rfl (fun cc4 => ?_) (fun cc4 => ?_))
     ·
      refine RV.nil (KV.then_n (KV.env [(15, _), (16, _), (19, _), (20, _), (86, _), (87, _)] ⟨rfl, rfl, rfl, rfl, rfl, rfl, trivial⟩ (CV.seq (CV.cond_t rfl (CV.skip ?_)))))
      refine KV.then_n (KV.env [(15, _), (16, _), (19, _), (20, _), (86, _)] ⟨rfl, rfl, rfl, rfl, rfl, trivial⟩ (CV.seq (CV.block (CV.seq ?_))))
      have htl := hT.dl'
      have hlast : ∀ k, k < t.ds.length → (tmps t.D t.E).getD k (intK .i64).d ≤ last := fun k hk => by have h1 := hinv2.2.2 k hk; rwa [show (tmps t.D t.E).getD k (intK .i64).d = tmp t.D t.E k from tmps_at (by rw [htl]; exact hk)]
      refine CV.region ?_
      refine RV.m rfl rfl ?_
      refine RV.op (OV.call [0, 0, 0, 0, 0, 0, 0, 0] (F := [_]) Tryz.func21 B21 N21 rfl rfl (fun w h => temps_fn t hT) (fun _ hb => hb.elim) gno rfl (fun v L' hp => ?_))
      obtain ⟨A5, c5, rfl, rfl⟩ := hp
      refine RV.a rfl rfl ?_
      refine RV.nil (KV.then_n (KV.env [(15, _), (16, _), (19, _), (20, _), (21, _), (86, _)] ⟨rfl, rfl, rfl, rfl, rfl, rfl, trivial⟩ (CV.seq (CV.seq (CV.region ?_)))))
      refine RV.m rfl rfl (RV.s (Step.lenSl Tryz.underlying56 rfl) rfl (RV.s (Step.fieldAddr rfl (F35_0 _ _)) rfl (RV.s (Step.load Tryz.underlying22 rfl rfl (fun w h => h.cell 0 rfl rfl)) rfl (RV.s (Step.lenSl Tryz.underlying22 rfl) rfl ?_))))
      refine RV.op (OV.split gno (Step.neq rfl rfl) rfl (fun hne => ?_) (fun hne => ?_))
      ·
       exfalso; omega
      ·
       refine RV.nil (KV.then_n (KV.env [(15, _), (16, _), (19, _), (20, _), (21, _), (86, _), (95, _)] ⟨rfl, rfl, rfl, rfl, rfl, rfl, rfl, trivial⟩ (CV.cond_f rfl (CV.skip (KV.then_n ?_)))))
       refine KV.env [(15, _), (16, _), (19, _), (20, _), (21, _), (86, _)] ⟨rfl, rfl, rfl, rfl, rfl, rfl, trivial⟩ (CV.seq (CV.region ?_))
       refine RV.m rfl rfl ?_
       refine RV.op (OV.step gno (Step.idx Tryz.underlying56 I2 (fun w h => h.os 9 rfl) rfl rfl (by first | rfl | omega | (rw [tmps_len]; omega)) _ rfl (by first | omega | (rw [tmps_len]; omega) | (show 0 < _; omega) | (show 0 < _; rw [tmps_len]; omega))) rfl ?_)
       refine RV.s (Step.load Tryz.underlying2 rfl rfl (fun w h => (h.os 9 rfl).cell0 (by show 0 < _; rw [tmps_len]; omega) rfl)) rfl ?_
       refine RV.a rfl rfl ?_
       refine RV.nil (KV.then_n (KV.env [(15, _), (16, _), (19, _), (20, _), (21, _), (22, _), (86, _)] ⟨rfl, rfl, rfl, rfl, rfl, rfl, rfl, trivial⟩ (CV.seq (CV.seq ?_))))
       have hj0 := hlast 0 (by omega)
       refine CV.region ?_
       refine RV.a rfl rfl ?_
       refine RV.nil (KV.then_n (KV.env [(15, _), (16, _), (19, _), (20, _), (21, _), (22, _), (23, _), (86, _)] ⟨rfl, rfl, rfl, rfl, rfl, rfl, rfl, rfl, trivial⟩ (CV.block ?_)))
       refine KV.sel [1, 1, 1, 1, 1, 1, 1, 1, 0, 0] [_, _, _, _, _, _, _, _, _, _] rfl ?_
       refine CV.loop2 (fun (j : Nat) (hi : Int) => j ≤ t.ds.length ∧ (∀ k, k < j → (tmps t.D t.E).getD k (intK .i64).d ≤ hi) ∧ hi ≤ last) (fun (j : Nat) (hi : Int) => t.ds.length - j) (fun (j : Nat) (hi : Int) => [(15, .pointer (some ⟨b3_6, 0, none⟩)), (16, .pointer (some ⟨t.a.b, 0, none⟩)), (19, .int .i64 m), (20, .int .i64 last), (21, .slice A5 t.ds.length c5), (22, .int .i64 hi), (23, .int .i64 j), (86, .int .i64 k)]) (fun (j : Nat) (hi : Int) => Hp I w (tobj t ++ [Blk b3_6 (.cells #[.slice A3 l.length c3, .slice B3 M.length d3, .int .i64 base, .int .i64 lim, .int .u64 bd] 35 (0, 0)), OS 2 (intK .i64) A5 c5 (tmps t.D t.E)])) (0) (_) ⟨Nat.zero_le _, fun _ h => absurd h (Nat.not_lt_zero _), hj0⟩ ⟨rfl, rfl, rfl, rfl, rfl, rfl, rfl, rfl, trivial⟩ (fun _ h => h) ?_
       intro j hi hinv3
       refine CV.seq (CV.seq (CV.region ?_))
       refine RV.m rfl rfl (RV.m rfl rfl (RV.s (Step.lenSl Tryz.underlying56 rfl) rfl ?_))
       refine RV.op (OV.split gno (Step.lss rfl rfl) rfl (fun cc5 => ?_) (fun cc5 => ?_))
       ·
        refine RV.nil (KV.then_n (KV.env [(15, _), (16, _), (19, _), (20, _), (21, _), (22, _), (23, _), (86, _), (102, _)] ⟨rfl, rfl, rfl, rfl, rfl, rfl, rfl, rfl, rfl, trivial⟩ (CV.cond_t rfl (CV.skip (KV.then_n ?_)))))
        refine KV.env [(15, _), (16, _), (19, _), (20, _), (21, _), (22, _), (23, _), (86, _)] ⟨rfl, rfl, rfl, rfl, rfl, rfl, rfl, rfl, trivial⟩ (CV.seq (CV.block ?_))
        have hjl := hlast j (by omega)
        refine CV.region ?_
        refine RV.m rfl rfl (RV.m rfl rfl (RV.m rfl rfl ?_))
        refine RV.op (OV.step gno (Step.idx Tryz.underlying56 I2 (fun w h => h.os 9 rfl) rfl rfl (by first | rfl | omega | (rw [tmps_len]; omega)) _ rfl (by first | omega | (rw [tmps_len]; omega) | (show 0 < _; omega) | (show 0 < _; rw [tmps_len]; omega))) rfl ?_)
        refine RV.s (Step.load Tryz.underlying2 rfl rfl (fun w h => (h.os 9 rfl).cell0 (by rw [tmps_len]; omega) rfl)) rfl ?_
        refine RV.s (Step.max2 rfl rfl) rfl (RV.a rfl rfl ?_)
        refine RV.nil (KV.block_n (KV.then_n (KV.env [(15, _), (16, _), (19, _), (20, _), (21, _), (22, _), (23, _), (86, _)] ⟨rfl, rfl, rfl, rfl, rfl, rfl, rfl, rfl, trivial⟩ (CV.region ?_))))
        refine RV.m rfl rfl ?_
        (first | refine RV.op (OV.step gno (Step.add rfl rfl (wI64 (by omega) (by omega))) rfl ?_) | refine RV.op (OV.step gno (Step.add rfl rfl rfl) rfl ?_))
        refine RV.a rfl rfl ?_
        refine RV.nil (KV.then_n (KV.env [(15, _), (16, _), (19, _), (20, _), (21, _), (22, _), (23, _), (86, _)] ⟨rfl, rfl, rfl, rfl, rfl, rfl, rfl, rfl, trivial⟩ ?_))
        refine KV.sel [0, 0, 0, 0, 0, 0, 0, 0, 0, 0] [_, _, _, _, _, _, _, _, _, _] rfl ?_
        exact KV.loop2 (x := j) (y := hi) (j + 1) (_) ⟨by omega, fun x hx => by by_cases e : x = j; (subst e; omega); have := hinv3.2.1 x (by omega); omega, by have := hinv3.2.2; omega⟩ (by omega) ⟨rfl, rfl, rfl, rfl, rfl, rfl, rfl, rfl, trivial⟩ (fun _ h => h)
       ·
        refine RV.nil (KV.then_n (KV.env [(15, _), (16, _), (19, _), (20, _), (21, _), (22, _), (23, _), (86, _), (102, _)] ⟨rfl, rfl, rfl, rfl, rfl, rfl, rfl, rfl, rfl, trivial⟩ (CV.cond_f rfl (CV.exit (KV.then_exit ?_)))))
        refine KV.then_exit (KV.block_hit (KV.then_n (KV.env [(15, _), (16, _), (19, _), (20, _), (22, _), (86, _)] ⟨rfl, rfl, rfl, rfl, rfl, rfl, trivial⟩ (CV.seq (CV.seq ?_)))))
        refine CV.region ?_
        refine RV.m rfl rfl (RV.m rfl rfl ?_)
        refine RV.op (OV.split gno (Step.gtr rfl rfl) rfl (fun h6 => ?_) (fun h6 => ?_))
        ·
         exfalso; have := hinv3.2.2; omega
        ·
         refine RV.nil (KV.then_n (KV.env [(15, _), (16, _), (19, _), (22, _), (86, _), (113, _)] ⟨rfl, rfl, rfl, rfl, rfl, rfl, trivial⟩ (CV.cond_f rfl (CV.skip (KV.then_n ?_)))))
         refine KV.env [(15, _), (16, _), (19, _), (22, _), (86, _)] ⟨rfl, rfl, rfl, rfl, rfl, trivial⟩ (CV.seq ?_)
         have hjj : j = t.ds.length := by omega
         subst hjj
         refine CV.region ?_
         refine RV.m rfl rfl (RV.a rfl rfl ?_)
         refine RV.nil (KV.then_n (KV.env [(15, _), (16, _), (19, _), (20, _), (86, _)] ⟨rfl, rfl, rfl, rfl, rfl, trivial⟩ (CV.region ?_)))
         refine RV.m rfl rfl (RV.m rfl rfl ?_)
         refine RV.op (OV.call [0, 0, 0, 0, 0, 0, 0, 0] (F := [_, _]) Tryz.func17 B17 N17 rfl rfl (fun w h => runA_fn t hT (by omega) _) (fun _ hb => hb.elim) gno rfl (fun v L' hp => ?_))
         obtain ⟨t4, hR, ha4, hn4, hT4, hbs4, rfl⟩ := hp
         rw [← ha4]
         have hco := hR.cool hT hm1 (hi := hi) (fun x hx => by have h1 := hinv3.2.1 x (by rw [← htl]; exact hx); rwa [show (tmps t.D t.E).getD x (intK .i64).d = tmp t.D t.E x from tmps_at hx] at h1)
         have hdl4 := hT4.dl'
         refine RV.nil (KV.block_n (KV.then_n (KV.env [(15, _), (16, _), (19, _), (20, _), (86, _)] ⟨rfl, rfl, rfl, rfl, rfl, trivial⟩ (CV.region ?_))))
         (first | refine RV.op (OV.step gno (Step.add rfl rfl (wI64 (by omega) (by omega))) rfl ?_) | refine RV.op (OV.step gno (Step.add rfl rfl rfl) rfl ?_))
         refine RV.m rfl rfl ?_
         refine RV.nil (KV.then_n (KV.env [(15, _), (16, _), (19, _), (20, _), (86, _)] ⟨rfl, rfl, rfl, rfl, rfl, trivial⟩ ?_))
         refine KV.sel [2, 2, 2, 2, 2, 2, 2, 2, 0] [_, _, _, _, _, _, _, _, _] rfl ?_
         exact KV.loop3 (x := k) (y := t) (z := last) (k + 1) (t4) (hi) ⟨⟨by omega, by omega⟩, hT4, fun x hx => hco x (show x < t.D.length by omega)⟩ (by omega) ⟨rfl, rfl, rfl, rfl, rfl, trivial⟩ (fun _ h => h)
     ·
      refine RV.nil (KV.then_n (KV.env [(15, _), (16, _), (19, _), (20, _), (86, _), (87, _)] ⟨rfl, rfl, rfl, rfl, rfl, rfl, trivial⟩ (CV.seq (CV.cond_f rfl (CV.exit ?_)))))
      refine KV.then_exit (KV.then_exit (KV.block_hit (KV.then_n (KV.env [] trivial (CV.seq ?_)))))
      refine CV.region ?_
      refine RV.op (OV.call [] (F := [_, _, _, _, _, _, _, _, _]) Tryz.func10 B10 N10 rfl rfl (fun w h => awake_fn) (fun _ hb => hb.elim) gno rfl (fun v L' hp => ?_))
      obtain ⟨rfl, rfl⟩ := hp
      simp only [List.append_nil]
      refine RV.a rfl rfl ?_
      refine RV.nil (KV.then_n (KV.env [(14, _)] ⟨rfl, trivial⟩ (CV.ret ?_)))
      refine KV.sel [] [] rfl ?_
      exact KV.ret1 rfl rfl _ (fun _ h => h) ⟨rfl, rfl⟩
end Go.Proofs.YtdfkpdcpegcieaaGreatDoor
