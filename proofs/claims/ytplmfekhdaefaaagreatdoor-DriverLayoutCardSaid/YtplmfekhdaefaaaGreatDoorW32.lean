/-
 Walks, part 32.
-/
import Derived.Test.YtplmfekhdaefaaaGreatDoorTabA
import Derived.Test.YtplmfekhdaefaaaGreatDoorW16
import Derived.Test.YtplmfekhdaefaaaGreatDoorDm27
set_option linter.unusedSimpArgs false
set_option linter.unusedVariables false
namespace Go.Proofs.YtplmfekhdaefaaaGreatDoor
open Go.Sv Go.Drv
set_option maxRecDepth 100000 in
set_option maxHeartbeats 4000000 in
theorem eqT_fn (t : Tr) {A1 A2 : Option Addr} {c1 c2 : Nat} {w : World} (hs1 : RS w roK A1 t.ops) (hs2 : RS w roK A2 t.ops) (hl : t.ops.length ≤ 1000000) : Fx Tryz.prog 36 [.agg #[.int .i64 t.frm, .string (bs t.ev), .bool t.gd.used, .int .u64 t.gd.reg, .int .u64 t.gd.mask, .int .u64 t.gd.val, .slice A1 t.ops.length c1, .int .i64 t.to], .agg #[.int .i64 t.frm, .string (bs t.ev), .bool t.gd.used, .int .u64 t.gd.reg, .int .u64 t.gd.mask, .int .u64 t.gd.val, .slice A2 t.ops.length c2, .int .i64 t.to]] w [] no (fun v L => v = .bool true ∧ L = []) := by
 refine Sv.Fx.body Tryz.func36 rfl T36 rfl ?_
 intro I hro hI
 refine KV.env [(0, _), (1, _)] ⟨rfl, rfl, trivial⟩ (CV.seq (CV.region ?_))
 refine RV.op (OV.box (t := 48) #[_, _, _, _, _, _, _, _] rfl rfl gno rfl (fun x => ?_))
 refine RV.op (OV.box (t := 48) #[_, _, _, _, _, _, _, _] rfl rfl gno rfl (fun y => ?_))
 refine RV.a rfl rfl ?_
 refine RV.nil (KV.then_n (KV.env [(2, _), (3, _)] ⟨rfl, rfl, trivial⟩ (CV.seq (CV.region ?_))))
 refine RV.s (Step.fieldAddr rfl (F48_0 _ _)) rfl (RV.s (Step.load Tryz.underlying3 rfl rfl (fun w h => h.cell 0 rfl rfl)) rfl (RV.s (Step.fieldAddr rfl (F48_0 _ _)) rfl (RV.s (Step.load Tryz.underlying3 rfl rfl (fun w h => h.cell 1 rfl rfl)) rfl ?_)))
 refine RV.op (OV.split gno (Step.eql rfl rfl) rfl (fun e1 => ?_) (fun e1 => ?_))
 ·
  refine RV.m rfl rfl (RV.gw rfl (Step.fieldAddr rfl (F48_1 _ _)) rfl (RV.gw rfl (Step.load Tryz.underlying9 rfl rfl (fun w h => h.cell 0 rfl rfl)) rfl (RV.gw rfl (Step.fieldAddr rfl (F48_1 _ _)) rfl (RV.gw rfl (Step.load Tryz.underlying9 rfl rfl (fun w h => h.cell 1 rfl rfl)) rfl ?_))))
  refine RV.op (OV.split (gyes rfl) (Step.eqlStr rfl rfl) rfl (fun e2 => ?_) (fun e2 => ?_))
  ·
   refine RV.s (Step.pick_t rfl rfl) rfl (RV.m rfl rfl (RV.gw rfl (Step.fieldAddr rfl (F48_2 _ _)) rfl (RV.gw rfl (Step.loadN _ Tryz.underlying45 rfl I45 rfl rfl (fun w h => cells_off 2 (us := [.bool t.gd.used, .int .u64 t.gd.reg, .int .u64 t.gd.mask, .int .u64 t.gd.val]) (h.cells 0 rfl) rfl)) rfl (RV.gw rfl (Step.fieldAddr rfl (F48_2 _ _)) rfl (RV.gw rfl (Step.loadN _ Tryz.underlying45 rfl I45 rfl rfl (fun w h => cells_off 2 (us := [.bool t.gd.used, .int .u64 t.gd.reg, .int .u64 t.gd.mask, .int .u64 t.gd.val]) (h.cells 1 rfl) rfl)) rfl ?_)))))
   refine RV.op (OV.split (gyes rfl) (Step.binR rfl rfl (EG45eql _ _ _ _) (EQ45eql _ _ _ _ _ _ _ _)) rfl (fun e3 => ?_) (fun e3 => ?_))
   ·
    refine RV.s (Step.pick_t rfl rfl) rfl (RV.m rfl rfl (RV.gw rfl (Step.fieldAddr rfl (F48_3 _ _)) rfl (RV.gw rfl (Step.load Tryz.underlying46 rfl rfl (fun w h => h.cell 0 rfl rfl)) rfl (RV.gw rfl (Step.fieldAddr rfl (F48_3 _ _)) rfl (RV.gw rfl (Step.load Tryz.underlying46 rfl rfl (fun w h => h.cell 1 rfl rfl)) rfl ?_)))))
    refine RV.op (OV.call [] (F := [_, _]) Tryz.func37 B37 N37 rfl rfl (fun w h => eqRo_fn (h.rs hs1 fun _ => hI _) (h.rs hs2 fun _ => hI _) hl hl) (fun _ hb => hb.elim) (gyes rfl) rfl (fun v L' hp => ?_))
    rw [decide_eq_true (rfl : t.ops = t.ops)] at hp
    obtain ⟨rfl, rfl⟩ := hp
    simp only [List.append_nil]
    refine RV.s (Step.pick_t rfl rfl) rfl (RV.m rfl rfl (RV.gw rfl (Step.fieldAddr rfl (F48_4 _ _)) rfl (RV.gw rfl (Step.load Tryz.underlying3 rfl rfl (fun w h => h.cell 0 rfl rfl)) rfl (RV.gw rfl (Step.fieldAddr rfl (F48_4 _ _)) rfl (RV.gw rfl (Step.load Tryz.underlying3 rfl rfl (fun w h => h.cell 1 rfl rfl)) rfl ?_)))))
    refine RV.op (OV.split (gyes rfl) (Step.eql rfl rfl) rfl (fun e4 => ?_) (fun e4 => ?_))
    ·
     refine RV.s (Step.pick_t rfl rfl) rfl (RV.a rfl rfl ?_)
     refine RV.nil (KV.then_n (KV.env [(4, _)] ⟨rfl, trivial⟩ (CV.ret ?_)))
     refine KV.sel [] [] rfl ?_
     exact KV.ret1 rfl rfl _ (fun _ h => h) ⟨rfl, rfl⟩
    ·
     exact absurd rfl e4
   ·
    exact absurd ⟨rfl, rfl, rfl, rfl⟩ e3
  ·
   exact absurd rfl e2
 ·
  exact absurd rfl e1

theorem eqT2_fn (h1 h2 : TH) {w : World} (e : h1.t = h2.t) (hs1 : RS w roK h1.A h1.t.ops) (hs2 : RS w roK h2.A h2.t.ops) (hl : h1.t.ops.length ≤ 1000000) : Fx Tryz.prog 36 [.agg #[.int .i64 h1.t.frm, .string (bs h1.t.ev), .bool h1.t.gd.used, .int .u64 h1.t.gd.reg, .int .u64 h1.t.gd.mask, .int .u64 h1.t.gd.val, .slice h1.A h1.t.ops.length h1.c, .int .i64 h1.t.to], .agg #[.int .i64 h2.t.frm, .string (bs h2.t.ev), .bool h2.t.gd.used, .int .u64 h2.t.gd.reg, .int .u64 h2.t.gd.mask, .int .u64 h2.t.gd.val, .slice h2.A h2.t.ops.length h2.c, .int .i64 h2.t.to]] w [] no (fun v L => v = .bool true ∧ L = []) := by
 obtain ⟨t1, A1, c1⟩ := h1
 obtain ⟨t2, A2, c2⟩ := h2
 simp only [] at e
 subst e
 exact eqT_fn t1 hs1 hs2 hl
theorem mapT {l1 l2 : List TH} (he : l1.map (·.t) = l2.map (·.t)) (j : Nat) : (l1.getD j thK.d).t = (l2.getD j thK.d).t := by
 rw [← trA_th, ← trA_th, he]

set_option maxRecDepth 100000 in
set_option maxHeartbeats 4000000 in
theorem eqTs_fn {A B : Option Addr} {c1 c2 : Nat} {l1 l2 : List TH} {w : World} (hs1 : RS w thK A l1) (hs2 : RS w thK B l2) (ho1 : ∀ i, i < l1.length → RS w roK (l1.getD i thK.d).A (l1.getD i thK.d).t.ops) (ho2 : ∀ i, i < l2.length → RS w roK (l2.getD i thK.d).A (l2.getD i thK.d).t.ops) (hl : l1.length ≤ 1000000) (hlo : ∀ i, i < l1.length → (l1.getD i thK.d).t.ops.length ≤ 1000000) (he : l1.map (·.t) = l2.map (·.t)) : Fx Tryz.prog 35 [.slice A l1.length c1, .slice B l2.length c2, .func (.func 36) #[] #[]] w [] no (fun v L => v = .bool true ∧ L = []) := by
 refine Sv.Fx.body Tryz.func35 rfl T35 rfl ?_
 intro I hro hI
 refine KV.env [(0, _), (1, _), (2, _)] ⟨rfl, rfl, rfl, trivial⟩ ?_
 have hlen : l1.length = l2.length := by have := congrArg List.length he; simpa using this
 refine CV.seq (CV.region ?_)
 refine RV.a rfl rfl ?_
 refine RV.nil (KV.then_n (KV.env [(0, _), (1, _), (2, _)] ⟨rfl, rfl, rfl, trivial⟩ (CV.seq (CV.seq (CV.region ?_)))))
 refine RV.m rfl rfl (RV.s (Step.lenSl Tryz.underlying23 rfl) rfl (RV.m rfl rfl (RV.s (Step.lenSl Tryz.underlying23 rfl) rfl ?_)))
 refine RV.op (OV.split gno (Step.neq rfl rfl) rfl (fun n1 => ?_) (fun n1 => ?_))
 ·
  omega
 ·
  refine RV.nil (KV.then_n (KV.env [(0, _), (1, _), (2, _), (12, _)] ⟨rfl, rfl, rfl, rfl, trivial⟩ (CV.cond_f rfl (CV.skip (KV.then_n ?_)))))
  refine KV.env [(0, _), (1, _), (2, _)] ⟨rfl, rfl, rfl, trivial⟩ (CV.seq (CV.seq (CV.region ?_)))
  refine RV.a rfl rfl ?_
  refine RV.nil (KV.then_n (KV.env [(0, _), (1, _), (2, _), (7, _)] ⟨rfl, rfl, rfl, rfl, trivial⟩ (CV.block ?_)))
  refine KV.sel [] [] rfl ?_
  refine CV.loopI (fun (j : Nat) => j ≤ l1.length) (fun (j : Nat) => l1.length - j) (fun (j : Nat) => [(0, .slice A l1.length c1), (1, .slice B l2.length c2), (2, .func (.func 36) #[] #[]), (7, .int .i64 j)]) (fun (j : Nat) => Hp I w []) (0) (Nat.zero_le _) ⟨rfl, rfl, rfl, rfl, trivial⟩ (fun _ h => h) ?_
  intro j hinv
  refine CV.seq (CV.seq (CV.region ?_))
  refine RV.m rfl rfl (RV.m rfl rfl (RV.s (Step.lenSl Tryz.underlying23 rfl) rfl ?_))
  refine RV.op (OV.split gno (Step.lss rfl rfl) rfl (fun hj => ?_) (fun hj => ?_))
  ·
   refine RV.nil (KV.then_n (KV.env [(0, _), (1, _), (2, _), (7, _), (16, _)] ⟨rfl, rfl, rfl, rfl, rfl, trivial⟩ (CV.cond_t rfl (CV.skip (KV.then_n ?_)))))
   refine KV.env [(0, _), (1, _), (2, _), (7, _)] ⟨rfl, rfl, rfl, rfl, trivial⟩ (CV.seq (CV.block (CV.seq ?_)))
   refine CV.any (Hp I w []) (by kernel_rfl) (fun _ h => h.drew) 11 rfl ?_
   refine AV.u 0 (bl 11 1) rfl gno (Step.move rfl) rfl (fun _ h => h.sel [] rfl) ?_
   refine AV.u 1 (bl 11 3) rfl gno (Step.move rfl) rfl (fun _ h => h.sel [] rfl) ?_
   refine AV.u 2 (bl 11 7) rfl gno (Step.move rfl) rfl (fun _ h => h.sel [] rfl) ?_
   refine AV.u 3 (bl 11 15) rfl gno (Step.idx Tryz.underlying23 I48 (fun w h => (h.rs hs1 fun _ => hI _)) rfl rfl (rfl) _ rfl (by omega)) rfl (fun _ h => h.sel [] rfl) ?_
   refine AV.u 4 (bl 11 31) rfl gno (Step.loadN _ Tryz.underlying48 rfl I48 rfl rfl (fun w h => (h.rs hs1 fun _ => hI _).cells (by omega))) rfl (fun _ h => h.sel [] rfl) ?_
   refine AV.u 5 (bl 11 63) rfl gno (Step.move rfl) rfl (fun _ h => h.sel [] rfl) ?_
   refine AV.u 6 (bl 11 127) rfl gno (Step.move rfl) rfl (fun _ h => h.sel [] rfl) ?_
   refine AV.u 7 (bl 11 255) rfl gno (Step.idx Tryz.underlying23 I48 (fun w h => (h.rs hs2 fun _ => hI _)) rfl rfl (rfl) _ rfl (by omega)) rfl (fun _ h => h.sel [] rfl) ?_
   refine AV.u 8 (bl 11 511) rfl gno (Step.loadN _ Tryz.underlying48 rfl I48 rfl rfl (fun w h => (h.rs hs2 fun _ => hI _).cells (by omega))) rfl (fun _ h => h.sel [] rfl) ?_
   refine AV.all [9] (by kernel_rfl) (by decide) ?_
   refine ⟨⟨_, rfl, ?_⟩, trivial⟩
   ·
    refine OV.callv [] (F := []) (caps := []) rfl Tryz.func36 B36 N36 rfl rfl (fun w h => eqT2_fn (l1.getD j thK.d) (l2.getD j thK.d) (mapT he j) (h.rs (ho1 j (by omega)) fun _ => hI _) (h.rs (ho2 j (by omega)) fun _ => hI _) (hlo j (by omega))) (fun _ hb => hb.elim) gno rfl (fun v L' hp => ?_)
    obtain ⟨rfl, rfl⟩ := hp
    simp only [List.append_nil]
    refine AV.next (bl 11 1023) (by kernel_rfl) (fun _ h => h.sel [] rfl) ?_
    refine AV.u 10 (bl 11 2047) rfl gno (Step.not rfl) rfl (fun _ h => h.sel [] rfl) ?_
    refine AV.done (by kernel_rfl) ?_
    refine KV.then_n (KV.env [(0, _), (1, _), (2, _), (7, _), (29, _)] ⟨rfl, rfl, rfl, rfl, rfl, trivial⟩ (CV.cond_f rfl (CV.skip (KV.block_n (KV.then_n ?_)))))
    refine KV.env [(0, _), (1, _), (2, _), (7, _)] ⟨rfl, rfl, rfl, rfl, trivial⟩ (CV.region ?_)
    refine RV.m rfl rfl ?_
    (first | refine RV.op (OV.step gno (Step.add rfl rfl (wI64 (by omega) (by omega))) rfl ?_) | refine RV.op (OV.step gno (Step.add rfl rfl rfl) rfl ?_))
    refine RV.a rfl rfl ?_
    refine RV.nil (KV.then_n (KV.env [(0, _), (1, _), (2, _), (7, _)] ⟨rfl, rfl, rfl, rfl, trivial⟩ ?_))
    refine KV.sel [] [] rfl ?_
    exact KV.loopI (z := j) (j + 1) (by omega) (by omega) ⟨rfl, rfl, rfl, rfl, trivial⟩ (fun _ h => h)
  ·
   refine RV.nil (KV.then_n (KV.env [(0, _), (1, _), (2, _), (7, _), (16, _)] ⟨rfl, rfl, rfl, rfl, rfl, trivial⟩ (CV.cond_f rfl (CV.exit (KV.then_exit ?_)))))
   refine KV.then_exit (KV.block_hit (KV.then_n (KV.env [] trivial (CV.seq (CV.region ?_)))))
   refine RV.a rfl rfl ?_
   refine RV.nil (KV.then_n (KV.env [(6, _)] ⟨rfl, trivial⟩ (CV.ret ?_)))
   refine KV.sel [] [] rfl ?_
   exact KV.ret1 rfl rfl _ (fun _ h => h) ⟨rfl, rfl⟩

set_option maxRecDepth 100000 in
set_option maxHeartbeats 4000000 in
theorem eqD_fn (a b : DH) {w : World} (ha : DR w a) (hb : DR w b) (he : a.d = b.d) (hsm : SmH a) : Fx Tryz.prog 14 [.agg #[.string (bs a.name), .slice a.sA a.ss.length a.sc, .slice a.tA a.hs.length a.tc], .agg #[.string (bs b.name), .slice b.sA b.ss.length b.sc, .slice b.tA b.hs.length b.tc]] w [] no (fun v L => v = .bool true ∧ L = []) := by
 refine Sv.Fx.body Tryz.func14 rfl T14 rfl ?_
 intro I hro hI
 refine KV.env [(0, _), (1, _)] ⟨rfl, rfl, trivial⟩ ?_
 have e1 : a.name = b.name := congrArg Dv.name he
 have e2 : a.ss = b.ss := congrArg Dv.ss he
 have e3 : a.hs.map (·.t) = b.hs.map (·.t) := congrArg Dv.ts he
 refine CV.seq (CV.region ?_)
 refine RV.op (OV.box (t := 25) #[_, _, _] rfl rfl gno rfl (fun x => ?_))
 refine RV.op (OV.box (t := 25) #[_, _, _] rfl rfl gno rfl (fun y => ?_))
 refine RV.a rfl rfl ?_
 refine RV.nil (KV.then_n (KV.env [(2, _), (3, _)] ⟨rfl, rfl, trivial⟩ (CV.seq (CV.region ?_))))
 refine RV.s (Step.fieldAddr rfl (F25_0 _ _)) rfl (RV.s (Step.load Tryz.underlying9 rfl rfl (fun w h => h.cell 0 rfl rfl)) rfl (RV.s (Step.fieldAddr rfl (F25_0 _ _)) rfl (RV.s (Step.load Tryz.underlying9 rfl rfl (fun w h => h.cell 1 rfl rfl)) rfl ?_)))
 refine RV.op (OV.split gno (Step.eqlStr rfl rfl) rfl (fun n1 => ?_) (fun n1 => ?_))
 ·
  refine RV.m rfl rfl (RV.gw rfl (Step.fieldAddr rfl (F25_1 _ _)) rfl (RV.gw rfl (Step.load Tryz.underlying22 rfl rfl (fun w h => h.cell 0 rfl rfl)) rfl (RV.gw rfl (Step.fieldAddr rfl (F25_1 _ _)) rfl (RV.gw rfl (Step.load Tryz.underlying22 rfl rfl (fun w h => h.cell 1 rfl rfl)) rfl ?_))))
  refine RV.op (OV.call [] (F := [_, _]) Tryz.func34 B34 N34 rfl rfl (fun w h => eqStr_fn (DR.keep h ha hI).s (DR.keep h hb hI).s hsm.s (by rw [← e2]; exact hsm.s)) (fun _ hb => hb.elim) (gyes rfl) rfl (fun v L' hp => ?_))
  rw [decide_eq_true e2] at hp
  obtain ⟨rfl, rfl⟩ := hp
  simp only [List.append_nil]
  refine RV.s (Step.pick_t rfl rfl) rfl (RV.m rfl rfl (RV.gw rfl (Step.fieldAddr rfl (F25_2 _ _)) rfl (RV.gw rfl (Step.load Tryz.underlying23 rfl rfl (fun w h => h.cell 0 rfl rfl)) rfl (RV.gw rfl (Step.fieldAddr rfl (F25_2 _ _)) rfl (RV.gw rfl (Step.load Tryz.underlying23 rfl rfl (fun w h => h.cell 1 rfl rfl)) rfl ?_)))))
  refine RV.op (OV.call [] (F := [_, _]) Tryz.func35 B35 N35 rfl rfl (fun w h => eqTs_fn (DR.keep h ha hI).t (DR.keep h hb hI).t (DR.keep h ha hI).o (DR.keep h hb hI).o hsm.t hsm.o e3) (fun _ hb => hb.elim) (gyes rfl) rfl (fun v L' hp => ?_))
  obtain ⟨rfl, rfl⟩ := hp
  simp only [List.append_nil]
  refine RV.s (Step.pick_t rfl rfl) rfl (RV.a rfl rfl ?_)
  refine RV.nil (KV.then_n (KV.env [(4, _)] ⟨rfl, trivial⟩ (CV.ret ?_)))
  refine KV.sel [] [] rfl ?_
  exact KV.ret1 rfl rfl _ (fun _ h => h) ⟨rfl, rfl⟩
 ·
  exact absurd e1 n1

end Go.Proofs.YtplmfekhdaefaaaGreatDoor
