/-
  Walks, part 32.
-/
import Derived.Test.YtplmfekhdaefaaaDoorTab32
import Derived.Test.YtplmfekhdaefaaaDoorW31
import Derived.Test.YtplmfekhdaefaaaDoorW16
import Derived.Test.YtplmfekhdaefaaaDoorDm27
set_option linter.unusedSimpArgs false
set_option linter.unusedVariables false
namespace Go.Proofs.YtplmfekhdaefaaaDoor
open Go.Sv Go.Drv
set_option maxRecDepth 100000 in
set_option maxHeartbeats 4000000 in
theorem eqT_fn (t : Tr) {A1 A2 : Option Addr} {c1 c2 : Nat} {w : World} (hs1 : RS w roK A1 t.ops) (hs2 : RS w roK A2 t.ops) (hl : t.ops.length ≤ 1000000) : Fx Tryd.prog 44 [.agg #[.int .i64 t.frm, .string (bs t.ev), .bool t.gd.used, .int .u64 t.gd.reg, .int .u64 t.gd.mask, .int .u64 t.gd.val, .slice A1 t.ops.length c1, .int .i64 t.to], .agg #[.int .i64 t.frm, .string (bs t.ev), .bool t.gd.used, .int .u64 t.gd.reg, .int .u64 t.gd.mask, .int .u64 t.gd.val, .slice A2 t.ops.length c2, .int .i64 t.to]] w [] no (fun v L => v = .bool true ∧ L = []) := by
  refine Sv.Fx.body Tryd.func44 rfl T44 rfl ?_
  intro I hro hI
  refine KV.env [(0, _), (1, _)] ⟨rfl, rfl, trivial⟩ (CV.seq (CV.region ?_))
  refine RV.op (OV.box (t := 61) #[_, _, _, _, _, _, _, _] rfl rfl gno rfl (fun x => ?_))
  refine RV.op (OV.box (t := 61) #[_, _, _, _, _, _, _, _] rfl rfl gno rfl (fun y => ?_))
  refine RV.op (OV.step gno (Step.assign rfl) rfl ?_)
  refine RV.nil (KV.then_n (KV.env [(2, _), (3, _)] ⟨rfl, rfl, trivial⟩ (CV.seq (CV.region ?_))))
  refine RV.op (OV.step gno (Step.fieldAddr rfl (F61_0 _ _)) rfl ?_)
  refine RV.op (OV.step gno (Step.load Tryd.underlying3 rfl rfl (fun w h => h.cell 0 rfl rfl)) rfl ?_)
  refine RV.op (OV.step gno (Step.fieldAddr rfl (F61_0 _ _)) rfl ?_)
  refine RV.op (OV.step gno (Step.load Tryd.underlying3 rfl rfl (fun w h => h.cell 1 rfl rfl)) rfl ?_)
  refine RV.op (OV.split gno (Step.eql rfl rfl) rfl (fun e1 => ?_) (fun e1 => ?_))
  · -- True
    refine RV.op (OV.step gno (Step.move rfl) rfl ?_)
    refine RV.op (OV.step (gyes rfl) (Step.fieldAddr rfl (F61_1 _ _)) rfl ?_)
    refine RV.op (OV.step (gyes rfl) (Step.load Tryd.underlying9 rfl rfl (fun w h => h.cell 0 rfl rfl)) rfl ?_)
    refine RV.op (OV.step (gyes rfl) (Step.fieldAddr rfl (F61_1 _ _)) rfl ?_)
    refine RV.op (OV.step (gyes rfl) (Step.load Tryd.underlying9 rfl rfl (fun w h => h.cell 1 rfl rfl)) rfl ?_)
    refine RV.op (OV.split (gyes rfl) (Step.eqlStr rfl rfl) rfl (fun e2 => ?_) (fun e2 => ?_))
    · -- True
      refine RV.op (OV.step gno (Step.pick_t rfl rfl) rfl ?_)
      refine RV.op (OV.step gno (Step.move rfl) rfl ?_)
      refine RV.op (OV.step (gyes rfl) (Step.fieldAddr rfl (F61_2 _ _)) rfl ?_)
      refine RV.op (OV.step (gyes rfl) (Step.loadN _ Tryd.underlying59 rfl I59 rfl rfl (fun w h => cells_off 2 (us := [.bool t.gd.used, .int .u64 t.gd.reg, .int .u64 t.gd.mask, .int .u64 t.gd.val]) (h.cells 0 rfl) rfl)) rfl ?_)
      refine RV.op (OV.step (gyes rfl) (Step.fieldAddr rfl (F61_2 _ _)) rfl ?_)
      refine RV.op (OV.step (gyes rfl) (Step.loadN _ Tryd.underlying59 rfl I59 rfl rfl (fun w h => cells_off 2 (us := [.bool t.gd.used, .int .u64 t.gd.reg, .int .u64 t.gd.mask, .int .u64 t.gd.val]) (h.cells 1 rfl) rfl)) rfl ?_)
      refine RV.op (OV.split (gyes rfl) (Step.binR rfl rfl (EG59eql _ _ _ _) (EQ59eql _ _ _ _ _ _ _ _)) rfl (fun e3 => ?_) (fun e3 => ?_))
      · -- True
        refine RV.op (OV.step gno (Step.pick_t rfl rfl) rfl ?_)
        refine RV.op (OV.step gno (Step.move rfl) rfl ?_)
        refine RV.op (OV.step (gyes rfl) (Step.fieldAddr rfl (F61_3 _ _)) rfl ?_)
        refine RV.op (OV.step (gyes rfl) (Step.load Tryd.underlying46 rfl rfl (fun w h => h.cell 0 rfl rfl)) rfl ?_)
        refine RV.op (OV.step (gyes rfl) (Step.fieldAddr rfl (F61_3 _ _)) rfl ?_)
        refine RV.op (OV.step (gyes rfl) (Step.load Tryd.underlying46 rfl rfl (fun w h => h.cell 1 rfl rfl)) rfl ?_)
        refine RV.op (OV.call [] (F := [_, _]) Tryd.func45 B45 N45 rfl rfl (fun w h => eqRo_fn (h.rs hs1 fun _ => hI _) (h.rs hs2 fun _ => hI _) hl hl) (fun _ hb => hb.elim) (gyes rfl) rfl (fun v L' hp => ?_))
        rw [decide_eq_true (rfl : t.ops = t.ops)] at hp
        obtain ⟨rfl, rfl⟩ := hp
        simp only [List.append_nil]
        refine RV.op (OV.step gno (Step.pick_t rfl rfl) rfl ?_)
        refine RV.op (OV.step gno (Step.move rfl) rfl ?_)
        refine RV.op (OV.step (gyes rfl) (Step.fieldAddr rfl (F61_4 _ _)) rfl ?_)
        refine RV.op (OV.step (gyes rfl) (Step.load Tryd.underlying3 rfl rfl (fun w h => h.cell 0 rfl rfl)) rfl ?_)
        refine RV.op (OV.step (gyes rfl) (Step.fieldAddr rfl (F61_4 _ _)) rfl ?_)
        refine RV.op (OV.step (gyes rfl) (Step.load Tryd.underlying3 rfl rfl (fun w h => h.cell 1 rfl rfl)) rfl ?_)
        refine RV.op (OV.split (gyes rfl) (Step.eql rfl rfl) rfl (fun e4 => ?_) (fun e4 => ?_))
        · -- True
          refine RV.op (OV.step gno (Step.pick_t rfl rfl) rfl ?_)
          refine RV.op (OV.step gno (Step.assign rfl) rfl ?_)
          refine RV.nil (KV.then_n (KV.env [(4, _)] ⟨rfl, trivial⟩ (CV.ret ?_)))
          refine KV.sel [] [] rfl ?_
          exact KV.ret1 rfl rfl _ (fun _ h => h) ⟨rfl, rfl⟩
        · -- False
          exact absurd rfl e4
      · -- False
        exact absurd ⟨rfl, rfl, rfl, rfl⟩ e3
    · -- False
      exact absurd rfl e2
  · -- False
    exact absurd rfl e1

theorem eqT2_fn (h1 h2 : TH) {w : World} (e : h1.t = h2.t) (hs1 : RS w roK h1.A h1.t.ops) (hs2 : RS w roK h2.A h2.t.ops) (hl : h1.t.ops.length ≤ 1000000) : Fx Tryd.prog 44 [.agg #[.int .i64 h1.t.frm, .string (bs h1.t.ev), .bool h1.t.gd.used, .int .u64 h1.t.gd.reg, .int .u64 h1.t.gd.mask, .int .u64 h1.t.gd.val, .slice h1.A h1.t.ops.length h1.c, .int .i64 h1.t.to], .agg #[.int .i64 h2.t.frm, .string (bs h2.t.ev), .bool h2.t.gd.used, .int .u64 h2.t.gd.reg, .int .u64 h2.t.gd.mask, .int .u64 h2.t.gd.val, .slice h2.A h2.t.ops.length h2.c, .int .i64 h2.t.to]] w [] no (fun v L => v = .bool true ∧ L = []) := by
  obtain ⟨t1, A1, c1⟩ := h1
  obtain ⟨t2, A2, c2⟩ := h2
  simp only [] at e
  subst e
  exact eqT_fn t1 hs1 hs2 hl
theorem mapT {l1 l2 : List TH} (he : l1.map (·.t) = l2.map (·.t)) (j : Nat) : (l1.getD j thK.d).t = (l2.getD j thK.d).t := by
  rw [← trA_th, ← trA_th, he]

set_option maxRecDepth 100000 in
set_option maxHeartbeats 4000000 in
theorem eqTs_fn {A B : Option Addr} {c1 c2 : Nat} {l1 l2 : List TH} {w : World} (hs1 : RS w thK A l1) (hs2 : RS w thK B l2) (ho1 : ∀ i, i < l1.length → RS w roK (l1.getD i thK.d).A (l1.getD i thK.d).t.ops) (ho2 : ∀ i, i < l2.length → RS w roK (l2.getD i thK.d).A (l2.getD i thK.d).t.ops) (hl : l1.length ≤ 1000000) (hlo : ∀ i, i < l1.length → (l1.getD i thK.d).t.ops.length ≤ 1000000) (he : l1.map (·.t) = l2.map (·.t)) : Fx Tryd.prog 43 [.slice A l1.length c1, .slice B l2.length c2, .func (.func 44) #[] #[]] w [] no (fun v L => v = .bool true ∧ L = []) := by
  refine Sv.Fx.body Tryd.func43 rfl T43 rfl ?_
  intro I hro hI
  refine KV.env [(0, _), (1, _), (2, _)] ⟨rfl, rfl, rfl, trivial⟩ ?_
  have hlen : l1.length = l2.length := by have := congrArg List.length he; simpa using this
  refine CV.seq (CV.region ?_)
  refine RV.op (OV.step gno (Step.assign rfl) rfl ?_)
  refine RV.nil (KV.then_n (KV.env [(0, _), (1, _), (2, _)] ⟨rfl, rfl, rfl, trivial⟩ (CV.seq (CV.seq (CV.region ?_)))))
  refine RV.op (OV.step gno (Step.move rfl) rfl ?_)
  refine RV.op (OV.step gno (Step.lenSl Tryd.underlying24 rfl) rfl ?_)
  refine RV.op (OV.step gno (Step.move rfl) rfl ?_)
  refine RV.op (OV.step gno (Step.lenSl Tryd.underlying24 rfl) rfl ?_)
  refine RV.op (OV.split gno (Step.neq rfl rfl) rfl (fun n1 => ?_) (fun n1 => ?_))
  · -- True
    omega
  · -- False
    refine RV.nil (KV.then_n (KV.env [(0, _), (1, _), (2, _), (12, _)] ⟨rfl, rfl, rfl, rfl, trivial⟩ (CV.cond_f rfl (CV.skip (KV.then_n ?_)))))
    refine KV.env [(0, _), (1, _), (2, _)] ⟨rfl, rfl, rfl, trivial⟩ (CV.seq (CV.seq (CV.region ?_)))
    refine RV.op (OV.step gno (Step.assign rfl) rfl ?_)
    refine RV.nil (KV.then_n (KV.env [(0, _), (1, _), (2, _), (7, _)] ⟨rfl, rfl, rfl, rfl, trivial⟩ (CV.block ?_)))
    refine KV.sel [] [] rfl ?_
    refine CV.loopI (fun (j : Nat) => j ≤ l1.length) (fun (j : Nat) => l1.length - j) (fun (j : Nat) => [(0, .slice A l1.length c1), (1, .slice B l2.length c2), (2, .func (.func 44) #[] #[]), (7, .int .i64 j)]) (fun (j : Nat) => Hp I w []) (0) (Nat.zero_le _) ⟨rfl, rfl, rfl, rfl, trivial⟩ (fun _ h => h) ?_
    intro j hinv
    refine CV.seq (CV.seq (CV.region ?_))
    refine RV.op (OV.step gno (Step.move rfl) rfl ?_)
    refine RV.op (OV.step gno (Step.move rfl) rfl ?_)
    refine RV.op (OV.step gno (Step.lenSl Tryd.underlying24 rfl) rfl ?_)
    refine RV.op (OV.split gno (Step.lss rfl rfl) rfl (fun hj => ?_) (fun hj => ?_))
    · -- True
      refine RV.nil (KV.then_n (KV.env [(0, _), (1, _), (2, _), (7, _), (16, _)] ⟨rfl, rfl, rfl, rfl, rfl, trivial⟩ (CV.cond_t rfl (CV.skip (KV.then_n ?_)))))
      refine KV.env [(0, _), (1, _), (2, _), (7, _)] ⟨rfl, rfl, rfl, rfl, trivial⟩ (CV.seq (CV.block (CV.seq ?_)))
      refine CV.any (Hp I w []) (by kernel_rfl) (fun _ h => h.drew) 11 rfl ?_
      refine AV.take 0 #[true, false, false, false, false, false, false, false, false, false, false] rfl (by kernel_rfl) (by kernel_rfl) (by kernel_rfl) (fun _ _ _ h => h) gno (Step.move rfl) rfl (fun _ h => h.sel [] rfl) (by kernel_rfl) ?_
      refine AV.take 1 #[true, true, false, false, false, false, false, false, false, false, false] rfl (by kernel_rfl) (by kernel_rfl) (by kernel_rfl) (fun _ _ _ h => h) gno (Step.move rfl) rfl (fun _ h => h.sel [] rfl) (by kernel_rfl) ?_
      refine AV.take 2 #[true, true, true, false, false, false, false, false, false, false, false] rfl (by kernel_rfl) (by kernel_rfl) (by kernel_rfl) (fun _ _ _ h => h) gno (Step.move rfl) rfl (fun _ h => h.sel [] rfl) (by kernel_rfl) ?_
      refine AV.take 3 #[true, true, true, true, false, false, false, false, false, false, false] rfl (by kernel_rfl) (by kernel_rfl) (by kernel_rfl) (fun _ _ _ h => h) gno (Step.idx Tryd.underlying24 I61 (fun w h => (h.rs hs1 fun _ => hI _)) rfl rfl (rfl) _ rfl (by omega)) rfl (fun _ h => h.sel [] rfl) (by kernel_rfl) ?_
      refine AV.take 4 #[true, true, true, true, true, false, false, false, false, false, false] rfl (by kernel_rfl) (by kernel_rfl) (by kernel_rfl) (fun _ _ _ h => h) gno (Step.loadN _ Tryd.underlying61 rfl I61 rfl rfl (fun w h => (h.rs hs1 fun _ => hI _).cells (by omega))) rfl (fun _ h => h.sel [] rfl) (by kernel_rfl) ?_
      refine AV.take 5 #[true, true, true, true, true, true, false, false, false, false, false] rfl (by kernel_rfl) (by kernel_rfl) (by kernel_rfl) (fun _ _ _ h => h) gno (Step.move rfl) rfl (fun _ h => h.sel [] rfl) (by kernel_rfl) ?_
      refine AV.take 6 #[true, true, true, true, true, true, true, false, false, false, false] rfl (by kernel_rfl) (by kernel_rfl) (by kernel_rfl) (fun _ _ _ h => h) gno (Step.move rfl) rfl (fun _ h => h.sel [] rfl) (by kernel_rfl) ?_
      refine AV.take 7 #[true, true, true, true, true, true, true, true, false, false, false] rfl (by kernel_rfl) (by kernel_rfl) (by kernel_rfl) (fun _ _ _ h => h) gno (Step.idx Tryd.underlying24 I61 (fun w h => (h.rs hs2 fun _ => hI _)) rfl rfl (rfl) _ rfl (by omega)) rfl (fun _ h => h.sel [] rfl) (by kernel_rfl) ?_
      refine AV.take 8 #[true, true, true, true, true, true, true, true, true, false, false] rfl (by kernel_rfl) (by kernel_rfl) (by kernel_rfl) (fun _ _ _ h => h) gno (Step.loadN _ Tryd.underlying61 rfl I61 rfl rfl (fun w h => (h.rs hs2 fun _ => hI _).cells (by omega))) rfl (fun _ h => h.sel [] rfl) (by kernel_rfl) ?_
      refine AV.all [9] (by kernel_rfl) (by decide) ?_
      refine ⟨⟨_, rfl, ?_⟩, trivial⟩
      · -- 9 comes up
        refine OV.callv [] (F := []) (caps := []) rfl Tryd.func44 B44 N44 rfl rfl (fun w h => eqT2_fn (l1.getD j thK.d) (l2.getD j thK.d) (mapT he j) (h.rs (ho1 j (by omega)) fun _ => hI _) (h.rs (ho2 j (by omega)) fun _ => hI _) (hlo j (by omega))) (fun _ hb => hb.elim) gno rfl (fun v L' hp => ?_)
        obtain ⟨rfl, rfl⟩ := hp
        simp only [List.append_nil]
        refine AV.next #[true, true, true, true, true, true, true, true, true, true, false] (by kernel_rfl) (fun _ h => h.sel [] rfl) ?_
        refine AV.take 10 #[true, true, true, true, true, true, true, true, true, true, true] rfl (by kernel_rfl) (by kernel_rfl) (by kernel_rfl) (fun _ _ _ h => h) gno (Step.not rfl) rfl (fun _ h => h.sel [] rfl) (by kernel_rfl) ?_
        refine AV.done (by kernel_rfl) ?_
        refine KV.then_n (KV.env [(0, _), (1, _), (2, _), (7, _), (29, _)] ⟨rfl, rfl, rfl, rfl, rfl, trivial⟩ (CV.cond_f rfl (CV.skip (KV.block_n (KV.then_n ?_)))))
        refine KV.env [(0, _), (1, _), (2, _), (7, _)] ⟨rfl, rfl, rfl, rfl, trivial⟩ (CV.region ?_)
        refine RV.op (OV.step gno (Step.move rfl) rfl ?_)
        (first | refine RV.op (OV.step gno (Step.add rfl rfl (wI64 (by omega) (by omega))) rfl ?_) | refine RV.op (OV.step gno (Step.add rfl rfl rfl) rfl ?_))
        refine RV.op (OV.step gno (Step.assign rfl) rfl ?_)
        refine RV.nil (KV.then_n (KV.env [(0, _), (1, _), (2, _), (7, _)] ⟨rfl, rfl, rfl, rfl, trivial⟩ ?_))
        refine KV.sel [] [] rfl ?_
        exact KV.loopI (z := j) (j + 1) (by omega) (by omega) ⟨rfl, rfl, rfl, rfl, trivial⟩ (fun _ h => h)
    · -- False
      refine RV.nil (KV.then_n (KV.env [(0, _), (1, _), (2, _), (7, _), (16, _)] ⟨rfl, rfl, rfl, rfl, rfl, trivial⟩ (CV.cond_f rfl (CV.exit (KV.then_exit ?_)))))
      refine KV.then_exit (KV.block_hit (KV.then_n (KV.env [] trivial (CV.seq (CV.region ?_)))))
      refine RV.op (OV.step gno (Step.assign rfl) rfl ?_)
      refine RV.nil (KV.then_n (KV.env [(6, _)] ⟨rfl, trivial⟩ (CV.ret ?_)))
      refine KV.sel [] [] rfl ?_
      exact KV.ret1 rfl rfl _ (fun _ h => h) ⟨rfl, rfl⟩

set_option maxRecDepth 100000 in
set_option maxHeartbeats 4000000 in
theorem eqD_fn (a b : DH) {w : World} (ha : DR w a) (hb : DR w b) (he : a.d = b.d) (hsm : SmH a) : Fx Tryd.prog 13 [.agg #[.string (bs a.name), .slice a.sA a.ss.length a.sc, .slice a.tA a.hs.length a.tc], .agg #[.string (bs b.name), .slice b.sA b.ss.length b.sc, .slice b.tA b.hs.length b.tc]] w [] no (fun v L => v = .bool true ∧ L = []) := by
  refine Sv.Fx.body Tryd.func13 rfl T13 rfl ?_
  intro I hro hI
  refine KV.env [(0, _), (1, _)] ⟨rfl, rfl, trivial⟩ ?_
  have e1 : a.name = b.name := congrArg Dv.name he
  have e2 : a.ss = b.ss := congrArg Dv.ss he
  have e3 : a.hs.map (·.t) = b.hs.map (·.t) := congrArg Dv.ts he
  refine CV.seq (CV.region ?_)
  refine RV.op (OV.box (t := 26) #[_, _, _] rfl rfl gno rfl (fun x => ?_))
  refine RV.op (OV.box (t := 26) #[_, _, _] rfl rfl gno rfl (fun y => ?_))
  refine RV.op (OV.step gno (Step.assign rfl) rfl ?_)
  refine RV.nil (KV.then_n (KV.env [(2, _), (3, _)] ⟨rfl, rfl, trivial⟩ (CV.seq (CV.region ?_))))
  refine RV.op (OV.step gno (Step.fieldAddr rfl (F26_0 _ _)) rfl ?_)
  refine RV.op (OV.step gno (Step.load Tryd.underlying9 rfl rfl (fun w h => h.cell 0 rfl rfl)) rfl ?_)
  refine RV.op (OV.step gno (Step.fieldAddr rfl (F26_0 _ _)) rfl ?_)
  refine RV.op (OV.step gno (Step.load Tryd.underlying9 rfl rfl (fun w h => h.cell 1 rfl rfl)) rfl ?_)
  refine RV.op (OV.split gno (Step.eqlStr rfl rfl) rfl (fun n1 => ?_) (fun n1 => ?_))
  · -- True
    refine RV.op (OV.step gno (Step.move rfl) rfl ?_)
    refine RV.op (OV.step (gyes rfl) (Step.fieldAddr rfl (F26_1 _ _)) rfl ?_)
    refine RV.op (OV.step (gyes rfl) (Step.load Tryd.underlying23 rfl rfl (fun w h => h.cell 0 rfl rfl)) rfl ?_)
    refine RV.op (OV.step (gyes rfl) (Step.fieldAddr rfl (F26_1 _ _)) rfl ?_)
    refine RV.op (OV.step (gyes rfl) (Step.load Tryd.underlying23 rfl rfl (fun w h => h.cell 1 rfl rfl)) rfl ?_)
    refine RV.op (OV.call [] (F := [_, _]) Tryd.func42 B42 N42 rfl rfl (fun w h => eqStr_fn (DR.keep h ha hI).s (DR.keep h hb hI).s hsm.s (by rw [← e2]; exact hsm.s)) (fun _ hb => hb.elim) (gyes rfl) rfl (fun v L' hp => ?_))
    rw [decide_eq_true e2] at hp
    obtain ⟨rfl, rfl⟩ := hp
    simp only [List.append_nil]
    refine RV.op (OV.step gno (Step.pick_t rfl rfl) rfl ?_)
    refine RV.op (OV.step gno (Step.move rfl) rfl ?_)
    refine RV.op (OV.step (gyes rfl) (Step.fieldAddr rfl (F26_2 _ _)) rfl ?_)
    refine RV.op (OV.step (gyes rfl) (Step.load Tryd.underlying24 rfl rfl (fun w h => h.cell 0 rfl rfl)) rfl ?_)
    refine RV.op (OV.step (gyes rfl) (Step.fieldAddr rfl (F26_2 _ _)) rfl ?_)
    refine RV.op (OV.step (gyes rfl) (Step.load Tryd.underlying24 rfl rfl (fun w h => h.cell 1 rfl rfl)) rfl ?_)
    refine RV.op (OV.call [] (F := [_, _]) Tryd.func43 B43 N43 rfl rfl (fun w h => eqTs_fn (DR.keep h ha hI).t (DR.keep h hb hI).t (DR.keep h ha hI).o (DR.keep h hb hI).o hsm.t hsm.o e3) (fun _ hb => hb.elim) (gyes rfl) rfl (fun v L' hp => ?_))
    obtain ⟨rfl, rfl⟩ := hp
    simp only [List.append_nil]
    refine RV.op (OV.step gno (Step.pick_t rfl rfl) rfl ?_)
    refine RV.op (OV.step gno (Step.assign rfl) rfl ?_)
    refine RV.nil (KV.then_n (KV.env [(4, _)] ⟨rfl, trivial⟩ (CV.ret ?_)))
    refine KV.sel [] [] rfl ?_
    exact KV.ret1 rfl rfl _ (fun _ h => h) ⟨rfl, rfl⟩
  · -- False
    exact absurd e1 n1

set_option maxRecDepth 100000 in
set_option maxHeartbeats 4000000 in
theorem parseAgrees_fn (s : Bs) {w : World} (hE : EvR w) : Fx Tryd.prog 3 [.string (bs s)] w [] at4 (fun v L => v = .bool true ∧ L = []) := by
  refine Sv.Fx.body Tryd.func3 rfl T3 rfl ?_
  intro I hro hI
  refine KV.env [(0, _)] ⟨rfl, trivial⟩ (CV.seq (CV.region ?_))
  refine RV.op (OV.step gno (Step.assign rfl) rfl ?_)
  refine RV.nil (KV.then_n (KV.env [(0, _)] ⟨rfl, trivial⟩ (CV.seq (CV.seq (CV.region ?_)))))
  refine RV.op (OV.step gno (Step.move rfl) rfl ?_)
  refine RV.op (OV.step gno (Step.lenStr Tryd.underlying9 rfl) rfl ?_)
  refine RV.op (OV.split gno (Step.gtr rfl rfl) rfl (fun h4 => ?_) (fun h4 => ?_))
  · -- True
    refine RV.nil (KV.then_n (KV.env [(0, _), (9, _)] ⟨rfl, rfl, trivial⟩ (CV.cond_t rfl (CV.seq (CV.region ?_)))))
    refine RV.op (OV.call [] (F := []) Tryd.func10 B10 N10 rfl rfl (fun w h => awake_fn (EvR.keep h hE (hro 4 rfl))) (fun b hb => roAt4 hE hro b hb) gno rfl (fun v L' hp => ?_))
    obtain ⟨rfl, rfl⟩ := hp
    simp only [List.append_nil]
    refine RV.op (OV.step gno (Step.assign rfl) rfl ?_)
    refine RV.nil (KV.then_n (KV.env [(2, _)] ⟨rfl, trivial⟩ (CV.ret (KV.then_ret ?_))))
    refine KV.sel [] [] rfl ?_
    exact KV.ret1 rfl rfl _ (fun _ h => h) ⟨rfl, rfl⟩
  · -- False
    refine RV.nil (KV.then_n (KV.env [(0, _), (9, _)] ⟨rfl, rfl, trivial⟩ (CV.cond_f rfl (CV.skip (KV.then_n ?_)))))
    refine KV.env [(0, _)] ⟨rfl, trivial⟩ (CV.seq (CV.region ?_))
    refine RV.op (OV.step gno (Step.move rfl) rfl ?_)
    refine RV.op (OV.call [] (F := []) Tryd.func11 B11 N11 rfl rfl (fun w h => parse_fn s (by omega) (EvR.keep h hE (hro 4 rfl))) (fun b hb => roAt4 hE hro b hb) gno rfl (fun v L' hp => ?_))
    obtain ⟨d1, rfl, hd1, rfl⟩ := hp
    unfold dL
    refine RV.op (OV.step gno (Step.move rfl) rfl ?_)
    refine RV.op (OV.step gno (Step.extract0 rfl rfl) rfl ?_)
    refine RV.op (OV.step gno (Step.extract0 rfl rfl) rfl ?_)
    refine RV.op (OV.alloc #[.string (Sv.bs []), .slice none 0 0, .slice none 0 0] I26 rfl gno rfl (fun x => ?_))
    refine RV.op (OV.store 3 [_, _, _] #[_, _, _] I26 rfl rfl rfl rfl rfl (Nat.le_of_ble_eq_true rfl) (by simp [Value.oneCell']) rfl gno ?_)
    refine RV.op (OV.step gno (Step.assign rfl) rfl ?_)
    refine RV.nil (KV.then_n (KV.env [(0, _), (3, _), (4, _)] ⟨rfl, rfl, rfl, trivial⟩ (CV.seq (CV.region ?_))))
    refine RV.op (OV.step gno (Step.move rfl) rfl ?_)
    refine RV.op (OV.call [] (F := [_, _, _, _]) Tryd.func12 B12 N12 rfl rfl (fun w h => rparse_fn s (by omega)) (fun _ hb => hb.elim) gno rfl (fun v L' hp => ?_))
    obtain ⟨d2, rfl, hd2, rfl⟩ := hp
    have hde : d1.d = d2.d := hd1.trans hd2.symm
    have hsm : SmH d1 := smH (by rw [hd1]; exact parse_small s)
    unfold dL
    refine RV.op (OV.step gno (Step.move rfl) rfl ?_)
    refine RV.op (OV.step gno (Step.extract0 rfl rfl) rfl ?_)
    refine RV.op (OV.step gno (Step.extract0 rfl rfl) rfl ?_)
    refine RV.op (OV.alloc #[.string (Sv.bs []), .slice none 0 0, .slice none 0 0] I26 rfl gno rfl (fun y => ?_))
    refine RV.op (OV.store 7 [_, _, _] #[_, _, _] I26 rfl rfl rfl rfl rfl (Nat.le_of_ble_eq_true rfl) (by simp [Value.oneCell']) rfl gno ?_)
    refine RV.op (OV.step gno (Step.assign rfl) rfl ?_)
    refine RV.nil (KV.then_n (KV.env [(3, _), (4, _), (5, _), (6, _)] ⟨rfl, rfl, rfl, rfl, trivial⟩ (CV.seq (CV.region ?_))))
    refine RV.op (OV.step gno (Step.move rfl) rfl ?_)
    refine RV.op (OV.step gno (Step.move rfl) rfl ?_)
    refine RV.op (OV.split gno (Step.eql rfl rfl) rfl (fun n1 => ?_) (fun n1 => ?_))
    · -- True
      refine RV.op (OV.step gno (Step.move rfl) rfl ?_)
      refine RV.op (OV.step (gyes rfl) (Step.loadN _ Tryd.underlying26 rfl I26 rfl rfl (fun w h => h.cells 3 rfl)) rfl ?_)
      refine RV.op (OV.step (gyes rfl) (Step.loadN _ Tryd.underlying26 rfl I26 rfl rfl (fun w h => h.cells 7 rfl)) rfl ?_)
      refine RV.op (OV.call [] (F := [_, _, _, _, _, _, _, _]) Tryd.func13 B13 N13 rfl rfl (fun w h => eqD_fn d1 d2 (DR.ofHp (k1 := 0) (k2 := 1) (k3 := 2) h rfl rfl rfl rfl) (DR.ofHp (k1 := 4) (k2 := 5) (k3 := 6) h rfl rfl rfl rfl) hde hsm) (fun _ hb => hb.elim) (gyes rfl) rfl (fun v L' hp => ?_))
      obtain ⟨rfl, rfl⟩ := hp
      simp only [List.append_nil]
      refine RV.op (OV.step gno (Step.pick_t rfl rfl) rfl ?_)
      refine RV.op (OV.step gno (Step.move rfl) rfl ?_)
      refine RV.op (OV.call [] (F := [_, _, _, _, _, _, _, _]) Tryd.func10 B10 N10 rfl rfl (fun w h => awake_fn (EvR.keep h hE (hro 4 rfl))) (fun b hb => roAt4 hE hro b hb) (gyes rfl) rfl (fun v L' hp => ?_))
      obtain ⟨rfl, rfl⟩ := hp
      simp only [List.append_nil]
      refine RV.op (OV.step gno (Step.pick_t rfl rfl) rfl ?_)
      refine RV.op (OV.step gno (Step.assign rfl) rfl ?_)
      refine RV.nil (KV.then_n (KV.env [(2, _)] ⟨rfl, trivial⟩ (CV.ret ?_)))
      refine KV.sel [] [] rfl ?_
      exact KV.ret1 rfl rfl _ (fun _ h => h) ⟨rfl, rfl⟩
    · -- False
      exact absurd rfl n1
end Go.Proofs.YtplmfekhdaefaaaDoor
