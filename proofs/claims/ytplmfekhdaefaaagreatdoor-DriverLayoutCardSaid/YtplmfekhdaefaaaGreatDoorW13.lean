/-
 Walks, part 13.
-/
import Derived.Test.YtplmfekhdaefaaaGreatDoorTabA
import Derived.Test.YtplmfekhdaefaaaGreatDoorW12
import Derived.Test.YtplmfekhdaefaaaGreatDoorDmB
set_option linter.unusedSimpArgs false
set_option linter.unusedVariables false
namespace Go.Proofs.YtplmfekhdaefaaaGreatDoor
open Go.Sv Go.Drv
set_option maxRecDepth 100000 in
set_option maxHeartbeats 4000000 in
theorem take_fn {q k : Nat} (d : DH) (s : IS) {w : World} (hk : k < d.hs.length) (hl3 : ∀ i, i < d.hs.length → (d.hs.getD i thK.d).t.ops.length ≤ 1000000) : Fx Tryz.prog 44 [.pointer (some ⟨q, 0, none⟩), .agg #[.int .i64 (d.hs.getD k thK.d).t.frm, .string (bs (d.hs.getD k thK.d).t.ev), .bool (d.hs.getD k thK.d).t.gd.used, .int .u64 (d.hs.getD k thK.d).t.gd.reg, .int .u64 (d.hs.getD k thK.d).t.gd.mask, .int .u64 (d.hs.getD k thK.d).t.gd.val, .slice (d.hs.getD k thK.d).A (d.hs.getD k thK.d).t.ops.length (d.hs.getD k thK.d).c, .int .i64 (d.hs.getD k thK.d).t.to]] w (instL q d s) no (fun v L => ∃ A c, v = .agg #[.slice A (d.hs.getD k thK.d).t.ops.length c, .bool false] ∧ L = instL q d { s with st := (d.hs.getD k thK.d).t.to } ++ [OS 59 roK A c (d.hs.getD k thK.d).t.ops]) := by
 refine Sv.Fx.body Tryz.func44 rfl T44 rfl ?_
 intro I hro hI
 refine KV.env [(0, _), (1, _)] ⟨rfl, rfl, trivial⟩ ?_
 unfold instL
 refine CV.seq (CV.region ?_)
 refine RV.op (OV.box (t := 48) #[_, _, _, _, _, _, _, _] rfl rfl gno rfl (fun x => ?_))
 refine RV.op (OV.alloc #[.slice none 0 0, .bool false] I53 rfl gno rfl (fun p => ?_))
 refine RV.nil (KV.then_n (KV.env [(0, _), (3, _), (4, _)] ⟨rfl, rfl, rfl, trivial⟩ (CV.seq (CV.region ?_))))
 refine RV.m rfl rfl (RV.s (Step.fieldAddr rfl (F48_4 _ _)) rfl (RV.s (Step.load Tryz.underlying3 rfl rfl (fun w h => h.cell 4 rfl rfl)) rfl (RV.s (Step.nilCheck rfl) rfl (RV.s (Step.fieldAddr rfl (F104_1 _ _)) rfl ?_))))
 refine RV.op (OV.store 0 [_] #[_, _, _, _, _, _] I3 rfl rfl rfl rfl rfl (Nat.le_of_ble_eq_true rfl) (by simp [Value.oneCell']) rfl gno ?_)
 refine RV.nil (KV.then_n (KV.env [(3, _), (4, _)] ⟨rfl, rfl, trivial⟩ (CV.seq (CV.region ?_))))
 refine RV.s (Step.fieldAddr rfl (F48_3 _ _)) rfl (RV.s (Step.load Tryz.underlying46 rfl rfl (fun w h => h.cell 4 rfl rfl)) rfl ?_)
 refine RV.op (OV.call [] (F := [_, _, _, _, _, _]) Tryz.func67 B67 N67 rfl rfl (fun w h => cloneO_fn (bigRS h (k := 3) rfl hk) rfl (hl3 k hk)) (fun _ hb => hb.elim) gno rfl (fun v L' hp => ?_))
 obtain ⟨A3, c3, rfl, rfl⟩ := hp
 refine RV.s (Step.build rfl (Bd53_0 _ _ _)) rfl ?_
 refine RV.op (OV.store 5 [_, _] #[_, _] I53 rfl rfl rfl rfl rfl (Nat.le_of_ble_eq_true rfl) (by simp [Value.oneCell']) rfl gno ?_)
 refine RV.nil (KV.then_n (KV.env [(4, _)] ⟨rfl, trivial⟩ (CV.ret ?_)))
 refine KV.sel [5, 0, 0, 0, 0, 1] [_, _, _, _, _, _] rfl ?_
 exact KV.retC1 [_, _] rfl rfl Tryz.underlying53 rfl I53 rfl (fun w h => h.cells 0 rfl) _ (fun _ h => h.sel [1, 1, 1, 1, 1] rfl) ⟨A3, c3, rfl, rfl⟩

set_option maxRecDepth 100000 in
set_option maxHeartbeats 8000000 in
theorem consider_fn {q k : Nat} (d : DH) (s : IS) (ev : Bs) {w : World} (hk : k ≤ d.hs.length) (hl2 : d.hs.length ≤ 1000000) (hl3 : ∀ i, i < d.hs.length → (d.hs.getD i thK.d).t.ops.length ≤ 1000000) : Fx Tryz.prog 43 [.pointer (some ⟨q, 0, none⟩), .int .i64 k, .string (bs ev)] w (instL q d s) no (fun v L => ∃ A c, v = .agg #[.slice A (conM (d.hs.map (·.t)) s ev k).2.1.length c, .bool (conM (d.hs.map (·.t)) s ev k).2.2] ∧ L = instL q d (conM (d.hs.map (·.t)) s ev k).1 ++ [OS 59 roK A c (conM (d.hs.map (·.t)) s ev k).2.1]) := by
 refine Sv.Fx.body Tryz.func43 rfl T43 rfl ?_
 intro I hro hI
 refine KV.env [(0, _), (1, _), (2, _)] ⟨rfl, rfl, rfl, trivial⟩ ?_
 unfold instL
 refine CV.seq (CV.region ?_)
 refine RV.op (OV.alloc #[.slice none 0 0, .bool false] I53 rfl gno rfl (fun p => ?_))
 refine RV.nil (KV.then_n (KV.env [(0, _), (1, _), (2, _), (6, _)] ⟨rfl, rfl, rfl, rfl, trivial⟩ (CV.seq (CV.seq (CV.region ?_)))))
 refine RV.m rfl rfl (RV.a rfl rfl ?_)
 refine RV.nil (KV.then_n (KV.env [(0, _), (2, _), (6, _), (7, _)] ⟨rfl, rfl, rfl, rfl, trivial⟩ (CV.block ?_)))
 refine KV.sel [0, 0, 0, 0, 0] [_, _, _, _, _] rfl ?_
 refine CV.loopI (fun (j : Nat) => k ≤ j ∧ j ≤ d.hs.length ∧ ∀ i, k ≤ i → i < j → ¬ ((d.hs.getD i thK.d).t.frm = s.st ∧ (d.hs.getD i thK.d).t.ev = ev)) (fun (j : Nat) => d.hs.length - j) (fun (j : Nat) => [(0, .pointer (some ⟨q, 0, none⟩)), (2, .string (bs ev)), (6, .pointer (some ⟨p, 0, none⟩)), (7, .int .i64 j)]) (fun (j : Nat) => Hp I w [Blk q (.cells #[.string (bs d.name), .slice d.sA d.ss.length d.sc, .slice d.tA d.hs.length d.tc, .int .i64 (s.st), .bool s.wt, .int .i64 (s.cd)] 104 (0, 0)), OS 9 strK d.sA d.sc d.ss, OS 48 thK d.tA d.tc d.hs, Big opA d.hs, Blk p (.cells #[.slice none 0 0, .bool false] 53 (0, 0))]) (k) ⟨Nat.le_refl _, hk, fun i h1 h2 => by omega⟩ ⟨rfl, rfl, rfl, rfl, trivial⟩ (fun _ h => h) ?_
 intro j hinv
 refine CV.seq (CV.seq (CV.region ?_))
 refine RV.m rfl rfl (RV.m rfl rfl (RV.s (Step.nilCheck rfl) rfl (RV.s (Step.fieldAddr rfl (F104_0 _ _)) rfl (RV.s (Step.fieldAddr rfl (F25_2 _ _)) rfl (RV.s (Step.load Tryz.underlying23 rfl rfl (fun w h => h.cell 0 rfl rfl)) rfl (RV.s (Step.lenSl Tryz.underlying23 rfl) rfl ?_))))))
 refine RV.op (OV.split gno (Step.lss rfl rfl) rfl (fun hj => ?_) (fun hj => ?_))
 ·
  refine RV.nil (KV.then_n (KV.env [(0, _), (2, _), (6, _), (7, _), (17, _)] ⟨rfl, rfl, rfl, rfl, rfl, trivial⟩ (CV.cond_t rfl (CV.skip (KV.then_n ?_)))))
  refine KV.env [(0, _), (2, _), (6, _), (7, _)] ⟨rfl, rfl, rfl, rfl, trivial⟩ (CV.seq (CV.block (CV.seq (CV.region ?_))))
  refine RV.m rfl rfl (RV.s (Step.nilCheck rfl) rfl (RV.s (Step.fieldAddr rfl (F104_0 _ _)) rfl (RV.s (Step.fieldAddr rfl (F25_2 _ _)) rfl (RV.s (Step.load Tryz.underlying23 rfl rfl (fun w h => h.cell 0 rfl rfl)) rfl (RV.m rfl rfl ?_)))))
  refine RV.s (Step.idx Tryz.underlying23 I48 (fun w h => h.os 2 rfl) rfl rfl (rfl) _ rfl (by omega)) rfl ?_
  refine RV.s (Step.loadN _ Tryz.underlying48 rfl I48 rfl rfl (fun w h => (h.os 2 rfl).cells (by omega))) rfl ?_
  refine RV.op (OV.alloc #[.int .i64 0, .string (Sv.bs []), .bool false, .int .u64 0, .int .u64 0, .int .u64 0, .slice none 0 0, .int .i64 0] I48 rfl gno rfl (fun x => ?_))
  refine RV.op (OV.store 5 [_, _, _, _, _, _, _, _] #[_, _, _, _, _, _, _, _] I48 rfl rfl rfl rfl rfl (Nat.le_of_ble_eq_true rfl) (by simp [Value.oneCell']) rfl gno ?_)
  refine RV.nil (KV.then_n (KV.env [(0, _), (2, _), (6, _), (7, _), (8, _)] ⟨rfl, rfl, rfl, rfl, rfl, trivial⟩ (CV.seq (CV.seq ?_))))
  refine CV.any (Hp I w [Blk q (.cells #[.string (bs d.name), .slice d.sA d.ss.length d.sc, .slice d.tA d.hs.length d.tc, .int .i64 (s.st), .bool s.wt, .int .i64 (s.cd)] 104 (0, 0)), Blk x (.cells #[.int .i64 (d.hs.getD j thK.d).t.frm, .string (bs (d.hs.getD j thK.d).t.ev), .bool (d.hs.getD j thK.d).t.gd.used, .int .u64 (d.hs.getD j thK.d).t.gd.reg, .int .u64 (d.hs.getD j thK.d).t.gd.mask, .int .u64 (d.hs.getD j thK.d).t.gd.val, .slice (d.hs.getD j thK.d).A (d.hs.getD j thK.d).t.ops.length (d.hs.getD j thK.d).c, .int .i64 (d.hs.getD j thK.d).t.to] 48 (0, 0))]) (by kernel_rfl) (fun _ h => h.drew) 13 rfl ?_
  refine AV.u 0 (bl 13 1) rfl gno (Step.fieldAddr rfl (F48_0 _ _)) rfl (fun _ h => h.sel [0, 4] rfl) ?_
  refine AV.u 1 (bl 13 3) rfl gno (Step.load Tryz.underlying3 rfl rfl (fun w h => h.cell 1 rfl rfl)) rfl (fun _ h => h.sel [0, 4] rfl) ?_
  refine AV.u 2 (bl 13 7) rfl gno (Step.move rfl) rfl (fun _ h => h.sel [0, 4] rfl) ?_
  refine AV.u 3 (bl 13 15) rfl gno (Step.nilCheck rfl) rfl (fun _ h => h.sel [0, 4] rfl) ?_
  refine AV.u 4 (bl 13 31) rfl gno (Step.fieldAddr rfl (F104_1 _ _)) rfl (fun _ h => h.sel [0, 4] rfl) ?_
  refine AV.u 5 (bl 13 63) rfl gno (Step.load Tryz.underlying3 rfl rfl (fun w h => h.cell 0 rfl rfl)) rfl (fun _ h => h.sel [0, 4] rfl) ?_
  refine AV.u 6 (bl 13 127) rfl gno (Step.neq rfl rfl) rfl (fun _ h => h.sel [0, 4] rfl) ?_
  refine AV.u 7 (bl 13 255) rfl gno (Step.move rfl) rfl (fun _ h => h.sel [0, 4] rfl) ?_
  refine KV.cases 35 rfl (fun cc1 => ?_) (fun cc1 => ?_)
  ·
   have hm1 := of_decide_eq_true cc1
   refine AV.takeSkip 8 (bl 13 511) rfl (by kernel_rfl) (by kernel_rfl) (by kernel_rfl) (fun _ _ _ h => h) rfl rfl (fun _ h => h.sel [0, 4] rfl) (by kernel_rfl) ?_
   refine AV.takeSkip 9 (bl 13 1023) rfl (by kernel_rfl) (by kernel_rfl) (by kernel_rfl) (fun _ _ _ h => h) rfl rfl (fun _ h => h.sel [0, 4] rfl) (by kernel_rfl) ?_
   refine AV.takeSkip 10 (bl 13 2047) rfl (by kernel_rfl) (by kernel_rfl) (by kernel_rfl) (fun _ _ _ h => h) rfl rfl (fun _ h => h.sel [0, 4] rfl) (by kernel_rfl) ?_
   refine AV.takeSkip 11 (bl 13 4095) rfl (by kernel_rfl) (by kernel_rfl) (by kernel_rfl) (fun _ _ _ h => h) rfl rfl (fun _ h => h.sel [0, 4] rfl) (by kernel_rfl) ?_
   refine AV.u 12 (bl 13 8191) rfl gno (Step.pick_t rfl rfl) rfl (fun _ h => h.sel [0, 4] rfl) ?_
   refine AV.done (by kernel_rfl) ?_
   refine KV.then_n (KV.env [(0, _), (2, _), (6, _), (7, _), (8, _), (40, _)] ⟨rfl, rfl, rfl, rfl, rfl, rfl, trivial⟩ (CV.cond_t rfl (CV.exit (KV.then_exit (KV.block_hit ?_)))))
   refine KV.then_n (KV.env [(0, _), (2, _), (6, _), (7, _)] ⟨rfl, rfl, rfl, rfl, trivial⟩ (CV.region ?_))
   refine RV.m rfl rfl ?_
   (first | refine RV.op (OV.step gno (Step.add rfl rfl (wI64 (by omega) (by omega))) rfl ?_) | refine RV.op (OV.step gno (Step.add rfl rfl rfl) rfl ?_))
   refine RV.a rfl rfl ?_
   refine RV.nil (KV.then_n (KV.env [(0, _), (2, _), (6, _), (7, _)] ⟨rfl, rfl, rfl, rfl, trivial⟩ ?_))
   refine KV.sel [0, 0, 0, 0, 0] [_, _, _, _, _] rfl ?_
   exact KV.loopI (z := j) (j + 1) ⟨by omega, by omega, fun i h1 h2 => by by_cases e : i = j; (subst e; first | exact fun k => hm1 k.1 | exact fun k => hm2 k.2); exact hinv.2.2 i h1 (by omega)⟩ (by omega) ⟨rfl, rfl, rfl, rfl, trivial⟩ (fun _ h => h)
  ·
   have hm1 := Decidable.not_not.1 (of_decide_eq_false cc1)
   refine AV.u 8 (bl 13 511) rfl (gyes rfl) (Step.fieldAddr rfl (F48_1 _ _)) rfl (fun _ h => h.sel [0, 4] rfl) ?_
   refine AV.u 9 (bl 13 1023) rfl (gyes rfl) (Step.load Tryz.underlying9 rfl rfl (fun w h => h.cell 1 rfl rfl)) rfl (fun _ h => h.sel [0, 4] rfl) ?_
   refine AV.u 10 (bl 13 2047) rfl (gyes rfl) (Step.move rfl) rfl (fun _ h => h.sel [0, 4] rfl) ?_
   refine AV.u 11 (bl 13 4095) rfl (gyes rfl) (Step.neqStr rfl rfl) rfl (fun _ h => h.sel [0, 4] rfl) ?_
   refine AV.u 12 (bl 13 8191) rfl gno (Step.pick_f rfl rfl) rfl (fun _ h => h.sel [0, 4] rfl) ?_
   refine AV.done (by kernel_rfl) ?_
   refine KV.then_n (KV.env [(0, _), (2, _), (6, _), (7, _), (8, _), (40, _)] ⟨rfl, rfl, rfl, rfl, rfl, rfl, trivial⟩ ?_)
   refine KV.cases 40 rfl (fun cc2 => ?_) (fun cc2 => ?_)
   ·
    have hm2 := of_decide_eq_true cc2
    refine CV.cond_t rfl (CV.exit (KV.then_exit (KV.block_hit (KV.then_n (KV.env [(0, _), (2, _), (6, _), (7, _)] ⟨rfl, rfl, rfl, rfl, trivial⟩ ?_)))))
    refine CV.region ?_
    refine RV.m rfl rfl ?_
    (first | refine RV.op (OV.step gno (Step.add rfl rfl (wI64 (by omega) (by omega))) rfl ?_) | refine RV.op (OV.step gno (Step.add rfl rfl rfl) rfl ?_))
    refine RV.a rfl rfl ?_
    refine RV.nil (KV.then_n (KV.env [(0, _), (2, _), (6, _), (7, _)] ⟨rfl, rfl, rfl, rfl, trivial⟩ ?_))
    refine KV.sel [0, 0, 0, 0, 0] [_, _, _, _, _] rfl ?_
    exact KV.loopI (z := j) (j + 1) ⟨by omega, by omega, fun i h1 h2 => by by_cases e : i = j; (subst e; first | exact fun k => hm1 k.1 | exact fun k => hm2 k.2); exact hinv.2.2 i h1 (by omega)⟩ (by omega) ⟨rfl, rfl, rfl, rfl, trivial⟩ (fun _ h => h)
   ·
    have hm2 := Decidable.not_not.1 (of_decide_eq_false cc2)
    refine CV.cond_f rfl (CV.skip (KV.then_n (KV.env [(0, _), (6, _), (7, _), (8, _)] ⟨rfl, rfl, rfl, rfl, trivial⟩ (CV.seq (CV.seq ?_)))))
    refine CV.region ?_
    refine RV.s (Step.fieldAddr rfl (F48_2 _ _)) rfl (RV.s (Step.fieldAddr rfl (F45_0 _ _)) rfl (RV.s (Step.load Tryz.underlying4 rfl rfl (fun w h => h.cell 5 rfl rfl)) rfl (RV.s (Step.not rfl) rfl ?_)))
    refine RV.nil (KV.then_n (KV.env [(0, _), (6, _), (7, _), (8, _), (44, _)] ⟨rfl, rfl, rfl, rfl, rfl, trivial⟩ ?_))
    refine KV.cases 44 rfl (fun cc3 => ?_) (fun cc3 => ?_)
    ·
     have hu := neg_t cc3
     refine CV.cond_t rfl (CV.seq (CV.region ?_))
     refine RV.m rfl rfl (RV.s (Step.loadN _ Tryz.underlying48 rfl I48 rfl rfl (fun w h => h.cells 5 rfl)) rfl ?_)
     refine RV.op (OV.call [0, 0, 0, 0] (F := [_, _]) Tryz.func44 B44 N44 rfl rfl (fun w h => take_fn (k := j) d s (by omega) hl3) (fun _ hb => hb.elim) gno rfl (fun v L' hp => ?_))
     obtain ⟨A3, c3, rfl, rfl⟩ := hp
     refine RV.op (OV.store 0 [_, _] #[_, _] I53 rfl rfl rfl rfl rfl (Nat.le_of_ble_eq_true rfl) (by simp [Value.oneCell']) rfl gno ?_)
     refine RV.nil (KV.then_n (KV.env [(6, _)] ⟨rfl, trivial⟩ (CV.ret (KV.then_ret (KV.block_ret ?_)))))
     refine KV.then_ret (KV.then_ret (KV.block_ret (KV.then_ret ?_)))
     refine KV.sel [0, 1, 1, 1, 1, 1] [_, _, _, _, _, _] rfl ?_
     exact KV.retC1 [_, _] rfl rfl Tryz.underlying53 rfl I53 rfl (fun w h => h.cells 0 rfl) _ (fun _ h => h.sel [1, 1, 1, 1, 1] rfl) ⟨A3, c3, by rw [con_take hinv.1 (by omega) hinv.2.2 ⟨hm1, hm2⟩ hu] <;> rfl, by rw [con_take hinv.1 (by omega) hinv.2.2 ⟨hm1, hm2⟩ hu] <;> rfl⟩
    ·
     have hu := neg_f cc3
     refine CV.cond_f rfl (CV.skip (KV.then_n (KV.env [(0, _), (6, _), (7, _), (8, _)] ⟨rfl, rfl, rfl, rfl, trivial⟩ (CV.seq (CV.region ?_)))))
     refine RV.m rfl rfl (RV.s (Step.nilCheck rfl) rfl (RV.s (Step.fieldAddr rfl (F104_2 _ _)) rfl ?_))
     refine RV.op (OV.store 0 [_] #[_, _, _, _, _, _] I4 rfl rfl rfl rfl rfl (Nat.le_of_ble_eq_true rfl) (by simp [Value.oneCell']) rfl gno ?_)
     refine RV.nil (KV.then_n (KV.env [(0, _), (6, _), (7, _), (8, _)] ⟨rfl, rfl, rfl, rfl, trivial⟩ (CV.seq (CV.region ?_))))
     refine RV.m rfl rfl (RV.m rfl rfl (RV.s (Step.nilCheck rfl) rfl (RV.s (Step.fieldAddr rfl (F104_3 _ _)) rfl ?_)))
     refine RV.op (OV.store 0 [_] #[_, _, _, _, _, _] I3 rfl rfl rfl rfl rfl (Nat.le_of_ble_eq_true rfl) (by simp [Value.oneCell']) rfl gno ?_)
     refine RV.nil (KV.then_n (KV.env [(6, _), (8, _)] ⟨rfl, rfl, trivial⟩ (CV.seq (CV.region ?_))))
     refine RV.s (Step.fieldAddr rfl (F48_2 _ _)) rfl (RV.s (Step.fieldAddr rfl (F45_1 _ _)) rfl (RV.s (Step.load Tryz.underlying43 rfl rfl (fun w h => h.cell 5 rfl rfl)) rfl (RV.s (Step.build rfl (Bd59_1 _)) rfl ?_)))
     refine RV.op (OV.buildSlice (K := roK) ([(⟨false, (d.hs.getD j thK.d).t.gd.reg, 0⟩ : Ro)]) rfl (Bs46_1_0 _ _ _) rfl rfl (by omega) gno rfl (fun y => ?_))
     refine RV.s (Step.build rfl (Bd53_0_1 _ _ _ _)) rfl ?_
     refine RV.op (OV.store 4 [_, _] #[_, _] I53 rfl rfl rfl rfl rfl (Nat.le_of_ble_eq_true rfl) (by simp [Value.oneCell']) rfl gno ?_)
     refine RV.nil (KV.then_n (KV.env [(6, _)] ⟨rfl, trivial⟩ (CV.ret (KV.block_ret (KV.then_ret ?_)))))
     refine KV.then_ret (KV.block_ret (KV.then_ret ?_))
     refine KV.sel [4, 0, 0, 0, 0, 1] [_, _, _, _, _, _] rfl ?_
     exact KV.retC1 [_, _] rfl rfl Tryz.underlying53 rfl I53 rfl (fun w h => h.cells 0 rfl) _ (fun _ h => h.sel [1, 1, 1, 1, 1] rfl) ⟨_, _, by rw [con_wait hinv.1 (by omega) hinv.2.2 ⟨hm1, hm2⟩ hu] <;> rfl, by rw [con_wait hinv.1 (by omega) hinv.2.2 ⟨hm1, hm2⟩ hu] <;> rfl⟩
 ·
  refine RV.nil (KV.then_n (KV.env [(0, _), (2, _), (6, _), (7, _), (17, _)] ⟨rfl, rfl, rfl, rfl, rfl, trivial⟩ (CV.cond_f rfl (CV.exit (KV.then_exit ?_)))))
  refine KV.then_exit (KV.block_hit (KV.then_n (KV.env [(6, _)] ⟨rfl, trivial⟩ (CV.seq (CV.region ?_)))))
  refine RV.s (Step.build rfl (Bd53_)) rfl ?_
  refine RV.op (OV.store 4 [_, _] #[_, _] I53 rfl rfl rfl rfl rfl (Nat.le_of_ble_eq_true rfl) (by simp [Value.oneCell']) rfl gno ?_)
  refine RV.nil (KV.then_n (KV.env [(6, _)] ⟨rfl, trivial⟩ (CV.ret ?_)))
  refine KV.sel [4, 0, 0, 0, 0] [_, _, _, _, _] rfl ?_
  obtain rfl : j = d.hs.length := by omega
  exact KV.retC1 [_, _] rfl rfl Tryz.underlying53 rfl I53 rfl (fun w h => h.cells 0 rfl) _ (fun _ h => (h.sel [1, 1, 1, 1] rfl).nilOS) ⟨none, 0, by rw [con_none hinv.2.2] <;> rfl, by rw [con_none hinv.2.2] <;> rfl⟩
end Go.Proofs.YtplmfekhdaefaaaGreatDoor
