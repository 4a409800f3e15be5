/-
 Walks, part 29.
-/
import Derived.Test.YtplmfekhdaefaaaGreatDoorTabA
import Derived.Test.YtplmfekhdaefaaaGreatDoorW28
import Derived.Test.YtplmfekhdaefaaaGreatDoorDmC
set_option linter.unusedSimpArgs false
set_option linter.unusedVariables false
namespace Go.Proofs.YtplmfekhdaefaaaGreatDoor
open Go.Sv Go.Drv
set_option maxRecDepth 100000 in
set_option maxHeartbeats 8000000 in
theorem ron_fn {A : Option Addr} {c : Nat} {ts : List MT} {w : World} (frm : Int) (hs : RS w rtokK A ts) (hc : ts.length ≤ c) (ht : ∀ x ∈ ts, tkOk x) (hl : ts.length ≤ 1000000) (h0 : 0 < ts.length) (hnm : kB (tA ts 0) = 110) : Fx Tryz.prog 61 [.slice A ts.length c, .int .i64 frm] w [] no (fun v L => (∃ x A1 c1, onM (ts.drop 1) = some x ∧ x.1.ops.length ≤ ts.length ∧ v = .tuple #[.agg (lnK.f ⟨⟨{ x.1 with frm := frm }, A1, c1⟩, x.2⟩).toArray, .bool true] ∧ L = [OS 59 roK A1 c1 x.1.ops]) ∨ (onM (ts.drop 1) = none ∧ ∃ y : LH, y.h.t.ops = [] ∧ y.h.A = none ∧ y.h.c = 0 ∧ v = .tuple #[.agg (lnK.f y).toArray, .bool false] ∧ L = [])) := by
 refine Sv.Fx.body Tryz.func61 rfl T61 rfl ?_
 intro I hro hI
 refine KV.env [(0, _), (1, _)] ⟨rfl, rfl, trivial⟩ (CV.seq (CV.region ?_))
 refine RV.op (OV.alloc #[.int .i64 0, .string (Sv.bs []), .bool false, .int .u64 0, .int .u64 0, .int .u64 0, .slice none 0 0, .int .i64 0, .string (Sv.bs [])] I88 rfl gno rfl (fun p => ?_))
 refine RV.a rfl rfl ?_
 refine RV.nil (KV.then_n (KV.env [(0, _), (1, _), (4, _)] ⟨rfl, rfl, rfl, trivial⟩ (CV.seq (CV.region ?_))))
 refine RV.op (OV.alloc #[.int .i64 0, .string (Sv.bs []), .bool false, .int .u64 0, .int .u64 0, .int .u64 0, .slice none 0 0, .int .i64 0, .string (Sv.bs [])] I88 rfl gno rfl (fun o => ?_))
 refine RV.nil (KV.then_n (KV.env [(0, _), (1, _), (4, _), (6, _)] ⟨rfl, rfl, rfl, rfl, trivial⟩ (CV.seq (CV.region ?_))))
 refine RV.m rfl rfl (RV.s (Step.fieldAddr rfl (F88_0 _ _)) rfl (RV.s (Step.fieldAddr rfl (F48_0 _ _)) rfl ?_))
 refine RV.op (OV.store 1 [_] #[_, _, _, _, _, _, _, _, _] I3 rfl rfl rfl rfl rfl (Nat.le_of_ble_eq_true rfl) (by simp [Value.oneCell']) rfl gno ?_)
 refine RV.nil (KV.then_n (KV.env [(0, _), (4, _), (6, _)] ⟨rfl, rfl, rfl, trivial⟩ (CV.seq (CV.seq (CV.region ?_)))))
 refine RV.m rfl rfl (RV.s (Step.lenSl Tryz.underlying83 rfl) rfl ?_)
 refine RV.op (OV.split gno (Step.lss rfl rfl) rfl (fun n1 => ?_) (fun n1 => ?_))
 ·
  refine RV.m rfl rfl (RV.k rfl rfl (RV.k rfl rfl (RV.k rfl rfl (RV.k rfl rfl (RV.s (Step.pick_t rfl rfl) rfl ?_)))))
  refine RV.nil (KV.then_n (KV.env [(0, _), (4, _), (6, _), (20, _)] ⟨rfl, rfl, rfl, rfl, trivial⟩ (CV.cond_t rfl (CV.seq (CV.region ?_)))))
  refine RV.s (Step.loadN _ Tryz.underlying88 rfl I88 rfl rfl (fun w h => h.cells 1 rfl)) rfl ?_
  refine RV.op (OV.store 0 [_, _, _, _, _, _, _, _, _] #[_, _, _, _, _, _, _, _, _] I88 rfl rfl rfl rfl rfl (Nat.le_of_ble_eq_true rfl) (by simp [Value.oneCell']) rfl gno ?_)
  refine RV.a rfl rfl ?_
  refine RV.nil (KV.then_n (KV.env [(4, _), (5, _)] ⟨rfl, rfl, trivial⟩ (CV.ret (KV.then_ret ?_))))
  refine KV.sel [0] [_] rfl ?_
  exact KV.retC2 [_, _, _, _, _, _, _, _, _] rfl rfl rfl Tryz.underlying88 rfl I88 rfl (fun w h => h.cells 0 rfl) _ (fun _ h => h.sel [] rfl) (.inr ⟨by first | exact on_short (by rw [List.length_drop]; omega) | exact on_head (fun k => n2 (nn_of h0 (by omega) hnm k)), ⟨⟨⟨frm, [], gd0, [], 0⟩, none, 0⟩, []⟩, rfl, rfl, rfl, rfl, rfl⟩)
 ·
  refine RV.m rfl rfl (RV.gw rfl (Step.move rfl) rfl ?_)
  refine RV.gw rfl (Step.sliceHi Tryz.underlying83 I128 rfl rfl (2) ((show (2 : Int) = ((2 : Nat) : Int) from rfl)) (by omega)) rfl ?_
  refine RV.op (OV.call [] (F := [_, _]) Tryz.func60 B60 N60 rfl rfl (fun w h => kinds_fn (ts := ts.take 2) ((h.rs hs fun _ => hI _).take 2) (by rw [List.length_take]; omega) (by rw [List.length_take]; omega)) (fun _ hb => hb.elim) (gyes rfl) rfl (fun v L' hp => ?_))
  obtain ⟨rfl, rfl⟩ := hp
  simp only [List.append_nil]
  refine RV.op (OV.split (gyes rfl) (Step.neqStr (l2 := [110, 110]) rfl rfl) rfl (fun n2 => ?_) (fun n2 => ?_))
  ·
   refine RV.s (Step.pick_f rfl rfl) rfl ?_
   refine RV.nil (KV.then_n (KV.env [(0, _), (4, _), (6, _), (20, _)] ⟨rfl, rfl, rfl, rfl, trivial⟩ (CV.cond_t rfl (CV.seq (CV.region ?_)))))
   refine RV.s (Step.loadN _ Tryz.underlying88 rfl I88 rfl rfl (fun w h => h.cells 1 rfl)) rfl ?_
   refine RV.op (OV.store 0 [_, _, _, _, _, _, _, _, _] #[_, _, _, _, _, _, _, _, _] I88 rfl rfl rfl rfl rfl (Nat.le_of_ble_eq_true rfl) (by simp [Value.oneCell']) rfl gno ?_)
   refine RV.a rfl rfl ?_
   refine RV.nil (KV.then_n (KV.env [(4, _), (5, _)] ⟨rfl, rfl, trivial⟩ (CV.ret (KV.then_ret ?_))))
   refine KV.sel [0] [_] rfl ?_
   exact KV.retC2 [_, _, _, _, _, _, _, _, _] rfl rfl rfl Tryz.underlying88 rfl I88 rfl (fun w h => h.cells 0 rfl) _ (fun _ h => h.sel [] rfl) (.inr ⟨by first | exact on_short (by rw [List.length_drop]; omega) | exact on_head (fun k => n2 (nn_of h0 (by omega) hnm k)), ⟨⟨⟨frm, [], gd0, [], 0⟩, none, 0⟩, []⟩, rfl, rfl, rfl, rfl, rfl⟩)
  ·
   refine RV.s (Step.pick_f rfl rfl) rfl ?_
   refine RV.nil (KV.then_n (KV.env [(0, _), (4, _), (6, _), (20, _)] ⟨rfl, rfl, rfl, rfl, trivial⟩ (CV.cond_f rfl (CV.skip (KV.then_n ?_)))))
   refine KV.env [(0, _), (4, _), (6, _)] ⟨rfl, rfl, rfl, trivial⟩ (CV.seq (CV.region ?_))
   refine RV.m rfl rfl ?_
   refine RV.op (OV.step gno (Step.idx Tryz.underlying83 I128 (fun w h => (h.rs hs fun _ => hI _)) rfl rfl (by first | rfl | omega) _ (show (1 : Int) = ((1 : Nat) : Int) from rfl) (by omega)) rfl ?_)
   refine RV.s (Step.fieldAddr rfl (F128_1 _ _)) rfl ?_
   refine RV.s (Step.load Tryz.underlying9 rfl rfl (fun w h => (h.rs hs fun _ => hI _).cell (by omega) rfl)) rfl ?_
   refine RV.s (Step.fieldAddr rfl (F88_0 _ _)) rfl (RV.s (Step.fieldAddr rfl (F48_1 _ _)) rfl ?_)
   refine RV.op (OV.store 1 [_] #[_, _, _, _, _, _, _, _, _] I9 rfl rfl rfl rfl rfl (Nat.le_of_ble_eq_true rfl) (by simp [Value.oneCell']) rfl gno ?_)
   refine RV.nil (KV.then_n (KV.env [(0, _), (4, _), (6, _)] ⟨rfl, rfl, rfl, trivial⟩ (CV.seq (CV.region ?_))))
   refine RV.m rfl rfl ?_
   refine RV.s (Step.sliceLo Tryz.underlying83 I128 rfl rfl (2) ((show (2 : Int) = ((2 : Nat) : Int) from rfl)) (by omega)) rfl ?_
   obtain ⟨R, hR⟩ : ∃ R, R = ts.drop 2 := ⟨_, rfl⟩
   have hRl : ts.length - 2 = R.length := by rw [hR, List.length_drop]
   have hRS : RS w rtokK (shA A 2 3 c) R := by rw [hR]; exact hs.drop 2 hc
   obtain ⟨B1, hB1⟩ : ∃ B, B = shA A 2 3 c := ⟨_, rfl⟩
   rw [← hB1] at hRS ⊢
   rw [hRl]
   have hRm : R.length ≤ c - 2 := by omega
   have hRok : ∀ x ∈ R, tkOk x := by rw [hR]; exact fun x hx => ht x (List.mem_of_mem_drop hx)
   have hk2 := kds_at (Decidable.not_not.1 n2) (by omega)
   have h1n := kB_n (tA_ok ht (show 1 < ts.length by omega)) (hk2 1 (by decide))
   have hd1 : ts.drop 1 = .nm (rtext (tA ts 1)) :: R := by rw [tA_cons (show 1 < ts.length by omega), ← hR]; exact congrArg (· :: R) h1n
   refine RV.a rfl rfl ?_
   refine RV.nil (KV.then_n (KV.env [(0, _), (4, _), (6, _)] ⟨rfl, rfl, rfl, trivial⟩ ?_))
   refine CV.join (fun (G : OnG w ts (rtext (tA ts 1))) => [(0, .slice G.B G.cur.length G.m), (4, .pointer (some ⟨p, 0, none⟩)), (6, .pointer (some ⟨o, 0, none⟩))]) (fun (G : OnG w ts (rtext (tA ts 1))) => Hp I w [Blk p (.cells #[.int .i64 0, .string (bs []), .bool false, .int .u64 0, .int .u64 0, .int .u64 0, .slice none 0 0, .int .i64 0, .string (bs [])] 88 (0, 0)), Blk o (.cells #[.int .i64 frm, .string (bs (rtext (tA ts 1))), .bool G.g.used, .int .u64 G.g.reg, .int .u64 G.g.mask, .int .u64 G.g.val, .slice none 0 0, .int .i64 0, .string (bs [])] 88 (0, 0))]) ?_ ?_
   ·
    skip
    refine CV.seq (CV.region ?_)
    refine RV.m rfl rfl (RV.s (Step.lenSl Tryz.underlying83 rfl) rfl ?_)
    refine RV.op (OV.split gno (Step.gtr rfl rfl) rfl (fun g1 => ?_) (fun g1 => ?_))
    ·
     refine RV.m rfl rfl (RV.gw rfl (Step.move rfl) rfl ?_)
     refine RV.gw rfl (Step.sliceHi Tryz.underlying83 I128 rfl rfl (6) ((show (6 : Int) = ((6 : Nat) : Int) from rfl)) (by omega)) rfl ?_
     refine RV.op (OV.call [] (F := [_, _]) Tryz.func60 B60 N60 rfl rfl (fun w h => kinds_fn (ts := R.take 6) ((h.rs hRS fun _ => hI _).take 6) (by rw [List.length_take]; omega) (by rw [List.length_take]; omega)) (fun _ hb => hb.elim) (gyes rfl) rfl (fun v L' hp => ?_))
     obtain ⟨rfl, rfl⟩ := hp
     simp only [List.append_nil]
     refine RV.op (OV.split (gyes rfl) (Step.eqlStr (l2 := [110, 100, 38, 100, 61, 100]) rfl rfl) rfl (fun g2 => ?_) (fun g2 => ?_))
     ·
      refine RV.s (Step.pick_t rfl rfl) rfl (RV.m rfl rfl (RV.gw rfl (Step.move rfl) rfl ?_))
      refine RV.op (OV.step (gyes rfl) (Step.idx Tryz.underlying83 I128 (fun w h => (h.rs hRS fun _ => hI _)) rfl rfl (by first | rfl | omega) _ (show (0 : Int) = ((0 : Nat) : Int) from rfl) (by omega)) rfl ?_)
      refine RV.gw rfl (Step.fieldAddr rfl (F128_1 _ _)) rfl ?_
      refine RV.gw rfl (Step.load Tryz.underlying9 rfl rfl (fun w h => (h.rs hRS fun _ => hI _).cell (by omega) rfl)) rfl ?_
      refine RV.op (OV.split (gyes rfl) (Step.eqlStr (l2 := [105, 102]) rfl rfl) rfl (fun g3 => ?_) (fun g3 => ?_))
      ·
       refine RV.s (Step.pick_t rfl rfl) rfl ?_
       refine RV.nil (KV.then_n (KV.env [(0, _), (4, _), (6, _), (45, _)] ⟨rfl, rfl, rfl, rfl, trivial⟩ (CV.cond_t rfl (CV.seq ?_))))
       refine CV.any (Hp I w []) (by kernel_rfl) (fun _ h => h.drew) 16 rfl ?_
       refine AV.u 0 (bl 16 1) rfl gno (Step.move rfl) rfl (fun _ h => h.sel [] rfl) ?_
       refine AV.u 1 (bl 16 3) rfl gno (Step.idx Tryz.underlying83 I128 (fun w h => (h.rs hRS fun _ => hI _)) rfl rfl (by first | rfl | omega) _ (show (1 : Int) = ((1 : Nat) : Int) from rfl) (by omega)) rfl (fun _ h => h.sel [] rfl) ?_
       refine AV.u 2 (bl 16 7) rfl gno (Step.fieldAddr rfl (F128_2 _ _)) rfl (fun _ h => h.sel [] rfl) ?_
       refine AV.u 3 (bl 16 15) rfl gno (Step.load Tryz.underlying43 rfl rfl (fun w h => (h.rs hRS fun _ => hI _).cell (by omega) rfl)) rfl (fun _ h => h.sel [] rfl) ?_
       refine AV.u 4 (bl 16 31) rfl gno (Step.move rfl) rfl (fun _ h => h.sel [] rfl) ?_
       refine AV.u 5 (bl 16 63) rfl gno (Step.idx Tryz.underlying83 I128 (fun w h => (h.rs hRS fun _ => hI _)) rfl rfl (by first | rfl | omega) _ (show (3 : Int) = ((3 : Nat) : Int) from rfl) (by omega)) rfl (fun _ h => h.sel [] rfl) ?_
       refine AV.u 6 (bl 16 127) rfl gno (Step.fieldAddr rfl (F128_2 _ _)) rfl (fun _ h => h.sel [] rfl) ?_
       refine AV.u 7 (bl 16 255) rfl gno (Step.load Tryz.underlying43 rfl rfl (fun w h => (h.rs hRS fun _ => hI _).cell (by omega) rfl)) rfl (fun _ h => h.sel [] rfl) ?_
       refine AV.u 8 (bl 16 511) rfl gno (Step.move rfl) rfl (fun _ h => h.sel [] rfl) ?_
       refine AV.u 9 (bl 16 1023) rfl gno (Step.idx Tryz.underlying83 I128 (fun w h => (h.rs hRS fun _ => hI _)) rfl rfl (by first | rfl | omega) _ (show (5 : Int) = ((5 : Nat) : Int) from rfl) (by omega)) rfl (fun _ h => h.sel [] rfl) ?_
       refine AV.u 10 (bl 16 2047) rfl gno (Step.fieldAddr rfl (F128_2 _ _)) rfl (fun _ h => h.sel [] rfl) ?_
       refine AV.u 11 (bl 16 4095) rfl gno (Step.load Tryz.underlying43 rfl rfl (fun w h => (h.rs hRS fun _ => hI _).cell (by omega) rfl)) rfl (fun _ h => h.sel [] rfl) ?_
       refine AV.u 12 (bl 16 8191) rfl gno (Step.build rfl (Bd45_0_1_2_3 _ _ _ _)) rfl (fun _ h => h.sel [] rfl) ?_
       refine AV.u 13 (bl 16 16383) rfl gno (Step.fieldAddr rfl (F88_0 _ _)) rfl (fun _ h => h.sel [] rfl) ?_
       refine AV.u 14 (bl 16 32767) rfl gno (Step.fieldAddr rfl (F48_2 _ _)) rfl (fun _ h => h.sel [] rfl) ?_
       refine AV.all [15] (by kernel_rfl) (by decide) ?_
       refine ⟨⟨_, rfl, ?_⟩, trivial⟩
       ·
        refine OV.store 1 [_, _, _, _] #[_, _, _, _, _, _, _, _, _] I45 rfl rfl rfl rfl rfl (Nat.le_of_ble_eq_true rfl) (by simp [Value.oneCell']) rfl gno ?_
        refine AV.next (bl 16 65535) (by kernel_rfl) (fun _ h => h.sel [] rfl) ?_
        refine AV.done (by kernel_rfl) ?_
        refine KV.then_n (KV.env [(0, _), (4, _), (6, _)] ⟨rfl, rfl, rfl, trivial⟩ (CV.region ?_))
        refine RV.m rfl rfl ?_
        refine RV.s (Step.sliceLo Tryz.underlying83 I128 rfl rfl (6) ((show (6 : Int) = ((6 : Nat) : Int) from rfl)) (by omega)) rfl ?_
        refine RV.a rfl rfl ?_
        refine RV.nil (KV.then_n (KV.env [(0, _), (4, _), (6, _)] ⟨rfl, rfl, rfl, trivial⟩ ?_))
        refine KV.sel [0, 0] [_, _] rfl ?_
        (first | exact KV.join (⟨⟨true, tnum (tA R 1), tnum (tA R 3), tnum (tA R 5)⟩, R.drop 6, shA B1 6 3 (c - 2), c - 2 - 6, hRS.drop 6 hRm, by rw [List.length_drop]; omega, fun x hx => hRok x (List.mem_of_mem_drop hx), by rw [List.length_drop]; omega, by rw [hd1]; exact on_yes hRok (by omega) g2 g3⟩) ⟨(by first | rfl | (show _ = some (Value.slice (shA B1 6 3 (c - 2)) (R.drop 6).length (c - 2 - 6)); rw [List.length_drop]; rfl)), rfl, rfl, trivial⟩ (fun _ h => h) | exact KV.join (⟨gd0, R, B1, c - 2, hRS, hRm, hRok, by omega, by rw [hd1]; exact on_no (by first | exact fun k => g3 k.2.2 | exact fun k => g2 k.2.1 | exact fun k => absurd k.1 (by omega))⟩) ⟨(by first | rfl | (show _ = some (Value.slice (shA B1 6 3 (c - 2)) (R.drop 6).length (c - 2 - 6)); rw [List.length_drop]; rfl)), rfl, rfl, trivial⟩ (fun _ h => h))
      ·
       refine RV.s (Step.pick_t rfl rfl) rfl ?_
       refine RV.nil (KV.then_n (KV.env [(0, _), (4, _), (6, _), (45, _)] ⟨rfl, rfl, rfl, rfl, trivial⟩ (CV.cond_f rfl (CV.skip (KV.then_n ?_)))))
       refine KV.env [(0, _), (4, _), (6, _)] ⟨rfl, rfl, rfl, trivial⟩ ?_
       refine KV.sel [0, 0] [_, _] rfl ?_
       (first | exact KV.join (⟨⟨true, tnum (tA R 1), tnum (tA R 3), tnum (tA R 5)⟩, R.drop 6, shA B1 6 3 (c - 2), c - 2 - 6, hRS.drop 6 hRm, by rw [List.length_drop]; omega, fun x hx => hRok x (List.mem_of_mem_drop hx), by rw [List.length_drop]; omega, by rw [hd1]; exact on_yes hRok (by omega) g2 g3⟩) ⟨(by first | rfl | (show _ = some (Value.slice (shA B1 6 3 (c - 2)) (R.drop 6).length (c - 2 - 6)); rw [List.length_drop]; rfl)), rfl, rfl, trivial⟩ (fun _ h => h) | exact KV.join (⟨gd0, R, B1, c - 2, hRS, hRm, hRok, by omega, by rw [hd1]; exact on_no (by first | exact fun k => g3 k.2.2 | exact fun k => g2 k.2.1 | exact fun k => absurd k.1 (by omega))⟩) ⟨(by first | rfl | (show _ = some (Value.slice (shA B1 6 3 (c - 2)) (R.drop 6).length (c - 2 - 6)); rw [List.length_drop]; rfl)), rfl, rfl, trivial⟩ (fun _ h => h))
     ·
      refine RV.s (Step.pick_t rfl rfl) rfl (RV.m rfl rfl (RV.k rfl rfl (RV.k rfl rfl (RV.k rfl rfl (RV.k rfl rfl (RV.k rfl rfl (RV.s (Step.pick_f rfl rfl) rfl ?_)))))))
      refine RV.nil (KV.then_n (KV.env [(0, _), (4, _), (6, _), (45, _)] ⟨rfl, rfl, rfl, rfl, trivial⟩ (CV.cond_f rfl (CV.skip (KV.then_n ?_)))))
      refine KV.env [(0, _), (4, _), (6, _)] ⟨rfl, rfl, rfl, trivial⟩ ?_
      refine KV.sel [0, 0] [_, _] rfl ?_
      (first | exact KV.join (⟨⟨true, tnum (tA R 1), tnum (tA R 3), tnum (tA R 5)⟩, R.drop 6, shA B1 6 3 (c - 2), c - 2 - 6, hRS.drop 6 hRm, by rw [List.length_drop]; omega, fun x hx => hRok x (List.mem_of_mem_drop hx), by rw [List.length_drop]; omega, by rw [hd1]; exact on_yes hRok (by omega) g2 g3⟩) ⟨(by first | rfl | (show _ = some (Value.slice (shA B1 6 3 (c - 2)) (R.drop 6).length (c - 2 - 6)); rw [List.length_drop]; rfl)), rfl, rfl, trivial⟩ (fun _ h => h) | exact KV.join (⟨gd0, R, B1, c - 2, hRS, hRm, hRok, by omega, by rw [hd1]; exact on_no (by first | exact fun k => g3 k.2.2 | exact fun k => g2 k.2.1 | exact fun k => absurd k.1 (by omega))⟩) ⟨(by first | rfl | (show _ = some (Value.slice (shA B1 6 3 (c - 2)) (R.drop 6).length (c - 2 - 6)); rw [List.length_drop]; rfl)), rfl, rfl, trivial⟩ (fun _ h => h))
    ·
     refine RV.m rfl rfl (RV.k rfl rfl (RV.k rfl rfl (RV.k rfl rfl (RV.k rfl rfl (RV.s (Step.pick_f rfl rfl) rfl (RV.m rfl rfl (RV.k rfl rfl ?_)))))))
     refine RV.k rfl rfl (RV.k rfl rfl (RV.k rfl rfl (RV.k rfl rfl (RV.s (Step.pick_f rfl rfl) rfl ?_))))
     refine RV.nil (KV.then_n (KV.env [(0, _), (4, _), (6, _), (45, _)] ⟨rfl, rfl, rfl, rfl, trivial⟩ (CV.cond_f rfl (CV.skip (KV.then_n ?_)))))
     refine KV.env [(0, _), (4, _), (6, _)] ⟨rfl, rfl, rfl, trivial⟩ ?_
     refine KV.sel [0, 0] [_, _] rfl ?_
     (first | exact KV.join (⟨⟨true, tnum (tA R 1), tnum (tA R 3), tnum (tA R 5)⟩, R.drop 6, shA B1 6 3 (c - 2), c - 2 - 6, hRS.drop 6 hRm, by rw [List.length_drop]; omega, fun x hx => hRok x (List.mem_of_mem_drop hx), by rw [List.length_drop]; omega, by rw [hd1]; exact on_yes hRok (by omega) g2 g3⟩) ⟨(by first | rfl | (show _ = some (Value.slice (shA B1 6 3 (c - 2)) (R.drop 6).length (c - 2 - 6)); rw [List.length_drop]; rfl)), rfl, rfl, trivial⟩ (fun _ h => h) | exact KV.join (⟨gd0, R, B1, c - 2, hRS, hRm, hRok, by omega, by rw [hd1]; exact on_no (by first | exact fun k => g3 k.2.2 | exact fun k => g2 k.2.1 | exact fun k => absurd k.1 (by omega))⟩) ⟨(by first | rfl | (show _ = some (Value.slice (shA B1 6 3 (c - 2)) (R.drop 6).length (c - 2 - 6)); rw [List.length_drop]; rfl)), rfl, rfl, trivial⟩ (fun _ h => h))
   ·
    intro G
    refine CV.seq (CV.seq (CV.region ?_))
    refine RV.m rfl rfl (RV.s (Step.lenSl Tryz.underlying83 rfl) rfl ?_)
    refine RV.op (OV.split gno (Step.lss rfl rfl) rfl (fun f1 => ?_) (fun f1 => ?_))
    ·
     refine RV.m rfl rfl (RV.k rfl rfl (RV.k rfl rfl (RV.k rfl rfl (RV.k rfl rfl (RV.s (Step.pick_t rfl rfl) rfl ?_)))))
     refine RV.nil (KV.then_n (KV.env [(0, _), (4, _), (6, _), (71, _)] ⟨rfl, rfl, rfl, rfl, trivial⟩ (CV.cond_t rfl (CV.seq (CV.region ?_)))))
     refine RV.s (Step.loadN _ Tryz.underlying88 rfl I88 rfl rfl (fun w h => h.cells 1 rfl)) rfl ?_
     refine RV.op (OV.store 0 [_, _, _, _, _, _, _, _, _] #[_, _, _, _, _, _, _, _, _] I88 rfl rfl rfl rfl rfl (Nat.le_of_ble_eq_true rfl) (by simp [Value.oneCell']) rfl gno ?_)
     refine RV.a rfl rfl ?_
     refine RV.nil (KV.then_n (KV.env [(4, _), (5, _)] ⟨rfl, rfl, trivial⟩ (CV.ret (KV.then_ret ?_))))
     refine KV.sel [0] [_] rfl ?_
     exact KV.retC2 [_, _, _, _, _, _, _, _, _] rfl rfl rfl Tryz.underlying88 rfl I88 rfl (fun w h => h.cells 0 rfl) _ (fun _ h => h.sel [] rfl) (.inr ⟨by rw [G.res]; exact onT_bad (by first | exact fun k => f2 k.2 | exact fun k => absurd k.1 (by omega)), ⟨⟨⟨frm, (rtext (tA ts 1)), G.g, [], 0⟩, none, 0⟩, []⟩, rfl, rfl, rfl, rfl, rfl⟩)
    ·
     have hGl := G.len
     refine RV.m rfl rfl (RV.gw rfl (Step.move rfl) rfl ?_)
     refine RV.gw rfl (Step.sliceHi Tryz.underlying83 I128 rfl rfl (2) ((show (2 : Int) = ((2 : Nat) : Int) from rfl)) (by have := G.cap; omega)) rfl ?_
     refine RV.op (OV.call [] (F := [_, _]) Tryz.func60 B60 N60 rfl rfl (fun w h => kinds_fn (ts := G.cur.take 2) ((h.rs G.rs fun _ => hI _).take 2) (by rw [List.length_take]; omega) (by rw [List.length_take]; omega)) (fun _ hb => hb.elim) (gyes rfl) rfl (fun v L' hp => ?_))
     obtain ⟨rfl, rfl⟩ := hp
     simp only [List.append_nil]
     refine RV.op (OV.split (gyes rfl) (Step.neqStr (l2 := [62, 110]) rfl rfl) rfl (fun f2 => ?_) (fun f2 => ?_))
     ·
      refine RV.s (Step.pick_f rfl rfl) rfl ?_
      refine RV.nil (KV.then_n (KV.env [(0, _), (4, _), (6, _), (71, _)] ⟨rfl, rfl, rfl, rfl, trivial⟩ (CV.cond_t rfl (CV.seq (CV.region ?_)))))
      refine RV.s (Step.loadN _ Tryz.underlying88 rfl I88 rfl rfl (fun w h => h.cells 1 rfl)) rfl ?_
      refine RV.op (OV.store 0 [_, _, _, _, _, _, _, _, _] #[_, _, _, _, _, _, _, _, _] I88 rfl rfl rfl rfl rfl (Nat.le_of_ble_eq_true rfl) (by simp [Value.oneCell']) rfl gno ?_)
      refine RV.a rfl rfl ?_
      refine RV.nil (KV.then_n (KV.env [(4, _), (5, _)] ⟨rfl, rfl, trivial⟩ (CV.ret (KV.then_ret ?_))))
      refine KV.sel [0] [_] rfl ?_
      exact KV.retC2 [_, _, _, _, _, _, _, _, _] rfl rfl rfl Tryz.underlying88 rfl I88 rfl (fun w h => h.cells 0 rfl) _ (fun _ h => h.sel [] rfl) (.inr ⟨by rw [G.res]; exact onT_bad (by first | exact fun k => f2 k.2 | exact fun k => absurd k.1 (by omega)), ⟨⟨⟨frm, (rtext (tA ts 1)), G.g, [], 0⟩, none, 0⟩, []⟩, rfl, rfl, rfl, rfl, rfl⟩)
     ·
      refine RV.s (Step.pick_f rfl rfl) rfl ?_
      refine RV.nil (KV.then_n (KV.env [(0, _), (4, _), (6, _), (71, _)] ⟨rfl, rfl, rfl, rfl, trivial⟩ (CV.cond_f rfl (CV.skip (KV.then_n ?_)))))
      refine KV.env [(0, _), (4, _), (6, _)] ⟨rfl, rfl, rfl, trivial⟩ (CV.seq (CV.region ?_))
      refine RV.m rfl rfl ?_
      refine RV.op (OV.step gno (Step.idx Tryz.underlying83 I128 (fun w h => (h.rs G.rs fun _ => hI _)) rfl rfl (by first | rfl | omega) _ (show (1 : Int) = ((1 : Nat) : Int) from rfl) (by omega)) rfl ?_)
      refine RV.s (Step.fieldAddr rfl (F128_1 _ _)) rfl ?_
      refine RV.s (Step.load Tryz.underlying9 rfl rfl (fun w h => (h.rs G.rs fun _ => hI _).cell (by omega) rfl)) rfl ?_
      refine RV.s (Step.fieldAddr rfl (F88_1 _ _)) rfl ?_
      refine RV.op (OV.store 1 [_] #[_, _, _, _, _, _, _, _, _] I9 rfl rfl rfl rfl rfl (Nat.le_of_ble_eq_true rfl) (by simp [Value.oneCell']) rfl gno ?_)
      refine RV.nil (KV.then_n (KV.env [(0, _), (4, _), (6, _)] ⟨rfl, rfl, rfl, trivial⟩ (CV.seq ?_)))
      have hg2 : G.cur.length - 2 = (G.cur.drop 2).length := List.length_drop.symm
      refine CV.region ?_
      refine RV.m rfl rfl ?_
      refine RV.s (Step.sliceLo Tryz.underlying83 I128 rfl rfl (2) ((show (2 : Int) = ((2 : Nat) : Int) from rfl)) (by omega)) rfl ?_
      rw [hg2]
      refine RV.op (OV.call [] (F := [_, _]) Tryz.func81 B81 N81 rfl rfl (fun w h => roperations_fn (ts := G.cur.drop 2) (h.rs (G.rs.drop 2 G.cap) fun _ => hI _) (by rw [List.length_drop]; have := G.cap; omega) (fun x hx => G.ok x (List.mem_of_mem_drop hx)) (by rw [List.length_drop]; omega)) (fun _ hb => hb.elim) gno rfl (fun v L' hp => ?_))
      rcases hp with ⟨oo, A1, c1, htl, hol, rfl, rfl⟩ | ⟨htl, rfl, rfl⟩
      ·
       skip
       refine RV.m rfl rfl (RV.s (Step.extract0 rfl rfl) rfl (RV.s (Step.extract0 rfl rfl) rfl (RV.a rfl rfl (RV.a rfl rfl ?_))))
       refine RV.nil (KV.then_n (KV.env [(4, _), (6, _), (7, _), (8, _)] ⟨rfl, rfl, rfl, rfl, trivial⟩ (CV.seq (CV.region ?_))))
       refine RV.m rfl rfl (RV.s (Step.fieldAddr rfl (F88_0 _ _)) rfl (RV.s (Step.fieldAddr rfl (F48_3 _ _)) rfl ?_))
       refine RV.op (OV.store 1 [_] #[_, _, _, _, _, _, _, _, _] I46 rfl rfl rfl rfl rfl (Nat.le_of_ble_eq_true rfl) (by simp [Value.oneCell']) rfl gno ?_)
       refine RV.nil (KV.then_n (KV.env [(4, _), (6, _), (8, _)] ⟨rfl, rfl, rfl, trivial⟩ (CV.seq (CV.region ?_))))
       refine RV.s (Step.loadN _ Tryz.underlying88 rfl I88 rfl rfl (fun w h => h.cells 1 rfl)) rfl (RV.m rfl rfl ?_)
       refine RV.op (OV.store 0 [_, _, _, _, _, _, _, _, _] #[_, _, _, _, _, _, _, _, _] I88 rfl rfl rfl rfl rfl (Nat.le_of_ble_eq_true rfl) (by simp [Value.oneCell']) rfl gno ?_)
       refine RV.a rfl rfl ?_
       refine RV.nil (KV.then_n (KV.env [(4, _), (5, _)] ⟨rfl, rfl, trivial⟩ (CV.ret ?_)))
       refine KV.sel [0, 1] [_, _] rfl ?_
       have hgo := onT_ok (e := (rtext (tA ts 1))) (g := G.g) G.ok (by omega) (Decidable.not_not.1 f2)
       rw [htl] at hgo
       first | exact KV.retC2 [_, _, _, _, _, _, _, _, _] rfl rfl rfl Tryz.underlying88 rfl I88 rfl (fun w h => h.cells 0 rfl) _ (fun _ h => h.sel [1] rfl) (.inl ⟨_, A1, c1, G.res.trans hgo, by rw [List.length_drop] at hol; show oo.length ≤ _; omega, rfl, rfl⟩) | exact KV.retC2 [_, _, _, _, _, _, _, _, _] rfl rfl rfl Tryz.underlying88 rfl I88 rfl (fun w h => h.cells 0 rfl) _ (fun _ h => h.sel [] rfl) (.inr ⟨G.res.trans hgo, ⟨⟨⟨frm, (rtext (tA ts 1)), G.g, [], 0⟩, none, 0⟩, (rtext (tA G.cur 1))⟩, rfl, rfl, rfl, rfl, rfl⟩)
      ·
       skip
       simp only [List.append_nil]
       refine RV.m rfl rfl (RV.s (Step.extract0 rfl rfl) rfl (RV.s (Step.extract0 rfl rfl) rfl (RV.a rfl rfl (RV.a rfl rfl ?_))))
       refine RV.nil (KV.then_n (KV.env [(4, _), (6, _), (7, _), (8, _)] ⟨rfl, rfl, rfl, rfl, trivial⟩ (CV.seq (CV.region ?_))))
       refine RV.m rfl rfl (RV.s (Step.fieldAddr rfl (F88_0 _ _)) rfl (RV.s (Step.fieldAddr rfl (F48_3 _ _)) rfl ?_))
       refine RV.op (OV.store 1 [_] #[_, _, _, _, _, _, _, _, _] I46 rfl rfl rfl rfl rfl (Nat.le_of_ble_eq_true rfl) (by simp [Value.oneCell']) rfl gno ?_)
       refine RV.nil (KV.then_n (KV.env [(4, _), (6, _), (8, _)] ⟨rfl, rfl, rfl, trivial⟩ (CV.seq (CV.region ?_))))
       refine RV.s (Step.loadN _ Tryz.underlying88 rfl I88 rfl rfl (fun w h => h.cells 1 rfl)) rfl (RV.m rfl rfl ?_)
       refine RV.op (OV.store 0 [_, _, _, _, _, _, _, _, _] #[_, _, _, _, _, _, _, _, _] I88 rfl rfl rfl rfl rfl (Nat.le_of_ble_eq_true rfl) (by simp [Value.oneCell']) rfl gno ?_)
       refine RV.a rfl rfl ?_
       refine RV.nil (KV.then_n (KV.env [(4, _), (5, _)] ⟨rfl, rfl, trivial⟩ (CV.ret ?_)))
       refine KV.sel [0] [_] rfl ?_
       have hgo := onT_ok (e := (rtext (tA ts 1))) (g := G.g) G.ok (by omega) (Decidable.not_not.1 f2)
       rw [htl] at hgo
       first | exact KV.retC2 [_, _, _, _, _, _, _, _, _] rfl rfl rfl Tryz.underlying88 rfl I88 rfl (fun w h => h.cells 0 rfl) _ (fun _ h => h.sel [1] rfl) (.inl ⟨_, A1, c1, G.res.trans hgo, by rw [List.length_drop] at hol; show oo.length ≤ _; omega, rfl, rfl⟩) | exact KV.retC2 [_, _, _, _, _, _, _, _, _] rfl rfl rfl Tryz.underlying88 rfl I88 rfl (fun w h => h.cells 0 rfl) _ (fun _ h => h.sel [] rfl) (.inr ⟨G.res.trans hgo, ⟨⟨⟨frm, (rtext (tA ts 1)), G.g, [], 0⟩, none, 0⟩, (rtext (tA G.cur 1))⟩, rfl, rfl, rfl, rfl, rfl⟩)
end Go.Proofs.YtplmfekhdaefaaaGreatDoor
