/-
 Walks, part 7.
-/
import Derived.Test.YtplmfekhdaefaaaGreatDoorTabA
import Derived.Test.YtplmfekhdaefaaaGreatDoorW6
import Derived.Test.YtplmfekhdaefaaaGreatDoorDmA
set_option linter.unusedSimpArgs false
set_option linter.unusedVariables false
namespace Go.Proofs.YtplmfekhdaefaaaGreatDoor
open Go.Sv Go.Drv
set_option maxRecDepth 100000 in
set_option maxHeartbeats 4000000 in
theorem operation_fn {q : Nat} {A : Option Addr} {c i : Nat} {ts : List MT} {w : World} (ht : ∀ x ∈ ts, tkOk x) (hi : i ≤ ts.length) (hl : ts.length ≤ 1000000) : Fx Tryz.prog 77 [.pointer (some ⟨q, 0, none⟩)] w [Blk q (.cells #[.slice A ts.length c, .int .i64 (((i : Nat) : Int))] 121 (0, 0)), OS 114 tokK A c ts] no (fun v L => (∃ (o : Ro) (k : Nat), opM (ts.drop i) = some (o, ts.drop k) ∧ i < k ∧ k ≤ ts.length ∧ v = .tuple #[.agg #[.bool o.wr, .int .u64 o.reg, .int .u64 o.val], .bool true] ∧ L = [Blk q (.cells #[.slice A ts.length c, .int .i64 (((k : Nat) : Int))] 121 (0, 0)), OS 114 tokK A c ts]) ∨ (opM (ts.drop i) = none ∧ ∃ (o : Ro) (k : Nat), k ≤ ts.length ∧ v = .tuple #[.agg #[.bool o.wr, .int .u64 o.reg, .int .u64 o.val], .bool false] ∧ L = [Blk q (.cells #[.slice A ts.length c, .int .i64 (((k : Nat) : Int))] 121 (0, 0)), OS 114 tokK A c ts])) := by
 refine Sv.Fx.body Tryz.func77 rfl T77 rfl ?_
 intro I hro hI
 refine KV.env [(0, _)] ⟨rfl, trivial⟩ (CV.seq (CV.region ?_))
 refine RV.op (OV.alloc #[.bool false, .int .u64 0, .int .u64 0] I59 rfl gno rfl (fun p => ?_))
 refine RV.a rfl rfl ?_
 refine RV.nil (KV.then_n (KV.env [(0, _), (2, _)] ⟨rfl, rfl, trivial⟩ (CV.seq (CV.region ?_))))
 refine RV.op (OV.alloc #[.bool false, .int .u64 0, .int .u64 0] I59 rfl gno rfl (fun z => ?_))
 refine RV.nil (KV.then_n (KV.env [(0, _), (2, _), (4, _)] ⟨rfl, rfl, rfl, trivial⟩ (CV.seq (CV.seq (CV.region ?_)))))
 refine RV.m rfl rfl ?_
 refine RV.op (OV.call [0, 0] (F := [_, _]) Tryz.func75 B75 N75 rfl rfl (fun w h => accept_fn (.nm sWrite) trivial ht (by omega) hl) (fun _ hb => hb.elim) gno rfl (fun v L' hp => ?_))
 rcases hp with ⟨hA, hAl, rfl, rfl⟩ | ⟨hA, rfl, rfl⟩
 ·
  skip
  refine RV.nil (KV.then_n (KV.env [(0, _), (2, _), (4, _), (8, _)] ⟨rfl, rfl, rfl, rfl, trivial⟩ (CV.cond_t rfl (CV.seq (CV.region ?_)))))
  refine RV.s (Step.fieldAddr rfl (F59_0 _ _)) rfl ?_
  refine RV.op (OV.store 1 [_] #[_, _, _] I4 rfl rfl rfl rfl rfl (Nat.le_of_ble_eq_true rfl) (by simp [Value.oneCell']) rfl gno ?_)
  refine RV.nil (KV.then_n (KV.env [(0, _), (2, _), (4, _)] ⟨rfl, rfl, rfl, trivial⟩ (CV.seq (CV.region ?_))))
  refine RV.m rfl rfl (RV.s (Step.fieldAddr rfl (F59_1 _ _)) rfl ?_)
  refine RV.op (OV.call [2, 2, 1] (F := [_]) Tryz.func76 B76 N76 rfl rfl (fun w h => number_fn (fun v => #[.bool true, .int .u64 v, .int .u64 0]) (by exact Nat.le_of_ble_eq_true rfl) (fun _ => rfl) (by omega) hl) (fun _ hb => hb.elim) gno rfl (fun v L' hp => ?_))
  rcases hp with ⟨x1, hN1, hN1l, rfl, rfl⟩ | ⟨hN1, rfl, rfl⟩
  ·
   skip
   refine RV.m rfl rfl (RV.gw rfl (Step.move rfl) rfl (RV.gw rfl (Step.fieldAddr rfl (F59_2 _ _)) rfl ?_))
   refine RV.op (OV.call [1, 1, 1] (F := [_]) Tryz.func76 B76 N76 rfl rfl (fun w h => number_fn (fun v => #[.bool true, .int .u64 x1, .int .u64 v]) (by exact Nat.le_of_ble_eq_true rfl) (fun _ => rfl) (by omega) hl) (fun _ hb => hb.elim) (gyes rfl) rfl (fun v L' hp => ?_))
   rcases hp with ⟨x2, hN2, hN2l, rfl, rfl⟩ | ⟨hN2, rfl, rfl⟩
   ·
    skip
    refine RV.s (Step.pick_t rfl rfl) rfl (RV.a rfl rfl ?_)
    refine RV.nil (KV.then_n (KV.env [(2, _), (4, _), (5, _)] ⟨rfl, rfl, rfl, trivial⟩ (CV.seq (CV.region ?_))))
    refine RV.s (Step.loadN _ Tryz.underlying59 rfl I59 rfl rfl (fun w h => h.cells 3 rfl)) rfl (RV.m rfl rfl ?_)
    refine RV.op (OV.store 0 [_, _, _] #[_, _, _] I59 rfl rfl rfl rfl rfl (Nat.le_of_ble_eq_true rfl) (by simp [Value.oneCell']) rfl gno ?_)
    refine RV.a rfl rfl ?_
    refine RV.nil (KV.then_n (KV.env [(2, _), (3, _)] ⟨rfl, rfl, trivial⟩ (CV.ret (KV.then_ret ?_))))
    refine KV.sel [0, 0, 0] [_, _, _] rfl ?_
    (first | exact KV.retC2 [_, _, _] rfl rfl rfl Tryz.underlying59 rfl I59 rfl (fun w h => h.cells 0 rfl) _ (fun _ h => h.sel [1, 1] rfl) (.inl ⟨⟨true, x1, x2⟩, i + 1 + 1 + 1, op_w_yes hA hN1 hN2, by omega, by omega, rfl, rfl⟩) | exact KV.retC2 [_, _, _] rfl rfl rfl Tryz.underlying59 rfl I59 rfl (fun w h => h.cells 0 rfl) _ (fun _ h => h.sel [1, 1] rfl) (.inr ⟨op_w_no2 hA hN1 hN2, ⟨true, x1, 0⟩, i + 1 + 1, by omega, rfl, rfl⟩) | exact KV.retC2 [_, _, _] rfl rfl rfl Tryz.underlying59 rfl I59 rfl (fun w h => h.cells 0 rfl) _ (fun _ h => h.sel [1, 1] rfl) (.inr ⟨op_no1 hA hN1, ⟨true, 0, 0⟩, i + 1, by omega, rfl, rfl⟩))
   ·
    skip
    refine RV.s (Step.pick_t rfl rfl) rfl (RV.a rfl rfl ?_)
    refine RV.nil (KV.then_n (KV.env [(2, _), (4, _), (5, _)] ⟨rfl, rfl, rfl, trivial⟩ (CV.seq (CV.region ?_))))
    refine RV.s (Step.loadN _ Tryz.underlying59 rfl I59 rfl rfl (fun w h => h.cells 3 rfl)) rfl (RV.m rfl rfl ?_)
    refine RV.op (OV.store 0 [_, _, _] #[_, _, _] I59 rfl rfl rfl rfl rfl (Nat.le_of_ble_eq_true rfl) (by simp [Value.oneCell']) rfl gno ?_)
    refine RV.a rfl rfl ?_
    refine RV.nil (KV.then_n (KV.env [(2, _), (3, _)] ⟨rfl, rfl, trivial⟩ (CV.ret (KV.then_ret ?_))))
    refine KV.sel [0, 0, 0] [_, _, _] rfl ?_
    (first | exact KV.retC2 [_, _, _] rfl rfl rfl Tryz.underlying59 rfl I59 rfl (fun w h => h.cells 0 rfl) _ (fun _ h => h.sel [1, 1] rfl) (.inl ⟨⟨true, x1, x2⟩, i + 1 + 1 + 1, op_w_yes hA hN1 hN2, by omega, by omega, rfl, rfl⟩) | exact KV.retC2 [_, _, _] rfl rfl rfl Tryz.underlying59 rfl I59 rfl (fun w h => h.cells 0 rfl) _ (fun _ h => h.sel [1, 1] rfl) (.inr ⟨op_w_no2 hA hN1 hN2, ⟨true, x1, 0⟩, i + 1 + 1, by omega, rfl, rfl⟩) | exact KV.retC2 [_, _, _] rfl rfl rfl Tryz.underlying59 rfl I59 rfl (fun w h => h.cells 0 rfl) _ (fun _ h => h.sel [1, 1] rfl) (.inr ⟨op_no1 hA hN1, ⟨true, 0, 0⟩, i + 1, by omega, rfl, rfl⟩))
  ·
   skip
   refine RV.m rfl rfl (RV.k rfl rfl (RV.k rfl rfl (RV.k rfl rfl (RV.s (Step.pick_f rfl rfl) rfl (RV.a rfl rfl ?_)))))
   refine RV.nil (KV.then_n (KV.env [(2, _), (4, _), (5, _)] ⟨rfl, rfl, rfl, trivial⟩ (CV.seq (CV.region ?_))))
   refine RV.s (Step.loadN _ Tryz.underlying59 rfl I59 rfl rfl (fun w h => h.cells 3 rfl)) rfl (RV.m rfl rfl ?_)
   refine RV.op (OV.store 0 [_, _, _] #[_, _, _] I59 rfl rfl rfl rfl rfl (Nat.le_of_ble_eq_true rfl) (by simp [Value.oneCell']) rfl gno ?_)
   refine RV.a rfl rfl ?_
   refine RV.nil (KV.then_n (KV.env [(2, _), (3, _)] ⟨rfl, rfl, trivial⟩ (CV.ret (KV.then_ret ?_))))
   refine KV.sel [0, 0, 0] [_, _, _] rfl ?_
   (first | exact KV.retC2 [_, _, _] rfl rfl rfl Tryz.underlying59 rfl I59 rfl (fun w h => h.cells 0 rfl) _ (fun _ h => h.sel [1, 1] rfl) (.inl ⟨⟨true, x1, x2⟩, i + 1 + 1 + 1, op_w_yes hA hN1 hN2, by omega, by omega, rfl, rfl⟩) | exact KV.retC2 [_, _, _] rfl rfl rfl Tryz.underlying59 rfl I59 rfl (fun w h => h.cells 0 rfl) _ (fun _ h => h.sel [1, 1] rfl) (.inr ⟨op_w_no2 hA hN1 hN2, ⟨true, x1, 0⟩, i + 1 + 1, by omega, rfl, rfl⟩) | exact KV.retC2 [_, _, _] rfl rfl rfl Tryz.underlying59 rfl I59 rfl (fun w h => h.cells 0 rfl) _ (fun _ h => h.sel [1, 1] rfl) (.inr ⟨op_no1 hA hN1, ⟨true, 0, 0⟩, i + 1, by omega, rfl, rfl⟩))
 ·
  skip
  refine RV.nil (KV.then_n (KV.env [(0, _), (2, _), (4, _), (8, _)] ⟨rfl, rfl, rfl, rfl, trivial⟩ (CV.cond_f rfl (CV.skip (KV.then_n ?_)))))
  refine KV.env [(0, _), (2, _), (4, _)] ⟨rfl, rfl, rfl, trivial⟩ (CV.seq (CV.region ?_))
  refine RV.m rfl rfl ?_
  refine RV.op (OV.call [2, 2] (F := [_, _]) Tryz.func75 B75 N75 rfl rfl (fun w h => accept_fn (.nm sRead) trivial ht (by omega) hl) (fun _ hb => hb.elim) gno rfl (fun v L' hp => ?_))
  rcases hp with ⟨hB, hBl, rfl, rfl⟩ | ⟨hB, rfl, rfl⟩
  ·
   skip
   refine RV.m rfl rfl (RV.gw rfl (Step.move rfl) rfl (RV.gw rfl (Step.fieldAddr rfl (F59_1 _ _)) rfl ?_))
   refine RV.op (OV.call [2, 2, 1] (F := [_]) Tryz.func76 B76 N76 rfl rfl (fun w h => number_fn (fun v => #[.bool false, .int .u64 v, .int .u64 0]) (by exact Nat.le_of_ble_eq_true rfl) (fun _ => rfl) (by omega) hl) (fun _ hb => hb.elim) (gyes rfl) rfl (fun v L' hp => ?_))
   rcases hp with ⟨x1, hN1, hN1l, rfl, rfl⟩ | ⟨hN1, rfl, rfl⟩
   ·
    skip
    refine RV.s (Step.pick_t rfl rfl) rfl (RV.a rfl rfl ?_)
    refine RV.nil (KV.then_n (KV.env [(2, _), (4, _), (6, _)] ⟨rfl, rfl, rfl, trivial⟩ (CV.seq (CV.region ?_))))
    refine RV.s (Step.loadN _ Tryz.underlying59 rfl I59 rfl rfl (fun w h => h.cells 3 rfl)) rfl (RV.m rfl rfl ?_)
    refine RV.op (OV.store 0 [_, _, _] #[_, _, _] I59 rfl rfl rfl rfl rfl (Nat.le_of_ble_eq_true rfl) (by simp [Value.oneCell']) rfl gno ?_)
    refine RV.a rfl rfl ?_
    refine RV.nil (KV.then_n (KV.env [(2, _), (3, _)] ⟨rfl, rfl, trivial⟩ (CV.ret ?_)))
    refine KV.sel [0, 0, 0] [_, _, _] rfl ?_
    (first | exact KV.retC2 [_, _, _] rfl rfl rfl Tryz.underlying59 rfl I59 rfl (fun w h => h.cells 0 rfl) _ (fun _ h => h.sel [1, 1] rfl) (.inl ⟨⟨false, x1, 0⟩, i + 1 + 1, op_r_yes hB hN1, by omega, by omega, rfl, rfl⟩) | exact KV.retC2 [_, _, _] rfl rfl rfl Tryz.underlying59 rfl I59 rfl (fun w h => h.cells 0 rfl) _ (fun _ h => h.sel [1, 1] rfl) (.inr ⟨op_no1 hB hN1, ⟨false, 0, 0⟩, i + 1, by omega, rfl, rfl⟩) | exact KV.retC2 [_, _, _] rfl rfl rfl Tryz.underlying59 rfl I59 rfl (fun w h => h.cells 0 rfl) _ (fun _ h => h.sel [1, 1] rfl) (.inr ⟨op_no hA hB, ⟨false, 0, 0⟩, i, by omega, rfl, rfl⟩))
   ·
    skip
    refine RV.s (Step.pick_t rfl rfl) rfl (RV.a rfl rfl ?_)
    refine RV.nil (KV.then_n (KV.env [(2, _), (4, _), (6, _)] ⟨rfl, rfl, rfl, trivial⟩ (CV.seq (CV.region ?_))))
    refine RV.s (Step.loadN _ Tryz.underlying59 rfl I59 rfl rfl (fun w h => h.cells 3 rfl)) rfl (RV.m rfl rfl ?_)
    refine RV.op (OV.store 0 [_, _, _] #[_, _, _] I59 rfl rfl rfl rfl rfl (Nat.le_of_ble_eq_true rfl) (by simp [Value.oneCell']) rfl gno ?_)
    refine RV.a rfl rfl ?_
    refine RV.nil (KV.then_n (KV.env [(2, _), (3, _)] ⟨rfl, rfl, trivial⟩ (CV.ret ?_)))
    refine KV.sel [0, 0, 0] [_, _, _] rfl ?_
    (first | exact KV.retC2 [_, _, _] rfl rfl rfl Tryz.underlying59 rfl I59 rfl (fun w h => h.cells 0 rfl) _ (fun _ h => h.sel [1, 1] rfl) (.inl ⟨⟨false, x1, 0⟩, i + 1 + 1, op_r_yes hB hN1, by omega, by omega, rfl, rfl⟩) | exact KV.retC2 [_, _, _] rfl rfl rfl Tryz.underlying59 rfl I59 rfl (fun w h => h.cells 0 rfl) _ (fun _ h => h.sel [1, 1] rfl) (.inr ⟨op_no1 hB hN1, ⟨false, 0, 0⟩, i + 1, by omega, rfl, rfl⟩) | exact KV.retC2 [_, _, _] rfl rfl rfl Tryz.underlying59 rfl I59 rfl (fun w h => h.cells 0 rfl) _ (fun _ h => h.sel [1, 1] rfl) (.inr ⟨op_no hA hB, ⟨false, 0, 0⟩, i, by omega, rfl, rfl⟩))
  ·
   skip
   refine RV.m rfl rfl (RV.k rfl rfl (RV.k rfl rfl (RV.k rfl rfl (RV.s (Step.pick_f rfl rfl) rfl (RV.a rfl rfl ?_)))))
   refine RV.nil (KV.then_n (KV.env [(2, _), (4, _), (6, _)] ⟨rfl, rfl, rfl, trivial⟩ (CV.seq (CV.region ?_))))
   refine RV.s (Step.loadN _ Tryz.underlying59 rfl I59 rfl rfl (fun w h => h.cells 1 rfl)) rfl (RV.m rfl rfl ?_)
   refine RV.op (OV.store 0 [_, _, _] #[_, _, _] I59 rfl rfl rfl rfl rfl (Nat.le_of_ble_eq_true rfl) (by simp [Value.oneCell']) rfl gno ?_)
   refine RV.a rfl rfl ?_
   refine RV.nil (KV.then_n (KV.env [(2, _), (3, _)] ⟨rfl, rfl, trivial⟩ (CV.ret ?_)))
   refine KV.sel [0, 1, 1] [_, _, _] rfl ?_
   (first | exact KV.retC2 [_, _, _] rfl rfl rfl Tryz.underlying59 rfl I59 rfl (fun w h => h.cells 0 rfl) _ (fun _ h => h.sel [1, 1] rfl) (.inl ⟨⟨false, x1, 0⟩, i + 1 + 1, op_r_yes hB hN1, by omega, by omega, rfl, rfl⟩) | exact KV.retC2 [_, _, _] rfl rfl rfl Tryz.underlying59 rfl I59 rfl (fun w h => h.cells 0 rfl) _ (fun _ h => h.sel [1, 1] rfl) (.inr ⟨op_no1 hB hN1, ⟨false, 0, 0⟩, i + 1, by omega, rfl, rfl⟩) | exact KV.retC2 [_, _, _] rfl rfl rfl Tryz.underlying59 rfl I59 rfl (fun w h => h.cells 0 rfl) _ (fun _ h => h.sel [1, 1] rfl) (.inr ⟨op_no hA hB, ⟨false, 0, 0⟩, i, by omega, rfl, rfl⟩))

set_option maxRecDepth 100000 in
set_option maxHeartbeats 16000000 in
theorem transition_fn {q : Nat} {A : Option Addr} {c i : Nat} {ts : List MT} {w : World} (ht : ∀ x ∈ ts, tkOk x) (hi : i ≤ ts.length) (hl : ts.length ≤ 1000000) : Fx Tryz.prog 55 [.pointer (some ⟨q, 0, none⟩)] w [Blk q (.cells #[.slice A ts.length c, .int .i64 (((i : Nat) : Int))] 121 (0, 0)), OS 114 tokK A c ts] no (fun v L => (∃ (h : TH) (s : Bs) (k : Nat), onM (ts.drop i) = some (h.t, s) ∧ k ≤ ts.length ∧ v = .tuple #[.agg #[.int .i64 h.t.frm, .string (bs h.t.ev), .bool h.t.gd.used, .int .u64 h.t.gd.reg, .int .u64 h.t.gd.mask, .int .u64 h.t.gd.val, .slice h.A h.t.ops.length h.c, .int .i64 h.t.to], .string (bs s), .bool true] ∧ L = [Blk q (.cells #[.slice A ts.length c, .int .i64 (((k : Nat) : Int))] 121 (0, 0)), OS 114 tokK A c ts, OS 59 roK h.A h.c h.t.ops]) ∨ (onM (ts.drop i) = none ∧ ∃ (h : TH) (s : Bs) (k : Nat), k ≤ ts.length ∧ v = .tuple #[.agg #[.int .i64 h.t.frm, .string (bs h.t.ev), .bool h.t.gd.used, .int .u64 h.t.gd.reg, .int .u64 h.t.gd.mask, .int .u64 h.t.gd.val, .slice h.A h.t.ops.length h.c, .int .i64 h.t.to], .string (bs s), .bool false] ∧ L = [Blk q (.cells #[.slice A ts.length c, .int .i64 (((k : Nat) : Int))] 121 (0, 0)), OS 114 tokK A c ts])) := by
 refine Sv.Fx.body Tryz.func55 rfl T55 rfl ?_
 intro I hro hI
 refine KV.env [(0, _)] ⟨rfl, trivial⟩ (CV.seq (CV.region ?_))
 refine RV.op (OV.alloc #[.int .i64 0, .string (Sv.bs []), .bool false, .int .u64 0, .int .u64 0, .int .u64 0, .slice none 0 0, .int .i64 0] I48 rfl gno rfl (fun p => ?_))
 refine RV.s (Step.assign (v := .string (Sv.bs [])) rfl) rfl (RV.a rfl rfl ?_)
 refine RV.nil (KV.then_n (KV.env [(0, _), (2, _)] ⟨rfl, rfl, trivial⟩ (CV.seq (CV.region ?_))))
 refine RV.op (OV.alloc #[.int .i64 0, .string (Sv.bs []), .bool false, .int .u64 0, .int .u64 0, .int .u64 0, .slice none 0 0, .int .i64 0] I48 rfl gno rfl (fun t => ?_))
 refine RV.nil (KV.then_n (KV.env [(0, _), (2, _), (5, _)] ⟨rfl, rfl, rfl, trivial⟩ (CV.seq (CV.region ?_))))
 refine RV.a rfl rfl ?_
 refine RV.nil (KV.then_n (KV.env [(0, _), (2, _), (5, _)] ⟨rfl, rfl, rfl, trivial⟩ (CV.seq (CV.seq (CV.region ?_)))))
 refine RV.m rfl rfl ?_
 refine RV.op (OV.call [0, 0] (F := [_, _]) Tryz.func53 B53 N53 rfl rfl (fun w h => name_fn (by omega) hl) (fun _ hb => hb.elim) gno rfl (fun v L' hp => ?_))
 rcases hp with ⟨e, hE, hEl, rfl, rfl⟩ | ⟨hE, rfl, rfl⟩
 ·
  skip
  refine RV.m rfl rfl (RV.s (Step.extract0 rfl rfl) rfl (RV.s (Step.extract0 rfl rfl) rfl (RV.s (Step.fieldAddr rfl (F48_1 _ _)) rfl ?_)))
  refine RV.op (OV.store 1 [_] #[_, _, _, _, _, _, _, _] I9 rfl rfl rfl rfl rfl (Nat.le_of_ble_eq_true rfl) (by simp [Value.oneCell']) rfl gno ?_)
  refine RV.a rfl rfl ?_
  refine RV.nil (KV.then_n (KV.env [(0, _), (2, _), (5, _), (6, _)] ⟨rfl, rfl, rfl, rfl, trivial⟩ (CV.seq (CV.region ?_))))
  refine RV.m rfl rfl (RV.s (Step.not rfl) rfl ?_)
  refine RV.nil (KV.then_n (KV.env [(0, _), (2, _), (5, _), (18, _)] ⟨rfl, rfl, rfl, rfl, trivial⟩ (CV.cond_f rfl (CV.skip (KV.then_n ?_)))))
  refine KV.env [(0, _), (2, _), (5, _)] ⟨rfl, rfl, rfl, trivial⟩ ?_
  refine CV.join (fun (Z : {z : Gd × Nat // onM (ts.drop i) = onT e z.1 (ts.drop z.2) ∧ i < z.2 ∧ z.2 ≤ ts.length}) => [(0, .pointer (some ⟨q, 0, none⟩)), (2, .pointer (some ⟨p, 0, none⟩)), (5, .pointer (some ⟨t, 0, none⟩))]) (fun (Z : {z : Gd × Nat // onM (ts.drop i) = onT e z.1 (ts.drop z.2) ∧ i < z.2 ∧ z.2 ≤ ts.length}) => Hp I w [Blk q (.cells #[.slice A ts.length c, .int .i64 (((Z.1.2 : Nat) : Int))] 121 (0, 0)), OS 114 tokK A c ts, Blk p (.cells #[.int .i64 0, .string (bs []), .bool false, .int .u64 0, .int .u64 0, .int .u64 0, .slice none 0 0, .int .i64 0] 48 (0, 0)), Blk t (.cells #[.int .i64 0, .string (bs e), .bool Z.1.1.used, .int .u64 Z.1.1.reg, .int .u64 Z.1.1.mask, .int .u64 Z.1.1.val, .slice none 0 0, .int .i64 0] 48 (0, 0))]) ?_ ?_
  ·
   skip
   refine CV.seq (CV.region ?_)
   refine RV.m rfl rfl ?_
   refine RV.op (OV.call [2, 2] (F := [_, _]) Tryz.func75 B75 N75 rfl rfl (fun w h => accept_fn (.nm sIf) trivial ht (by omega) hl) (fun _ hb => hb.elim) gno rfl (fun v L' hp => ?_))
   rcases hp with ⟨hIf, hIfl, rfl, rfl⟩ | ⟨hIf, rfl, rfl⟩
   ·
    skip
    refine RV.nil (KV.then_n (KV.env [(0, _), (2, _), (5, _), (21, _)] ⟨rfl, rfl, rfl, rfl, trivial⟩ (CV.cond_t rfl (CV.seq (CV.region ?_)))))
    refine RV.s (Step.fieldAddr rfl (F48_2 _ _)) rfl (RV.s (Step.fieldAddr rfl (F45_0 _ _)) rfl ?_)
    refine RV.op (OV.store 1 [_] #[_, _, _, _, _, _, _, _] I4 rfl rfl rfl rfl rfl (Nat.le_of_ble_eq_true rfl) (by simp [Value.oneCell']) rfl gno ?_)
    refine RV.nil (KV.then_n (KV.env [(0, _), (2, _), (5, _)] ⟨rfl, rfl, rfl, trivial⟩ (CV.seq (CV.region ?_))))
    refine RV.m rfl rfl (RV.s (Step.fieldAddr rfl (F48_2 _ _)) rfl (RV.s (Step.fieldAddr rfl (F45_1 _ _)) rfl ?_))
    refine RV.op (OV.call [2, 2, 1] (F := [_]) Tryz.func76 B76 N76 rfl rfl (fun w h => number_fn (fun v => #[.int .i64 0, .string (bs e), .bool true, .int .u64 (v), .int .u64 (0), .int .u64 (0), .slice none 0 0, .int .i64 0]) (by exact Nat.le_of_ble_eq_true rfl) (fun _ => rfl) (by omega) hl) (fun _ hb => hb.elim) gno rfl (fun v L' hp => ?_))
    rcases hp with ⟨x1, hN1, hN1l, rfl, rfl⟩ | ⟨hN1, rfl, rfl⟩
    ·
     skip
     refine RV.s (Step.not rfl) rfl (RV.m rfl rfl (RV.gw rfl (Step.move rfl) rfl ?_))
     refine RV.op (OV.call [1, 1] (F := [_, _]) Tryz.func75 B75 N75 rfl rfl (fun w h => accept_fn (.sym 38) (.inr (.inr (.inl rfl))) ht (by omega) hl) (fun _ hb => hb.elim) (gyes rfl) rfl (fun v L' hp => ?_))
     rcases hp with ⟨hS1, hS1l, rfl, rfl⟩ | ⟨hS1, rfl, rfl⟩
     ·
      skip
      refine RV.gw rfl (Step.not rfl) rfl (RV.s (Step.pick_f rfl rfl) rfl (RV.m rfl rfl (RV.gw rfl (Step.move rfl) rfl (RV.gw rfl (Step.fieldAddr rfl (F48_2 _ _)) rfl (RV.gw rfl (Step.fieldAddr rfl (F45_2 _ _)) rfl ?_)))))
      refine RV.op (OV.call [2, 2, 1] (F := [_]) Tryz.func76 B76 N76 rfl rfl (fun w h => number_fn (fun v => #[.int .i64 0, .string (bs e), .bool true, .int .u64 (x1), .int .u64 (v), .int .u64 (0), .slice none 0 0, .int .i64 0]) (by exact Nat.le_of_ble_eq_true rfl) (fun _ => rfl) (by omega) hl) (fun _ hb => hb.elim) (gyes rfl) rfl (fun v L' hp => ?_))
      rcases hp with ⟨x2, hN2, hN2l, rfl, rfl⟩ | ⟨hN2, rfl, rfl⟩
      ·
       skip
       refine RV.gw rfl (Step.not rfl) rfl (RV.s (Step.pick_f rfl rfl) rfl (RV.m rfl rfl (RV.gw rfl (Step.move rfl) rfl ?_)))
       refine RV.op (OV.call [1, 1] (F := [_, _]) Tryz.func75 B75 N75 rfl rfl (fun w h => accept_fn (.sym 61) (.inr (.inr (.inr (.inl rfl)))) ht (by omega) hl) (fun _ hb => hb.elim) (gyes rfl) rfl (fun v L' hp => ?_))
       rcases hp with ⟨hS2, hS2l, rfl, rfl⟩ | ⟨hS2, rfl, rfl⟩
       ·
        skip
        refine RV.gw rfl (Step.not rfl) rfl (RV.s (Step.pick_f rfl rfl) rfl (RV.m rfl rfl (RV.gw rfl (Step.move rfl) rfl (RV.gw rfl (Step.fieldAddr rfl (F48_2 _ _)) rfl (RV.gw rfl (Step.fieldAddr rfl (F45_3 _ _)) rfl ?_)))))
        refine RV.op (OV.call [2, 2, 1] (F := [_]) Tryz.func76 B76 N76 rfl rfl (fun w h => number_fn (fun v => #[.int .i64 0, .string (bs e), .bool true, .int .u64 (x1), .int .u64 (x2), .int .u64 (v), .slice none 0 0, .int .i64 0]) (by exact Nat.le_of_ble_eq_true rfl) (fun _ => rfl) (by omega) hl) (fun _ hb => hb.elim) (gyes rfl) rfl (fun v L' hp => ?_))
        rcases hp with ⟨x3, hN3, hN3l, rfl, rfl⟩ | ⟨hN3, rfl, rfl⟩
        ·
         skip
         refine RV.gw rfl (Step.not rfl) rfl (RV.s (Step.pick_f rfl rfl) rfl ?_)
         refine RV.nil (KV.then_n (KV.env [(0, _), (2, _), (5, _), (52, _)] ⟨rfl, rfl, rfl, rfl, trivial⟩ (CV.cond_f rfl (CV.skip (KV.then_n ?_)))))
         refine KV.env [(0, _), (2, _), (5, _)] ⟨rfl, rfl, rfl, trivial⟩ ?_
         refine KV.sel [1, 1, 0, 0] [_, _, _, _] rfl ?_
         (first | exact KV.join (⟨(gd0, i + 1), on_g0 hE hIf, by omega, by omega⟩) ⟨rfl, rfl, rfl, trivial⟩ (fun _ h => h) | exact KV.join (⟨(⟨true, x1, x2, x3⟩, _), on_g1 hE (by rw [hIf, hN1, hS1, hN2, hS2, hN3]), by omega, by omega⟩) ⟨rfl, rfl, rfl, trivial⟩ (fun _ h => h))
        ·
         skip
         refine RV.gw rfl (Step.not rfl) rfl (RV.s (Step.pick_f rfl rfl) rfl ?_)
         refine RV.nil (KV.then_n (KV.env [(0, _), (2, _), (5, _), (52, _)] ⟨rfl, rfl, rfl, rfl, trivial⟩ (CV.cond_t rfl (CV.seq (CV.region ?_)))))
         refine RV.s (Step.loadN _ Tryz.underlying48 rfl I48 rfl rfl (fun w h => h.cells 3 rfl)) rfl ?_
         refine RV.op (OV.store 0 [_, _, _, _, _, _, _, _] #[_, _, _, _, _, _, _, _] I48 rfl rfl rfl rfl rfl (Nat.le_of_ble_eq_true rfl) (by simp [Value.oneCell']) rfl gno ?_)
         refine RV.s (Step.assign (v := .string (Sv.bs [])) rfl) rfl (RV.a rfl rfl ?_)
         refine RV.nil (KV.then_n (KV.env [(2, _), (3, _), (4, _)] ⟨rfl, rfl, rfl, trivial⟩ (CV.ret (KV.then_ret ?_))))
         refine KV.sel [0, 0, 0] [_, _, _] rfl ?_
         (first | exact KV.retC3 [_, _, _, _, _, _, _, _] rfl rfl rfl rfl Tryz.underlying48 rfl I48 rfl (fun w h => h.cells 0 rfl) _ (fun _ h => h.sel [1, 1] rfl) (.inr ⟨on_gn hE hIf (fun a m v r h => hN1 _ _ h), ⟨⟨0, e, ⟨true, 0, 0, 0⟩, [], 0⟩, none, 0⟩, [], _, by omega, rfl, rfl⟩) | exact KV.retC3 [_, _, _, _, _, _, _, _] rfl rfl rfl rfl Tryz.underlying48 rfl I48 rfl (fun w h => h.cells 0 rfl) _ (fun _ h => h.sel [1, 1] rfl) (.inr ⟨on_gn hE hIf (fun a m v r h => by rw [hN1] at h; injection h with _ h; exact hS1 _ h), ⟨⟨0, e, ⟨true, x1, 0, 0⟩, [], 0⟩, none, 0⟩, [], _, by omega, rfl, rfl⟩) | exact KV.retC3 [_, _, _, _, _, _, _, _] rfl rfl rfl rfl Tryz.underlying48 rfl I48 rfl (fun w h => h.cells 0 rfl) _ (fun _ h => h.sel [1, 1] rfl) (.inr ⟨on_gn hE hIf (fun a m v r h => by rw [hN1] at h; injection h with _ h; rw [hS1] at h; injection h with _ h; exact hN2 _ _ h), ⟨⟨0, e, ⟨true, x1, 0, 0⟩, [], 0⟩, none, 0⟩, [], _, by omega, rfl, rfl⟩) | exact KV.retC3 [_, _, _, _, _, _, _, _] rfl rfl rfl rfl Tryz.underlying48 rfl I48 rfl (fun w h => h.cells 0 rfl) _ (fun _ h => h.sel [1, 1] rfl) (.inr ⟨on_gn hE hIf (fun a m v r h => by rw [hN1] at h; injection h with _ h; rw [hS1] at h; injection h with _ h; rw [hN2] at h; injection h with _ h; exact hS2 _ h), ⟨⟨0, e, ⟨true, x1, x2, 0⟩, [], 0⟩, none, 0⟩, [], _, by omega, rfl, rfl⟩) | exact KV.retC3 [_, _, _, _, _, _, _, _] rfl rfl rfl rfl Tryz.underlying48 rfl I48 rfl (fun w h => h.cells 0 rfl) _ (fun _ h => h.sel [1, 1] rfl) (.inr ⟨on_gn hE hIf (fun a m v r h => by rw [hN1] at h; injection h with _ h; rw [hS1] at h; injection h with _ h; rw [hN2] at h; injection h with _ h; rw [hS2] at h; injection h with _ h; exact hN3 _ _ h), ⟨⟨0, e, ⟨true, x1, x2, 0⟩, [], 0⟩, none, 0⟩, [], _, by omega, rfl, rfl⟩))
       ·
        skip
        refine RV.gw rfl (Step.not rfl) rfl (RV.s (Step.pick_f rfl rfl) rfl (RV.m rfl rfl (RV.k rfl rfl (RV.k rfl rfl (RV.k rfl rfl (RV.k rfl rfl (RV.k rfl rfl ?_)))))))
        refine RV.s (Step.pick_t rfl rfl) rfl ?_
        refine RV.nil (KV.then_n (KV.env [(0, _), (2, _), (5, _), (52, _)] ⟨rfl, rfl, rfl, rfl, trivial⟩ (CV.cond_t rfl (CV.seq (CV.region ?_)))))
        refine RV.s (Step.loadN _ Tryz.underlying48 rfl I48 rfl rfl (fun w h => h.cells 1 rfl)) rfl ?_
        refine RV.op (OV.store 0 [_, _, _, _, _, _, _, _] #[_, _, _, _, _, _, _, _] I48 rfl rfl rfl rfl rfl (Nat.le_of_ble_eq_true rfl) (by simp [Value.oneCell']) rfl gno ?_)
        refine RV.s (Step.assign (v := .string (Sv.bs [])) rfl) rfl (RV.a rfl rfl ?_)
        refine RV.nil (KV.then_n (KV.env [(2, _), (3, _), (4, _)] ⟨rfl, rfl, rfl, trivial⟩ (CV.ret (KV.then_ret ?_))))
        refine KV.sel [0, 1, 1] [_, _, _] rfl ?_
        (first | exact KV.retC3 [_, _, _, _, _, _, _, _] rfl rfl rfl rfl Tryz.underlying48 rfl I48 rfl (fun w h => h.cells 0 rfl) _ (fun _ h => h.sel [1, 1] rfl) (.inr ⟨on_gn hE hIf (fun a m v r h => hN1 _ _ h), ⟨⟨0, e, ⟨true, 0, 0, 0⟩, [], 0⟩, none, 0⟩, [], _, by omega, rfl, rfl⟩) | exact KV.retC3 [_, _, _, _, _, _, _, _] rfl rfl rfl rfl Tryz.underlying48 rfl I48 rfl (fun w h => h.cells 0 rfl) _ (fun _ h => h.sel [1, 1] rfl) (.inr ⟨on_gn hE hIf (fun a m v r h => by rw [hN1] at h; injection h with _ h; exact hS1 _ h), ⟨⟨0, e, ⟨true, x1, 0, 0⟩, [], 0⟩, none, 0⟩, [], _, by omega, rfl, rfl⟩) | exact KV.retC3 [_, _, _, _, _, _, _, _] rfl rfl rfl rfl Tryz.underlying48 rfl I48 rfl (fun w h => h.cells 0 rfl) _ (fun _ h => h.sel [1, 1] rfl) (.inr ⟨on_gn hE hIf (fun a m v r h => by rw [hN1] at h; injection h with _ h; rw [hS1] at h; injection h with _ h; exact hN2 _ _ h), ⟨⟨0, e, ⟨true, x1, 0, 0⟩, [], 0⟩, none, 0⟩, [], _, by omega, rfl, rfl⟩) | exact KV.retC3 [_, _, _, _, _, _, _, _] rfl rfl rfl rfl Tryz.underlying48 rfl I48 rfl (fun w h => h.cells 0 rfl) _ (fun _ h => h.sel [1, 1] rfl) (.inr ⟨on_gn hE hIf (fun a m v r h => by rw [hN1] at h; injection h with _ h; rw [hS1] at h; injection h with _ h; rw [hN2] at h; injection h with _ h; exact hS2 _ h), ⟨⟨0, e, ⟨true, x1, x2, 0⟩, [], 0⟩, none, 0⟩, [], _, by omega, rfl, rfl⟩) | exact KV.retC3 [_, _, _, _, _, _, _, _] rfl rfl rfl rfl Tryz.underlying48 rfl I48 rfl (fun w h => h.cells 0 rfl) _ (fun _ h => h.sel [1, 1] rfl) (.inr ⟨on_gn hE hIf (fun a m v r h => by rw [hN1] at h; injection h with _ h; rw [hS1] at h; injection h with _ h; rw [hN2] at h; injection h with _ h; rw [hS2] at h; injection h with _ h; exact hN3 _ _ h), ⟨⟨0, e, ⟨true, x1, x2, 0⟩, [], 0⟩, none, 0⟩, [], _, by omega, rfl, rfl⟩))
      ·
       skip
       refine RV.gw rfl (Step.not rfl) rfl (RV.s (Step.pick_f rfl rfl) rfl (RV.m rfl rfl (RV.k rfl rfl (RV.k rfl rfl (RV.k rfl rfl (RV.s (Step.pick_t rfl rfl) rfl (RV.m rfl rfl ?_)))))))
       refine RV.k rfl rfl (RV.k rfl rfl (RV.k rfl rfl (RV.k rfl rfl (RV.k rfl rfl (RV.s (Step.pick_t rfl rfl) rfl ?_)))))
       refine RV.nil (KV.then_n (KV.env [(0, _), (2, _), (5, _), (52, _)] ⟨rfl, rfl, rfl, rfl, trivial⟩ (CV.cond_t rfl (CV.seq (CV.region ?_)))))
       refine RV.s (Step.loadN _ Tryz.underlying48 rfl I48 rfl rfl (fun w h => h.cells 3 rfl)) rfl ?_
       refine RV.op (OV.store 0 [_, _, _, _, _, _, _, _] #[_, _, _, _, _, _, _, _] I48 rfl rfl rfl rfl rfl (Nat.le_of_ble_eq_true rfl) (by simp [Value.oneCell']) rfl gno ?_)
       refine RV.s (Step.assign (v := .string (Sv.bs [])) rfl) rfl (RV.a rfl rfl ?_)
       refine RV.nil (KV.then_n (KV.env [(2, _), (3, _), (4, _)] ⟨rfl, rfl, rfl, trivial⟩ (CV.ret (KV.then_ret ?_))))
       refine KV.sel [0, 0, 0] [_, _, _] rfl ?_
       (first | exact KV.retC3 [_, _, _, _, _, _, _, _] rfl rfl rfl rfl Tryz.underlying48 rfl I48 rfl (fun w h => h.cells 0 rfl) _ (fun _ h => h.sel [1, 1] rfl) (.inr ⟨on_gn hE hIf (fun a m v r h => hN1 _ _ h), ⟨⟨0, e, ⟨true, 0, 0, 0⟩, [], 0⟩, none, 0⟩, [], _, by omega, rfl, rfl⟩) | exact KV.retC3 [_, _, _, _, _, _, _, _] rfl rfl rfl rfl Tryz.underlying48 rfl I48 rfl (fun w h => h.cells 0 rfl) _ (fun _ h => h.sel [1, 1] rfl) (.inr ⟨on_gn hE hIf (fun a m v r h => by rw [hN1] at h; injection h with _ h; exact hS1 _ h), ⟨⟨0, e, ⟨true, x1, 0, 0⟩, [], 0⟩, none, 0⟩, [], _, by omega, rfl, rfl⟩) | exact KV.retC3 [_, _, _, _, _, _, _, _] rfl rfl rfl rfl Tryz.underlying48 rfl I48 rfl (fun w h => h.cells 0 rfl) _ (fun _ h => h.sel [1, 1] rfl) (.inr ⟨on_gn hE hIf (fun a m v r h => by rw [hN1] at h; injection h with _ h; rw [hS1] at h; injection h with _ h; exact hN2 _ _ h), ⟨⟨0, e, ⟨true, x1, 0, 0⟩, [], 0⟩, none, 0⟩, [], _, by omega, rfl, rfl⟩) | exact KV.retC3 [_, _, _, _, _, _, _, _] rfl rfl rfl rfl Tryz.underlying48 rfl I48 rfl (fun w h => h.cells 0 rfl) _ (fun _ h => h.sel [1, 1] rfl) (.inr ⟨on_gn hE hIf (fun a m v r h => by rw [hN1] at h; injection h with _ h; rw [hS1] at h; injection h with _ h; rw [hN2] at h; injection h with _ h; exact hS2 _ h), ⟨⟨0, e, ⟨true, x1, x2, 0⟩, [], 0⟩, none, 0⟩, [], _, by omega, rfl, rfl⟩) | exact KV.retC3 [_, _, _, _, _, _, _, _] rfl rfl rfl rfl Tryz.underlying48 rfl I48 rfl (fun w h => h.cells 0 rfl) _ (fun _ h => h.sel [1, 1] rfl) (.inr ⟨on_gn hE hIf (fun a m v r h => by rw [hN1] at h; injection h with _ h; rw [hS1] at h; injection h with _ h; rw [hN2] at h; injection h with _ h; rw [hS2] at h; injection h with _ h; exact hN3 _ _ h), ⟨⟨0, e, ⟨true, x1, x2, 0⟩, [], 0⟩, none, 0⟩, [], _, by omega, rfl, rfl⟩))
     ·
      skip
      refine RV.gw rfl (Step.not rfl) rfl (RV.s (Step.pick_f rfl rfl) rfl (RV.m rfl rfl (RV.k rfl rfl (RV.k rfl rfl (RV.k rfl rfl (RV.k rfl rfl (RV.k rfl rfl ?_)))))))
      refine RV.s (Step.pick_t rfl rfl) rfl (RV.m rfl rfl (RV.k rfl rfl (RV.k rfl rfl (RV.k rfl rfl (RV.s (Step.pick_t rfl rfl) rfl (RV.m rfl rfl (RV.k rfl rfl ?_)))))))
      refine RV.k rfl rfl (RV.k rfl rfl (RV.k rfl rfl (RV.k rfl rfl (RV.s (Step.pick_t rfl rfl) rfl ?_))))
      refine RV.nil (KV.then_n (KV.env [(0, _), (2, _), (5, _), (52, _)] ⟨rfl, rfl, rfl, rfl, trivial⟩ (CV.cond_t rfl (CV.seq (CV.region ?_)))))
      refine RV.s (Step.loadN _ Tryz.underlying48 rfl I48 rfl rfl (fun w h => h.cells 1 rfl)) rfl ?_
      refine RV.op (OV.store 0 [_, _, _, _, _, _, _, _] #[_, _, _, _, _, _, _, _] I48 rfl rfl rfl rfl rfl (Nat.le_of_ble_eq_true rfl) (by simp [Value.oneCell']) rfl gno ?_)
      refine RV.s (Step.assign (v := .string (Sv.bs [])) rfl) rfl (RV.a rfl rfl ?_)
      refine RV.nil (KV.then_n (KV.env [(2, _), (3, _), (4, _)] ⟨rfl, rfl, rfl, trivial⟩ (CV.ret (KV.then_ret ?_))))
      refine KV.sel [0, 1, 1] [_, _, _] rfl ?_
      (first | exact KV.retC3 [_, _, _, _, _, _, _, _] rfl rfl rfl rfl Tryz.underlying48 rfl I48 rfl (fun w h => h.cells 0 rfl) _ (fun _ h => h.sel [1, 1] rfl) (.inr ⟨on_gn hE hIf (fun a m v r h => hN1 _ _ h), ⟨⟨0, e, ⟨true, 0, 0, 0⟩, [], 0⟩, none, 0⟩, [], _, by omega, rfl, rfl⟩) | exact KV.retC3 [_, _, _, _, _, _, _, _] rfl rfl rfl rfl Tryz.underlying48 rfl I48 rfl (fun w h => h.cells 0 rfl) _ (fun _ h => h.sel [1, 1] rfl) (.inr ⟨on_gn hE hIf (fun a m v r h => by rw [hN1] at h; injection h with _ h; exact hS1 _ h), ⟨⟨0, e, ⟨true, x1, 0, 0⟩, [], 0⟩, none, 0⟩, [], _, by omega, rfl, rfl⟩) | exact KV.retC3 [_, _, _, _, _, _, _, _] rfl rfl rfl rfl Tryz.underlying48 rfl I48 rfl (fun w h => h.cells 0 rfl) _ (fun _ h => h.sel [1, 1] rfl) (.inr ⟨on_gn hE hIf (fun a m v r h => by rw [hN1] at h; injection h with _ h; rw [hS1] at h; injection h with _ h; exact hN2 _ _ h), ⟨⟨0, e, ⟨true, x1, 0, 0⟩, [], 0⟩, none, 0⟩, [], _, by omega, rfl, rfl⟩) | exact KV.retC3 [_, _, _, _, _, _, _, _] rfl rfl rfl rfl Tryz.underlying48 rfl I48 rfl (fun w h => h.cells 0 rfl) _ (fun _ h => h.sel [1, 1] rfl) (.inr ⟨on_gn hE hIf (fun a m v r h => by rw [hN1] at h; injection h with _ h; rw [hS1] at h; injection h with _ h; rw [hN2] at h; injection h with _ h; exact hS2 _ h), ⟨⟨0, e, ⟨true, x1, x2, 0⟩, [], 0⟩, none, 0⟩, [], _, by omega, rfl, rfl⟩) | exact KV.retC3 [_, _, _, _, _, _, _, _] rfl rfl rfl rfl Tryz.underlying48 rfl I48 rfl (fun w h => h.cells 0 rfl) _ (fun _ h => h.sel [1, 1] rfl) (.inr ⟨on_gn hE hIf (fun a m v r h => by rw [hN1] at h; injection h with _ h; rw [hS1] at h; injection h with _ h; rw [hN2] at h; injection h with _ h; rw [hS2] at h; injection h with _ h; exact hN3 _ _ h), ⟨⟨0, e, ⟨true, x1, x2, 0⟩, [], 0⟩, none, 0⟩, [], _, by omega, rfl, rfl⟩))
    ·
     skip
     refine RV.s (Step.not rfl) rfl (RV.m rfl rfl (RV.k rfl rfl (RV.k rfl rfl (RV.k rfl rfl (RV.s (Step.pick_t rfl rfl) rfl (RV.m rfl rfl (RV.k rfl rfl ?_)))))))
     refine RV.k rfl rfl (RV.k rfl rfl (RV.k rfl rfl (RV.k rfl rfl (RV.s (Step.pick_t rfl rfl) rfl (RV.m rfl rfl (RV.k rfl rfl (RV.k rfl rfl ?_)))))))
     refine RV.k rfl rfl (RV.s (Step.pick_t rfl rfl) rfl (RV.m rfl rfl (RV.k rfl rfl (RV.k rfl rfl (RV.k rfl rfl (RV.k rfl rfl (RV.k rfl rfl ?_)))))))
     refine RV.s (Step.pick_t rfl rfl) rfl ?_
     refine RV.nil (KV.then_n (KV.env [(0, _), (2, _), (5, _), (52, _)] ⟨rfl, rfl, rfl, rfl, trivial⟩ (CV.cond_t rfl (CV.seq (CV.region ?_)))))
     refine RV.s (Step.loadN _ Tryz.underlying48 rfl I48 rfl rfl (fun w h => h.cells 3 rfl)) rfl ?_
     refine RV.op (OV.store 0 [_, _, _, _, _, _, _, _] #[_, _, _, _, _, _, _, _] I48 rfl rfl rfl rfl rfl (Nat.le_of_ble_eq_true rfl) (by simp [Value.oneCell']) rfl gno ?_)
     refine RV.s (Step.assign (v := .string (Sv.bs [])) rfl) rfl (RV.a rfl rfl ?_)
     refine RV.nil (KV.then_n (KV.env [(2, _), (3, _), (4, _)] ⟨rfl, rfl, rfl, trivial⟩ (CV.ret (KV.then_ret ?_))))
     refine KV.sel [0, 0, 0] [_, _, _] rfl ?_
     (first | exact KV.retC3 [_, _, _, _, _, _, _, _] rfl rfl rfl rfl Tryz.underlying48 rfl I48 rfl (fun w h => h.cells 0 rfl) _ (fun _ h => h.sel [1, 1] rfl) (.inr ⟨on_gn hE hIf (fun a m v r h => hN1 _ _ h), ⟨⟨0, e, ⟨true, 0, 0, 0⟩, [], 0⟩, none, 0⟩, [], _, by omega, rfl, rfl⟩) | exact KV.retC3 [_, _, _, _, _, _, _, _] rfl rfl rfl rfl Tryz.underlying48 rfl I48 rfl (fun w h => h.cells 0 rfl) _ (fun _ h => h.sel [1, 1] rfl) (.inr ⟨on_gn hE hIf (fun a m v r h => by rw [hN1] at h; injection h with _ h; exact hS1 _ h), ⟨⟨0, e, ⟨true, x1, 0, 0⟩, [], 0⟩, none, 0⟩, [], _, by omega, rfl, rfl⟩) | exact KV.retC3 [_, _, _, _, _, _, _, _] rfl rfl rfl rfl Tryz.underlying48 rfl I48 rfl (fun w h => h.cells 0 rfl) _ (fun _ h => h.sel [1, 1] rfl) (.inr ⟨on_gn hE hIf (fun a m v r h => by rw [hN1] at h; injection h with _ h; rw [hS1] at h; injection h with _ h; exact hN2 _ _ h), ⟨⟨0, e, ⟨true, x1, 0, 0⟩, [], 0⟩, none, 0⟩, [], _, by omega, rfl, rfl⟩) | exact KV.retC3 [_, _, _, _, _, _, _, _] rfl rfl rfl rfl Tryz.underlying48 rfl I48 rfl (fun w h => h.cells 0 rfl) _ (fun _ h => h.sel [1, 1] rfl) (.inr ⟨on_gn hE hIf (fun a m v r h => by rw [hN1] at h; injection h with _ h; rw [hS1] at h; injection h with _ h; rw [hN2] at h; injection h with _ h; exact hS2 _ h), ⟨⟨0, e, ⟨true, x1, x2, 0⟩, [], 0⟩, none, 0⟩, [], _, by omega, rfl, rfl⟩) | exact KV.retC3 [_, _, _, _, _, _, _, _] rfl rfl rfl rfl Tryz.underlying48 rfl I48 rfl (fun w h => h.cells 0 rfl) _ (fun _ h => h.sel [1, 1] rfl) (.inr ⟨on_gn hE hIf (fun a m v r h => by rw [hN1] at h; injection h with _ h; rw [hS1] at h; injection h with _ h; rw [hN2] at h; injection h with _ h; rw [hS2] at h; injection h with _ h; exact hN3 _ _ h), ⟨⟨0, e, ⟨true, x1, x2, 0⟩, [], 0⟩, none, 0⟩, [], _, by omega, rfl, rfl⟩))
   ·
    skip
    refine RV.nil (KV.then_n (KV.env [(0, _), (2, _), (5, _), (21, _)] ⟨rfl, rfl, rfl, rfl, trivial⟩ (CV.cond_f rfl (CV.skip (KV.then_n ?_)))))
    refine KV.env [(0, _), (2, _), (5, _)] ⟨rfl, rfl, rfl, trivial⟩ ?_
    refine KV.sel [2, 2, 0, 0] [_, _, _, _] rfl ?_
    (first | exact KV.join (⟨(gd0, i + 1), on_g0 hE hIf, by omega, by omega⟩) ⟨rfl, rfl, rfl, trivial⟩ (fun _ h => h) | exact KV.join (⟨(⟨true, x1, x2, x3⟩, _), on_g1 hE (by rw [hIf, hN1, hS1, hN2, hS2, hN3]), by omega, by omega⟩) ⟨rfl, rfl, rfl, trivial⟩ (fun _ h => h))
  ·
   intro Z
   have hZ := Z.2
   refine CV.seq (CV.seq (CV.region ?_))
   refine RV.m rfl rfl ?_
   refine RV.op (OV.call [0, 0] (F := [_, _]) Tryz.func75 B75 N75 rfl rfl (fun w h => accept_fn (.sym 62) (.inr (.inr (.inr (.inr rfl)))) ht (by omega) hl) (fun _ hb => hb.elim) gno rfl (fun v L' hp => ?_))
   rcases hp with ⟨hAr, hArl, rfl, rfl⟩ | ⟨hAr, rfl, rfl⟩
   ·
    skip
    refine RV.s (Step.not rfl) rfl ?_
    refine RV.nil (KV.then_n (KV.env [(0, _), (2, _), (5, _), (56, _)] ⟨rfl, rfl, rfl, rfl, trivial⟩ (CV.cond_f rfl (CV.skip (KV.then_n ?_)))))
    refine KV.env [(0, _), (2, _), (5, _)] ⟨rfl, rfl, rfl, trivial⟩ (CV.seq (CV.region ?_))
    refine RV.m rfl rfl ?_
    refine RV.op (OV.call [2, 2] (F := [_, _]) Tryz.func53 B53 N53 rfl rfl (fun w h => name_fn (by omega) hl) (fun _ hb => hb.elim) gno rfl (fun v L' hp => ?_))
    rcases hp with ⟨tg, hTg, hTgl, rfl, rfl⟩ | ⟨hTg, rfl, rfl⟩
    ·
     skip
     refine RV.m rfl rfl (RV.s (Step.extract0 rfl rfl) rfl (RV.s (Step.extract0 rfl rfl) rfl (RV.a rfl rfl (RV.a rfl rfl ?_))))
     refine RV.nil (KV.then_n (KV.env [(0, _), (2, _), (5, _), (6, _), (7, _)] ⟨rfl, rfl, rfl, rfl, rfl, trivial⟩ (CV.seq (CV.seq (CV.region ?_)))))
     refine RV.m rfl rfl (RV.s (Step.not rfl) rfl ?_)
     refine RV.nil (KV.then_n (KV.env [(0, _), (2, _), (5, _), (7, _), (64, _)] ⟨rfl, rfl, rfl, rfl, rfl, trivial⟩ (CV.cond_f rfl (CV.skip (KV.then_n ?_)))))
     refine KV.env [(0, _), (2, _), (5, _), (7, _)] ⟨rfl, rfl, rfl, rfl, trivial⟩ ?_
     refine CV.join (fun (Y : {y : OZ // (onM (ts.drop i)) = (if y.n = ts.length then some (onR e Z.1.1 tg y.ls) else none) ∧ y.n ≤ ts.length}) => [(0, .pointer (some ⟨q, 0, none⟩)), (2, .pointer (some ⟨p, 0, none⟩)), (5, .pointer (some ⟨t, 0, none⟩)), (7, .string (bs tg))]) (fun (Y : {y : OZ // (onM (ts.drop i)) = (if y.n = ts.length then some (onR e Z.1.1 tg y.ls) else none) ∧ y.n ≤ ts.length}) => Hp I w [Blk q (.cells #[.slice A ts.length c, .int .i64 (((Y.1.n : Nat) : Int))] 121 (0, 0)), OS 114 tokK A c ts, Blk p (.cells #[.int .i64 0, .string (bs []), .bool false, .int .u64 0, .int .u64 0, .int .u64 0, .slice none 0 0, .int .i64 0] 48 (0, 0)), Blk t (.cells #[.int .i64 0, .string (bs e), .bool Z.1.1.used, .int .u64 Z.1.1.reg, .int .u64 Z.1.1.mask, .int .u64 Z.1.1.val, .slice Y.1.A Y.1.ls.length Y.1.c, .int .i64 0] 48 (0, 0)), OS 59 roK Y.1.A Y.1.c Y.1.ls]) ?_ ?_
     ·
      skip
      refine CV.seq ?_
      refine KV.heap (fun w h => h.nilOS (e := 59) (K := roK)) ?_
      refine CV.region ?_
      refine RV.m rfl rfl ?_
      refine RV.op (OV.call [2, 2] (F := [_, _, _]) Tryz.func75 B75 N75 rfl rfl (fun w h => accept_fn (.sym 58) (.inl rfl) ht (by omega) hl) (fun _ hb => hb.elim) gno rfl (fun v L' hp => ?_))
      rcases hp with ⟨hCo, hCol, rfl, rfl⟩ | ⟨hCo, rfl, rfl⟩
      ·
       skip
       refine RV.nil (KV.then_n (KV.env [(0, _), (2, _), (5, _), (7, _), (67, _)] ⟨rfl, rfl, rfl, rfl, rfl, trivial⟩ (CV.cond_t rfl (CV.seq (CV.region ?_)))))
       refine RV.a rfl rfl ?_
       refine RV.nil (KV.then_n (KV.env [(0, _), (2, _), (5, _), (7, _), (8, _)] ⟨rfl, rfl, rfl, rfl, rfl, trivial⟩ (CV.block ?_)))
       refine KV.sel [3, 3, 0, 0, 0] [_, _, _, _, _] rfl ?_
       refine CV.loop2 (fun (O : OZ) (b : Bool) => O.n ≤ ts.length ∧ O.ls.length ≤ O.n ∧ LIv (onM (ts.drop i)) e Z.1.1 tg ts O.ls O.n b) (fun (O : OZ) (b : Bool) => ts.length - O.n) (fun (O : OZ) (b : Bool) => [(0, .pointer (some ⟨q, 0, none⟩)), (2, .pointer (some ⟨p, 0, none⟩)), (5, .pointer (some ⟨t, 0, none⟩)), (7, .string (bs tg)), (8, .bool b)]) (fun (O : OZ) (b : Bool) => Hp I w [Blk q (.cells #[.slice A ts.length c, .int .i64 (((O.n : Nat) : Int))] 121 (0, 0)), OS 114 tokK A c ts, Blk p (.cells #[.int .i64 0, .string (bs []), .bool false, .int .u64 0, .int .u64 0, .int .u64 0, .slice none 0 0, .int .i64 0] 48 (0, 0)), Blk t (.cells #[.int .i64 0, .string (bs e), .bool Z.1.1.used, .int .u64 Z.1.1.reg, .int .u64 Z.1.1.mask, .int .u64 Z.1.1.val, .slice O.A O.ls.length O.c, .int .i64 0] 48 (0, 0)), OS 59 roK O.A O.c O.ls]) (⟨[], none, 0, Z.1.2 + 1 + 1 + 1⟩) (true) ⟨by show Z.1.2 + 1 + 1 + 1 ≤ ts.length; omega, Nat.zero_le _, LIv.start (hZ.1.trans (onT_yes hAr hTg)) hCo⟩ ⟨rfl, rfl, rfl, rfl, rfl, trivial⟩ (fun _ h => h) ?_
       intro O b hinv
       refine CV.seq (CV.seq (CV.region ?_))
       refine RV.m rfl rfl ?_
       refine RV.nil (KV.then_n (KV.env [(0, _), (2, _), (5, _), (7, _), (68, _)] ⟨rfl, rfl, rfl, rfl, rfl, trivial⟩ ?_))
       refine KV.cases 68 rfl (fun cc1 => ?_) (fun cc1 => ?_)
       ·
        have hL := hinv.2.2
        rw [cc1] at hL
        refine CV.cond_t rfl (CV.skip (KV.then_n (KV.env [(0, _), (2, _), (5, _), (7, _)] ⟨rfl, rfl, rfl, rfl, trivial⟩ (CV.seq (CV.block ?_)))))
        refine CV.seq (CV.region ?_)
        refine RV.m rfl rfl ?_
        refine RV.op (OV.call [0, 0] (F := [_, _, _]) Tryz.func77 B77 N77 rfl rfl (fun w h => operation_fn ht (by omega) hl) (fun _ hb => hb.elim) gno rfl (fun v L' hp => ?_))
        rcases hp with ⟨o, k, hO, hk1, hk2, rfl, rfl⟩ | ⟨hO, o, k, hk2, rfl, rfl⟩
        ·
         skip
         refine RV.m rfl rfl (RV.s (Step.extract0 rfl rfl) rfl (RV.s (Step.extract0 rfl rfl) rfl ?_))
         refine RV.op (OV.alloc #[.bool false, .int .u64 0, .int .u64 0] I59 rfl gno rfl (fun y => ?_))
         refine RV.op (OV.store 5 [_, _, _] #[_, _, _] I59 rfl rfl rfl rfl rfl (Nat.le_of_ble_eq_true rfl) (by simp [Value.oneCell']) rfl gno ?_)
         refine RV.a rfl rfl ?_
         refine RV.nil (KV.then_n (KV.env [(0, _), (2, _), (5, _), (7, _), (9, _), (10, _)] ⟨rfl, rfl, rfl, rfl, rfl, rfl, trivial⟩ (CV.seq (CV.seq (CV.region ?_)))))
         refine RV.m rfl rfl (RV.s (Step.not rfl) rfl ?_)
         refine RV.nil (KV.then_n (KV.env [(0, _), (2, _), (5, _), (7, _), (9, _), (77, _)] ⟨rfl, rfl, rfl, rfl, rfl, rfl, trivial⟩ (CV.cond_f rfl (CV.skip (KV.then_n ?_)))))
         refine KV.env [(0, _), (2, _), (5, _), (7, _), (9, _)] ⟨rfl, rfl, rfl, rfl, rfl, trivial⟩ (CV.region ?_)
         refine RV.s (Step.fieldAddr rfl (F48_3 _ _)) rfl (RV.s (Step.load Tryz.underlying46 rfl rfl (fun w h => h.cell 1 rfl rfl)) rfl (RV.s (Step.loadN _ Tryz.underlying59 rfl I59 rfl rfl (fun w h => h.cells 5 rfl)) rfl ?_))
         refine RV.op (OV.buildSlice (K := roK) ([o]) rfl (Bs46_1_0 _ _ _) rfl rfl (by omega) gno rfl (fun yy => ?_))
         refine RV.op (OV.append 2 Tryz.underlying46 I59 rfl rfl rfl rfl rfl rfl (fun w h => h.os 6 rfl) (by simp only [List.length_cons, List.length_nil]; omega) (by simp only [List.length_cons, List.length_nil]; omega) gno rfl (fun A2 c2 => ?_))
         refine RV.s (Step.fieldAddr rfl (F48_3 _ _)) rfl ?_
         refine RV.op (OV.store 1 [_] #[_, _, _, _, _, _, _, _] I46 rfl rfl rfl rfl rfl (Nat.le_of_ble_eq_true rfl) (by simp [Value.oneCell']) rfl gno ?_)
         refine RV.nil (KV.block_n (KV.then_n (KV.env [(0, _), (2, _), (5, _), (7, _)] ⟨rfl, rfl, rfl, rfl, trivial⟩ (CV.region ?_))))
         refine RV.m rfl rfl ?_
         refine RV.op (OV.call [3, 3] (F := [_, _, _, _, _]) Tryz.func75 B75 N75 rfl rfl (fun w h => accept_fn (.sym 59) (.inr (.inl rfl)) ht (by omega) hl) (fun _ hb => hb.elim) gno rfl (fun v L' hp => ?_))
         rcases hp with ⟨hSc, hScl, rfl, rfl⟩ | ⟨hSc, rfl, rfl⟩
         ·
          skip
          refine RV.a rfl rfl ?_
          refine RV.nil (KV.then_n (KV.env [(0, _), (2, _), (5, _), (7, _), (8, _)] ⟨rfl, rfl, rfl, rfl, rfl, trivial⟩ ?_))
          refine KV.sel [5, 5, 0, 0, 0] [_, _, _, _, _] rfl ?_
          (first | exact KV.loop2 (x := O) (y := b) (⟨O.ls ++ [o], A2, c2, k + 1⟩) (true) ⟨by show k + 1 ≤ ts.length; omega, by show (O.ls ++ [o]).length ≤ k + 1; rw [List.length_append]; show _ + 1 ≤ _; omega, hL.more hO hk1 hScl hSc⟩ (by show ts.length - (k + 1) < _; omega) ⟨rfl, rfl, rfl, rfl, rfl, trivial⟩ (fun _ h => h) | exact KV.loop2 (x := O) (y := b) (⟨O.ls ++ [o], A2, c2, k⟩) (false) ⟨by show k ≤ ts.length; omega, by show (O.ls ++ [o]).length ≤ k; rw [List.length_append]; show _ + 1 ≤ _; omega, hL.last hO hk2 hSc⟩ (by show ts.length - k < _; omega) ⟨rfl, rfl, rfl, rfl, rfl, trivial⟩ (fun _ h => h))
         ·
          skip
          refine RV.a rfl rfl ?_
          refine RV.nil (KV.then_n (KV.env [(0, _), (2, _), (5, _), (7, _), (8, _)] ⟨rfl, rfl, rfl, rfl, rfl, trivial⟩ ?_))
          refine KV.sel [5, 5, 0, 0, 0] [_, _, _, _, _] rfl ?_
          (first | exact KV.loop2 (x := O) (y := b) (⟨O.ls ++ [o], A2, c2, k + 1⟩) (true) ⟨by show k + 1 ≤ ts.length; omega, by show (O.ls ++ [o]).length ≤ k + 1; rw [List.length_append]; show _ + 1 ≤ _; omega, hL.more hO hk1 hScl hSc⟩ (by show ts.length - (k + 1) < _; omega) ⟨rfl, rfl, rfl, rfl, rfl, trivial⟩ (fun _ h => h) | exact KV.loop2 (x := O) (y := b) (⟨O.ls ++ [o], A2, c2, k⟩) (false) ⟨by show k ≤ ts.length; omega, by show (O.ls ++ [o]).length ≤ k; rw [List.length_append]; show _ + 1 ≤ _; omega, hL.last hO hk2 hSc⟩ (by show ts.length - k < _; omega) ⟨rfl, rfl, rfl, rfl, rfl, trivial⟩ (fun _ h => h))
        ·
         skip
         refine RV.m rfl rfl (RV.s (Step.extract0 rfl rfl) rfl (RV.s (Step.extract0 rfl rfl) rfl ?_))
         refine RV.op (OV.alloc #[.bool false, .int .u64 0, .int .u64 0] I59 rfl gno rfl (fun y => ?_))
         refine RV.op (OV.store 5 [_, _, _] #[_, _, _] I59 rfl rfl rfl rfl rfl (Nat.le_of_ble_eq_true rfl) (by simp [Value.oneCell']) rfl gno ?_)
         refine RV.a rfl rfl ?_
         refine RV.nil (KV.then_n (KV.env [(0, _), (2, _), (5, _), (7, _), (9, _), (10, _)] ⟨rfl, rfl, rfl, rfl, rfl, rfl, trivial⟩ (CV.seq (CV.seq (CV.region ?_)))))
         refine RV.m rfl rfl (RV.s (Step.not rfl) rfl ?_)
         refine RV.nil (KV.then_n (KV.env [(0, _), (2, _), (5, _), (7, _), (9, _), (77, _)] ⟨rfl, rfl, rfl, rfl, rfl, rfl, trivial⟩ (CV.cond_t rfl (CV.seq (CV.region ?_)))))
         refine RV.s (Step.loadN _ Tryz.underlying48 rfl I48 rfl rfl (fun w h => h.cells 1 rfl)) rfl ?_
         refine RV.op (OV.store 0 [_, _, _, _, _, _, _, _] #[_, _, _, _, _, _, _, _] I48 rfl rfl rfl rfl rfl (Nat.le_of_ble_eq_true rfl) (by simp [Value.oneCell']) rfl gno ?_)
         refine RV.s (Step.assign (v := .string (Sv.bs [])) rfl) rfl (RV.a rfl rfl ?_)
         refine RV.nil (KV.then_n (KV.env [(2, _), (3, _), (4, _)] ⟨rfl, rfl, rfl, trivial⟩ (CV.ret (KV.then_ret (KV.block_ret ?_)))))
         refine KV.then_ret (KV.then_ret (KV.block_ret (KV.then_ret ?_)))
         refine KV.sel [0, 2, 2] [_, _, _] rfl ?_
         exact KV.retC3 [_, _, _, _, _, _, _, _] rfl rfl rfl rfl Tryz.underlying48 rfl I48 rfl (fun w h => h.cells 0 rfl) _ (fun _ h => h.sel [1, 1] rfl) (.inr ⟨hL.bad hO, ⟨⟨0, e, Z.1.1, O.ls, 0⟩, O.A, O.c⟩, [], _, by omega, rfl, rfl⟩)
       ·
        have hL := hinv.2.2
        rw [cc1] at hL
        refine CV.cond_f rfl (CV.exit (KV.then_exit (KV.then_exit (KV.block_hit (KV.then_n ?_)))))
        refine KV.env [(0, _), (2, _), (5, _), (7, _)] ⟨rfl, rfl, rfl, rfl, trivial⟩ ?_
        refine KV.sel [0, 0, 0, 0, 0] [_, _, _, _, _] rfl ?_
        (first | exact KV.join (⟨O, hL.2 rfl, by omega⟩) ⟨rfl, rfl, rfl, rfl, trivial⟩ (fun _ h => h) | exact KV.join (⟨⟨[], none, 0, Z.1.2 + 1 + 1⟩, hZ.1.trans ((onT_yes hAr hTg).trans (by rw [tail_no (by omega) hCo]; split <;> rfl)), by show Z.1.2 + 1 + 1 ≤ ts.length; omega⟩) ⟨rfl, rfl, rfl, rfl, trivial⟩ (fun _ h => h))
      ·
       skip
       refine RV.nil (KV.then_n (KV.env [(0, _), (2, _), (5, _), (7, _), (67, _)] ⟨rfl, rfl, rfl, rfl, rfl, trivial⟩ (CV.cond_f rfl (CV.skip (KV.then_n ?_)))))
       refine KV.env [(0, _), (2, _), (5, _), (7, _)] ⟨rfl, rfl, rfl, rfl, trivial⟩ ?_
       refine KV.sel [3, 3, 0, 0, 0] [_, _, _, _, _] rfl ?_
       (first | exact KV.join (⟨O, hL.2 rfl, by omega⟩) ⟨rfl, rfl, rfl, rfl, trivial⟩ (fun _ h => h) | exact KV.join (⟨⟨[], none, 0, Z.1.2 + 1 + 1⟩, hZ.1.trans ((onT_yes hAr hTg).trans (by rw [tail_no (by omega) hCo]; split <;> rfl)), by show Z.1.2 + 1 + 1 ≤ ts.length; omega⟩) ⟨rfl, rfl, rfl, rfl, trivial⟩ (fun _ h => h))
     ·
      intro Y
      have hY := Y.2
      refine CV.seq ?_
      refine CV.any (Hp I w [Blk q (.cells #[.slice A ts.length c, .int .i64 (((Y.1.n : Nat) : Int))] 121 (0, 0)), Blk t (.cells #[.int .i64 0, .string (bs e), .bool Z.1.1.used, .int .u64 Z.1.1.reg, .int .u64 Z.1.1.mask, .int .u64 Z.1.1.val, .slice Y.1.A Y.1.ls.length Y.1.c, .int .i64 0] 48 (0, 0))]) (by kernel_rfl) (fun _ h => h.drew) 7 rfl ?_
      refine AV.u 0 (bl 7 1) rfl gno (Step.loadN _ Tryz.underlying48 rfl I48 rfl rfl (fun w h => h.cells 1 rfl)) rfl (fun _ h => h.sel [0, 2] rfl) ?_
      refine AV.u 1 (bl 7 3) rfl gno (Step.move rfl) rfl (fun _ h => h.sel [0, 2] rfl) ?_
      refine AV.u 2 (bl 7 7) rfl gno (Step.move rfl) rfl (fun _ h => h.sel [0, 2] rfl) ?_
      refine AV.all [3] (by kernel_rfl) (by decide) ?_
      refine ⟨⟨_, rfl, ?_⟩, trivial⟩
      ·
       refine OV.call [] (F := [_, _, _, _, _]) Tryz.func54 B54 N54 rfl rfl (fun w h => atEnd_fn (h.blk 0 rfl)) (fun _ hb => hb.elim) gno rfl (fun v L' hp => ?_)
       obtain ⟨rfl, rfl⟩ := hp
       simp only [List.append_nil]
       refine AV.next (bl 7 15) (by kernel_rfl) (fun _ h => h.sel [0, 2] rfl) ?_
       refine AV.all [4] (by kernel_rfl) (by decide) ?_
       refine ⟨⟨_, rfl, ?_⟩, trivial⟩
       ·
        refine OV.store 2 [_, _, _, _, _, _, _, _] #[_, _, _, _, _, _, _, _] I48 rfl rfl rfl rfl rfl (Nat.le_of_ble_eq_true rfl) (by simp [Value.oneCell']) rfl gno ?_
        refine AV.next (bl 7 31) (by kernel_rfl) (fun _ h => h.sel [0, 2] rfl) ?_
        refine AV.all [5] (by kernel_rfl) (by decide) ?_
        refine ⟨⟨_, rfl, ?_⟩, trivial⟩
        ·
         refine OV.step gno (Step.assign rfl) rfl ?_
         refine AV.next (bl 7 63) (by kernel_rfl) (fun _ h => h.sel [0, 2] rfl) ?_
         refine AV.all [6] (by kernel_rfl) (by decide) ?_
         refine ⟨⟨_, rfl, ?_⟩, trivial⟩
         ·
          refine OV.step gno (Step.assign rfl) rfl ?_
          refine AV.next (bl 7 127) (by kernel_rfl) (fun _ h => h.sel [0, 2] rfl) ?_
          refine AV.done (by kernel_rfl) ?_
          refine KV.then_n (KV.env [(2, _), (3, _), (4, _)] ⟨rfl, rfl, rfl, trivial⟩ (CV.ret ?_))
          refine KV.sel [2, 0, 0, 1] [_, _, _, _] rfl ?_
          by_cases hend : Y.1.n = ts.length
          ·
           rw [decide_eq_true hend]
           exact KV.retC3 [_, _, _, _, _, _, _, _] rfl rfl rfl rfl Tryz.underlying48 rfl I48 rfl (fun w h => h.cells 0 rfl) _ (fun _ h => h.sel [1, 1, 1] rfl) (.inl ⟨⟨⟨0, e, Z.1.1, Y.1.ls, 0⟩, Y.1.A, Y.1.c⟩, tg, Y.1.n, hY.1.trans (by rw [if_pos hend]; rfl), by omega, rfl, rfl⟩)
          ·
           rw [decide_eq_false hend]
           exact KV.retC3 [_, _, _, _, _, _, _, _] rfl rfl rfl rfl Tryz.underlying48 rfl I48 rfl (fun w h => h.cells 0 rfl) _ (fun _ h => h.sel [1, 1] rfl) (.inr ⟨hY.1.trans (by rw [if_neg hend]), ⟨⟨0, e, Z.1.1, Y.1.ls, 0⟩, Y.1.A, Y.1.c⟩, tg, Y.1.n, by omega, rfl, rfl⟩)
    ·
     skip
     refine RV.m rfl rfl (RV.s (Step.extract0 rfl rfl) rfl (RV.s (Step.extract0 rfl rfl) rfl (RV.a rfl rfl (RV.a rfl rfl ?_))))
     refine RV.nil (KV.then_n (KV.env [(0, _), (2, _), (5, _), (6, _), (7, _)] ⟨rfl, rfl, rfl, rfl, rfl, trivial⟩ (CV.seq (CV.seq (CV.region ?_)))))
     refine RV.m rfl rfl (RV.s (Step.not rfl) rfl ?_)
     refine RV.nil (KV.then_n (KV.env [(0, _), (2, _), (5, _), (7, _), (64, _)] ⟨rfl, rfl, rfl, rfl, rfl, trivial⟩ (CV.cond_t rfl (CV.seq (CV.region ?_)))))
     refine RV.s (Step.loadN _ Tryz.underlying48 rfl I48 rfl rfl (fun w h => h.cells 1 rfl)) rfl ?_
     refine RV.op (OV.store 0 [_, _, _, _, _, _, _, _] #[_, _, _, _, _, _, _, _] I48 rfl rfl rfl rfl rfl (Nat.le_of_ble_eq_true rfl) (by simp [Value.oneCell']) rfl gno ?_)
     refine RV.s (Step.assign (v := .string (Sv.bs [])) rfl) rfl (RV.a rfl rfl ?_)
     refine RV.nil (KV.then_n (KV.env [(2, _), (3, _), (4, _)] ⟨rfl, rfl, rfl, trivial⟩ (CV.ret (KV.then_ret ?_))))
     refine KV.sel [0, 1, 1] [_, _, _] rfl ?_
     exact KV.retC3 [_, _, _, _, _, _, _, _] rfl rfl rfl rfl Tryz.underlying48 rfl I48 rfl (fun w h => h.cells 0 rfl) _ (fun _ h => h.sel [1, 1] rfl) (.inr ⟨hZ.1.trans (onT_no2 hAr hTg), ⟨⟨0, e, Z.1.1, [], 0⟩, none, 0⟩, [], _, by omega, rfl, rfl⟩)
   ·
    skip
    refine RV.s (Step.not rfl) rfl ?_
    refine RV.nil (KV.then_n (KV.env [(0, _), (2, _), (5, _), (56, _)] ⟨rfl, rfl, rfl, rfl, trivial⟩ (CV.cond_t rfl (CV.seq (CV.region ?_)))))
    refine RV.s (Step.loadN _ Tryz.underlying48 rfl I48 rfl rfl (fun w h => h.cells 1 rfl)) rfl ?_
    refine RV.op (OV.store 0 [_, _, _, _, _, _, _, _] #[_, _, _, _, _, _, _, _] I48 rfl rfl rfl rfl rfl (Nat.le_of_ble_eq_true rfl) (by simp [Value.oneCell']) rfl gno ?_)
    refine RV.s (Step.assign (v := .string (Sv.bs [])) rfl) rfl (RV.a rfl rfl ?_)
    refine RV.nil (KV.then_n (KV.env [(2, _), (3, _), (4, _)] ⟨rfl, rfl, rfl, trivial⟩ (CV.ret (KV.then_ret ?_))))
    refine KV.sel [0, 1, 1] [_, _, _] rfl ?_
    exact KV.retC3 [_, _, _, _, _, _, _, _] rfl rfl rfl rfl Tryz.underlying48 rfl I48 rfl (fun w h => h.cells 0 rfl) _ (fun _ h => h.sel [1, 1] rfl) (.inr ⟨hZ.1.trans (onT_no1 hAr), ⟨⟨0, e, Z.1.1, [], 0⟩, none, 0⟩, [], _, by omega, rfl, rfl⟩)
 ·
  skip
  refine RV.m rfl rfl (RV.s (Step.extract0 rfl rfl) rfl (RV.s (Step.extract0 rfl rfl) rfl (RV.s (Step.fieldAddr rfl (F48_1 _ _)) rfl ?_)))
  refine RV.op (OV.store 1 [_] #[_, _, _, _, _, _, _, _] I9 rfl rfl rfl rfl rfl (Nat.le_of_ble_eq_true rfl) (by simp [Value.oneCell']) rfl gno ?_)
  refine RV.a rfl rfl ?_
  refine RV.nil (KV.then_n (KV.env [(0, _), (2, _), (5, _), (6, _)] ⟨rfl, rfl, rfl, rfl, trivial⟩ (CV.seq (CV.region ?_))))
  refine RV.m rfl rfl (RV.s (Step.not rfl) rfl ?_)
  refine RV.nil (KV.then_n (KV.env [(0, _), (2, _), (5, _), (18, _)] ⟨rfl, rfl, rfl, rfl, trivial⟩ (CV.cond_t rfl (CV.seq (CV.region ?_)))))
  refine RV.s (Step.loadN _ Tryz.underlying48 rfl I48 rfl rfl (fun w h => h.cells 1 rfl)) rfl ?_
  refine RV.op (OV.store 0 [_, _, _, _, _, _, _, _] #[_, _, _, _, _, _, _, _] I48 rfl rfl rfl rfl rfl (Nat.le_of_ble_eq_true rfl) (by simp [Value.oneCell']) rfl gno ?_)
  refine RV.s (Step.assign (v := .string (Sv.bs [])) rfl) rfl (RV.a rfl rfl ?_)
  refine RV.nil (KV.then_n (KV.env [(2, _), (3, _), (4, _)] ⟨rfl, rfl, rfl, trivial⟩ (CV.ret (KV.then_ret ?_))))
  refine KV.sel [0, 1, 1] [_, _, _] rfl ?_
  exact KV.retC3 [_, _, _, _, _, _, _, _] rfl rfl rfl rfl Tryz.underlying48 rfl I48 rfl (fun w h => h.cells 0 rfl) _ (fun _ h => h.sel [1, 1] rfl) (.inr ⟨on_nm hE, ⟨⟨0, [], gd0, [], 0⟩, none, 0⟩, [], _, by omega, rfl, rfl⟩)
end Go.Proofs.YtplmfekhdaefaaaGreatDoor
