/-
 Walks, part 27.
-/
import Derived.Test.YtdfkpdcpegcieaaGreatDoorTab27
import Derived.Test.YtdfkpdcpegcieaaGreatDoorW26
import Derived.Test.YtdfkpdcpegcieaaGreatDoorW22
import Derived.Test.YtdfkpdcpegcieaaGreatDoorNt2
set_option linter.unusedSimpArgs false
set_option linter.unusedVariables false
namespace Go.Proofs.YtdfkpdcpegcieaaGreatDoor
open Go.Sv Go.Perf Go.Ctl
set_option maxRecDepth 100000 in
set_option maxHeartbeats 4000000 in
theorem freezeTimeout_fn (x0 x1 x2 : Int) (h0 : 0 ≤ x0) (h1 : 0 ≤ x1) {w : World} : Fx Tryz.prog 8 [.int .u64 x0, .int .u64 x1, .int .i64 x2] w [] no (fun v L => v = .bool true ∧ L = []) := by
 refine Sv.Fx.body Tryz.func8 rfl T8 rfl ?_
 intro I hro hI
 refine KV.e3 0 1 2 (CV.seq (CV.region ?_))
 refine RV.a rfl rfl ?_
 refine RV.nil (KV.then_n (KV.e3 0 1 2 (CV.seq (CV.region ?_))))
 refine RV.s (Step.build rfl (Bd87_)) rfl ?_
 refine RV.op (OV.call [] (F := []) Tryz.func26 B26 N26 rfl rfl (fun w h => dusk0_fn) (fun _ hb => hb.elim) gno rfl (fun v L' hp => ?_))
 obtain ⟨b, tp, mp, bp, q, cc, A, c, s, w0, f, fA, tt, vv, gg, rfl, rfl⟩ := hp
 refine RV.m rfl rfl (RV.s (Step.extract0 rfl rfl) rfl (RV.s (Step.extract0 rfl rfl) rfl ?_))
 refine RV.op (OV.alloc #[.pointer none, .pointer none, .pointer none, .pointer none, .int .i64 0, .pointer none, .pointer none, .pointer none, .pointer none, .pointer none, .pointer none] I80 rfl gno rfl (fun b1_5 => ?_))
 refine RV.op (OV.store 5 [_, _, _, _, _, _, _, _, _, _, _] #[_, _, _, _, _, _, _, _, _, _, _] I80 rfl rfl rfl rfl rfl (Nat.le_of_ble_eq_true rfl) (by simp [Value.oneCell']) rfl gno ?_)
 refine RV.a rfl rfl ?_
 refine RV.nil (KV.then_n (KV.e5 0 1 2 7 8 (CV.seq (CV.seq (CV.region ?_)))))
 refine RV.m rfl rfl (RV.s (Step.not rfl) rfl ?_)
 refine RV.nil (KV.then_n (KV.e5 0 1 2 7 19 (CV.cond_f rfl (CV.skip (KV.then_n ?_)))))
 refine KV.e4 0 1 2 7 (CV.seq (CV.region ?_))
 refine RV.m rfl rfl ?_
 refine RV.s (Step.rem rfl rfl (by omega) (rfl)) rfl ?_
 obtain ⟨len, hlen⟩ : ∃ z, x0.tmod 30 = z := ⟨_, rfl⟩
 have hl2 := tmB x0 30 h0 (by omega)
 rw [hlen] at hl2
 rw [hlen]
 have hlen0 := hl2.1
 refine RV.m rfl rfl ?_
 refine RV.s (Step.rem rfl rfl (by omega) (rfl)) rfl ?_
 obtain ⟨tmo, htm⟩ : ∃ z, x1.tmod 30 = z := ⟨_, rfl⟩
 have ht2 := tmB x1 30 h1 (by omega)
 rw [htm] at ht2
 rw [htm]
 have hm4 := modM_lt x2 (n := 4) (by omega)
 obtain ⟨sy, hsy⟩ : ∃ z, 1 + modM x2 4 = z := ⟨_, rfl⟩
 refine RV.a rfl rfl (RV.a rfl rfl ?_)
 refine RV.nil (KV.then_n (KV.e4 2 7 9 10 (CV.seq ?_)))
 refine CV.join (α := Unit) (fun _ => [(7, .pointer (some ⟨b1_5, 0, none⟩)), (9, .int .u64 len), (10, .int .u64 tmo), (38, .bool false)]) (fun _ => (fun w9 => (len ≤ min 0 tmo ∧ ∃ z : QG, Hp I w [Blk b1_5 (.cells #[.pointer (some ⟨b, 0, none⟩), .pointer (some bp), .pointer (some q), .pointer (some cc), .int .i64 0, .pointer (some ⟨s, 0, none⟩), .pointer (some ⟨w0, 0, none⟩), .pointer (some ⟨f, 0, none⟩), .pointer (some ⟨tt, 0, none⟩), .pointer (some ⟨vv, 0, none⟩), .pointer (some ⟨gg, 0, none⟩)] 80 (0, 0)), Blk s (.cells (slC (some ⟨b, 0, none⟩) (some ⟨w0, 0, none⟩) (some ⟨f, 0, none⟩) (some ⟨z.q, 0, none⟩) 4 sy 0 0) 151 (0, 0)), Blk w0 (.cells (srcA 3 true 0) 188 (0, 0)), Blk b (.cells #[.slice none 0 0, .pointer (some tp), .pointer (some mp), .pointer (some bp), .slice A 0 c] 170 (0, 0)), Blk f (.cells (frC 2 z.ck (0 + tmo) fA (esN len).length 3) 148 (0, 0)), OS 24 (intK .u64) fA 3 (esN len), Blk z.q (.cells (sqC z.A z.c 2 z.rest) 242 (0, 0))] w9) ∨ ((¬ len ≤ min 0 tmo ∧ tmo ≤ 0) ∧ ∃ k : Int, Hp I w [Blk b1_5 (.cells #[.pointer (some ⟨b, 0, none⟩), .pointer (some bp), .pointer (some q), .pointer (some cc), .int .i64 0, .pointer (some ⟨s, 0, none⟩), .pointer (some ⟨w0, 0, none⟩), .pointer (some ⟨f, 0, none⟩), .pointer (some ⟨tt, 0, none⟩), .pointer (some ⟨vv, 0, none⟩), .pointer (some ⟨gg, 0, none⟩)] 80 (0, 0)), Blk s (.cells (slC (some ⟨b, 0, none⟩) (some ⟨w0, 0, none⟩) (some ⟨f, 0, none⟩) none 1 sy 14 0) 151 (0, 0)), Blk w0 (.cells (srcA 3 false 0) 188 (0, 0)), Blk b (.cells #[.slice none 0 0, .pointer (some tp), .pointer (some mp), .pointer (some bp), .slice A 0 c] 170 (0, 0)), Blk f (.cells (frC 0 k (0 + tmo) fA (esN len).length 3) 148 (0, 0)), OS 24 (intK .u64) fA 3 (esN len)] w9) ∨ ((¬ len ≤ min 0 tmo ∧ ¬ tmo ≤ 0) ∧ Hp I w [Blk b1_5 (.cells #[.pointer (some ⟨b, 0, none⟩), .pointer (some bp), .pointer (some q), .pointer (some cc), .int .i64 0, .pointer (some ⟨s, 0, none⟩), .pointer (some ⟨w0, 0, none⟩), .pointer (some ⟨f, 0, none⟩), .pointer (some ⟨tt, 0, none⟩), .pointer (some ⟨vv, 0, none⟩), .pointer (some ⟨gg, 0, none⟩)] 80 (0, 0)), Blk s (.cells (slC (some ⟨b, 0, none⟩) (some ⟨w0, 0, none⟩) (some ⟨f, 0, none⟩) none 2 sy 0 0) 151 (0, 0)), Blk w0 (.cells (srcA 3 true 0) 188 (0, 0)), Blk b (.cells #[.slice none 0 0, .pointer (some tp), .pointer (some mp), .pointer (some bp), .slice A 0 c] 170 (0, 0)), Blk f (.cells (frC 1 0 (0 + tmo) fA (esN len).length 3) 148 (0, 0)), OS 24 (intK .u64) fA 3 (esN len)] w9)) ) ?_ ?_
 ·
  skip
  refine CV.any (Hp I w [Blk b1_5 (.cells #[.pointer (some ⟨b, 0, none⟩), .pointer (some bp), .pointer (some q), .pointer (some cc), .int .i64 0, .pointer (some ⟨s, 0, none⟩), .pointer (some ⟨w0, 0, none⟩), .pointer (some ⟨f, 0, none⟩), .pointer (some ⟨tt, 0, none⟩), .pointer (some ⟨vv, 0, none⟩), .pointer (some ⟨gg, 0, none⟩)] 80 (0, 0))]) (by kernel_rfl) (fun _ h => h.drew) 15 rfl ?_
  refine AV.u 0 (bl 15 1) rfl gno (Step.fieldAddr rfl (F80_3 _ _)) rfl (fun _ h => h.sel [5] rfl) ?_
  refine AV.u 1 (bl 15 3) rfl gno (Step.load Tryz.underlying75 rfl rfl (fun w h => h.cell 0 rfl rfl)) rfl (fun _ h => h.sel [5] rfl) ?_
  refine AV.u 2 (bl 15 7) rfl gno (Step.move rfl) rfl (fun _ h => h.sel [5] rfl) ?_
  refine AV.all [3] (by kernel_rfl) (by decide) ?_
  refine ⟨⟨_, rfl, ?_⟩, trivial⟩
  ·
   refine OV.call [3, 3] (F := [_, _, _, _]) Tryz.func27 B27 N27 rfl rfl (fun w h => enter_fn f fA 3 (List.replicate 3 0) (by decide) 0 0 1 (by decide) len 0 (by omega) (by omega) (by omega) (by omega)) (fun _ hb => hb.elim) gno rfl (fun v L' hp => ?_)
   obtain ⟨rfl, rfl⟩ := hp
   refine AV.next (bl 15 15) (by kernel_rfl) (fun _ h => h.sel [3] rfl) ?_
   refine AV.u 4 (bl 15 31) rfl gno (Step.neq rfl rfl) rfl (fun _ h => h.sel [3] rfl) ?_
   refine AV.u 5 (bl 15 63) rfl gno (Step.move rfl) rfl (fun _ h => h.sel [3] rfl) ?_
   refine AV.u 6 (bl 15 127) rfl (gyes rfl) (Step.fieldAddr rfl (F80_1 _ _)) rfl (fun _ h => h.sel [3] rfl) ?_
   refine AV.u 7 (bl 15 255) rfl (gyes rfl) (Step.load Tryz.underlying73 rfl rfl (fun w h => h.cell 0 rfl rfl)) rfl (fun _ h => h.sel [3] rfl) ?_
   refine AV.u 8 (bl 15 511) rfl (gyes rfl) (Step.move rfl) rfl (fun _ h => h.sel [3] rfl) ?_
   refine AV.u 11 (bl 15 2559) rfl (gyes rfl) (Step.move rfl) rfl (fun _ h => h.sel [3] rfl) ?_
   refine AV.all [9] (by kernel_rfl) (by decide) ?_
   refine ⟨⟨_, rfl, ?_⟩, trivial⟩
   ·
    refine OV.callP Tryz.func14 B14 N14 rfl (mod_fn _ 4 (by omega) (by omega)) (gyes rfl) rfl ?_
    refine AV.next (bl 15 3071) (by kernel_rfl) (fun _ h => h.sel [3] rfl) ?_
    (first | refine AV.take 10 (bl 15 4095) rfl (by kernel_rfl) (by kernel_rfl) (by kernel_rfl) (fun _ _ _ h => h) (gyes rfl) (Step.add rfl rfl (wI64 (by omega) (by omega))) rfl (fun _ h => h.sel [3] rfl) (by kernel_rfl) ?_ | refine AV.take 10 (bl 15 4095) rfl (by kernel_rfl) (by kernel_rfl) (by kernel_rfl) (fun _ _ _ h => h) (gyes rfl) (Step.add rfl rfl rfl) rfl (fun _ h => h.sel [3] rfl) (by kernel_rfl) ?_)
    rw [hsy]
    refine AV.all [12] (by kernel_rfl) (by decide) ?_
    refine ⟨⟨_, rfl, ?_⟩, trivial⟩
    ·
     refine OV.call [0, 0, 0, 1, 1] (F := [_]) Tryz.func28 B28 N28 rfl rfl (fun w h => sbegin2_fn s w0 b f 3 (by omega) false 0 none (some tp) (some mp) (some bp) A c 0 0 0 fA 3 (esN len) (Nat.le_of_ble_eq_true rfl) 0 0 sy 0 tmo (by omega) (by omega) (by omega) (by omega) (by omega) (by omega) (by omega)) (fun _ hb => hb.elim) (gyes rfl) rfl (fun v L' hp => ?_)
     obtain ⟨rfl, hp⟩ := hp
     rcases hp with ⟨hal, q9, A9, c9, rest9, rfl⟩ | ⟨⟨hal, hdl⟩, rfl⟩ | ⟨⟨hal, hdl⟩, rfl⟩
     ·
      skip
      have hx := (esN_le (L := len) (x := min 0 (0 + tmo)) hlen0 (by omega)).1 hal
      refine AV.next (bl 15 8191) (by kernel_rfl) (fun _ h => h.sel [0] rfl) ?_
      refine AV.u 13 (bl 15 16383) rfl (gyes rfl) (Step.neq rfl rfl) rfl (fun _ h => h.sel [0] rfl) ?_
      refine AV.u 14 (bl 15 32767) rfl gno (Step.pick_f rfl rfl) rfl (fun _ h => h.sel [0] rfl) ?_
      refine AV.done (by kernel_rfl) ?_
      refine KV.then_n (KV.e4 7 9 10 38 ?_)
      refine KV.sel [0, 0, 0, 0, 0, 0, 0] [_, _, _, _, _, _, _] rfl ?_
      first | exact KV.join () ⟨rfl, rfl, rfl, rfl, trivial⟩ (fun _ h => .inl ⟨by omega, ⟨q9, A9, c9, rest9, _⟩, h⟩) | exact KV.join () ⟨rfl, rfl, rfl, rfl, trivial⟩ (fun _ h => .inr (.inl ⟨⟨by omega, by omega⟩, _, h⟩)) | exact KV.join () ⟨rfl, rfl, rfl, rfl, trivial⟩ (fun _ h => .inr (.inr ⟨⟨by omega, by omega⟩, h⟩))
     ·
      skip
      have hx : ¬ len ≤ min 0 (0 + tmo) := fun k => hal ((esN_le (L := len) (x := min 0 (0 + tmo)) hlen0 (by omega)).2 k)
      refine AV.next (bl 15 8191) (by kernel_rfl) (fun _ h => h.sel [0] rfl) ?_
      refine AV.u 13 (bl 15 16383) rfl (gyes rfl) (Step.neq rfl rfl) rfl (fun _ h => h.sel [0] rfl) ?_
      refine AV.u 14 (bl 15 32767) rfl gno (Step.pick_f rfl rfl) rfl (fun _ h => h.sel [0] rfl) ?_
      refine AV.done (by kernel_rfl) ?_
      refine KV.then_n (KV.e4 7 9 10 38 ?_)
      refine KV.sel [0, 0, 0, 0, 0, 0] [_, _, _, _, _, _] rfl ?_
      first | exact KV.join () ⟨rfl, rfl, rfl, rfl, trivial⟩ (fun _ h => .inl ⟨by omega, ⟨q9, A9, c9, rest9, _⟩, h⟩) | exact KV.join () ⟨rfl, rfl, rfl, rfl, trivial⟩ (fun _ h => .inr (.inl ⟨⟨by omega, by omega⟩, _, h⟩)) | exact KV.join () ⟨rfl, rfl, rfl, rfl, trivial⟩ (fun _ h => .inr (.inr ⟨⟨by omega, by omega⟩, h⟩))
     ·
      skip
      have hx : ¬ len ≤ min 0 (0 + tmo) := fun k => hal ((esN_le (L := len) (x := min 0 (0 + tmo)) hlen0 (by omega)).2 k)
      refine AV.next (bl 15 8191) (by kernel_rfl) (fun _ h => h.sel [0] rfl) ?_
      refine AV.u 13 (bl 15 16383) rfl (gyes rfl) (Step.neq rfl rfl) rfl (fun _ h => h.sel [0] rfl) ?_
      refine AV.u 14 (bl 15 32767) rfl gno (Step.pick_f rfl rfl) rfl (fun _ h => h.sel [0] rfl) ?_
      refine AV.done (by kernel_rfl) ?_
      refine KV.then_n (KV.e4 7 9 10 38 ?_)
      refine KV.sel [0, 0, 0, 0, 0, 0] [_, _, _, _, _, _] rfl ?_
      first | exact KV.join () ⟨rfl, rfl, rfl, rfl, trivial⟩ (fun _ h => .inl ⟨by omega, ⟨q9, A9, c9, rest9, _⟩, h⟩) | exact KV.join () ⟨rfl, rfl, rfl, rfl, trivial⟩ (fun _ h => .inr (.inl ⟨⟨by omega, by omega⟩, _, h⟩)) | exact KV.join () ⟨rfl, rfl, rfl, rfl, trivial⟩ (fun _ h => .inr (.inr ⟨⟨by omega, by omega⟩, h⟩))
 ·
  intro _
  refine CV.cond_f rfl (CV.skip (KV.then_n (KV.e3 7 9 10 (CV.seq (CV.seq ?_)))))
  refine CV.region ?_
  refine RV.a rfl rfl ?_
  refine RV.nil (KV.then_n (KV.e4 7 9 10 11 (CV.block ?_)))
  refine CV.loop2 (fun (i : Nat) (p : Int) => i ≤ 41 ∧ 0 ≤ p ∧ p ≤ i) (fun (i : Nat) (p : Int) => 41 - i) (fun (i : Nat) (p : Int) => [(7, .pointer (some ⟨b1_5, 0, none⟩)), (9, .int .u64 len), (10, .int .u64 tmo), (11, .int .u64 i)]) (fun (i : Nat) (p : Int) => (fun w9 => (len ≤ min p tmo ∧ ∃ z : QG, Hp I w [Blk b1_5 (.cells #[.pointer (some ⟨b, 0, none⟩), .pointer (some bp), .pointer (some q), .pointer (some cc), .int .i64 0, .pointer (some ⟨s, 0, none⟩), .pointer (some ⟨w0, 0, none⟩), .pointer (some ⟨f, 0, none⟩), .pointer (some ⟨tt, 0, none⟩), .pointer (some ⟨vv, 0, none⟩), .pointer (some ⟨gg, 0, none⟩)] 80 (0, 0)), Blk s (.cells (slC (some ⟨b, 0, none⟩) (some ⟨w0, 0, none⟩) (some ⟨f, 0, none⟩) (some ⟨z.q, 0, none⟩) 4 sy 0 0) 151 (0, 0)), Blk w0 (.cells (srcA 3 true p) 188 (0, 0)), Blk b (.cells #[.slice none 0 0, .pointer (some tp), .pointer (some mp), .pointer (some bp), .slice A 0 c] 170 (0, 0)), Blk f (.cells (frC 2 z.ck (0 + tmo) fA (esN len).length 3) 148 (0, 0)), OS 24 (intK .u64) fA 3 (esN len), Blk z.q (.cells (sqC z.A z.c 2 z.rest) 242 (0, 0))] w9) ∨ ((¬ len ≤ min p tmo ∧ tmo ≤ p) ∧ ∃ k : Int, Hp I w [Blk b1_5 (.cells #[.pointer (some ⟨b, 0, none⟩), .pointer (some bp), .pointer (some q), .pointer (some cc), .int .i64 0, .pointer (some ⟨s, 0, none⟩), .pointer (some ⟨w0, 0, none⟩), .pointer (some ⟨f, 0, none⟩), .pointer (some ⟨tt, 0, none⟩), .pointer (some ⟨vv, 0, none⟩), .pointer (some ⟨gg, 0, none⟩)] 80 (0, 0)), Blk s (.cells (slC (some ⟨b, 0, none⟩) (some ⟨w0, 0, none⟩) (some ⟨f, 0, none⟩) none 1 sy 14 0) 151 (0, 0)), Blk w0 (.cells (srcA 3 false p) 188 (0, 0)), Blk b (.cells #[.slice none 0 0, .pointer (some tp), .pointer (some mp), .pointer (some bp), .slice A 0 c] 170 (0, 0)), Blk f (.cells (frC 0 k (0 + tmo) fA (esN len).length 3) 148 (0, 0)), OS 24 (intK .u64) fA 3 (esN len)] w9) ∨ ((¬ len ≤ min p tmo ∧ ¬ tmo ≤ p) ∧ Hp I w [Blk b1_5 (.cells #[.pointer (some ⟨b, 0, none⟩), .pointer (some bp), .pointer (some q), .pointer (some cc), .int .i64 0, .pointer (some ⟨s, 0, none⟩), .pointer (some ⟨w0, 0, none⟩), .pointer (some ⟨f, 0, none⟩), .pointer (some ⟨tt, 0, none⟩), .pointer (some ⟨vv, 0, none⟩), .pointer (some ⟨gg, 0, none⟩)] 80 (0, 0)), Blk s (.cells (slC (some ⟨b, 0, none⟩) (some ⟨w0, 0, none⟩) (some ⟨f, 0, none⟩) none 2 sy 0 0) 151 (0, 0)), Blk w0 (.cells (srcA 3 true p) 188 (0, 0)), Blk b (.cells #[.slice none 0 0, .pointer (some tp), .pointer (some mp), .pointer (some bp), .slice A 0 c] 170 (0, 0)), Blk f (.cells (frC 1 p (0 + tmo) fA (esN len).length 3) 148 (0, 0)), OS 24 (intK .u64) fA 3 (esN len)] w9)) ) (0) (0) ⟨by omega, by omega, by omega⟩ ⟨rfl, rfl, rfl, rfl, trivial⟩ (fun _ h => h) ?_
  intro i p hinv
  refine CV.seq (CV.seq ?_)
  refine KV.or ?_ (KV.or ?_ ?_)
  ·
   skip
   refine KV.have (fun _ h => h.1) fun hA => ?_
   refine CV.heapEx (fun _ h => h.2) fun z => ?_
   refine CV.region ?_
   refine RV.m rfl rfl ?_
   refine RV.op (OV.split gno (Step.leq rfl rfl) rfl (fun cc1 => ?_) (fun cc1 => ?_))
   ·
    refine RV.nil (KV.then_n (KV.e5 7 9 10 11 40 (CV.cond_t rfl (CV.skip (KV.then_n ?_)))))
    refine KV.e4 7 9 10 11 (CV.seq (CV.block (CV.seq (CV.region ?_))))
    refine RV.s (Step.fieldAddr rfl (F80_1 _ _)) rfl (RV.s (Step.load Tryz.underlying73 rfl rfl (fun w h => h.cell 0 rfl rfl)) rfl (RV.m rfl rfl ?_))
    refine RV.op (OV.call [1, 1] (F := [_, _, _, _, _]) Tryz.func29 B29 N29 rfl rfl (fun w h => settle4_fn s w0 3 (by omega) true p (some ⟨b, 0, none⟩) (some ⟨f, 0, none⟩) (some ⟨z.q, 0, none⟩) sy 0 0 i (by omega) (by omega)) (fun _ hb => hb.elim) gno rfl (fun v L' hp => ?_))
    subst hp
    refine RV.nil (KV.then_n (KV.e4 7 9 10 11 (CV.seq (CV.region ?_))))
    refine RV.a rfl rfl ?_
    refine RV.nil (KV.then_n (KV.e5 7 9 10 11 12 (CV.seq (CV.block (CV.seq ?_)))))
    refine CV.region ?_
    refine RV.m rfl rfl (RV.m rfl rfl ?_)
    refine RV.op (OV.split gno (Step.gtr rfl rfl) rfl (fun cc2 => ?_) (fun cc2 => ?_))
    ·
     refine RV.m rfl rfl (RV.gw rfl (Step.move rfl) rfl (RV.gw rfl (Step.move rfl) rfl ?_))
     refine RV.op (OV.split (gyes rfl) (Step.geq rfl rfl) rfl (fun cc3 => ?_) (fun cc3 => ?_))
     ·
      refine RV.s (Step.pick_t rfl rfl) rfl (RV.a rfl rfl ?_)
      refine RV.nil (KV.then_n (KV.e6 7 9 10 11 12 47 (CV.cond_t rfl (CV.region ?_))))
      refine RV.a rfl rfl ?_
      refine RV.nil (KV.block_n (KV.then_n (KV.e5 7 9 10 11 12 (CV.seq (CV.region ?_)))))
      refine RV.s (Step.fieldAddr rfl (F80_1 _ _)) rfl (RV.s (Step.load Tryz.underlying73 rfl rfl (fun w h => h.cell 0 rfl rfl)) rfl ?_)
      refine RV.op (OV.call [] (F := [_, _, _, _, _, _, _]) Tryz.func30 B30 N30 rfl rfl (fun w h => mode_fn s (h.blk 5 rfl)) (fun _ hb => hb.elim) gno rfl (fun v L' hp => ?_))
      obtain ⟨rfl, rfl⟩ := hp
      simp only [List.append_nil]
      refine RV.m rfl rfl (RV.s (Step.neq rfl rfl) rfl (RV.m rfl rfl (RV.k rfl rfl (RV.k rfl rfl (RV.k rfl rfl ?_)))))
      refine RV.op (OV.skipU rfl rfl ?_)
      refine RV.op (OV.skipU rfl rfl ?_)
      refine RV.op (OV.skipU rfl rfl ?_)
      refine RV.op (OV.skipU rfl rfl ?_)
      refine RV.k rfl rfl (RV.s (Step.pick_t rfl rfl) rfl ?_)
      refine RV.nil (KV.then_n (KV.e5 7 9 10 11 79 (CV.cond_t rfl (CV.seq (CV.region ?_)))))
      refine RV.a rfl rfl ?_
      refine RV.nil (KV.then_n (KV.e1 6 (CV.ret (KV.block_ret (KV.then_ret ?_)))))
      refine KV.then_ret (KV.block_ret (KV.then_ret ?_))
      refine KV.sel [] [] rfl ?_
      exfalso; omega
     ·
      refine RV.s (Step.pick_t rfl rfl) rfl (RV.a rfl rfl ?_)
      refine RV.nil (KV.then_n (KV.e6 7 9 10 11 12 47 (CV.cond_f rfl (CV.seq (CV.region ?_)))))
      refine RV.m rfl rfl (RV.m rfl rfl ?_)
      refine RV.op (OV.split gno (Step.leq rfl rfl) rfl (fun cc4 => ?_) (fun cc4 => ?_))
      ·
       refine RV.m rfl rfl (RV.gw rfl (Step.move rfl) rfl (RV.gw rfl (Step.move rfl) rfl ?_))
       refine RV.op (OV.split (gyes rfl) (Step.geq rfl rfl) rfl (fun cc5 => ?_) (fun cc5 => ?_))
       ·
        refine RV.s (Step.pick_t rfl rfl) rfl (RV.a rfl rfl ?_)
        refine RV.nil (KV.then_n (KV.e6 7 9 10 11 12 56 (CV.cond_t rfl (CV.region ?_))))
        refine RV.a rfl rfl ?_
        refine RV.nil (KV.block_n (KV.then_n (KV.e5 7 9 10 11 12 (CV.seq (CV.region ?_)))))
        refine RV.s (Step.fieldAddr rfl (F80_1 _ _)) rfl (RV.s (Step.load Tryz.underlying73 rfl rfl (fun w h => h.cell 0 rfl rfl)) rfl ?_)
        refine RV.op (OV.call [] (F := [_, _, _, _, _, _, _]) Tryz.func30 B30 N30 rfl rfl (fun w h => mode_fn s (h.blk 5 rfl)) (fun _ hb => hb.elim) gno rfl (fun v L' hp => ?_))
        obtain ⟨rfl, rfl⟩ := hp
        simp only [List.append_nil]
        refine RV.m rfl rfl (RV.s (Step.neq rfl rfl) rfl (RV.m rfl rfl (RV.gw rfl (Step.move rfl) rfl (RV.gw rfl (Step.eql rfl rfl) rfl (RV.gw rfl (Step.move rfl) rfl (RV.k rfl rfl (RV.k rfl rfl ?_)))))))
        refine RV.k rfl rfl (RV.k rfl rfl (RV.gw rfl (Step.pick_f rfl rfl) rfl (RV.s (Step.pick_f rfl rfl) rfl ?_)))
        refine RV.nil (KV.then_n (KV.e5 7 9 10 11 79 (CV.cond_f rfl (CV.skip (KV.block_n ?_)))))
        refine KV.then_n (KV.e4 7 9 10 11 (CV.region ?_))
        refine RV.m rfl rfl ?_
        (first | refine RV.op (OV.step gno (Step.add rfl rfl (wU64 (by omega) (by omega))) rfl ?_) | refine RV.op (OV.step gno (Step.add rfl rfl rfl) rfl ?_))
        refine RV.a rfl rfl ?_
        refine RV.nil (KV.then_n (KV.e4 7 9 10 11 ?_))
        refine KV.sel [0, 4, 4, 0, 0, 0, 0] [_, _, _, _, _, _, _] rfl ?_
        first | exact KV.loop2 (x := i) (y := p) (i + 1) (i : Int) ⟨by omega, by omega, by omega⟩ (by omega) ⟨rfl, rfl, rfl, rfl, trivial⟩ (fun _ h => .inl ⟨by omega, ⟨q9, A9, c9, rest9, _⟩, h⟩) | exact KV.loop2 (x := i) (y := p) (i + 1) (i : Int) ⟨by omega, by omega, by omega⟩ (by omega) ⟨rfl, rfl, rfl, rfl, trivial⟩ (fun _ h => .inl ⟨by omega, z, h⟩) | exact KV.loop2 (x := i) (y := p) (i + 1) (i : Int) ⟨by omega, by omega, by omega⟩ (by omega) ⟨rfl, rfl, rfl, rfl, trivial⟩ (fun _ h => .inr (.inl ⟨⟨by omega, by omega⟩, _, h⟩)) | exact KV.loop2 (x := i) (y := p) (i + 1) (i : Int) ⟨by omega, by omega, by omega⟩ (by omega) ⟨rfl, rfl, rfl, rfl, trivial⟩ (fun _ h => .inr (.inr ⟨⟨by omega, by omega⟩, h⟩))
       ·
        refine RV.s (Step.pick_t rfl rfl) rfl (RV.a rfl rfl ?_)
        refine RV.nil (KV.then_n (KV.e6 7 9 10 11 12 56 (CV.cond_f rfl (CV.skip (KV.block_n ?_)))))
        refine KV.then_n (KV.e5 7 9 10 11 12 (CV.seq (CV.region ?_)))
        refine RV.s (Step.fieldAddr rfl (F80_1 _ _)) rfl (RV.s (Step.load Tryz.underlying73 rfl rfl (fun w h => h.cell 0 rfl rfl)) rfl ?_)
        refine RV.op (OV.call [] (F := [_, _, _, _, _, _, _]) Tryz.func30 B30 N30 rfl rfl (fun w h => mode_fn s (h.blk 5 rfl)) (fun _ hb => hb.elim) gno rfl (fun v L' hp => ?_))
        obtain ⟨rfl, rfl⟩ := hp
        simp only [List.append_nil]
        refine RV.m rfl rfl (RV.s (Step.neq rfl rfl) rfl (RV.m rfl rfl (RV.k rfl rfl (RV.k rfl rfl (RV.k rfl rfl ?_)))))
        refine RV.op (OV.skipU rfl rfl ?_)
        refine RV.op (OV.skipU rfl rfl ?_)
        refine RV.op (OV.skipU rfl rfl ?_)
        refine RV.op (OV.skipU rfl rfl ?_)
        refine RV.k rfl rfl (RV.s (Step.pick_t rfl rfl) rfl ?_)
        refine RV.nil (KV.then_n (KV.e5 7 9 10 11 79 (CV.cond_t rfl (CV.seq (CV.region ?_)))))
        refine RV.a rfl rfl ?_
        refine RV.nil (KV.then_n (KV.e1 6 (CV.ret (KV.block_ret (KV.then_ret ?_)))))
        refine KV.then_ret (KV.block_ret (KV.then_ret ?_))
        refine KV.sel [] [] rfl ?_
        exfalso; omega
      ·
       refine RV.m rfl rfl (RV.k rfl rfl (RV.k rfl rfl (RV.k rfl rfl (RV.s (Step.pick_f rfl rfl) rfl (RV.a rfl rfl ?_)))))
       refine RV.nil (KV.then_n (KV.e6 7 9 10 11 12 56 (CV.cond_f rfl (CV.skip (KV.block_n ?_)))))
       refine KV.then_n (KV.e5 7 9 10 11 12 (CV.seq (CV.region ?_)))
       refine RV.s (Step.fieldAddr rfl (F80_1 _ _)) rfl (RV.s (Step.load Tryz.underlying73 rfl rfl (fun w h => h.cell 0 rfl rfl)) rfl ?_)
       refine RV.op (OV.call [] (F := [_, _, _, _, _, _, _]) Tryz.func30 B30 N30 rfl rfl (fun w h => mode_fn s (h.blk 5 rfl)) (fun _ hb => hb.elim) gno rfl (fun v L' hp => ?_))
       obtain ⟨rfl, rfl⟩ := hp
       simp only [List.append_nil]
       refine RV.m rfl rfl (RV.s (Step.neq rfl rfl) rfl (RV.m rfl rfl (RV.k rfl rfl (RV.k rfl rfl (RV.k rfl rfl ?_)))))
       refine RV.op (OV.skipU rfl rfl ?_)
       refine RV.op (OV.skipU rfl rfl ?_)
       refine RV.op (OV.skipU rfl rfl ?_)
       refine RV.op (OV.skipU rfl rfl ?_)
       refine RV.k rfl rfl (RV.s (Step.pick_t rfl rfl) rfl ?_)
       refine RV.nil (KV.then_n (KV.e5 7 9 10 11 79 (CV.cond_t rfl (CV.seq (CV.region ?_)))))
       refine RV.a rfl rfl ?_
       refine RV.nil (KV.then_n (KV.e1 6 (CV.ret (KV.block_ret (KV.then_ret ?_)))))
       refine KV.then_ret (KV.block_ret (KV.then_ret ?_))
       refine KV.sel [] [] rfl ?_
       exfalso; omega
    ·
     refine RV.m rfl rfl (RV.k rfl rfl (RV.k rfl rfl (RV.k rfl rfl (RV.s (Step.pick_f rfl rfl) rfl (RV.a rfl rfl ?_)))))
     refine RV.nil (KV.then_n (KV.e6 7 9 10 11 12 47 (CV.cond_f rfl (CV.seq (CV.region ?_)))))
     refine RV.m rfl rfl (RV.m rfl rfl ?_)
     refine RV.op (OV.split gno (Step.leq rfl rfl) rfl (fun cc6 => ?_) (fun cc6 => ?_))
     ·
      refine RV.m rfl rfl (RV.gw rfl (Step.move rfl) rfl (RV.gw rfl (Step.move rfl) rfl ?_))
      refine RV.op (OV.split (gyes rfl) (Step.geq rfl rfl) rfl (fun cc7 => ?_) (fun cc7 => ?_))
      ·
       refine RV.s (Step.pick_t rfl rfl) rfl (RV.a rfl rfl ?_)
       refine RV.nil (KV.then_n (KV.e6 7 9 10 11 12 56 (CV.cond_t rfl (CV.region ?_))))
       refine RV.a rfl rfl ?_
       refine RV.nil (KV.block_n (KV.then_n (KV.e5 7 9 10 11 12 (CV.seq (CV.region ?_)))))
       refine RV.s (Step.fieldAddr rfl (F80_1 _ _)) rfl (RV.s (Step.load Tryz.underlying73 rfl rfl (fun w h => h.cell 0 rfl rfl)) rfl ?_)
       refine RV.op (OV.call [] (F := [_, _, _, _, _, _, _]) Tryz.func30 B30 N30 rfl rfl (fun w h => mode_fn s (h.blk 5 rfl)) (fun _ hb => hb.elim) gno rfl (fun v L' hp => ?_))
       obtain ⟨rfl, rfl⟩ := hp
       simp only [List.append_nil]
       refine RV.m rfl rfl (RV.s (Step.neq rfl rfl) rfl (RV.m rfl rfl (RV.gw rfl (Step.move rfl) rfl (RV.gw rfl (Step.eql rfl rfl) rfl (RV.gw rfl (Step.move rfl) rfl (RV.k rfl rfl (RV.k rfl rfl ?_)))))))
       refine RV.k rfl rfl (RV.k rfl rfl (RV.gw rfl (Step.pick_f rfl rfl) rfl (RV.s (Step.pick_f rfl rfl) rfl ?_)))
       refine RV.nil (KV.then_n (KV.e5 7 9 10 11 79 (CV.cond_f rfl (CV.skip (KV.block_n ?_)))))
       refine KV.then_n (KV.e4 7 9 10 11 (CV.region ?_))
       refine RV.m rfl rfl ?_
       (first | refine RV.op (OV.step gno (Step.add rfl rfl (wU64 (by omega) (by omega))) rfl ?_) | refine RV.op (OV.step gno (Step.add rfl rfl rfl) rfl ?_))
       refine RV.a rfl rfl ?_
       refine RV.nil (KV.then_n (KV.e4 7 9 10 11 ?_))
       refine KV.sel [0, 4, 4, 0, 0, 0, 0] [_, _, _, _, _, _, _] rfl ?_
       first | exact KV.loop2 (x := i) (y := p) (i + 1) (i : Int) ⟨by omega, by omega, by omega⟩ (by omega) ⟨rfl, rfl, rfl, rfl, trivial⟩ (fun _ h => .inl ⟨by omega, ⟨q9, A9, c9, rest9, _⟩, h⟩) | exact KV.loop2 (x := i) (y := p) (i + 1) (i : Int) ⟨by omega, by omega, by omega⟩ (by omega) ⟨rfl, rfl, rfl, rfl, trivial⟩ (fun _ h => .inl ⟨by omega, z, h⟩) | exact KV.loop2 (x := i) (y := p) (i + 1) (i : Int) ⟨by omega, by omega, by omega⟩ (by omega) ⟨rfl, rfl, rfl, rfl, trivial⟩ (fun _ h => .inr (.inl ⟨⟨by omega, by omega⟩, _, h⟩)) | exact KV.loop2 (x := i) (y := p) (i + 1) (i : Int) ⟨by omega, by omega, by omega⟩ (by omega) ⟨rfl, rfl, rfl, rfl, trivial⟩ (fun _ h => .inr (.inr ⟨⟨by omega, by omega⟩, h⟩))
      ·
       refine RV.s (Step.pick_t rfl rfl) rfl (RV.a rfl rfl ?_)
       refine RV.nil (KV.then_n (KV.e6 7 9 10 11 12 56 (CV.cond_f rfl (CV.skip (KV.block_n ?_)))))
       refine KV.then_n (KV.e5 7 9 10 11 12 (CV.seq (CV.region ?_)))
       refine RV.s (Step.fieldAddr rfl (F80_1 _ _)) rfl (RV.s (Step.load Tryz.underlying73 rfl rfl (fun w h => h.cell 0 rfl rfl)) rfl ?_)
       refine RV.op (OV.call [] (F := [_, _, _, _, _, _, _]) Tryz.func30 B30 N30 rfl rfl (fun w h => mode_fn s (h.blk 5 rfl)) (fun _ hb => hb.elim) gno rfl (fun v L' hp => ?_))
       obtain ⟨rfl, rfl⟩ := hp
       simp only [List.append_nil]
       refine RV.m rfl rfl (RV.s (Step.neq rfl rfl) rfl (RV.m rfl rfl (RV.k rfl rfl (RV.k rfl rfl (RV.k rfl rfl ?_)))))
       refine RV.op (OV.skipU rfl rfl ?_)
       refine RV.op (OV.skipU rfl rfl ?_)
       refine RV.op (OV.skipU rfl rfl ?_)
       refine RV.op (OV.skipU rfl rfl ?_)
       refine RV.k rfl rfl (RV.s (Step.pick_t rfl rfl) rfl ?_)
       refine RV.nil (KV.then_n (KV.e5 7 9 10 11 79 (CV.cond_t rfl (CV.seq (CV.region ?_)))))
       refine RV.a rfl rfl ?_
       refine RV.nil (KV.then_n (KV.e1 6 (CV.ret (KV.block_ret (KV.then_ret ?_)))))
       refine KV.then_ret (KV.block_ret (KV.then_ret ?_))
       refine KV.sel [] [] rfl ?_
       exfalso; omega
     ·
      refine RV.m rfl rfl (RV.k rfl rfl (RV.k rfl rfl (RV.k rfl rfl (RV.s (Step.pick_f rfl rfl) rfl (RV.a rfl rfl ?_)))))
      refine RV.nil (KV.then_n (KV.e6 7 9 10 11 12 56 (CV.cond_f rfl (CV.skip (KV.block_n ?_)))))
      refine KV.then_n (KV.e5 7 9 10 11 12 (CV.seq (CV.region ?_)))
      refine RV.s (Step.fieldAddr rfl (F80_1 _ _)) rfl (RV.s (Step.load Tryz.underlying73 rfl rfl (fun w h => h.cell 0 rfl rfl)) rfl ?_)
      refine RV.op (OV.call [] (F := [_, _, _, _, _, _, _]) Tryz.func30 B30 N30 rfl rfl (fun w h => mode_fn s (h.blk 5 rfl)) (fun _ hb => hb.elim) gno rfl (fun v L' hp => ?_))
      obtain ⟨rfl, rfl⟩ := hp
      simp only [List.append_nil]
      refine RV.m rfl rfl (RV.s (Step.neq rfl rfl) rfl (RV.m rfl rfl (RV.k rfl rfl (RV.k rfl rfl (RV.k rfl rfl ?_)))))
      refine RV.op (OV.skipU rfl rfl ?_)
      refine RV.op (OV.skipU rfl rfl ?_)
      refine RV.op (OV.skipU rfl rfl ?_)
      refine RV.op (OV.skipU rfl rfl ?_)
      refine RV.k rfl rfl (RV.s (Step.pick_t rfl rfl) rfl ?_)
      refine RV.nil (KV.then_n (KV.e5 7 9 10 11 79 (CV.cond_t rfl (CV.seq (CV.region ?_)))))
      refine RV.a rfl rfl ?_
      refine RV.nil (KV.then_n (KV.e1 6 (CV.ret (KV.block_ret (KV.then_ret ?_)))))
      refine KV.then_ret (KV.block_ret (KV.then_ret ?_))
      refine KV.sel [] [] rfl ?_
      exfalso; omega
   ·
    refine RV.nil (KV.then_n (KV.e5 7 9 10 11 40 (CV.cond_f rfl (CV.exit (KV.then_exit ?_)))))
    refine KV.then_exit (KV.block_hit (KV.then_n (KV.env [] trivial (CV.seq (CV.region ?_)))))
    refine RV.op (OV.call [] (F := [_, _, _, _, _, _, _]) Tryz.func10 B10 N10 rfl rfl (fun w h => awake_fn) (fun _ hb => hb.elim) gno rfl (fun v L' hp => ?_))
    obtain ⟨rfl, rfl⟩ := hp
    simp only [List.append_nil]
    refine RV.a rfl rfl ?_
    refine RV.nil (KV.then_n (KV.e1 6 (CV.ret ?_)))
    refine KV.sel [] [] rfl ?_
    exact KV.ret1 rfl rfl _ (fun _ h => h) ⟨rfl, rfl⟩
  ·
   skip
   refine KV.have (fun _ h => h.1) fun hB => ?_
   refine CV.heapEx (fun _ h => h.2) fun k => ?_
   refine CV.region ?_
   refine RV.m rfl rfl ?_
   refine RV.op (OV.split gno (Step.leq rfl rfl) rfl (fun cc8 => ?_) (fun cc8 => ?_))
   ·
    refine RV.nil (KV.then_n (KV.e5 7 9 10 11 40 (CV.cond_t rfl (CV.skip (KV.then_n ?_)))))
    refine KV.e4 7 9 10 11 (CV.seq (CV.block (CV.seq (CV.region ?_))))
    refine RV.s (Step.fieldAddr rfl (F80_1 _ _)) rfl (RV.s (Step.load Tryz.underlying73 rfl rfl (fun w h => h.cell 0 rfl rfl)) rfl (RV.m rfl rfl ?_))
    refine RV.op (OV.call [1, 1] (F := [_, _, _, _]) Tryz.func29 B29 N29 rfl rfl (fun w h => settle1_fn s w0 3 (by omega) false p (some ⟨b, 0, none⟩) (some ⟨f, 0, none⟩) none sy 14 0 i (by omega) (by omega)) (fun _ hb => hb.elim) gno rfl (fun v L' hp => ?_))
    subst hp
    refine RV.nil (KV.then_n (KV.e4 7 9 10 11 (CV.seq (CV.region ?_))))
    refine RV.a rfl rfl ?_
    refine RV.nil (KV.then_n (KV.e5 7 9 10 11 12 (CV.seq (CV.block (CV.seq ?_)))))
    refine CV.region ?_
    refine RV.m rfl rfl (RV.m rfl rfl ?_)
    refine RV.op (OV.split gno (Step.gtr rfl rfl) rfl (fun cc9 => ?_) (fun cc9 => ?_))
    ·
     refine RV.m rfl rfl (RV.gw rfl (Step.move rfl) rfl (RV.gw rfl (Step.move rfl) rfl ?_))
     refine RV.op (OV.split (gyes rfl) (Step.geq rfl rfl) rfl (fun cc10 => ?_) (fun cc10 => ?_))
     ·
      refine RV.s (Step.pick_t rfl rfl) rfl (RV.a rfl rfl ?_)
      refine RV.nil (KV.then_n (KV.e6 7 9 10 11 12 47 (CV.cond_t rfl (CV.region ?_))))
      refine RV.a rfl rfl ?_
      refine RV.nil (KV.block_n (KV.then_n (KV.e5 7 9 10 11 12 (CV.seq (CV.region ?_)))))
      refine RV.s (Step.fieldAddr rfl (F80_1 _ _)) rfl (RV.s (Step.load Tryz.underlying73 rfl rfl (fun w h => h.cell 0 rfl rfl)) rfl ?_)
      refine RV.op (OV.call [] (F := [_, _, _, _, _, _]) Tryz.func30 B30 N30 rfl rfl (fun w h => mode_fn s (h.blk 4 rfl)) (fun _ hb => hb.elim) gno rfl (fun v L' hp => ?_))
      obtain ⟨rfl, rfl⟩ := hp
      simp only [List.append_nil]
      refine RV.m rfl rfl (RV.s (Step.neq rfl rfl) rfl (RV.m rfl rfl (RV.gw rfl (Step.move rfl) rfl (RV.gw rfl (Step.eql rfl rfl) rfl (RV.gw rfl (Step.move rfl) rfl (RV.gw rfl (Step.fieldAddr rfl (F80_1 _ _)) rfl (RV.gw rfl (Step.load Tryz.underlying73 rfl rfl (fun w h => h.cell 0 rfl rfl)) rfl ?_)))))))
      refine RV.op (OV.call [] (F := [_, _, _, _, _, _]) Tryz.func31 B31 N31 rfl rfl (fun w h => last_fn s (h.blk 4 rfl)) (fun _ hb => hb.elim) (gyes rfl) rfl (fun v L' hp => ?_))
      obtain ⟨rfl, rfl⟩ := hp
      simp only [List.append_nil]
      refine RV.gw rfl (Step.neq rfl rfl) rfl (RV.gw rfl (Step.pick_t rfl rfl) rfl (RV.s (Step.pick_f rfl rfl) rfl ?_))
      refine RV.nil (KV.then_n (KV.e5 7 9 10 11 79 (CV.cond_f rfl (CV.skip (KV.block_n ?_)))))
      refine KV.then_n (KV.e4 7 9 10 11 (CV.region ?_))
      refine RV.m rfl rfl ?_
      (first | refine RV.op (OV.step gno (Step.add rfl rfl (wU64 (by omega) (by omega))) rfl ?_) | refine RV.op (OV.step gno (Step.add rfl rfl rfl) rfl ?_))
      refine RV.a rfl rfl ?_
      refine RV.nil (KV.then_n (KV.e4 7 9 10 11 ?_))
      refine KV.sel [0, 3, 3, 0, 0, 0] [_, _, _, _, _, _] rfl ?_
      first | exact KV.loop2 (x := i) (y := p) (i + 1) (i : Int) ⟨by omega, by omega, by omega⟩ (by omega) ⟨rfl, rfl, rfl, rfl, trivial⟩ (fun _ h => .inl ⟨by omega, ⟨q9, A9, c9, rest9, _⟩, h⟩) | exact KV.loop2 (x := i) (y := p) (i + 1) (i : Int) ⟨by omega, by omega, by omega⟩ (by omega) ⟨rfl, rfl, rfl, rfl, trivial⟩ (fun _ h => .inl ⟨by omega, z, h⟩) | exact KV.loop2 (x := i) (y := p) (i + 1) (i : Int) ⟨by omega, by omega, by omega⟩ (by omega) ⟨rfl, rfl, rfl, rfl, trivial⟩ (fun _ h => .inr (.inl ⟨⟨by omega, by omega⟩, _, h⟩)) | exact KV.loop2 (x := i) (y := p) (i + 1) (i : Int) ⟨by omega, by omega, by omega⟩ (by omega) ⟨rfl, rfl, rfl, rfl, trivial⟩ (fun _ h => .inr (.inr ⟨⟨by omega, by omega⟩, h⟩))
     ·
      refine RV.s (Step.pick_t rfl rfl) rfl (RV.a rfl rfl ?_)
      refine RV.nil (KV.then_n (KV.e6 7 9 10 11 12 47 (CV.cond_f rfl (CV.seq (CV.region ?_)))))
      refine RV.m rfl rfl (RV.m rfl rfl ?_)
      refine RV.op (OV.split gno (Step.leq rfl rfl) rfl (fun cc11 => ?_) (fun cc11 => ?_))
      ·
       refine RV.m rfl rfl (RV.gw rfl (Step.move rfl) rfl (RV.gw rfl (Step.move rfl) rfl ?_))
       refine RV.op (OV.split (gyes rfl) (Step.geq rfl rfl) rfl (fun cc12 => ?_) (fun cc12 => ?_))
       ·
        refine RV.s (Step.pick_t rfl rfl) rfl (RV.a rfl rfl ?_)
        refine RV.nil (KV.then_n (KV.e6 7 9 10 11 12 56 (CV.cond_t rfl (CV.region ?_))))
        refine RV.a rfl rfl ?_
        refine RV.nil (KV.block_n (KV.then_n (KV.e5 7 9 10 11 12 (CV.seq (CV.region ?_)))))
        refine RV.s (Step.fieldAddr rfl (F80_1 _ _)) rfl (RV.s (Step.load Tryz.underlying73 rfl rfl (fun w h => h.cell 0 rfl rfl)) rfl ?_)
        refine RV.op (OV.call [] (F := [_, _, _, _, _, _]) Tryz.func30 B30 N30 rfl rfl (fun w h => mode_fn s (h.blk 4 rfl)) (fun _ hb => hb.elim) gno rfl (fun v L' hp => ?_))
        obtain ⟨rfl, rfl⟩ := hp
        simp only [List.append_nil]
        refine RV.m rfl rfl (RV.s (Step.neq rfl rfl) rfl (RV.m rfl rfl (RV.k rfl rfl (RV.k rfl rfl (RV.k rfl rfl ?_)))))
        refine RV.op (OV.skipU rfl rfl ?_)
        refine RV.op (OV.skipU rfl rfl ?_)
        refine RV.op (OV.skipU rfl rfl ?_)
        refine RV.op (OV.skipU rfl rfl ?_)
        refine RV.k rfl rfl (RV.s (Step.pick_t rfl rfl) rfl ?_)
        refine RV.nil (KV.then_n (KV.e5 7 9 10 11 79 (CV.cond_t rfl (CV.seq (CV.region ?_)))))
        refine RV.a rfl rfl ?_
        refine RV.nil (KV.then_n (KV.e1 6 (CV.ret (KV.block_ret (KV.then_ret ?_)))))
        refine KV.then_ret (KV.block_ret (KV.then_ret ?_))
        refine KV.sel [] [] rfl ?_
        exfalso; omega
       ·
        refine RV.s (Step.pick_t rfl rfl) rfl (RV.a rfl rfl ?_)
        refine RV.nil (KV.then_n (KV.e6 7 9 10 11 12 56 (CV.cond_f rfl (CV.skip (KV.block_n ?_)))))
        refine KV.then_n (KV.e5 7 9 10 11 12 (CV.seq (CV.region ?_)))
        refine RV.s (Step.fieldAddr rfl (F80_1 _ _)) rfl (RV.s (Step.load Tryz.underlying73 rfl rfl (fun w h => h.cell 0 rfl rfl)) rfl ?_)
        refine RV.op (OV.call [] (F := [_, _, _, _, _, _]) Tryz.func30 B30 N30 rfl rfl (fun w h => mode_fn s (h.blk 4 rfl)) (fun _ hb => hb.elim) gno rfl (fun v L' hp => ?_))
        obtain ⟨rfl, rfl⟩ := hp
        simp only [List.append_nil]
        refine RV.m rfl rfl (RV.s (Step.neq rfl rfl) rfl (RV.m rfl rfl (RV.k rfl rfl (RV.k rfl rfl (RV.k rfl rfl ?_)))))
        refine RV.op (OV.skipU rfl rfl ?_)
        refine RV.op (OV.skipU rfl rfl ?_)
        refine RV.op (OV.skipU rfl rfl ?_)
        refine RV.op (OV.skipU rfl rfl ?_)
        refine RV.k rfl rfl (RV.s (Step.pick_t rfl rfl) rfl ?_)
        refine RV.nil (KV.then_n (KV.e5 7 9 10 11 79 (CV.cond_t rfl (CV.seq (CV.region ?_)))))
        refine RV.a rfl rfl ?_
        refine RV.nil (KV.then_n (KV.e1 6 (CV.ret (KV.block_ret (KV.then_ret ?_)))))
        refine KV.then_ret (KV.block_ret (KV.then_ret ?_))
        refine KV.sel [] [] rfl ?_
        exfalso; omega
      ·
       refine RV.m rfl rfl (RV.k rfl rfl (RV.k rfl rfl (RV.k rfl rfl (RV.s (Step.pick_f rfl rfl) rfl (RV.a rfl rfl ?_)))))
       refine RV.nil (KV.then_n (KV.e6 7 9 10 11 12 56 (CV.cond_f rfl (CV.skip (KV.block_n ?_)))))
       refine KV.then_n (KV.e5 7 9 10 11 12 (CV.seq (CV.region ?_)))
       refine RV.s (Step.fieldAddr rfl (F80_1 _ _)) rfl (RV.s (Step.load Tryz.underlying73 rfl rfl (fun w h => h.cell 0 rfl rfl)) rfl ?_)
       refine RV.op (OV.call [] (F := [_, _, _, _, _, _]) Tryz.func30 B30 N30 rfl rfl (fun w h => mode_fn s (h.blk 4 rfl)) (fun _ hb => hb.elim) gno rfl (fun v L' hp => ?_))
       obtain ⟨rfl, rfl⟩ := hp
       simp only [List.append_nil]
       refine RV.m rfl rfl (RV.s (Step.neq rfl rfl) rfl (RV.m rfl rfl (RV.k rfl rfl (RV.k rfl rfl (RV.k rfl rfl ?_)))))
       refine RV.op (OV.skipU rfl rfl ?_)
       refine RV.op (OV.skipU rfl rfl ?_)
       refine RV.op (OV.skipU rfl rfl ?_)
       refine RV.op (OV.skipU rfl rfl ?_)
       refine RV.k rfl rfl (RV.s (Step.pick_t rfl rfl) rfl ?_)
       refine RV.nil (KV.then_n (KV.e5 7 9 10 11 79 (CV.cond_t rfl (CV.seq (CV.region ?_)))))
       refine RV.a rfl rfl ?_
       refine RV.nil (KV.then_n (KV.e1 6 (CV.ret (KV.block_ret (KV.then_ret ?_)))))
       refine KV.then_ret (KV.block_ret (KV.then_ret ?_))
       refine KV.sel [] [] rfl ?_
       exfalso; omega
    ·
     refine RV.m rfl rfl (RV.k rfl rfl (RV.k rfl rfl (RV.k rfl rfl (RV.s (Step.pick_f rfl rfl) rfl (RV.a rfl rfl ?_)))))
     refine RV.nil (KV.then_n (KV.e6 7 9 10 11 12 47 (CV.cond_f rfl (CV.seq (CV.region ?_)))))
     refine RV.m rfl rfl (RV.m rfl rfl ?_)
     refine RV.op (OV.split gno (Step.leq rfl rfl) rfl (fun cc13 => ?_) (fun cc13 => ?_))
     ·
      refine RV.m rfl rfl (RV.gw rfl (Step.move rfl) rfl (RV.gw rfl (Step.move rfl) rfl ?_))
      refine RV.op (OV.split (gyes rfl) (Step.geq rfl rfl) rfl (fun cc14 => ?_) (fun cc14 => ?_))
      ·
       refine RV.s (Step.pick_t rfl rfl) rfl (RV.a rfl rfl ?_)
       refine RV.nil (KV.then_n (KV.e6 7 9 10 11 12 56 (CV.cond_t rfl (CV.region ?_))))
       refine RV.a rfl rfl ?_
       refine RV.nil (KV.block_n (KV.then_n (KV.e5 7 9 10 11 12 (CV.seq (CV.region ?_)))))
       refine RV.s (Step.fieldAddr rfl (F80_1 _ _)) rfl (RV.s (Step.load Tryz.underlying73 rfl rfl (fun w h => h.cell 0 rfl rfl)) rfl ?_)
       refine RV.op (OV.call [] (F := [_, _, _, _, _, _]) Tryz.func30 B30 N30 rfl rfl (fun w h => mode_fn s (h.blk 4 rfl)) (fun _ hb => hb.elim) gno rfl (fun v L' hp => ?_))
       obtain ⟨rfl, rfl⟩ := hp
       simp only [List.append_nil]
       refine RV.m rfl rfl (RV.s (Step.neq rfl rfl) rfl (RV.m rfl rfl (RV.k rfl rfl (RV.k rfl rfl (RV.k rfl rfl ?_)))))
       refine RV.op (OV.skipU rfl rfl ?_)
       refine RV.op (OV.skipU rfl rfl ?_)
       refine RV.op (OV.skipU rfl rfl ?_)
       refine RV.op (OV.skipU rfl rfl ?_)
       refine RV.k rfl rfl (RV.s (Step.pick_t rfl rfl) rfl ?_)
       refine RV.nil (KV.then_n (KV.e5 7 9 10 11 79 (CV.cond_t rfl (CV.seq (CV.region ?_)))))
       refine RV.a rfl rfl ?_
       refine RV.nil (KV.then_n (KV.e1 6 (CV.ret (KV.block_ret (KV.then_ret ?_)))))
       refine KV.then_ret (KV.block_ret (KV.then_ret ?_))
       refine KV.sel [] [] rfl ?_
       exfalso; omega
      ·
       refine RV.s (Step.pick_t rfl rfl) rfl (RV.a rfl rfl ?_)
       refine RV.nil (KV.then_n (KV.e6 7 9 10 11 12 56 (CV.cond_f rfl (CV.skip (KV.block_n ?_)))))
       refine KV.then_n (KV.e5 7 9 10 11 12 (CV.seq (CV.region ?_)))
       refine RV.s (Step.fieldAddr rfl (F80_1 _ _)) rfl (RV.s (Step.load Tryz.underlying73 rfl rfl (fun w h => h.cell 0 rfl rfl)) rfl ?_)
       refine RV.op (OV.call [] (F := [_, _, _, _, _, _]) Tryz.func30 B30 N30 rfl rfl (fun w h => mode_fn s (h.blk 4 rfl)) (fun _ hb => hb.elim) gno rfl (fun v L' hp => ?_))
       obtain ⟨rfl, rfl⟩ := hp
       simp only [List.append_nil]
       refine RV.m rfl rfl (RV.s (Step.neq rfl rfl) rfl (RV.m rfl rfl (RV.k rfl rfl (RV.k rfl rfl (RV.k rfl rfl ?_)))))
       refine RV.op (OV.skipU rfl rfl ?_)
       refine RV.op (OV.skipU rfl rfl ?_)
       refine RV.op (OV.skipU rfl rfl ?_)
       refine RV.op (OV.skipU rfl rfl ?_)
       refine RV.k rfl rfl (RV.s (Step.pick_t rfl rfl) rfl ?_)
       refine RV.nil (KV.then_n (KV.e5 7 9 10 11 79 (CV.cond_t rfl (CV.seq (CV.region ?_)))))
       refine RV.a rfl rfl ?_
       refine RV.nil (KV.then_n (KV.e1 6 (CV.ret (KV.block_ret (KV.then_ret ?_)))))
       refine KV.then_ret (KV.block_ret (KV.then_ret ?_))
       refine KV.sel [] [] rfl ?_
       exfalso; omega
     ·
      refine RV.m rfl rfl (RV.k rfl rfl (RV.k rfl rfl (RV.k rfl rfl (RV.s (Step.pick_f rfl rfl) rfl (RV.a rfl rfl ?_)))))
      refine RV.nil (KV.then_n (KV.e6 7 9 10 11 12 56 (CV.cond_f rfl (CV.skip (KV.block_n ?_)))))
      refine KV.then_n (KV.e5 7 9 10 11 12 (CV.seq (CV.region ?_)))
      refine RV.s (Step.fieldAddr rfl (F80_1 _ _)) rfl (RV.s (Step.load Tryz.underlying73 rfl rfl (fun w h => h.cell 0 rfl rfl)) rfl ?_)
      refine RV.op (OV.call [] (F := [_, _, _, _, _, _]) Tryz.func30 B30 N30 rfl rfl (fun w h => mode_fn s (h.blk 4 rfl)) (fun _ hb => hb.elim) gno rfl (fun v L' hp => ?_))
      obtain ⟨rfl, rfl⟩ := hp
      simp only [List.append_nil]
      refine RV.m rfl rfl (RV.s (Step.neq rfl rfl) rfl (RV.m rfl rfl (RV.k rfl rfl (RV.k rfl rfl (RV.k rfl rfl ?_)))))
      refine RV.op (OV.skipU rfl rfl ?_)
      refine RV.op (OV.skipU rfl rfl ?_)
      refine RV.op (OV.skipU rfl rfl ?_)
      refine RV.op (OV.skipU rfl rfl ?_)
      refine RV.k rfl rfl (RV.s (Step.pick_t rfl rfl) rfl ?_)
      refine RV.nil (KV.then_n (KV.e5 7 9 10 11 79 (CV.cond_t rfl (CV.seq (CV.region ?_)))))
      refine RV.a rfl rfl ?_
      refine RV.nil (KV.then_n (KV.e1 6 (CV.ret (KV.block_ret (KV.then_ret ?_)))))
      refine KV.then_ret (KV.block_ret (KV.then_ret ?_))
      refine KV.sel [] [] rfl ?_
      exfalso; omega
   ·
    refine RV.nil (KV.then_n (KV.e5 7 9 10 11 40 (CV.cond_f rfl (CV.exit (KV.then_exit ?_)))))
    refine KV.then_exit (KV.block_hit (KV.then_n (KV.env [] trivial (CV.seq (CV.region ?_)))))
    refine RV.op (OV.call [] (F := [_, _, _, _, _, _]) Tryz.func10 B10 N10 rfl rfl (fun w h => awake_fn) (fun _ hb => hb.elim) gno rfl (fun v L' hp => ?_))
    obtain ⟨rfl, rfl⟩ := hp
    simp only [List.append_nil]
    refine RV.a rfl rfl ?_
    refine RV.nil (KV.then_n (KV.e1 6 (CV.ret ?_)))
    refine KV.sel [] [] rfl ?_
    exact KV.ret1 rfl rfl _ (fun _ h => h) ⟨rfl, rfl⟩
  ·
   skip
   refine KV.have (fun _ h => h.1) fun hC => ?_
   refine KV.heap (fun _ h => h.2) ?_
   refine CV.region ?_
   refine RV.m rfl rfl ?_
   refine RV.op (OV.split gno (Step.leq rfl rfl) rfl (fun cc15 => ?_) (fun cc15 => ?_))
   ·
    refine RV.nil (KV.then_n (KV.e5 7 9 10 11 40 (CV.cond_t rfl (CV.skip (KV.then_n ?_)))))
    refine KV.e4 7 9 10 11 (CV.seq (CV.block (CV.seq (CV.region ?_))))
    refine RV.s (Step.fieldAddr rfl (F80_1 _ _)) rfl (RV.s (Step.load Tryz.underlying73 rfl rfl (fun w h => h.cell 0 rfl rfl)) rfl (RV.m rfl rfl ?_))
    refine RV.op (OV.call [1, 1, 1, 1, 1] (F := [_]) Tryz.func29 B29 N29 rfl rfl (fun w h => settle2_fn s w0 b f 3 (by omega) true p none (some tp) (some mp) (some bp) A c sy 0 0 fA 3 (esN len) (Nat.le_of_ble_eq_true rfl) p (0 + tmo) i (by omega) (by omega) (by omega)) (fun _ hb => hb.elim) gno rfl (fun v L' hp => ?_))
    rcases hp with ⟨hal, q9, A9, c9, rest9, rfl⟩ | ⟨⟨hal, hdl⟩, rfl⟩ | ⟨⟨hal, hdl⟩, rfl⟩
    ·
     skip
     have hx := (esN_le (L := len) (x := min (i : Int) (0 + tmo)) hlen0 (by omega)).1 hal
     refine RV.nil (KV.then_n (KV.e4 7 9 10 11 (CV.seq (CV.region ?_))))
     refine RV.a rfl rfl ?_
     refine RV.nil (KV.then_n (KV.e5 7 9 10 11 12 (CV.seq (CV.block (CV.seq ?_)))))
     refine CV.region ?_
     refine RV.m rfl rfl (RV.m rfl rfl ?_)
     refine RV.op (OV.split gno (Step.gtr rfl rfl) rfl (fun cc16 => ?_) (fun cc16 => ?_))
     ·
      refine RV.m rfl rfl (RV.gw rfl (Step.move rfl) rfl (RV.gw rfl (Step.move rfl) rfl ?_))
      refine RV.op (OV.split (gyes rfl) (Step.geq rfl rfl) rfl (fun cc17 => ?_) (fun cc17 => ?_))
      ·
       refine RV.s (Step.pick_t rfl rfl) rfl (RV.a rfl rfl ?_)
       refine RV.nil (KV.then_n (KV.e6 7 9 10 11 12 47 (CV.cond_t rfl (CV.region ?_))))
       refine RV.a rfl rfl ?_
       refine RV.nil (KV.block_n (KV.then_n (KV.e5 7 9 10 11 12 (CV.seq (CV.region ?_)))))
       refine RV.s (Step.fieldAddr rfl (F80_1 _ _)) rfl (RV.s (Step.load Tryz.underlying73 rfl rfl (fun w h => h.cell 0 rfl rfl)) rfl ?_)
       refine RV.op (OV.call [] (F := [_, _, _, _, _, _, _]) Tryz.func30 B30 N30 rfl rfl (fun w h => mode_fn s (h.blk 1 rfl)) (fun _ hb => hb.elim) gno rfl (fun v L' hp => ?_))
       obtain ⟨rfl, rfl⟩ := hp
       simp only [List.append_nil]
       refine RV.m rfl rfl (RV.s (Step.neq rfl rfl) rfl (RV.m rfl rfl (RV.k rfl rfl (RV.k rfl rfl (RV.k rfl rfl ?_)))))
       refine RV.op (OV.skipU rfl rfl ?_)
       refine RV.op (OV.skipU rfl rfl ?_)
       refine RV.op (OV.skipU rfl rfl ?_)
       refine RV.op (OV.skipU rfl rfl ?_)
       refine RV.k rfl rfl (RV.s (Step.pick_t rfl rfl) rfl ?_)
       refine RV.nil (KV.then_n (KV.e5 7 9 10 11 79 (CV.cond_t rfl (CV.seq (CV.region ?_)))))
       refine RV.a rfl rfl ?_
       refine RV.nil (KV.then_n (KV.e1 6 (CV.ret (KV.block_ret (KV.then_ret ?_)))))
       refine KV.then_ret (KV.block_ret (KV.then_ret ?_))
       refine KV.sel [] [] rfl ?_
       exfalso; omega
      ·
       refine RV.s (Step.pick_t rfl rfl) rfl (RV.a rfl rfl ?_)
       refine RV.nil (KV.then_n (KV.e6 7 9 10 11 12 47 (CV.cond_f rfl (CV.seq (CV.region ?_)))))
       refine RV.m rfl rfl (RV.m rfl rfl ?_)
       refine RV.op (OV.split gno (Step.leq rfl rfl) rfl (fun cc18 => ?_) (fun cc18 => ?_))
       ·
        refine RV.m rfl rfl (RV.gw rfl (Step.move rfl) rfl (RV.gw rfl (Step.move rfl) rfl ?_))
        refine RV.op (OV.split (gyes rfl) (Step.geq rfl rfl) rfl (fun cc19 => ?_) (fun cc19 => ?_))
        ·
         refine RV.s (Step.pick_t rfl rfl) rfl (RV.a rfl rfl ?_)
         refine RV.nil (KV.then_n (KV.e6 7 9 10 11 12 56 (CV.cond_t rfl (CV.region ?_))))
         refine RV.a rfl rfl ?_
         refine RV.nil (KV.block_n (KV.then_n (KV.e5 7 9 10 11 12 (CV.seq (CV.region ?_)))))
         refine RV.s (Step.fieldAddr rfl (F80_1 _ _)) rfl (RV.s (Step.load Tryz.underlying73 rfl rfl (fun w h => h.cell 0 rfl rfl)) rfl ?_)
         refine RV.op (OV.call [] (F := [_, _, _, _, _, _, _]) Tryz.func30 B30 N30 rfl rfl (fun w h => mode_fn s (h.blk 1 rfl)) (fun _ hb => hb.elim) gno rfl (fun v L' hp => ?_))
         obtain ⟨rfl, rfl⟩ := hp
         simp only [List.append_nil]
         refine RV.m rfl rfl (RV.s (Step.neq rfl rfl) rfl (RV.m rfl rfl (RV.gw rfl (Step.move rfl) rfl (RV.gw rfl (Step.eql rfl rfl) rfl (RV.gw rfl (Step.move rfl) rfl (RV.k rfl rfl (RV.k rfl rfl ?_)))))))
         refine RV.k rfl rfl (RV.k rfl rfl (RV.gw rfl (Step.pick_f rfl rfl) rfl (RV.s (Step.pick_f rfl rfl) rfl ?_)))
         refine RV.nil (KV.then_n (KV.e5 7 9 10 11 79 (CV.cond_f rfl (CV.skip (KV.block_n ?_)))))
         refine KV.then_n (KV.e4 7 9 10 11 (CV.region ?_))
         refine RV.m rfl rfl ?_
         (first | refine RV.op (OV.step gno (Step.add rfl rfl (wU64 (by omega) (by omega))) rfl ?_) | refine RV.op (OV.step gno (Step.add rfl rfl rfl) rfl ?_))
         refine RV.a rfl rfl ?_
         refine RV.nil (KV.then_n (KV.e4 7 9 10 11 ?_))
         refine KV.sel [0, 0, 0, 0, 0, 0, 0] [_, _, _, _, _, _, _] rfl ?_
         first | exact KV.loop2 (x := i) (y := p) (i + 1) (i : Int) ⟨by omega, by omega, by omega⟩ (by omega) ⟨rfl, rfl, rfl, rfl, trivial⟩ (fun _ h => .inl ⟨by omega, ⟨q9, A9, c9, rest9, _⟩, h⟩) | exact KV.loop2 (x := i) (y := p) (i + 1) (i : Int) ⟨by omega, by omega, by omega⟩ (by omega) ⟨rfl, rfl, rfl, rfl, trivial⟩ (fun _ h => .inl ⟨by omega, z, h⟩) | exact KV.loop2 (x := i) (y := p) (i + 1) (i : Int) ⟨by omega, by omega, by omega⟩ (by omega) ⟨rfl, rfl, rfl, rfl, trivial⟩ (fun _ h => .inr (.inl ⟨⟨by omega, by omega⟩, _, h⟩)) | exact KV.loop2 (x := i) (y := p) (i + 1) (i : Int) ⟨by omega, by omega, by omega⟩ (by omega) ⟨rfl, rfl, rfl, rfl, trivial⟩ (fun _ h => .inr (.inr ⟨⟨by omega, by omega⟩, h⟩))
        ·
         refine RV.s (Step.pick_t rfl rfl) rfl (RV.a rfl rfl ?_)
         refine RV.nil (KV.then_n (KV.e6 7 9 10 11 12 56 (CV.cond_f rfl (CV.skip (KV.block_n ?_)))))
         refine KV.then_n (KV.e5 7 9 10 11 12 (CV.seq (CV.region ?_)))
         refine RV.s (Step.fieldAddr rfl (F80_1 _ _)) rfl (RV.s (Step.load Tryz.underlying73 rfl rfl (fun w h => h.cell 0 rfl rfl)) rfl ?_)
         refine RV.op (OV.call [] (F := [_, _, _, _, _, _, _]) Tryz.func30 B30 N30 rfl rfl (fun w h => mode_fn s (h.blk 1 rfl)) (fun _ hb => hb.elim) gno rfl (fun v L' hp => ?_))
         obtain ⟨rfl, rfl⟩ := hp
         simp only [List.append_nil]
         refine RV.m rfl rfl (RV.s (Step.neq rfl rfl) rfl (RV.m rfl rfl (RV.k rfl rfl (RV.k rfl rfl (RV.k rfl rfl ?_)))))
         refine RV.op (OV.skipU rfl rfl ?_)
         refine RV.op (OV.skipU rfl rfl ?_)
         refine RV.op (OV.skipU rfl rfl ?_)
         refine RV.op (OV.skipU rfl rfl ?_)
         refine RV.k rfl rfl (RV.s (Step.pick_t rfl rfl) rfl ?_)
         refine RV.nil (KV.then_n (KV.e5 7 9 10 11 79 (CV.cond_t rfl (CV.seq (CV.region ?_)))))
         refine RV.a rfl rfl ?_
         refine RV.nil (KV.then_n (KV.e1 6 (CV.ret (KV.block_ret (KV.then_ret ?_)))))
         refine KV.then_ret (KV.block_ret (KV.then_ret ?_))
         refine KV.sel [] [] rfl ?_
         exfalso; omega
       ·
        refine RV.m rfl rfl (RV.k rfl rfl (RV.k rfl rfl (RV.k rfl rfl (RV.s (Step.pick_f rfl rfl) rfl (RV.a rfl rfl ?_)))))
        refine RV.nil (KV.then_n (KV.e6 7 9 10 11 12 56 (CV.cond_f rfl (CV.skip (KV.block_n ?_)))))
        refine KV.then_n (KV.e5 7 9 10 11 12 (CV.seq (CV.region ?_)))
        refine RV.s (Step.fieldAddr rfl (F80_1 _ _)) rfl (RV.s (Step.load Tryz.underlying73 rfl rfl (fun w h => h.cell 0 rfl rfl)) rfl ?_)
        refine RV.op (OV.call [] (F := [_, _, _, _, _, _, _]) Tryz.func30 B30 N30 rfl rfl (fun w h => mode_fn s (h.blk 1 rfl)) (fun _ hb => hb.elim) gno rfl (fun v L' hp => ?_))
        obtain ⟨rfl, rfl⟩ := hp
        simp only [List.append_nil]
        refine RV.m rfl rfl (RV.s (Step.neq rfl rfl) rfl (RV.m rfl rfl (RV.k rfl rfl (RV.k rfl rfl (RV.k rfl rfl ?_)))))
        refine RV.op (OV.skipU rfl rfl ?_)
        refine RV.op (OV.skipU rfl rfl ?_)
        refine RV.op (OV.skipU rfl rfl ?_)
        refine RV.op (OV.skipU rfl rfl ?_)
        refine RV.k rfl rfl (RV.s (Step.pick_t rfl rfl) rfl ?_)
        refine RV.nil (KV.then_n (KV.e5 7 9 10 11 79 (CV.cond_t rfl (CV.seq (CV.region ?_)))))
        refine RV.a rfl rfl ?_
        refine RV.nil (KV.then_n (KV.e1 6 (CV.ret (KV.block_ret (KV.then_ret ?_)))))
        refine KV.then_ret (KV.block_ret (KV.then_ret ?_))
        refine KV.sel [] [] rfl ?_
        exfalso; omega
     ·
      refine RV.m rfl rfl (RV.k rfl rfl (RV.k rfl rfl (RV.k rfl rfl (RV.s (Step.pick_f rfl rfl) rfl (RV.a rfl rfl ?_)))))
      refine RV.nil (KV.then_n (KV.e6 7 9 10 11 12 47 (CV.cond_f rfl (CV.seq (CV.region ?_)))))
      refine RV.m rfl rfl (RV.m rfl rfl ?_)
      refine RV.op (OV.split gno (Step.leq rfl rfl) rfl (fun cc20 => ?_) (fun cc20 => ?_))
      ·
       refine RV.m rfl rfl (RV.gw rfl (Step.move rfl) rfl (RV.gw rfl (Step.move rfl) rfl ?_))
       refine RV.op (OV.split (gyes rfl) (Step.geq rfl rfl) rfl (fun cc21 => ?_) (fun cc21 => ?_))
       ·
        refine RV.s (Step.pick_t rfl rfl) rfl (RV.a rfl rfl ?_)
        refine RV.nil (KV.then_n (KV.e6 7 9 10 11 12 56 (CV.cond_t rfl (CV.region ?_))))
        refine RV.a rfl rfl ?_
        refine RV.nil (KV.block_n (KV.then_n (KV.e5 7 9 10 11 12 (CV.seq (CV.region ?_)))))
        refine RV.s (Step.fieldAddr rfl (F80_1 _ _)) rfl (RV.s (Step.load Tryz.underlying73 rfl rfl (fun w h => h.cell 0 rfl rfl)) rfl ?_)
        refine RV.op (OV.call [] (F := [_, _, _, _, _, _, _]) Tryz.func30 B30 N30 rfl rfl (fun w h => mode_fn s (h.blk 1 rfl)) (fun _ hb => hb.elim) gno rfl (fun v L' hp => ?_))
        obtain ⟨rfl, rfl⟩ := hp
        simp only [List.append_nil]
        refine RV.m rfl rfl (RV.s (Step.neq rfl rfl) rfl (RV.m rfl rfl (RV.gw rfl (Step.move rfl) rfl (RV.gw rfl (Step.eql rfl rfl) rfl (RV.gw rfl (Step.move rfl) rfl (RV.k rfl rfl (RV.k rfl rfl ?_)))))))
        refine RV.k rfl rfl (RV.k rfl rfl (RV.gw rfl (Step.pick_f rfl rfl) rfl (RV.s (Step.pick_f rfl rfl) rfl ?_)))
        refine RV.nil (KV.then_n (KV.e5 7 9 10 11 79 (CV.cond_f rfl (CV.skip (KV.block_n ?_)))))
        refine KV.then_n (KV.e4 7 9 10 11 (CV.region ?_))
        refine RV.m rfl rfl ?_
        (first | refine RV.op (OV.step gno (Step.add rfl rfl (wU64 (by omega) (by omega))) rfl ?_) | refine RV.op (OV.step gno (Step.add rfl rfl rfl) rfl ?_))
        refine RV.a rfl rfl ?_
        refine RV.nil (KV.then_n (KV.e4 7 9 10 11 ?_))
        refine KV.sel [0, 0, 0, 0, 0, 0, 0] [_, _, _, _, _, _, _] rfl ?_
        first | exact KV.loop2 (x := i) (y := p) (i + 1) (i : Int) ⟨by omega, by omega, by omega⟩ (by omega) ⟨rfl, rfl, rfl, rfl, trivial⟩ (fun _ h => .inl ⟨by omega, ⟨q9, A9, c9, rest9, _⟩, h⟩) | exact KV.loop2 (x := i) (y := p) (i + 1) (i : Int) ⟨by omega, by omega, by omega⟩ (by omega) ⟨rfl, rfl, rfl, rfl, trivial⟩ (fun _ h => .inl ⟨by omega, z, h⟩) | exact KV.loop2 (x := i) (y := p) (i + 1) (i : Int) ⟨by omega, by omega, by omega⟩ (by omega) ⟨rfl, rfl, rfl, rfl, trivial⟩ (fun _ h => .inr (.inl ⟨⟨by omega, by omega⟩, _, h⟩)) | exact KV.loop2 (x := i) (y := p) (i + 1) (i : Int) ⟨by omega, by omega, by omega⟩ (by omega) ⟨rfl, rfl, rfl, rfl, trivial⟩ (fun _ h => .inr (.inr ⟨⟨by omega, by omega⟩, h⟩))
       ·
        refine RV.s (Step.pick_t rfl rfl) rfl (RV.a rfl rfl ?_)
        refine RV.nil (KV.then_n (KV.e6 7 9 10 11 12 56 (CV.cond_f rfl (CV.skip (KV.block_n ?_)))))
        refine KV.then_n (KV.e5 7 9 10 11 12 (CV.seq (CV.region ?_)))
        refine RV.s (Step.fieldAddr rfl (F80_1 _ _)) rfl (RV.s (Step.load Tryz.underlying73 rfl rfl (fun w h => h.cell 0 rfl rfl)) rfl ?_)
        refine RV.op (OV.call [] (F := [_, _, _, _, _, _, _]) Tryz.func30 B30 N30 rfl rfl (fun w h => mode_fn s (h.blk 1 rfl)) (fun _ hb => hb.elim) gno rfl (fun v L' hp => ?_))
        obtain ⟨rfl, rfl⟩ := hp
        simp only [List.append_nil]
        refine RV.m rfl rfl (RV.s (Step.neq rfl rfl) rfl (RV.m rfl rfl (RV.k rfl rfl (RV.k rfl rfl (RV.k rfl rfl ?_)))))
        refine RV.op (OV.skipU rfl rfl ?_)
        refine RV.op (OV.skipU rfl rfl ?_)
        refine RV.op (OV.skipU rfl rfl ?_)
        refine RV.op (OV.skipU rfl rfl ?_)
        refine RV.k rfl rfl (RV.s (Step.pick_t rfl rfl) rfl ?_)
        refine RV.nil (KV.then_n (KV.e5 7 9 10 11 79 (CV.cond_t rfl (CV.seq (CV.region ?_)))))
        refine RV.a rfl rfl ?_
        refine RV.nil (KV.then_n (KV.e1 6 (CV.ret (KV.block_ret (KV.then_ret ?_)))))
        refine KV.then_ret (KV.block_ret (KV.then_ret ?_))
        refine KV.sel [] [] rfl ?_
        exfalso; omega
      ·
       refine RV.m rfl rfl (RV.k rfl rfl (RV.k rfl rfl (RV.k rfl rfl (RV.s (Step.pick_f rfl rfl) rfl (RV.a rfl rfl ?_)))))
       refine RV.nil (KV.then_n (KV.e6 7 9 10 11 12 56 (CV.cond_f rfl (CV.skip (KV.block_n ?_)))))
       refine KV.then_n (KV.e5 7 9 10 11 12 (CV.seq (CV.region ?_)))
       refine RV.s (Step.fieldAddr rfl (F80_1 _ _)) rfl (RV.s (Step.load Tryz.underlying73 rfl rfl (fun w h => h.cell 0 rfl rfl)) rfl ?_)
       refine RV.op (OV.call [] (F := [_, _, _, _, _, _, _]) Tryz.func30 B30 N30 rfl rfl (fun w h => mode_fn s (h.blk 1 rfl)) (fun _ hb => hb.elim) gno rfl (fun v L' hp => ?_))
       obtain ⟨rfl, rfl⟩ := hp
       simp only [List.append_nil]
       refine RV.m rfl rfl (RV.s (Step.neq rfl rfl) rfl (RV.m rfl rfl (RV.k rfl rfl (RV.k rfl rfl (RV.k rfl rfl ?_)))))
       refine RV.op (OV.skipU rfl rfl ?_)
       refine RV.op (OV.skipU rfl rfl ?_)
       refine RV.op (OV.skipU rfl rfl ?_)
       refine RV.op (OV.skipU rfl rfl ?_)
       refine RV.k rfl rfl (RV.s (Step.pick_t rfl rfl) rfl ?_)
       refine RV.nil (KV.then_n (KV.e5 7 9 10 11 79 (CV.cond_t rfl (CV.seq (CV.region ?_)))))
       refine RV.a rfl rfl ?_
       refine RV.nil (KV.then_n (KV.e1 6 (CV.ret (KV.block_ret (KV.then_ret ?_)))))
       refine KV.then_ret (KV.block_ret (KV.then_ret ?_))
       refine KV.sel [] [] rfl ?_
       exfalso; omega
    ·
     skip
     have hx : ¬ len ≤ min (i : Int) (0 + tmo) := fun k => hal ((esN_le (L := len) (x := min (i : Int) (0 + tmo)) hlen0 (by omega)).2 k)
     refine RV.nil (KV.then_n (KV.e4 7 9 10 11 (CV.seq (CV.region ?_))))
     refine RV.a rfl rfl ?_
     refine RV.nil (KV.then_n (KV.e5 7 9 10 11 12 (CV.seq (CV.block (CV.seq ?_)))))
     refine CV.region ?_
     refine RV.m rfl rfl (RV.m rfl rfl ?_)
     refine RV.op (OV.split gno (Step.gtr rfl rfl) rfl (fun cc22 => ?_) (fun cc22 => ?_))
     ·
      refine RV.m rfl rfl (RV.gw rfl (Step.move rfl) rfl (RV.gw rfl (Step.move rfl) rfl ?_))
      refine RV.op (OV.split (gyes rfl) (Step.geq rfl rfl) rfl (fun cc23 => ?_) (fun cc23 => ?_))
      ·
       refine RV.s (Step.pick_t rfl rfl) rfl (RV.a rfl rfl ?_)
       refine RV.nil (KV.then_n (KV.e6 7 9 10 11 12 47 (CV.cond_t rfl (CV.region ?_))))
       refine RV.a rfl rfl ?_
       refine RV.nil (KV.block_n (KV.then_n (KV.e5 7 9 10 11 12 (CV.seq (CV.region ?_)))))
       refine RV.s (Step.fieldAddr rfl (F80_1 _ _)) rfl (RV.s (Step.load Tryz.underlying73 rfl rfl (fun w h => h.cell 0 rfl rfl)) rfl ?_)
       refine RV.op (OV.call [] (F := [_, _, _, _, _, _]) Tryz.func30 B30 N30 rfl rfl (fun w h => mode_fn s (h.blk 1 rfl)) (fun _ hb => hb.elim) gno rfl (fun v L' hp => ?_))
       obtain ⟨rfl, rfl⟩ := hp
       simp only [List.append_nil]
       refine RV.m rfl rfl (RV.s (Step.neq rfl rfl) rfl (RV.m rfl rfl (RV.gw rfl (Step.move rfl) rfl (RV.gw rfl (Step.eql rfl rfl) rfl (RV.gw rfl (Step.move rfl) rfl (RV.gw rfl (Step.fieldAddr rfl (F80_1 _ _)) rfl (RV.gw rfl (Step.load Tryz.underlying73 rfl rfl (fun w h => h.cell 0 rfl rfl)) rfl ?_)))))))
       refine RV.op (OV.call [] (F := [_, _, _, _, _, _]) Tryz.func31 B31 N31 rfl rfl (fun w h => last_fn s (h.blk 1 rfl)) (fun _ hb => hb.elim) (gyes rfl) rfl (fun v L' hp => ?_))
       obtain ⟨rfl, rfl⟩ := hp
       simp only [List.append_nil]
       refine RV.gw rfl (Step.neq rfl rfl) rfl (RV.gw rfl (Step.pick_t rfl rfl) rfl (RV.s (Step.pick_f rfl rfl) rfl ?_))
       refine RV.nil (KV.then_n (KV.e5 7 9 10 11 79 (CV.cond_f rfl (CV.skip (KV.block_n ?_)))))
       refine KV.then_n (KV.e4 7 9 10 11 (CV.region ?_))
       refine RV.m rfl rfl ?_
       (first | refine RV.op (OV.step gno (Step.add rfl rfl (wU64 (by omega) (by omega))) rfl ?_) | refine RV.op (OV.step gno (Step.add rfl rfl rfl) rfl ?_))
       refine RV.a rfl rfl ?_
       refine RV.nil (KV.then_n (KV.e4 7 9 10 11 ?_))
       refine KV.sel [0, 0, 0, 0, 0, 0] [_, _, _, _, _, _] rfl ?_
       first | exact KV.loop2 (x := i) (y := p) (i + 1) (i : Int) ⟨by omega, by omega, by omega⟩ (by omega) ⟨rfl, rfl, rfl, rfl, trivial⟩ (fun _ h => .inl ⟨by omega, ⟨q9, A9, c9, rest9, _⟩, h⟩) | exact KV.loop2 (x := i) (y := p) (i + 1) (i : Int) ⟨by omega, by omega, by omega⟩ (by omega) ⟨rfl, rfl, rfl, rfl, trivial⟩ (fun _ h => .inl ⟨by omega, z, h⟩) | exact KV.loop2 (x := i) (y := p) (i + 1) (i : Int) ⟨by omega, by omega, by omega⟩ (by omega) ⟨rfl, rfl, rfl, rfl, trivial⟩ (fun _ h => .inr (.inl ⟨⟨by omega, by omega⟩, _, h⟩)) | exact KV.loop2 (x := i) (y := p) (i + 1) (i : Int) ⟨by omega, by omega, by omega⟩ (by omega) ⟨rfl, rfl, rfl, rfl, trivial⟩ (fun _ h => .inr (.inr ⟨⟨by omega, by omega⟩, h⟩))
      ·
       refine RV.s (Step.pick_t rfl rfl) rfl (RV.a rfl rfl ?_)
       refine RV.nil (KV.then_n (KV.e6 7 9 10 11 12 47 (CV.cond_f rfl (CV.seq (CV.region ?_)))))
       refine RV.m rfl rfl (RV.m rfl rfl ?_)
       refine RV.op (OV.split gno (Step.leq rfl rfl) rfl (fun cc24 => ?_) (fun cc24 => ?_))
       ·
        refine RV.m rfl rfl (RV.gw rfl (Step.move rfl) rfl (RV.gw rfl (Step.move rfl) rfl ?_))
        refine RV.op (OV.split (gyes rfl) (Step.geq rfl rfl) rfl (fun cc25 => ?_) (fun cc25 => ?_))
        ·
         refine RV.s (Step.pick_t rfl rfl) rfl (RV.a rfl rfl ?_)
         refine RV.nil (KV.then_n (KV.e6 7 9 10 11 12 56 (CV.cond_t rfl (CV.region ?_))))
         refine RV.a rfl rfl ?_
         refine RV.nil (KV.block_n (KV.then_n (KV.e5 7 9 10 11 12 (CV.seq (CV.region ?_)))))
         refine RV.s (Step.fieldAddr rfl (F80_1 _ _)) rfl (RV.s (Step.load Tryz.underlying73 rfl rfl (fun w h => h.cell 0 rfl rfl)) rfl ?_)
         refine RV.op (OV.call [] (F := [_, _, _, _, _, _]) Tryz.func30 B30 N30 rfl rfl (fun w h => mode_fn s (h.blk 1 rfl)) (fun _ hb => hb.elim) gno rfl (fun v L' hp => ?_))
         obtain ⟨rfl, rfl⟩ := hp
         simp only [List.append_nil]
         refine RV.m rfl rfl (RV.s (Step.neq rfl rfl) rfl (RV.m rfl rfl (RV.k rfl rfl (RV.k rfl rfl (RV.k rfl rfl ?_)))))
         refine RV.op (OV.skipU rfl rfl ?_)
         refine RV.op (OV.skipU rfl rfl ?_)
         refine RV.op (OV.skipU rfl rfl ?_)
         refine RV.op (OV.skipU rfl rfl ?_)
         refine RV.k rfl rfl (RV.s (Step.pick_t rfl rfl) rfl ?_)
         refine RV.nil (KV.then_n (KV.e5 7 9 10 11 79 (CV.cond_t rfl (CV.seq (CV.region ?_)))))
         refine RV.a rfl rfl ?_
         refine RV.nil (KV.then_n (KV.e1 6 (CV.ret (KV.block_ret (KV.then_ret ?_)))))
         refine KV.then_ret (KV.block_ret (KV.then_ret ?_))
         refine KV.sel [] [] rfl ?_
         exfalso; omega
        ·
         refine RV.s (Step.pick_t rfl rfl) rfl (RV.a rfl rfl ?_)
         refine RV.nil (KV.then_n (KV.e6 7 9 10 11 12 56 (CV.cond_f rfl (CV.skip (KV.block_n ?_)))))
         refine KV.then_n (KV.e5 7 9 10 11 12 (CV.seq (CV.region ?_)))
         refine RV.s (Step.fieldAddr rfl (F80_1 _ _)) rfl (RV.s (Step.load Tryz.underlying73 rfl rfl (fun w h => h.cell 0 rfl rfl)) rfl ?_)
         refine RV.op (OV.call [] (F := [_, _, _, _, _, _]) Tryz.func30 B30 N30 rfl rfl (fun w h => mode_fn s (h.blk 1 rfl)) (fun _ hb => hb.elim) gno rfl (fun v L' hp => ?_))
         obtain ⟨rfl, rfl⟩ := hp
         simp only [List.append_nil]
         refine RV.m rfl rfl (RV.s (Step.neq rfl rfl) rfl (RV.m rfl rfl (RV.k rfl rfl (RV.k rfl rfl (RV.k rfl rfl ?_)))))
         refine RV.op (OV.skipU rfl rfl ?_)
         refine RV.op (OV.skipU rfl rfl ?_)
         refine RV.op (OV.skipU rfl rfl ?_)
         refine RV.op (OV.skipU rfl rfl ?_)
         refine RV.k rfl rfl (RV.s (Step.pick_t rfl rfl) rfl ?_)
         refine RV.nil (KV.then_n (KV.e5 7 9 10 11 79 (CV.cond_t rfl (CV.seq (CV.region ?_)))))
         refine RV.a rfl rfl ?_
         refine RV.nil (KV.then_n (KV.e1 6 (CV.ret (KV.block_ret (KV.then_ret ?_)))))
         refine KV.then_ret (KV.block_ret (KV.then_ret ?_))
         refine KV.sel [] [] rfl ?_
         exfalso; omega
       ·
        refine RV.m rfl rfl (RV.k rfl rfl (RV.k rfl rfl (RV.k rfl rfl (RV.s (Step.pick_f rfl rfl) rfl (RV.a rfl rfl ?_)))))
        refine RV.nil (KV.then_n (KV.e6 7 9 10 11 12 56 (CV.cond_f rfl (CV.skip (KV.block_n ?_)))))
        refine KV.then_n (KV.e5 7 9 10 11 12 (CV.seq (CV.region ?_)))
        refine RV.s (Step.fieldAddr rfl (F80_1 _ _)) rfl (RV.s (Step.load Tryz.underlying73 rfl rfl (fun w h => h.cell 0 rfl rfl)) rfl ?_)
        refine RV.op (OV.call [] (F := [_, _, _, _, _, _]) Tryz.func30 B30 N30 rfl rfl (fun w h => mode_fn s (h.blk 1 rfl)) (fun _ hb => hb.elim) gno rfl (fun v L' hp => ?_))
        obtain ⟨rfl, rfl⟩ := hp
        simp only [List.append_nil]
        refine RV.m rfl rfl (RV.s (Step.neq rfl rfl) rfl (RV.m rfl rfl (RV.k rfl rfl (RV.k rfl rfl (RV.k rfl rfl ?_)))))
        refine RV.op (OV.skipU rfl rfl ?_)
        refine RV.op (OV.skipU rfl rfl ?_)
        refine RV.op (OV.skipU rfl rfl ?_)
        refine RV.op (OV.skipU rfl rfl ?_)
        refine RV.k rfl rfl (RV.s (Step.pick_t rfl rfl) rfl ?_)
        refine RV.nil (KV.then_n (KV.e5 7 9 10 11 79 (CV.cond_t rfl (CV.seq (CV.region ?_)))))
        refine RV.a rfl rfl ?_
        refine RV.nil (KV.then_n (KV.e1 6 (CV.ret (KV.block_ret (KV.then_ret ?_)))))
        refine KV.then_ret (KV.block_ret (KV.then_ret ?_))
        refine KV.sel [] [] rfl ?_
        exfalso; omega
     ·
      refine RV.m rfl rfl (RV.k rfl rfl (RV.k rfl rfl (RV.k rfl rfl (RV.s (Step.pick_f rfl rfl) rfl (RV.a rfl rfl ?_)))))
      refine RV.nil (KV.then_n (KV.e6 7 9 10 11 12 47 (CV.cond_f rfl (CV.seq (CV.region ?_)))))
      refine RV.m rfl rfl (RV.m rfl rfl ?_)
      refine RV.op (OV.split gno (Step.leq rfl rfl) rfl (fun cc26 => ?_) (fun cc26 => ?_))
      ·
       refine RV.m rfl rfl (RV.gw rfl (Step.move rfl) rfl (RV.gw rfl (Step.move rfl) rfl ?_))
       refine RV.op (OV.split (gyes rfl) (Step.geq rfl rfl) rfl (fun cc27 => ?_) (fun cc27 => ?_))
       ·
        refine RV.s (Step.pick_t rfl rfl) rfl (RV.a rfl rfl ?_)
        refine RV.nil (KV.then_n (KV.e6 7 9 10 11 12 56 (CV.cond_t rfl (CV.region ?_))))
        refine RV.a rfl rfl ?_
        refine RV.nil (KV.block_n (KV.then_n (KV.e5 7 9 10 11 12 (CV.seq (CV.region ?_)))))
        refine RV.s (Step.fieldAddr rfl (F80_1 _ _)) rfl (RV.s (Step.load Tryz.underlying73 rfl rfl (fun w h => h.cell 0 rfl rfl)) rfl ?_)
        refine RV.op (OV.call [] (F := [_, _, _, _, _, _]) Tryz.func30 B30 N30 rfl rfl (fun w h => mode_fn s (h.blk 1 rfl)) (fun _ hb => hb.elim) gno rfl (fun v L' hp => ?_))
        obtain ⟨rfl, rfl⟩ := hp
        simp only [List.append_nil]
        refine RV.m rfl rfl (RV.s (Step.neq rfl rfl) rfl (RV.m rfl rfl (RV.k rfl rfl (RV.k rfl rfl (RV.k rfl rfl ?_)))))
        refine RV.op (OV.skipU rfl rfl ?_)
        refine RV.op (OV.skipU rfl rfl ?_)
        refine RV.op (OV.skipU rfl rfl ?_)
        refine RV.op (OV.skipU rfl rfl ?_)
        refine RV.k rfl rfl (RV.s (Step.pick_t rfl rfl) rfl ?_)
        refine RV.nil (KV.then_n (KV.e5 7 9 10 11 79 (CV.cond_t rfl (CV.seq (CV.region ?_)))))
        refine RV.a rfl rfl ?_
        refine RV.nil (KV.then_n (KV.e1 6 (CV.ret (KV.block_ret (KV.then_ret ?_)))))
        refine KV.then_ret (KV.block_ret (KV.then_ret ?_))
        refine KV.sel [] [] rfl ?_
        exfalso; omega
       ·
        refine RV.s (Step.pick_t rfl rfl) rfl (RV.a rfl rfl ?_)
        refine RV.nil (KV.then_n (KV.e6 7 9 10 11 12 56 (CV.cond_f rfl (CV.skip (KV.block_n ?_)))))
        refine KV.then_n (KV.e5 7 9 10 11 12 (CV.seq (CV.region ?_)))
        refine RV.s (Step.fieldAddr rfl (F80_1 _ _)) rfl (RV.s (Step.load Tryz.underlying73 rfl rfl (fun w h => h.cell 0 rfl rfl)) rfl ?_)
        refine RV.op (OV.call [] (F := [_, _, _, _, _, _]) Tryz.func30 B30 N30 rfl rfl (fun w h => mode_fn s (h.blk 1 rfl)) (fun _ hb => hb.elim) gno rfl (fun v L' hp => ?_))
        obtain ⟨rfl, rfl⟩ := hp
        simp only [List.append_nil]
        refine RV.m rfl rfl (RV.s (Step.neq rfl rfl) rfl (RV.m rfl rfl (RV.k rfl rfl (RV.k rfl rfl (RV.k rfl rfl ?_)))))
        refine RV.op (OV.skipU rfl rfl ?_)
        refine RV.op (OV.skipU rfl rfl ?_)
        refine RV.op (OV.skipU rfl rfl ?_)
        refine RV.op (OV.skipU rfl rfl ?_)
        refine RV.k rfl rfl (RV.s (Step.pick_t rfl rfl) rfl ?_)
        refine RV.nil (KV.then_n (KV.e5 7 9 10 11 79 (CV.cond_t rfl (CV.seq (CV.region ?_)))))
        refine RV.a rfl rfl ?_
        refine RV.nil (KV.then_n (KV.e1 6 (CV.ret (KV.block_ret (KV.then_ret ?_)))))
        refine KV.then_ret (KV.block_ret (KV.then_ret ?_))
        refine KV.sel [] [] rfl ?_
        exfalso; omega
      ·
       refine RV.m rfl rfl (RV.k rfl rfl (RV.k rfl rfl (RV.k rfl rfl (RV.s (Step.pick_f rfl rfl) rfl (RV.a rfl rfl ?_)))))
       refine RV.nil (KV.then_n (KV.e6 7 9 10 11 12 56 (CV.cond_f rfl (CV.skip (KV.block_n ?_)))))
       refine KV.then_n (KV.e5 7 9 10 11 12 (CV.seq (CV.region ?_)))
       refine RV.s (Step.fieldAddr rfl (F80_1 _ _)) rfl (RV.s (Step.load Tryz.underlying73 rfl rfl (fun w h => h.cell 0 rfl rfl)) rfl ?_)
       refine RV.op (OV.call [] (F := [_, _, _, _, _, _]) Tryz.func30 B30 N30 rfl rfl (fun w h => mode_fn s (h.blk 1 rfl)) (fun _ hb => hb.elim) gno rfl (fun v L' hp => ?_))
       obtain ⟨rfl, rfl⟩ := hp
       simp only [List.append_nil]
       refine RV.m rfl rfl (RV.s (Step.neq rfl rfl) rfl (RV.m rfl rfl (RV.k rfl rfl (RV.k rfl rfl (RV.k rfl rfl ?_)))))
       refine RV.op (OV.skipU rfl rfl ?_)
       refine RV.op (OV.skipU rfl rfl ?_)
       refine RV.op (OV.skipU rfl rfl ?_)
       refine RV.op (OV.skipU rfl rfl ?_)
       refine RV.k rfl rfl (RV.s (Step.pick_t rfl rfl) rfl ?_)
       refine RV.nil (KV.then_n (KV.e5 7 9 10 11 79 (CV.cond_t rfl (CV.seq (CV.region ?_)))))
       refine RV.a rfl rfl ?_
       refine RV.nil (KV.then_n (KV.e1 6 (CV.ret (KV.block_ret (KV.then_ret ?_)))))
       refine KV.then_ret (KV.block_ret (KV.then_ret ?_))
       refine KV.sel [] [] rfl ?_
       exfalso; omega
    ·
     skip
     have hx : ¬ len ≤ min (i : Int) (0 + tmo) := fun k => hal ((esN_le (L := len) (x := min (i : Int) (0 + tmo)) hlen0 (by omega)).2 k)
     refine RV.nil (KV.then_n (KV.e4 7 9 10 11 (CV.seq (CV.region ?_))))
     refine RV.a rfl rfl ?_
     refine RV.nil (KV.then_n (KV.e5 7 9 10 11 12 (CV.seq (CV.block (CV.seq ?_)))))
     refine CV.region ?_
     refine RV.m rfl rfl (RV.m rfl rfl ?_)
     refine RV.op (OV.split gno (Step.gtr rfl rfl) rfl (fun cc28 => ?_) (fun cc28 => ?_))
     ·
      refine RV.m rfl rfl (RV.gw rfl (Step.move rfl) rfl (RV.gw rfl (Step.move rfl) rfl ?_))
      refine RV.op (OV.split (gyes rfl) (Step.geq rfl rfl) rfl (fun cc29 => ?_) (fun cc29 => ?_))
      ·
       refine RV.s (Step.pick_t rfl rfl) rfl (RV.a rfl rfl ?_)
       refine RV.nil (KV.then_n (KV.e6 7 9 10 11 12 47 (CV.cond_t rfl (CV.region ?_))))
       refine RV.a rfl rfl ?_
       refine RV.nil (KV.block_n (KV.then_n (KV.e5 7 9 10 11 12 (CV.seq (CV.region ?_)))))
       refine RV.s (Step.fieldAddr rfl (F80_1 _ _)) rfl (RV.s (Step.load Tryz.underlying73 rfl rfl (fun w h => h.cell 0 rfl rfl)) rfl ?_)
       refine RV.op (OV.call [] (F := [_, _, _, _, _, _]) Tryz.func30 B30 N30 rfl rfl (fun w h => mode_fn s (h.blk 1 rfl)) (fun _ hb => hb.elim) gno rfl (fun v L' hp => ?_))
       obtain ⟨rfl, rfl⟩ := hp
       simp only [List.append_nil]
       refine RV.m rfl rfl (RV.s (Step.neq rfl rfl) rfl (RV.m rfl rfl (RV.k rfl rfl (RV.k rfl rfl (RV.k rfl rfl ?_)))))
       refine RV.op (OV.skipU rfl rfl ?_)
       refine RV.op (OV.skipU rfl rfl ?_)
       refine RV.op (OV.skipU rfl rfl ?_)
       refine RV.op (OV.skipU rfl rfl ?_)
       refine RV.k rfl rfl (RV.s (Step.pick_t rfl rfl) rfl ?_)
       refine RV.nil (KV.then_n (KV.e5 7 9 10 11 79 (CV.cond_t rfl (CV.seq (CV.region ?_)))))
       refine RV.a rfl rfl ?_
       refine RV.nil (KV.then_n (KV.e1 6 (CV.ret (KV.block_ret (KV.then_ret ?_)))))
       refine KV.then_ret (KV.block_ret (KV.then_ret ?_))
       refine KV.sel [] [] rfl ?_
       exfalso; omega
      ·
       refine RV.s (Step.pick_t rfl rfl) rfl (RV.a rfl rfl ?_)
       refine RV.nil (KV.then_n (KV.e6 7 9 10 11 12 47 (CV.cond_f rfl (CV.seq (CV.region ?_)))))
       refine RV.m rfl rfl (RV.m rfl rfl ?_)
       refine RV.op (OV.split gno (Step.leq rfl rfl) rfl (fun cc30 => ?_) (fun cc30 => ?_))
       ·
        refine RV.m rfl rfl (RV.gw rfl (Step.move rfl) rfl (RV.gw rfl (Step.move rfl) rfl ?_))
        refine RV.op (OV.split (gyes rfl) (Step.geq rfl rfl) rfl (fun cc31 => ?_) (fun cc31 => ?_))
        ·
         refine RV.s (Step.pick_t rfl rfl) rfl (RV.a rfl rfl ?_)
         refine RV.nil (KV.then_n (KV.e6 7 9 10 11 12 56 (CV.cond_t rfl (CV.region ?_))))
         refine RV.a rfl rfl ?_
         refine RV.nil (KV.block_n (KV.then_n (KV.e5 7 9 10 11 12 (CV.seq (CV.region ?_)))))
         refine RV.s (Step.fieldAddr rfl (F80_1 _ _)) rfl (RV.s (Step.load Tryz.underlying73 rfl rfl (fun w h => h.cell 0 rfl rfl)) rfl ?_)
         refine RV.op (OV.call [] (F := [_, _, _, _, _, _]) Tryz.func30 B30 N30 rfl rfl (fun w h => mode_fn s (h.blk 1 rfl)) (fun _ hb => hb.elim) gno rfl (fun v L' hp => ?_))
         obtain ⟨rfl, rfl⟩ := hp
         simp only [List.append_nil]
         refine RV.m rfl rfl (RV.s (Step.neq rfl rfl) rfl (RV.m rfl rfl (RV.k rfl rfl (RV.k rfl rfl (RV.k rfl rfl ?_)))))
         refine RV.op (OV.skipU rfl rfl ?_)
         refine RV.op (OV.skipU rfl rfl ?_)
         refine RV.op (OV.skipU rfl rfl ?_)
         refine RV.op (OV.skipU rfl rfl ?_)
         refine RV.k rfl rfl (RV.s (Step.pick_t rfl rfl) rfl ?_)
         refine RV.nil (KV.then_n (KV.e5 7 9 10 11 79 (CV.cond_t rfl (CV.seq (CV.region ?_)))))
         refine RV.a rfl rfl ?_
         refine RV.nil (KV.then_n (KV.e1 6 (CV.ret (KV.block_ret (KV.then_ret ?_)))))
         refine KV.then_ret (KV.block_ret (KV.then_ret ?_))
         refine KV.sel [] [] rfl ?_
         exfalso; omega
        ·
         refine RV.s (Step.pick_t rfl rfl) rfl (RV.a rfl rfl ?_)
         refine RV.nil (KV.then_n (KV.e6 7 9 10 11 12 56 (CV.cond_f rfl (CV.skip (KV.block_n ?_)))))
         refine KV.then_n (KV.e5 7 9 10 11 12 (CV.seq (CV.region ?_)))
         refine RV.s (Step.fieldAddr rfl (F80_1 _ _)) rfl (RV.s (Step.load Tryz.underlying73 rfl rfl (fun w h => h.cell 0 rfl rfl)) rfl ?_)
         refine RV.op (OV.call [] (F := [_, _, _, _, _, _]) Tryz.func30 B30 N30 rfl rfl (fun w h => mode_fn s (h.blk 1 rfl)) (fun _ hb => hb.elim) gno rfl (fun v L' hp => ?_))
         obtain ⟨rfl, rfl⟩ := hp
         simp only [List.append_nil]
         refine RV.m rfl rfl (RV.s (Step.neq rfl rfl) rfl (RV.m rfl rfl (RV.gw rfl (Step.move rfl) rfl (RV.gw rfl (Step.eql rfl rfl) rfl (RV.gw rfl (Step.move rfl) rfl (RV.k rfl rfl (RV.k rfl rfl ?_)))))))
         refine RV.k rfl rfl (RV.k rfl rfl (RV.gw rfl (Step.pick_f rfl rfl) rfl (RV.s (Step.pick_f rfl rfl) rfl ?_)))
         refine RV.nil (KV.then_n (KV.e5 7 9 10 11 79 (CV.cond_f rfl (CV.skip (KV.block_n ?_)))))
         refine KV.then_n (KV.e4 7 9 10 11 (CV.region ?_))
         refine RV.m rfl rfl ?_
         (first | refine RV.op (OV.step gno (Step.add rfl rfl (wU64 (by omega) (by omega))) rfl ?_) | refine RV.op (OV.step gno (Step.add rfl rfl rfl) rfl ?_))
         refine RV.a rfl rfl ?_
         refine RV.nil (KV.then_n (KV.e4 7 9 10 11 ?_))
         refine KV.sel [0, 0, 0, 0, 0, 0] [_, _, _, _, _, _] rfl ?_
         first | exact KV.loop2 (x := i) (y := p) (i + 1) (i : Int) ⟨by omega, by omega, by omega⟩ (by omega) ⟨rfl, rfl, rfl, rfl, trivial⟩ (fun _ h => .inl ⟨by omega, ⟨q9, A9, c9, rest9, _⟩, h⟩) | exact KV.loop2 (x := i) (y := p) (i + 1) (i : Int) ⟨by omega, by omega, by omega⟩ (by omega) ⟨rfl, rfl, rfl, rfl, trivial⟩ (fun _ h => .inl ⟨by omega, z, h⟩) | exact KV.loop2 (x := i) (y := p) (i + 1) (i : Int) ⟨by omega, by omega, by omega⟩ (by omega) ⟨rfl, rfl, rfl, rfl, trivial⟩ (fun _ h => .inr (.inl ⟨⟨by omega, by omega⟩, _, h⟩)) | exact KV.loop2 (x := i) (y := p) (i + 1) (i : Int) ⟨by omega, by omega, by omega⟩ (by omega) ⟨rfl, rfl, rfl, rfl, trivial⟩ (fun _ h => .inr (.inr ⟨⟨by omega, by omega⟩, h⟩))
       ·
        refine RV.m rfl rfl (RV.k rfl rfl (RV.k rfl rfl (RV.k rfl rfl (RV.s (Step.pick_f rfl rfl) rfl (RV.a rfl rfl ?_)))))
        refine RV.nil (KV.then_n (KV.e6 7 9 10 11 12 56 (CV.cond_f rfl (CV.skip (KV.block_n ?_)))))
        refine KV.then_n (KV.e5 7 9 10 11 12 (CV.seq (CV.region ?_)))
        refine RV.s (Step.fieldAddr rfl (F80_1 _ _)) rfl (RV.s (Step.load Tryz.underlying73 rfl rfl (fun w h => h.cell 0 rfl rfl)) rfl ?_)
        refine RV.op (OV.call [] (F := [_, _, _, _, _, _]) Tryz.func30 B30 N30 rfl rfl (fun w h => mode_fn s (h.blk 1 rfl)) (fun _ hb => hb.elim) gno rfl (fun v L' hp => ?_))
        obtain ⟨rfl, rfl⟩ := hp
        simp only [List.append_nil]
        refine RV.m rfl rfl (RV.s (Step.neq rfl rfl) rfl (RV.m rfl rfl (RV.gw rfl (Step.move rfl) rfl (RV.gw rfl (Step.eql rfl rfl) rfl (RV.gw rfl (Step.move rfl) rfl (RV.k rfl rfl (RV.k rfl rfl ?_)))))))
        refine RV.k rfl rfl (RV.k rfl rfl (RV.gw rfl (Step.pick_f rfl rfl) rfl (RV.s (Step.pick_f rfl rfl) rfl ?_)))
        refine RV.nil (KV.then_n (KV.e5 7 9 10 11 79 (CV.cond_f rfl (CV.skip (KV.block_n ?_)))))
        refine KV.then_n (KV.e4 7 9 10 11 (CV.region ?_))
        refine RV.m rfl rfl ?_
        (first | refine RV.op (OV.step gno (Step.add rfl rfl (wU64 (by omega) (by omega))) rfl ?_) | refine RV.op (OV.step gno (Step.add rfl rfl rfl) rfl ?_))
        refine RV.a rfl rfl ?_
        refine RV.nil (KV.then_n (KV.e4 7 9 10 11 ?_))
        refine KV.sel [0, 0, 0, 0, 0, 0] [_, _, _, _, _, _] rfl ?_
        first | exact KV.loop2 (x := i) (y := p) (i + 1) (i : Int) ⟨by omega, by omega, by omega⟩ (by omega) ⟨rfl, rfl, rfl, rfl, trivial⟩ (fun _ h => .inl ⟨by omega, ⟨q9, A9, c9, rest9, _⟩, h⟩) | exact KV.loop2 (x := i) (y := p) (i + 1) (i : Int) ⟨by omega, by omega, by omega⟩ (by omega) ⟨rfl, rfl, rfl, rfl, trivial⟩ (fun _ h => .inl ⟨by omega, z, h⟩) | exact KV.loop2 (x := i) (y := p) (i + 1) (i : Int) ⟨by omega, by omega, by omega⟩ (by omega) ⟨rfl, rfl, rfl, rfl, trivial⟩ (fun _ h => .inr (.inl ⟨⟨by omega, by omega⟩, _, h⟩)) | exact KV.loop2 (x := i) (y := p) (i + 1) (i : Int) ⟨by omega, by omega, by omega⟩ (by omega) ⟨rfl, rfl, rfl, rfl, trivial⟩ (fun _ h => .inr (.inr ⟨⟨by omega, by omega⟩, h⟩))
     ·
      refine RV.m rfl rfl (RV.k rfl rfl (RV.k rfl rfl (RV.k rfl rfl (RV.s (Step.pick_f rfl rfl) rfl (RV.a rfl rfl ?_)))))
      refine RV.nil (KV.then_n (KV.e6 7 9 10 11 12 47 (CV.cond_f rfl (CV.seq (CV.region ?_)))))
      refine RV.m rfl rfl (RV.m rfl rfl ?_)
      refine RV.op (OV.split gno (Step.leq rfl rfl) rfl (fun cc32 => ?_) (fun cc32 => ?_))
      ·
       refine RV.m rfl rfl (RV.gw rfl (Step.move rfl) rfl (RV.gw rfl (Step.move rfl) rfl ?_))
       refine RV.op (OV.split (gyes rfl) (Step.geq rfl rfl) rfl (fun cc33 => ?_) (fun cc33 => ?_))
       ·
        refine RV.s (Step.pick_t rfl rfl) rfl (RV.a rfl rfl ?_)
        refine RV.nil (KV.then_n (KV.e6 7 9 10 11 12 56 (CV.cond_t rfl (CV.region ?_))))
        refine RV.a rfl rfl ?_
        refine RV.nil (KV.block_n (KV.then_n (KV.e5 7 9 10 11 12 (CV.seq (CV.region ?_)))))
        refine RV.s (Step.fieldAddr rfl (F80_1 _ _)) rfl (RV.s (Step.load Tryz.underlying73 rfl rfl (fun w h => h.cell 0 rfl rfl)) rfl ?_)
        refine RV.op (OV.call [] (F := [_, _, _, _, _, _]) Tryz.func30 B30 N30 rfl rfl (fun w h => mode_fn s (h.blk 1 rfl)) (fun _ hb => hb.elim) gno rfl (fun v L' hp => ?_))
        obtain ⟨rfl, rfl⟩ := hp
        simp only [List.append_nil]
        refine RV.m rfl rfl (RV.s (Step.neq rfl rfl) rfl (RV.m rfl rfl (RV.k rfl rfl (RV.k rfl rfl (RV.k rfl rfl ?_)))))
        refine RV.op (OV.skipU rfl rfl ?_)
        refine RV.op (OV.skipU rfl rfl ?_)
        refine RV.op (OV.skipU rfl rfl ?_)
        refine RV.op (OV.skipU rfl rfl ?_)
        refine RV.k rfl rfl (RV.s (Step.pick_t rfl rfl) rfl ?_)
        refine RV.nil (KV.then_n (KV.e5 7 9 10 11 79 (CV.cond_t rfl (CV.seq (CV.region ?_)))))
        refine RV.a rfl rfl ?_
        refine RV.nil (KV.then_n (KV.e1 6 (CV.ret (KV.block_ret (KV.then_ret ?_)))))
        refine KV.then_ret (KV.block_ret (KV.then_ret ?_))
        refine KV.sel [] [] rfl ?_
        exfalso; omega
       ·
        refine RV.s (Step.pick_t rfl rfl) rfl (RV.a rfl rfl ?_)
        refine RV.nil (KV.then_n (KV.e6 7 9 10 11 12 56 (CV.cond_f rfl (CV.skip (KV.block_n ?_)))))
        refine KV.then_n (KV.e5 7 9 10 11 12 (CV.seq (CV.region ?_)))
        refine RV.s (Step.fieldAddr rfl (F80_1 _ _)) rfl (RV.s (Step.load Tryz.underlying73 rfl rfl (fun w h => h.cell 0 rfl rfl)) rfl ?_)
        refine RV.op (OV.call [] (F := [_, _, _, _, _, _]) Tryz.func30 B30 N30 rfl rfl (fun w h => mode_fn s (h.blk 1 rfl)) (fun _ hb => hb.elim) gno rfl (fun v L' hp => ?_))
        obtain ⟨rfl, rfl⟩ := hp
        simp only [List.append_nil]
        refine RV.m rfl rfl (RV.s (Step.neq rfl rfl) rfl (RV.m rfl rfl (RV.gw rfl (Step.move rfl) rfl (RV.gw rfl (Step.eql rfl rfl) rfl (RV.gw rfl (Step.move rfl) rfl (RV.k rfl rfl (RV.k rfl rfl ?_)))))))
        refine RV.k rfl rfl (RV.k rfl rfl (RV.gw rfl (Step.pick_f rfl rfl) rfl (RV.s (Step.pick_f rfl rfl) rfl ?_)))
        refine RV.nil (KV.then_n (KV.e5 7 9 10 11 79 (CV.cond_f rfl (CV.skip (KV.block_n ?_)))))
        refine KV.then_n (KV.e4 7 9 10 11 (CV.region ?_))
        refine RV.m rfl rfl ?_
        (first | refine RV.op (OV.step gno (Step.add rfl rfl (wU64 (by omega) (by omega))) rfl ?_) | refine RV.op (OV.step gno (Step.add rfl rfl rfl) rfl ?_))
        refine RV.a rfl rfl ?_
        refine RV.nil (KV.then_n (KV.e4 7 9 10 11 ?_))
        refine KV.sel [0, 0, 0, 0, 0, 0] [_, _, _, _, _, _] rfl ?_
        first | exact KV.loop2 (x := i) (y := p) (i + 1) (i : Int) ⟨by omega, by omega, by omega⟩ (by omega) ⟨rfl, rfl, rfl, rfl, trivial⟩ (fun _ h => .inl ⟨by omega, ⟨q9, A9, c9, rest9, _⟩, h⟩) | exact KV.loop2 (x := i) (y := p) (i + 1) (i : Int) ⟨by omega, by omega, by omega⟩ (by omega) ⟨rfl, rfl, rfl, rfl, trivial⟩ (fun _ h => .inl ⟨by omega, z, h⟩) | exact KV.loop2 (x := i) (y := p) (i + 1) (i : Int) ⟨by omega, by omega, by omega⟩ (by omega) ⟨rfl, rfl, rfl, rfl, trivial⟩ (fun _ h => .inr (.inl ⟨⟨by omega, by omega⟩, _, h⟩)) | exact KV.loop2 (x := i) (y := p) (i + 1) (i : Int) ⟨by omega, by omega, by omega⟩ (by omega) ⟨rfl, rfl, rfl, rfl, trivial⟩ (fun _ h => .inr (.inr ⟨⟨by omega, by omega⟩, h⟩))
      ·
       refine RV.m rfl rfl (RV.k rfl rfl (RV.k rfl rfl (RV.k rfl rfl (RV.s (Step.pick_f rfl rfl) rfl (RV.a rfl rfl ?_)))))
       refine RV.nil (KV.then_n (KV.e6 7 9 10 11 12 56 (CV.cond_f rfl (CV.skip (KV.block_n ?_)))))
       refine KV.then_n (KV.e5 7 9 10 11 12 (CV.seq (CV.region ?_)))
       refine RV.s (Step.fieldAddr rfl (F80_1 _ _)) rfl (RV.s (Step.load Tryz.underlying73 rfl rfl (fun w h => h.cell 0 rfl rfl)) rfl ?_)
       refine RV.op (OV.call [] (F := [_, _, _, _, _, _]) Tryz.func30 B30 N30 rfl rfl (fun w h => mode_fn s (h.blk 1 rfl)) (fun _ hb => hb.elim) gno rfl (fun v L' hp => ?_))
       obtain ⟨rfl, rfl⟩ := hp
       simp only [List.append_nil]
       refine RV.m rfl rfl (RV.s (Step.neq rfl rfl) rfl (RV.m rfl rfl (RV.gw rfl (Step.move rfl) rfl (RV.gw rfl (Step.eql rfl rfl) rfl (RV.gw rfl (Step.move rfl) rfl (RV.k rfl rfl (RV.k rfl rfl ?_)))))))
       refine RV.k rfl rfl (RV.k rfl rfl (RV.gw rfl (Step.pick_f rfl rfl) rfl (RV.s (Step.pick_f rfl rfl) rfl ?_)))
       refine RV.nil (KV.then_n (KV.e5 7 9 10 11 79 (CV.cond_f rfl (CV.skip (KV.block_n ?_)))))
       refine KV.then_n (KV.e4 7 9 10 11 (CV.region ?_))
       refine RV.m rfl rfl ?_
       (first | refine RV.op (OV.step gno (Step.add rfl rfl (wU64 (by omega) (by omega))) rfl ?_) | refine RV.op (OV.step gno (Step.add rfl rfl rfl) rfl ?_))
       refine RV.a rfl rfl ?_
       refine RV.nil (KV.then_n (KV.e4 7 9 10 11 ?_))
       refine KV.sel [0, 0, 0, 0, 0, 0] [_, _, _, _, _, _] rfl ?_
       first | exact KV.loop2 (x := i) (y := p) (i + 1) (i : Int) ⟨by omega, by omega, by omega⟩ (by omega) ⟨rfl, rfl, rfl, rfl, trivial⟩ (fun _ h => .inl ⟨by omega, ⟨q9, A9, c9, rest9, _⟩, h⟩) | exact KV.loop2 (x := i) (y := p) (i + 1) (i : Int) ⟨by omega, by omega, by omega⟩ (by omega) ⟨rfl, rfl, rfl, rfl, trivial⟩ (fun _ h => .inl ⟨by omega, z, h⟩) | exact KV.loop2 (x := i) (y := p) (i + 1) (i : Int) ⟨by omega, by omega, by omega⟩ (by omega) ⟨rfl, rfl, rfl, rfl, trivial⟩ (fun _ h => .inr (.inl ⟨⟨by omega, by omega⟩, _, h⟩)) | exact KV.loop2 (x := i) (y := p) (i + 1) (i : Int) ⟨by omega, by omega, by omega⟩ (by omega) ⟨rfl, rfl, rfl, rfl, trivial⟩ (fun _ h => .inr (.inr ⟨⟨by omega, by omega⟩, h⟩))
   ·
    refine RV.nil (KV.then_n (KV.e5 7 9 10 11 40 (CV.cond_f rfl (CV.exit (KV.then_exit ?_)))))
    refine KV.then_exit (KV.block_hit (KV.then_n (KV.env [] trivial (CV.seq (CV.region ?_)))))
    refine RV.op (OV.call [] (F := [_, _, _, _, _, _]) Tryz.func10 B10 N10 rfl rfl (fun w h => awake_fn) (fun _ hb => hb.elim) gno rfl (fun v L' hp => ?_))
    obtain ⟨rfl, rfl⟩ := hp
    simp only [List.append_nil]
    refine RV.a rfl rfl ?_
    refine RV.nil (KV.then_n (KV.e1 6 (CV.ret ?_)))
    refine KV.sel [] [] rfl ?_
    exact KV.ret1 rfl rfl _ (fun _ h => h) ⟨rfl, rfl⟩
end Go.Proofs.YtdfkpdcpegcieaaGreatDoor
