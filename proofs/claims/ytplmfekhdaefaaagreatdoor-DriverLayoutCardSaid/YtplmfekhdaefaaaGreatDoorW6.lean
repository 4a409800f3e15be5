/-
 Walks, part 6.
-/
import Derived.Test.YtplmfekhdaefaaaGreatDoorTabA
import Derived.Test.YtplmfekhdaefaaaGreatDoorW5
import Derived.Test.YtplmfekhdaefaaaGreatDoorDmA
import Derived.Test.YtplmfekhdaefaaaGreatDoorSvC
set_option linter.unusedSimpArgs false
set_option linter.unusedVariables false
namespace Go.Proofs.YtplmfekhdaefaaaGreatDoor
open Go.Sv Go.Drv
set_option maxRecDepth 100000 in
set_option maxHeartbeats 1000000 in
theorem atEnd_fn {q : Nat} {A : Option Addr} {n c i : Nat} {w : World} (hq : w.heap[q]? = some (.cells #[.slice A n c, .int .i64 (i : Int)] 121 (0, 0))) : Fx Tryz.prog 54 [.pointer (some ⟨q, 0, none⟩)] w [] no (fun v L => v = .bool (decide (i = n)) ∧ L = []) := by
 refine Sv.Fx.body Tryz.func54 rfl T54 rfl ?_
 intro I hro hI
 refine KV.env [(0, _)] ⟨rfl, trivial⟩ (CV.seq (CV.region ?_))
 refine RV.a rfl rfl ?_
 refine RV.nil (KV.then_n (KV.env [(0, _)] ⟨rfl, trivial⟩ (CV.seq ?_)))
 refine CV.any (Hp I w []) (by kernel_rfl) (fun _ h => h.drew) 11 rfl ?_
 refine AV.u 0 (bl 11 1) rfl gno (Step.move rfl) rfl (fun _ h => h) ?_
 refine AV.u 1 (bl 11 3) rfl gno (Step.nilCheck rfl) rfl (fun _ h => h) ?_
 refine AV.u 2 (bl 11 7) rfl gno (Step.fieldAddr rfl (F121_1 _ _)) rfl (fun _ h => h) ?_
 refine AV.u 3 (bl 11 15) rfl gno (Step.load Tryz.underlying3 rfl rfl (fun w h => (cell_of (h.ro hq (hI _)) 1).trans rfl)) rfl (fun _ h => h) ?_
 refine AV.u 4 (bl 11 31) rfl gno (Step.move rfl) rfl (fun _ h => h) ?_
 refine AV.u 5 (bl 11 63) rfl gno (Step.nilCheck rfl) rfl (fun _ h => h) ?_
 refine AV.u 6 (bl 11 127) rfl gno (Step.fieldAddr rfl (F121_0 _ _)) rfl (fun _ h => h) ?_
 refine AV.u 7 (bl 11 255) rfl gno (Step.load Tryz.underlying71 rfl rfl (fun w h => (cell_of (h.ro hq (hI _)) 0).trans rfl)) rfl (fun _ h => h) ?_
 refine AV.u 8 (bl 11 511) rfl gno (Step.lenSl Tryz.underlying71 rfl) rfl (fun _ h => h) ?_
 refine AV.u 9 (bl 11 1023) rfl gno (Step.eql rfl rfl) rfl (fun _ h => h) ?_
 refine AV.u 10 (bl 11 2047) rfl gno (Step.assign rfl) rfl (fun _ h => h) ?_
 refine AV.done (by kernel_rfl) ?_
 refine KV.then_n (KV.env [(2, _)] ⟨rfl, trivial⟩ (CV.ret ?_))
 refine KV.sel [] [] rfl ?_
 exact KV.ret1 rfl rfl _ (fun _ h => h) ⟨by rw [show decide ((i : Int) = (n : Int)) = decide (i = n) from decide_eq_decide.2 (by omega)], rfl⟩

set_option maxRecDepth 100000 in
set_option maxHeartbeats 1000000 in
theorem name_fn {q : Nat} {A : Option Addr} {c i : Nat} {ts : List MT} {w : World} (hi : i ≤ ts.length) (hl : ts.length ≤ 1000000) : Fx Tryz.prog 53 [.pointer (some ⟨q, 0, none⟩)] w [Blk q (.cells #[.slice A ts.length c, .int .i64 (((i : Nat) : Int))] 121 (0, 0)), OS 114 tokK A c ts] no (fun v L => (∃ t, ts.drop i = .nm t :: ts.drop (i + 1) ∧ i < ts.length ∧ v = .tuple #[.string (bs t), .bool true] ∧ L = [Blk q (.cells #[.slice A ts.length c, .int .i64 (((i + 1 : Nat) : Int))] 121 (0, 0)), OS 114 tokK A c ts]) ∨ ((∀ t r, ts.drop i ≠ .nm t :: r) ∧ v = .tuple #[.string (bs []), .bool false] ∧ L = [Blk q (.cells #[.slice A ts.length c, .int .i64 (((i : Nat) : Int))] 121 (0, 0)), OS 114 tokK A c ts])) := by
 refine Sv.Fx.body Tryz.func53 rfl T53 rfl ?_
 intro I hro hI
 refine KV.env [(0, _)] ⟨rfl, trivial⟩ (CV.seq (CV.region ?_))
 refine RV.s (Step.assign (v := .string (Sv.bs [])) rfl) rfl (RV.a rfl rfl ?_)
 refine RV.nil (KV.then_n (KV.env [(0, _)] ⟨rfl, trivial⟩ (CV.seq (CV.seq ?_))))
 refine CV.any (Hp I w [Blk q (.cells #[.slice A ts.length c, .int .i64 (((i : Nat) : Int))] 121 (0, 0)), OS 114 tokK A c ts]) (by kernel_rfl) (fun _ h => h.drew) 16 rfl ?_
 refine AV.u 0 (bl 16 1) rfl gno (Step.move rfl) rfl (fun _ h => h) ?_
 refine AV.all [1] (by kernel_rfl) (by decide) ?_
 refine ⟨⟨_, rfl, ?_⟩, trivial⟩
 ·
  refine OV.call [] (F := [_, _]) Tryz.func54 B54 N54 rfl rfl (fun w h => atEnd_fn (h.blk 0 rfl)) (fun _ hb => hb.elim) gno rfl (fun v L' hp => ?_)
  obtain ⟨rfl, rfl⟩ := hp
  simp only [List.append_nil]
  refine AV.next (bl 16 3) (by kernel_rfl) (fun _ h => h) ?_
  refine AV.u 2 (bl 16 7) rfl gno (Step.move rfl) rfl (fun _ h => h) ?_
  refine KV.cases 6 rfl (fun cc1 => ?_) (fun cc1 => ?_)
  ·
   have he := of_decide_eq_true cc1
   refine AV.takeSkip 3 (bl 16 15) rfl (by kernel_rfl) (by kernel_rfl) (by kernel_rfl) (fun _ _ _ h => h) rfl rfl (fun _ h => h) (by kernel_rfl) ?_
   refine AV.takeSkip 4 (bl 16 31) rfl (by kernel_rfl) (by kernel_rfl) (by kernel_rfl) (fun _ _ _ h => h) rfl rfl (fun _ h => h) (by kernel_rfl) ?_
   refine AV.takeSkip 5 (bl 16 63) rfl (by kernel_rfl) (by kernel_rfl) (by kernel_rfl) (fun _ _ _ h => h) rfl rfl (fun _ h => h) (by kernel_rfl) ?_
   refine AV.takeSkip 6 (bl 16 127) rfl (by kernel_rfl) (by kernel_rfl) (by kernel_rfl) (fun _ _ _ h => h) rfl rfl (fun _ h => h) (by kernel_rfl) ?_
   refine AV.takeSkip 7 (bl 16 255) rfl (by kernel_rfl) (by kernel_rfl) (by kernel_rfl) (fun _ _ _ h => h) rfl rfl (fun _ h => h) (by kernel_rfl) ?_
   refine AV.takeSkip 8 (bl 16 511) rfl (by kernel_rfl) (by kernel_rfl) (by kernel_rfl) (fun _ _ _ h => h) rfl rfl (fun _ h => h) (by kernel_rfl) ?_
   refine AV.takeSkip 9 (bl 16 1023) rfl (by kernel_rfl) (by kernel_rfl) (by kernel_rfl) (fun _ _ _ h => h) rfl rfl (fun _ h => h) (by kernel_rfl) ?_
   refine AV.takeSkip 10 (bl 16 2047) rfl (by kernel_rfl) (by kernel_rfl) (by kernel_rfl) (fun _ _ _ h => h) rfl rfl (fun _ h => h) (by kernel_rfl) ?_
   refine AV.takeSkip 11 (bl 16 4095) rfl (by kernel_rfl) (by kernel_rfl) (by kernel_rfl) (fun _ _ _ h => h) rfl rfl (fun _ h => h) (by kernel_rfl) ?_
   refine AV.takeSkip 12 (bl 16 8191) rfl (by kernel_rfl) (by kernel_rfl) (by kernel_rfl) (fun _ _ _ h => h) rfl rfl (fun _ h => h) (by kernel_rfl) ?_
   refine AV.takeSkip 13 (bl 16 16383) rfl (by kernel_rfl) (by kernel_rfl) (by kernel_rfl) (fun _ _ _ h => h) rfl rfl (fun _ h => h) (by kernel_rfl) ?_
   refine AV.takeSkip 14 (bl 16 32767) rfl (by kernel_rfl) (by kernel_rfl) (by kernel_rfl) (fun _ _ _ h => h) rfl rfl (fun _ h => h) (by kernel_rfl) ?_
   refine AV.u 15 (bl 16 65535) rfl gno (Step.pick_t rfl rfl) rfl (fun _ h => h) ?_
   refine AV.done (by kernel_rfl) ?_
   refine KV.then_n (KV.env [(0, _), (19, _)] ⟨rfl, rfl, trivial⟩ (CV.cond_t rfl (CV.seq (CV.region ?_))))
   refine RV.s (Step.assign (v := .string (Sv.bs [])) rfl) rfl (RV.a rfl rfl ?_)
   refine RV.nil (KV.then_n (KV.env [(2, _), (3, _)] ⟨rfl, rfl, trivial⟩ (CV.ret (KV.then_ret ?_))))
   refine KV.sel [0, 0] [_, _] rfl ?_
   exact KV.ret2 rfl rfl rfl _ (fun _ h => h) (.inr ⟨by first | exact nm_end he | exact nm_no (by omega) hk, rfl, rfl⟩)
  ·
   have he := of_decide_eq_false cc1
   refine AV.u 3 (bl 16 15) rfl (gyes rfl) (Step.move rfl) rfl (fun _ h => h) ?_
   refine AV.u 4 (bl 16 31) rfl (gyes rfl) (Step.nilCheck rfl) rfl (fun _ h => h) ?_
   refine AV.u 5 (bl 16 63) rfl (gyes rfl) (Step.fieldAddr rfl (F121_0 _ _)) rfl (fun _ h => h) ?_
   refine AV.u 6 (bl 16 127) rfl (gyes rfl) (Step.load Tryz.underlying71 rfl rfl (fun w h => h.cell 0 rfl rfl)) rfl (fun _ h => h) ?_
   refine AV.u 7 (bl 16 255) rfl (gyes rfl) (Step.move rfl) rfl (fun _ h => h) ?_
   refine AV.u 8 (bl 16 511) rfl (gyes rfl) (Step.nilCheck rfl) rfl (fun _ h => h) ?_
   refine AV.u 9 (bl 16 1023) rfl (gyes rfl) (Step.fieldAddr rfl (F121_1 _ _)) rfl (fun _ h => h) ?_
   refine AV.u 10 (bl 16 2047) rfl (gyes rfl) (Step.load Tryz.underlying3 rfl rfl (fun w h => h.cell 0 rfl rfl)) rfl (fun _ h => h) ?_
   refine AV.u 11 (bl 16 4095) rfl (gyes rfl) (Step.idx Tryz.underlying71 I114 (fun w h => h.os 1 rfl) rfl rfl (rfl) _ rfl (by omega)) rfl (fun _ h => h) ?_
   refine AV.u 12 (bl 16 8191) rfl (gyes rfl) (Step.fieldAddr rfl (F114_0 _ _)) rfl (fun _ h => h) ?_
   refine AV.u 13 (bl 16 16383) rfl (gyes rfl) (Step.load Tryz.underlying3 rfl rfl (fun w h => (h.os 1 rfl).cell0 (by omega) rfl)) rfl (fun _ h => h) ?_
   refine AV.u 14 (bl 16 32767) rfl (gyes rfl) (Step.neq rfl rfl) rfl (fun _ h => h) ?_
   refine AV.u 15 (bl 16 65535) rfl gno (Step.pick_f rfl rfl) rfl (fun _ h => h) ?_
   refine AV.done (by kernel_rfl) ?_
   refine KV.then_n (KV.env [(0, _), (19, _)] ⟨rfl, rfl, trivial⟩ ?_)
   refine KV.cases 19 rfl (fun cc2 => ?_) (fun cc2 => ?_)
   ·
    have hk := of_decide_eq_true cc2
    refine CV.cond_t rfl (CV.seq (CV.region ?_))
    refine RV.s (Step.assign (v := .string (Sv.bs [])) rfl) rfl (RV.a rfl rfl ?_)
    refine RV.nil (KV.then_n (KV.env [(2, _), (3, _)] ⟨rfl, rfl, trivial⟩ (CV.ret (KV.then_ret ?_))))
    refine KV.sel [0, 0] [_, _] rfl ?_
    exact KV.ret2 rfl rfl rfl _ (fun _ h => h) (.inr ⟨by first | exact nm_end he | exact nm_no (by omega) hk, rfl, rfl⟩)
   ·
    have hk := Decidable.not_not.1 (of_decide_eq_false cc2)
    refine CV.cond_f rfl (CV.skip (KV.then_n (KV.env [(0, _)] ⟨rfl, trivial⟩ (CV.seq (CV.region ?_)))))
    refine RV.m rfl rfl (RV.s (Step.nilCheck rfl) rfl (RV.s (Step.fieldAddr rfl (F121_1 _ _)) rfl (RV.s (Step.load Tryz.underlying3 rfl rfl (fun w h => h.cell 0 rfl rfl)) rfl ?_)))
    (first | refine RV.op (OV.step gno (Step.add rfl rfl (wI64 (by omega) (by omega))) rfl ?_) | refine RV.op (OV.step gno (Step.add rfl rfl rfl) rfl ?_))
    refine RV.s (Step.nilCheck rfl) rfl (RV.s (Step.fieldAddr rfl (F121_1 _ _)) rfl ?_)
    refine RV.op (OV.store 0 [_] #[_, _] I3 rfl rfl rfl rfl rfl (Nat.le_of_ble_eq_true rfl) (by simp [Value.oneCell']) rfl gno ?_)
    refine RV.nil (KV.then_n (KV.env [(0, _)] ⟨rfl, trivial⟩ (CV.seq ?_)))
    refine CV.still (by kernel_rfl) (by kernel_rfl) (fun _ h => h.drew) ?_
    refine SV.step gno (Step.move rfl) rfl ?_
    refine SV.step gno (Step.nilCheck rfl) rfl ?_
    refine SV.step gno (Step.fieldAddr rfl (F121_0 _ _)) rfl ?_
    refine SV.step gno (Step.load Tryz.underlying71 rfl rfl (fun w h => h.cell 0 rfl rfl)) rfl ?_
    refine SV.step gno (Step.move rfl) rfl ?_
    refine SV.step gno (Step.nilCheck rfl) rfl ?_
    refine SV.step gno (Step.fieldAddr rfl (F121_1 _ _)) rfl ?_
    refine SV.step gno (Step.load Tryz.underlying3 rfl rfl (fun w h => h.cell 0 rfl rfl)) rfl ?_
    (first | refine SV.step gno (Step.sub rfl rfl (wI64 (by omega) (by omega))) rfl ?_ | refine SV.step gno (Step.sub rfl rfl rfl) rfl ?_)
    refine SV.step gno (Step.idx Tryz.underlying71 I114 (fun w h => h.os 1 rfl) rfl rfl (rfl) _ (show ((i : Int) + 1) - 1 = ((i : Nat) : Int) by omega) (by omega)) rfl ?_
    refine SV.step gno (Step.fieldAddr rfl (F114_1 _ _)) rfl ?_
    refine SV.step gno (Step.load Tryz.underlying9 rfl rfl (fun w h => (h.os 1 rfl).cell (by omega) rfl)) rfl ?_
    refine SV.step gno (Step.assign rfl) rfl ?_
    refine SV.step gno (Step.assign rfl) rfl ?_
    refine SV.nil (KV.then_n (KV.env [(2, _), (3, _)] ⟨rfl, rfl, trivial⟩ (CV.ret ?_)))
    refine KV.sel [0, 0] [_, _] rfl ?_
    exact KV.ret2 rfl rfl rfl _ (fun _ h => h) (.inl ⟨_, nm_yes (by omega) hk, by omega, rfl, rfl⟩)

set_option maxRecDepth 100000 in
set_option maxHeartbeats 4000000 in
theorem accept_fn (m : MT) {q : Nat} {A : Option Addr} {c i : Nat} {ts : List MT} {w : World} (hm : okS m) (ht : ∀ x ∈ ts, tkOk x) (hi : i ≤ ts.length) (hl : ts.length ≤ 1000000) : Fx Tryz.prog 75 [.pointer (some ⟨q, 0, none⟩), .int .i64 (tkind m), .string (bs (ttext m))] w [Blk q (.cells #[.slice A ts.length c, .int .i64 (((i : Nat) : Int))] 121 (0, 0)), OS 114 tokK A c ts] no (fun v L => (ts.drop i = m :: ts.drop (i + 1) ∧ i < ts.length ∧ v = .bool true ∧ L = [Blk q (.cells #[.slice A ts.length c, .int .i64 (((i + 1 : Nat) : Int))] 121 (0, 0)), OS 114 tokK A c ts]) ∨ ((∀ r, ts.drop i ≠ m :: r) ∧ v = .bool false ∧ L = [Blk q (.cells #[.slice A ts.length c, .int .i64 (((i : Nat) : Int))] 121 (0, 0)), OS 114 tokK A c ts])) := by
 refine Sv.Fx.body Tryz.func75 rfl T75 rfl ?_
 intro I hro hI
 refine KV.env [(0, _), (1, _), (2, _)] ⟨rfl, rfl, rfl, trivial⟩ (CV.seq (CV.region ?_))
 refine RV.a rfl rfl ?_
 refine RV.nil (KV.then_n (KV.env [(0, _), (1, _), (2, _)] ⟨rfl, rfl, rfl, trivial⟩ (CV.seq (CV.seq ?_))))
 refine CV.any (Hp I w [Blk q (.cells #[.slice A ts.length c, .int .i64 (((i : Nat) : Int))] 121 (0, 0)), OS 114 tokK A c ts]) (by kernel_rfl) (fun _ h => h.drew) 32 rfl ?_
 refine AV.u 0 (bl 32 1) rfl gno (Step.move rfl) rfl (fun _ h => h) ?_
 refine AV.all [1] (by kernel_rfl) (by decide) ?_
 refine ⟨⟨_, rfl, ?_⟩, trivial⟩
 ·
  refine OV.call [] (F := [_, _]) Tryz.func54 B54 N54 rfl rfl (fun w h => atEnd_fn (h.blk 0 rfl)) (fun _ hb => hb.elim) gno rfl (fun v L' hp => ?_)
  obtain ⟨rfl, rfl⟩ := hp
  simp only [List.append_nil]
  refine AV.next (bl 32 3) (by kernel_rfl) (fun _ h => h) ?_
  refine AV.u 2 (bl 32 7) rfl gno (Step.move rfl) rfl (fun _ h => h) ?_
  refine KV.cases 9 rfl (fun cc1 => ?_) (fun cc1 => ?_)
  ·
   have he := of_decide_eq_true cc1
   refine AV.takeSkip 3 (bl 32 15) rfl (by kernel_rfl) (by kernel_rfl) (by kernel_rfl) (fun _ _ _ h => h) rfl rfl (fun _ h => h) (by kernel_rfl) ?_
   refine AV.takeSkip 4 (bl 32 31) rfl (by kernel_rfl) (by kernel_rfl) (by kernel_rfl) (fun _ _ _ h => h) rfl rfl (fun _ h => h) (by kernel_rfl) ?_
   refine AV.takeSkip 5 (bl 32 63) rfl (by kernel_rfl) (by kernel_rfl) (by kernel_rfl) (fun _ _ _ h => h) rfl rfl (fun _ h => h) (by kernel_rfl) ?_
   refine AV.takeSkip 6 (bl 32 127) rfl (by kernel_rfl) (by kernel_rfl) (by kernel_rfl) (fun _ _ _ h => h) rfl rfl (fun _ h => h) (by kernel_rfl) ?_
   refine AV.takeSkip 7 (bl 32 255) rfl (by kernel_rfl) (by kernel_rfl) (by kernel_rfl) (fun _ _ _ h => h) rfl rfl (fun _ h => h) (by kernel_rfl) ?_
   refine AV.takeSkip 8 (bl 32 511) rfl (by kernel_rfl) (by kernel_rfl) (by kernel_rfl) (fun _ _ _ h => h) rfl rfl (fun _ h => h) (by kernel_rfl) ?_
   refine AV.takeSkip 9 (bl 32 1023) rfl (by kernel_rfl) (by kernel_rfl) (by kernel_rfl) (fun _ _ _ h => h) rfl rfl (fun _ h => h) (by kernel_rfl) ?_
   refine AV.takeSkip 10 (bl 32 2047) rfl (by kernel_rfl) (by kernel_rfl) (by kernel_rfl) (fun _ _ _ h => h) rfl rfl (fun _ h => h) (by kernel_rfl) ?_
   refine AV.takeSkip 11 (bl 32 4095) rfl (by kernel_rfl) (by kernel_rfl) (by kernel_rfl) (fun _ _ _ h => h) rfl rfl (fun _ h => h) (by kernel_rfl) ?_
   refine AV.takeSkip 12 (bl 32 8191) rfl (by kernel_rfl) (by kernel_rfl) (by kernel_rfl) (fun _ _ _ h => h) rfl rfl (fun _ h => h) (by kernel_rfl) ?_
   refine AV.takeSkip 13 (bl 32 16383) rfl (by kernel_rfl) (by kernel_rfl) (by kernel_rfl) (fun _ _ _ h => h) rfl rfl (fun _ h => h) (by kernel_rfl) ?_
   refine AV.takeSkip 14 (bl 32 32767) rfl (by kernel_rfl) (by kernel_rfl) (by kernel_rfl) (fun _ _ _ h => h) rfl rfl (fun _ h => h) (by kernel_rfl) ?_
   refine AV.takeSkip 15 (bl 32 65535) rfl (by kernel_rfl) (by kernel_rfl) (by kernel_rfl) (fun _ _ _ h => h) rfl rfl (fun _ h => h) (by kernel_rfl) ?_
   refine AV.u 16 (bl 32 131071) rfl gno (Step.pick_t rfl rfl) rfl (fun _ h => h) ?_
   refine AV.u 17 (bl 32 262143) rfl gno (Step.move rfl) rfl (fun _ h => h) ?_
   refine AV.takeSkip 18 (bl 32 524287) rfl (by kernel_rfl) (by kernel_rfl) (by kernel_rfl) (fun _ _ _ h => h) rfl rfl (fun _ h => h) (by kernel_rfl) ?_
   refine AV.takeSkip 19 (bl 32 1048575) rfl (by kernel_rfl) (by kernel_rfl) (by kernel_rfl) (fun _ _ _ h => h) rfl rfl (fun _ h => h) (by kernel_rfl) ?_
   refine AV.takeSkip 20 (bl 32 2097151) rfl (by kernel_rfl) (by kernel_rfl) (by kernel_rfl) (fun _ _ _ h => h) rfl rfl (fun _ h => h) (by kernel_rfl) ?_
   refine AV.takeSkip 21 (bl 32 4194303) rfl (by kernel_rfl) (by kernel_rfl) (by kernel_rfl) (fun _ _ _ h => h) rfl rfl (fun _ h => h) (by kernel_rfl) ?_
   refine AV.takeSkip 22 (bl 32 8388607) rfl (by kernel_rfl) (by kernel_rfl) (by kernel_rfl) (fun _ _ _ h => h) rfl rfl (fun _ h => h) (by kernel_rfl) ?_
   refine AV.takeSkip 23 (bl 32 16777215) rfl (by kernel_rfl) (by kernel_rfl) (by kernel_rfl) (fun _ _ _ h => h) rfl rfl (fun _ h => h) (by kernel_rfl) ?_
   refine AV.takeSkip 24 (bl 32 33554431) rfl (by kernel_rfl) (by kernel_rfl) (by kernel_rfl) (fun _ _ _ h => h) rfl rfl (fun _ h => h) (by kernel_rfl) ?_
   refine AV.takeSkip 25 (bl 32 67108863) rfl (by kernel_rfl) (by kernel_rfl) (by kernel_rfl) (fun _ _ _ h => h) rfl rfl (fun _ h => h) (by kernel_rfl) ?_
   refine AV.takeSkip 26 (bl 32 134217727) rfl (by kernel_rfl) (by kernel_rfl) (by kernel_rfl) (fun _ _ _ h => h) rfl rfl (fun _ h => h) (by kernel_rfl) ?_
   refine AV.takeSkip 27 (bl 32 268435455) rfl (by kernel_rfl) (by kernel_rfl) (by kernel_rfl) (fun _ _ _ h => h) rfl rfl (fun _ h => h) (by kernel_rfl) ?_
   refine AV.takeSkip 28 (bl 32 536870911) rfl (by kernel_rfl) (by kernel_rfl) (by kernel_rfl) (fun _ _ _ h => h) rfl rfl (fun _ h => h) (by kernel_rfl) ?_
   refine AV.takeSkip 29 (bl 32 1073741823) rfl (by kernel_rfl) (by kernel_rfl) (by kernel_rfl) (fun _ _ _ h => h) rfl rfl (fun _ h => h) (by kernel_rfl) ?_
   refine AV.takeSkip 30 (bl 32 2147483647) rfl (by kernel_rfl) (by kernel_rfl) (by kernel_rfl) (fun _ _ _ h => h) rfl rfl (fun _ h => h) (by kernel_rfl) ?_
   refine AV.u 31 (bl 32 4294967295) rfl gno (Step.pick_t rfl rfl) rfl (fun _ h => h) ?_
   refine AV.done (by kernel_rfl) ?_
   refine KV.then_n (KV.env [(0, _), (38, _)] ⟨rfl, rfl, trivial⟩ (CV.cond_t rfl (CV.seq (CV.region ?_))))
   refine RV.a rfl rfl ?_
   refine RV.nil (KV.then_n (KV.env [(6, _)] ⟨rfl, trivial⟩ (CV.ret (KV.then_ret ?_))))
   refine KV.sel [0, 0] [_, _] rfl ?_
   exact KV.ret1 rfl rfl _ (fun _ h => h) (.inr ⟨by first | exact acc_end he | exact acc_no (by omega) (fun k => hk k.1) | exact acc_no (by omega) (fun k => hx k.2), rfl, rfl⟩)
  ·
   have he := of_decide_eq_false cc1
   refine AV.u 3 (bl 32 15) rfl (gyes rfl) (Step.move rfl) rfl (fun _ h => h) ?_
   refine AV.u 4 (bl 32 31) rfl (gyes rfl) (Step.nilCheck rfl) rfl (fun _ h => h) ?_
   refine AV.u 5 (bl 32 63) rfl (gyes rfl) (Step.fieldAddr rfl (F121_0 _ _)) rfl (fun _ h => h) ?_
   refine AV.u 6 (bl 32 127) rfl (gyes rfl) (Step.load Tryz.underlying71 rfl rfl (fun w h => h.cell 0 rfl rfl)) rfl (fun _ h => h) ?_
   refine AV.u 7 (bl 32 255) rfl (gyes rfl) (Step.move rfl) rfl (fun _ h => h) ?_
   refine AV.u 8 (bl 32 511) rfl (gyes rfl) (Step.nilCheck rfl) rfl (fun _ h => h) ?_
   refine AV.u 9 (bl 32 1023) rfl (gyes rfl) (Step.fieldAddr rfl (F121_1 _ _)) rfl (fun _ h => h) ?_
   refine AV.u 10 (bl 32 2047) rfl (gyes rfl) (Step.load Tryz.underlying3 rfl rfl (fun w h => h.cell 0 rfl rfl)) rfl (fun _ h => h) ?_
   refine AV.u 11 (bl 32 4095) rfl (gyes rfl) (Step.idx Tryz.underlying71 I114 (fun w h => h.os 1 rfl) rfl rfl (rfl) _ rfl (by omega)) rfl (fun _ h => h) ?_
   refine AV.u 12 (bl 32 8191) rfl (gyes rfl) (Step.fieldAddr rfl (F114_0 _ _)) rfl (fun _ h => h) ?_
   refine AV.u 13 (bl 32 16383) rfl (gyes rfl) (Step.load Tryz.underlying3 rfl rfl (fun w h => (h.os 1 rfl).cell0 (by omega) rfl)) rfl (fun _ h => h) ?_
   refine AV.u 14 (bl 32 32767) rfl (gyes rfl) (Step.move rfl) rfl (fun _ h => h) ?_
   refine AV.u 15 (bl 32 65535) rfl (gyes rfl) (Step.neq rfl rfl) rfl (fun _ h => h) ?_
   refine AV.u 16 (bl 32 131071) rfl gno (Step.pick_f rfl rfl) rfl (fun _ h => h) ?_
   refine AV.u 17 (bl 32 262143) rfl gno (Step.move rfl) rfl (fun _ h => h) ?_
   refine KV.cases 24 rfl (fun cc2 => ?_) (fun cc2 => ?_)
   ·
    have hk := of_decide_eq_true cc2
    refine AV.takeSkip 18 (bl 32 524287) rfl (by kernel_rfl) (by kernel_rfl) (by kernel_rfl) (fun _ _ _ h => h) rfl rfl (fun _ h => h) (by kernel_rfl) ?_
    refine AV.takeSkip 19 (bl 32 1048575) rfl (by kernel_rfl) (by kernel_rfl) (by kernel_rfl) (fun _ _ _ h => h) rfl rfl (fun _ h => h) (by kernel_rfl) ?_
    refine AV.takeSkip 20 (bl 32 2097151) rfl (by kernel_rfl) (by kernel_rfl) (by kernel_rfl) (fun _ _ _ h => h) rfl rfl (fun _ h => h) (by kernel_rfl) ?_
    refine AV.takeSkip 21 (bl 32 4194303) rfl (by kernel_rfl) (by kernel_rfl) (by kernel_rfl) (fun _ _ _ h => h) rfl rfl (fun _ h => h) (by kernel_rfl) ?_
    refine AV.takeSkip 22 (bl 32 8388607) rfl (by kernel_rfl) (by kernel_rfl) (by kernel_rfl) (fun _ _ _ h => h) rfl rfl (fun _ h => h) (by kernel_rfl) ?_
    refine AV.takeSkip 23 (bl 32 16777215) rfl (by kernel_rfl) (by kernel_rfl) (by kernel_rfl) (fun _ _ _ h => h) rfl rfl (fun _ h => h) (by kernel_rfl) ?_
    refine AV.takeSkip 24 (bl 32 33554431) rfl (by kernel_rfl) (by kernel_rfl) (by kernel_rfl) (fun _ _ _ h => h) rfl rfl (fun _ h => h) (by kernel_rfl) ?_
    refine AV.takeSkip 25 (bl 32 67108863) rfl (by kernel_rfl) (by kernel_rfl) (by kernel_rfl) (fun _ _ _ h => h) rfl rfl (fun _ h => h) (by kernel_rfl) ?_
    refine AV.takeSkip 26 (bl 32 134217727) rfl (by kernel_rfl) (by kernel_rfl) (by kernel_rfl) (fun _ _ _ h => h) rfl rfl (fun _ h => h) (by kernel_rfl) ?_
    refine AV.takeSkip 27 (bl 32 268435455) rfl (by kernel_rfl) (by kernel_rfl) (by kernel_rfl) (fun _ _ _ h => h) rfl rfl (fun _ h => h) (by kernel_rfl) ?_
    refine AV.takeSkip 28 (bl 32 536870911) rfl (by kernel_rfl) (by kernel_rfl) (by kernel_rfl) (fun _ _ _ h => h) rfl rfl (fun _ h => h) (by kernel_rfl) ?_
    refine AV.takeSkip 29 (bl 32 1073741823) rfl (by kernel_rfl) (by kernel_rfl) (by kernel_rfl) (fun _ _ _ h => h) rfl rfl (fun _ h => h) (by kernel_rfl) ?_
    refine AV.takeSkip 30 (bl 32 2147483647) rfl (by kernel_rfl) (by kernel_rfl) (by kernel_rfl) (fun _ _ _ h => h) rfl rfl (fun _ h => h) (by kernel_rfl) ?_
    refine AV.u 31 (bl 32 4294967295) rfl gno (Step.pick_t rfl rfl) rfl (fun _ h => h) ?_
    refine AV.done (by kernel_rfl) ?_
    refine KV.then_n (KV.env [(0, _), (38, _)] ⟨rfl, rfl, trivial⟩ (CV.cond_t rfl (CV.seq (CV.region ?_))))
    refine RV.a rfl rfl ?_
    refine RV.nil (KV.then_n (KV.env [(6, _)] ⟨rfl, trivial⟩ (CV.ret (KV.then_ret ?_))))
    refine KV.sel [0, 0] [_, _] rfl ?_
    exact KV.ret1 rfl rfl _ (fun _ h => h) (.inr ⟨by first | exact acc_end he | exact acc_no (by omega) (fun k => hk k.1) | exact acc_no (by omega) (fun k => hx k.2), rfl, rfl⟩)
   ·
    have hk := Decidable.not_not.1 (of_decide_eq_false cc2)
    refine AV.u 18 (bl 32 524287) rfl (gyes rfl) (Step.move rfl) rfl (fun _ h => h) ?_
    refine AV.u 19 (bl 32 1048575) rfl (gyes rfl) (Step.nilCheck rfl) rfl (fun _ h => h) ?_
    refine AV.u 20 (bl 32 2097151) rfl (gyes rfl) (Step.fieldAddr rfl (F121_0 _ _)) rfl (fun _ h => h) ?_
    refine AV.u 21 (bl 32 4194303) rfl (gyes rfl) (Step.load Tryz.underlying71 rfl rfl (fun w h => h.cell 0 rfl rfl)) rfl (fun _ h => h) ?_
    refine AV.u 22 (bl 32 8388607) rfl (gyes rfl) (Step.move rfl) rfl (fun _ h => h) ?_
    refine AV.u 23 (bl 32 16777215) rfl (gyes rfl) (Step.nilCheck rfl) rfl (fun _ h => h) ?_
    refine AV.u 24 (bl 32 33554431) rfl (gyes rfl) (Step.fieldAddr rfl (F121_1 _ _)) rfl (fun _ h => h) ?_
    refine AV.u 25 (bl 32 67108863) rfl (gyes rfl) (Step.load Tryz.underlying3 rfl rfl (fun w h => h.cell 0 rfl rfl)) rfl (fun _ h => h) ?_
    refine AV.u 26 (bl 32 134217727) rfl (gyes rfl) (Step.idx Tryz.underlying71 I114 (fun w h => h.os 1 rfl) rfl rfl (rfl) _ rfl (by omega)) rfl (fun _ h => h) ?_
    refine AV.u 27 (bl 32 268435455) rfl (gyes rfl) (Step.fieldAddr rfl (F114_1 _ _)) rfl (fun _ h => h) ?_
    refine AV.u 28 (bl 32 536870911) rfl (gyes rfl) (Step.load Tryz.underlying9 rfl rfl (fun w h => (h.os 1 rfl).cell (by omega) rfl)) rfl (fun _ h => h) ?_
    refine AV.u 29 (bl 32 1073741823) rfl (gyes rfl) (Step.move rfl) rfl (fun _ h => h) ?_
    refine AV.u 30 (bl 32 2147483647) rfl (gyes rfl) (Step.neqStr rfl rfl) rfl (fun _ h => h) ?_
    refine AV.u 31 (bl 32 4294967295) rfl gno (Step.pick_f rfl rfl) rfl (fun _ h => h) ?_
    refine AV.done (by kernel_rfl) ?_
    refine KV.then_n (KV.env [(0, _), (38, _)] ⟨rfl, rfl, trivial⟩ ?_)
    refine KV.cases 38 rfl (fun cc3 => ?_) (fun cc3 => ?_)
    ·
     have hx := of_decide_eq_true cc3
     refine CV.cond_t rfl (CV.seq (CV.region ?_))
     refine RV.a rfl rfl ?_
     refine RV.nil (KV.then_n (KV.env [(6, _)] ⟨rfl, trivial⟩ (CV.ret (KV.then_ret ?_))))
     refine KV.sel [0, 0] [_, _] rfl ?_
     exact KV.ret1 rfl rfl _ (fun _ h => h) (.inr ⟨by first | exact acc_end he | exact acc_no (by omega) (fun k => hk k.1) | exact acc_no (by omega) (fun k => hx k.2), rfl, rfl⟩)
    ·
     have hx := Decidable.not_not.1 (of_decide_eq_false cc3)
     refine CV.cond_f rfl (CV.skip (KV.then_n (KV.env [(0, _)] ⟨rfl, trivial⟩ (CV.seq (CV.region ?_)))))
     refine RV.m rfl rfl (RV.s (Step.nilCheck rfl) rfl (RV.s (Step.fieldAddr rfl (F121_1 _ _)) rfl (RV.s (Step.load Tryz.underlying3 rfl rfl (fun w h => h.cell 0 rfl rfl)) rfl ?_)))
     (first | refine RV.op (OV.step gno (Step.add rfl rfl (wI64 (by omega) (by omega))) rfl ?_) | refine RV.op (OV.step gno (Step.add rfl rfl rfl) rfl ?_))
     refine RV.s (Step.nilCheck rfl) rfl (RV.s (Step.fieldAddr rfl (F121_1 _ _)) rfl ?_)
     refine RV.op (OV.store 0 [_] #[_, _] I3 rfl rfl rfl rfl rfl (Nat.le_of_ble_eq_true rfl) (by simp [Value.oneCell']) rfl gno ?_)
     refine RV.nil (KV.then_n (KV.env [] trivial (CV.seq (CV.region ?_))))
     refine RV.a rfl rfl ?_
     refine RV.nil (KV.then_n (KV.env [(6, _)] ⟨rfl, trivial⟩ (CV.ret ?_)))
     refine KV.sel [0, 0] [_, _] rfl ?_
     exact KV.ret1 rfl rfl _ (fun _ h => h) (.inl ⟨acc_yes (by omega) ht hm hk hx, by omega, rfl, rfl⟩)

set_option maxRecDepth 100000 in
set_option maxHeartbeats 4000000 in
theorem number_fn {q : Nat} {A : Option Addr} {c i : Nat} {ts : List MT} {w : World} {b o : Nat} {cur : Array Value} {te : TypeId} (cs : Int → Array Value) (ho : o + 1 ≤ cur.size) (hcs : ∀ v, (cur.toList.take o ++ [Value.int .u64 v] ++ cur.toList.drop (o + 1)).toArray = cs v) (hi : i ≤ ts.length) (hl : ts.length ≤ 1000000) : Fx Tryz.prog 76 [.pointer (some ⟨q, 0, none⟩), .pointer (some ⟨b, o, none⟩)] w [Blk q (.cells #[.slice A ts.length c, .int .i64 (((i : Nat) : Int))] 121 (0, 0)), OS 114 tokK A c ts, Blk b (.cells cur te (0, 0))] no (fun v L => (∃ x, ts.drop i = .num x :: ts.drop (i + 1) ∧ i < ts.length ∧ v = .bool true ∧ L = [Blk q (.cells #[.slice A ts.length c, .int .i64 (((i + 1 : Nat) : Int))] 121 (0, 0)), OS 114 tokK A c ts, Blk b (.cells (cs x) te (0, 0))]) ∨ ((∀ x r, ts.drop i ≠ .num x :: r) ∧ v = .bool false ∧ L = [Blk q (.cells #[.slice A ts.length c, .int .i64 (((i : Nat) : Int))] 121 (0, 0)), OS 114 tokK A c ts, Blk b (.cells cur te (0, 0))])) := by
 refine Sv.Fx.body Tryz.func76 rfl T76 rfl ?_
 intro I hro hI
 refine KV.env [(0, _), (1, _)] ⟨rfl, rfl, trivial⟩ (CV.seq (CV.region ?_))
 refine RV.a rfl rfl ?_
 refine RV.nil (KV.then_n (KV.env [(0, _), (1, _)] ⟨rfl, rfl, trivial⟩ (CV.seq (CV.seq ?_))))
 refine CV.any (Hp I w [Blk q (.cells #[.slice A ts.length c, .int .i64 (((i : Nat) : Int))] 121 (0, 0)), OS 114 tokK A c ts, Blk b (.cells cur te (0, 0))]) (by kernel_rfl) (fun _ h => h.drew) 16 rfl ?_
 refine AV.u 0 (bl 16 1) rfl gno (Step.move rfl) rfl (fun _ h => h) ?_
 refine AV.all [1] (by kernel_rfl) (by decide) ?_
 refine ⟨⟨_, rfl, ?_⟩, trivial⟩
 ·
  refine OV.call [] (F := [_, _, _]) Tryz.func54 B54 N54 rfl rfl (fun w h => atEnd_fn (h.blk 0 rfl)) (fun _ hb => hb.elim) gno rfl (fun v L' hp => ?_)
  obtain ⟨rfl, rfl⟩ := hp
  simp only [List.append_nil]
  refine AV.next (bl 16 3) (by kernel_rfl) (fun _ h => h) ?_
  refine AV.u 2 (bl 16 7) rfl gno (Step.move rfl) rfl (fun _ h => h) ?_
  refine KV.cases 7 rfl (fun cc1 => ?_) (fun cc1 => ?_)
  ·
   have he := of_decide_eq_true cc1
   refine AV.takeSkip 3 (bl 16 15) rfl (by kernel_rfl) (by kernel_rfl) (by kernel_rfl) (fun _ _ _ h => h) rfl rfl (fun _ h => h) (by kernel_rfl) ?_
   refine AV.takeSkip 4 (bl 16 31) rfl (by kernel_rfl) (by kernel_rfl) (by kernel_rfl) (fun _ _ _ h => h) rfl rfl (fun _ h => h) (by kernel_rfl) ?_
   refine AV.takeSkip 5 (bl 16 63) rfl (by kernel_rfl) (by kernel_rfl) (by kernel_rfl) (fun _ _ _ h => h) rfl rfl (fun _ h => h) (by kernel_rfl) ?_
   refine AV.takeSkip 6 (bl 16 127) rfl (by kernel_rfl) (by kernel_rfl) (by kernel_rfl) (fun _ _ _ h => h) rfl rfl (fun _ h => h) (by kernel_rfl) ?_
   refine AV.takeSkip 7 (bl 16 255) rfl (by kernel_rfl) (by kernel_rfl) (by kernel_rfl) (fun _ _ _ h => h) rfl rfl (fun _ h => h) (by kernel_rfl) ?_
   refine AV.takeSkip 8 (bl 16 511) rfl (by kernel_rfl) (by kernel_rfl) (by kernel_rfl) (fun _ _ _ h => h) rfl rfl (fun _ h => h) (by kernel_rfl) ?_
   refine AV.takeSkip 9 (bl 16 1023) rfl (by kernel_rfl) (by kernel_rfl) (by kernel_rfl) (fun _ _ _ h => h) rfl rfl (fun _ h => h) (by kernel_rfl) ?_
   refine AV.takeSkip 10 (bl 16 2047) rfl (by kernel_rfl) (by kernel_rfl) (by kernel_rfl) (fun _ _ _ h => h) rfl rfl (fun _ h => h) (by kernel_rfl) ?_
   refine AV.takeSkip 11 (bl 16 4095) rfl (by kernel_rfl) (by kernel_rfl) (by kernel_rfl) (fun _ _ _ h => h) rfl rfl (fun _ h => h) (by kernel_rfl) ?_
   refine AV.takeSkip 12 (bl 16 8191) rfl (by kernel_rfl) (by kernel_rfl) (by kernel_rfl) (fun _ _ _ h => h) rfl rfl (fun _ h => h) (by kernel_rfl) ?_
   refine AV.takeSkip 13 (bl 16 16383) rfl (by kernel_rfl) (by kernel_rfl) (by kernel_rfl) (fun _ _ _ h => h) rfl rfl (fun _ h => h) (by kernel_rfl) ?_
   refine AV.takeSkip 14 (bl 16 32767) rfl (by kernel_rfl) (by kernel_rfl) (by kernel_rfl) (fun _ _ _ h => h) rfl rfl (fun _ h => h) (by kernel_rfl) ?_
   refine AV.u 15 (bl 16 65535) rfl gno (Step.pick_t rfl rfl) rfl (fun _ h => h) ?_
   refine AV.done (by kernel_rfl) ?_
   refine KV.then_n (KV.env [(0, _), (1, _), (20, _)] ⟨rfl, rfl, rfl, trivial⟩ (CV.cond_t rfl (CV.seq (CV.region ?_))))
   refine RV.a rfl rfl ?_
   refine RV.nil (KV.then_n (KV.env [(4, _)] ⟨rfl, trivial⟩ (CV.ret (KV.then_ret ?_))))
   refine KV.sel [0, 0, 0] [_, _, _] rfl ?_
   exact KV.ret1 rfl rfl _ (fun _ h => h) (.inr ⟨by first | exact num_end he | exact num_no (by omega) hk, rfl, rfl⟩)
  ·
   have he := of_decide_eq_false cc1
   refine AV.u 3 (bl 16 15) rfl (gyes rfl) (Step.move rfl) rfl (fun _ h => h) ?_
   refine AV.u 4 (bl 16 31) rfl (gyes rfl) (Step.nilCheck rfl) rfl (fun _ h => h) ?_
   refine AV.u 5 (bl 16 63) rfl (gyes rfl) (Step.fieldAddr rfl (F121_0 _ _)) rfl (fun _ h => h) ?_
   refine AV.u 6 (bl 16 127) rfl (gyes rfl) (Step.load Tryz.underlying71 rfl rfl (fun w h => h.cell 0 rfl rfl)) rfl (fun _ h => h) ?_
   refine AV.u 7 (bl 16 255) rfl (gyes rfl) (Step.move rfl) rfl (fun _ h => h) ?_
   refine AV.u 8 (bl 16 511) rfl (gyes rfl) (Step.nilCheck rfl) rfl (fun _ h => h) ?_
   refine AV.u 9 (bl 16 1023) rfl (gyes rfl) (Step.fieldAddr rfl (F121_1 _ _)) rfl (fun _ h => h) ?_
   refine AV.u 10 (bl 16 2047) rfl (gyes rfl) (Step.load Tryz.underlying3 rfl rfl (fun w h => h.cell 0 rfl rfl)) rfl (fun _ h => h) ?_
   refine AV.u 11 (bl 16 4095) rfl (gyes rfl) (Step.idx Tryz.underlying71 I114 (fun w h => h.os 1 rfl) rfl rfl (rfl) _ rfl (by omega)) rfl (fun _ h => h) ?_
   refine AV.u 12 (bl 16 8191) rfl (gyes rfl) (Step.fieldAddr rfl (F114_0 _ _)) rfl (fun _ h => h) ?_
   refine AV.u 13 (bl 16 16383) rfl (gyes rfl) (Step.load Tryz.underlying3 rfl rfl (fun w h => (h.os 1 rfl).cell0 (by omega) rfl)) rfl (fun _ h => h) ?_
   refine AV.u 14 (bl 16 32767) rfl (gyes rfl) (Step.neq rfl rfl) rfl (fun _ h => h) ?_
   refine AV.u 15 (bl 16 65535) rfl gno (Step.pick_f rfl rfl) rfl (fun _ h => h) ?_
   refine AV.done (by kernel_rfl) ?_
   refine KV.then_n (KV.env [(0, _), (1, _), (20, _)] ⟨rfl, rfl, rfl, trivial⟩ ?_)
   refine KV.cases 20 rfl (fun cc2 => ?_) (fun cc2 => ?_)
   ·
    have hk := of_decide_eq_true cc2
    refine CV.cond_t rfl (CV.seq (CV.region ?_))
    refine RV.a rfl rfl ?_
    refine RV.nil (KV.then_n (KV.env [(4, _)] ⟨rfl, trivial⟩ (CV.ret (KV.then_ret ?_))))
    refine KV.sel [0, 0, 0] [_, _, _] rfl ?_
    exact KV.ret1 rfl rfl _ (fun _ h => h) (.inr ⟨by first | exact num_end he | exact num_no (by omega) hk, rfl, rfl⟩)
   ·
    have hk := Decidable.not_not.1 (of_decide_eq_false cc2)
    refine CV.cond_f rfl (CV.skip (KV.then_n (KV.env [(0, _), (1, _)] ⟨rfl, rfl, trivial⟩ (CV.seq ?_))))
    refine CV.stillTail 13 (by kernel_rfl) (by kernel_rfl) (fun _ h => h.drew) ?_
    refine SV.step gno (Step.move rfl) rfl ?_
    refine SV.step gno (Step.move rfl) rfl ?_
    refine SV.step gno (Step.nilCheck rfl) rfl ?_
    refine SV.step gno (Step.fieldAddr rfl (F121_0 _ _)) rfl ?_
    refine SV.step gno (Step.load Tryz.underlying71 rfl rfl (fun w h => h.cell 0 rfl rfl)) rfl ?_
    refine SV.step gno (Step.move rfl) rfl ?_
    refine SV.step gno (Step.nilCheck rfl) rfl ?_
    refine SV.step gno (Step.fieldAddr rfl (F121_1 _ _)) rfl ?_
    refine SV.step gno (Step.load Tryz.underlying3 rfl rfl (fun w h => h.cell 0 rfl rfl)) rfl ?_
    refine SV.step gno (Step.idx Tryz.underlying71 I114 (fun w h => h.os 1 rfl) rfl rfl (rfl) _ rfl (by omega)) rfl ?_
    refine SV.step gno (Step.fieldAddr rfl (F114_2 _ _)) rfl ?_
    refine SV.step gno (Step.load Tryz.underlying43 rfl rfl (fun w h => (h.os 1 rfl).cell (by omega) rfl)) rfl ?_
    refine SV.step gno (Step.nilCheck rfl) rfl ?_
    refine SV.nil ?_
    show KV _ (wpList _ _ _ _) _ _
    refine RV.op (OV.store 2 [_] (cs _) I43 rfl rfl rfl rfl rfl ho (by simp [Value.oneCell']) (hcs _) gno ?_)
    refine RV.nil (KV.then_n (KV.env [(0, _)] ⟨rfl, trivial⟩ (CV.seq (CV.region ?_))))
    refine RV.m rfl rfl (RV.s (Step.nilCheck rfl) rfl (RV.s (Step.fieldAddr rfl (F121_1 _ _)) rfl (RV.s (Step.load Tryz.underlying3 rfl rfl (fun w h => h.cell 0 rfl rfl)) rfl ?_)))
    (first | refine RV.op (OV.step gno (Step.add rfl rfl (wI64 (by omega) (by omega))) rfl ?_) | refine RV.op (OV.step gno (Step.add rfl rfl rfl) rfl ?_))
    refine RV.s (Step.nilCheck rfl) rfl (RV.s (Step.fieldAddr rfl (F121_1 _ _)) rfl ?_)
    refine RV.op (OV.store 0 [_] #[_, _] I3 rfl rfl rfl rfl rfl (Nat.le_of_ble_eq_true rfl) (by simp [Value.oneCell']) rfl gno ?_)
    refine RV.nil (KV.then_n (KV.env [] trivial (CV.seq (CV.region ?_))))
    refine RV.a rfl rfl ?_
    refine RV.nil (KV.then_n (KV.env [(4, _)] ⟨rfl, trivial⟩ (CV.ret ?_)))
    refine KV.sel [0, 0, 0] [_, _, _] rfl ?_
    exact KV.ret1 rfl rfl _ (fun _ h => h) (.inl ⟨_, num_yes (by omega) hk, by omega, rfl, rfl⟩)
end Go.Proofs.YtplmfekhdaefaaaGreatDoor
