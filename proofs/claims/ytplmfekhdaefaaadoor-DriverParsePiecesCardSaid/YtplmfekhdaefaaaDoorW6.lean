/-
  Walks, part 6.
-/
import Derived.Test.YtplmfekhdaefaaaDoorTabA
import Derived.Test.YtplmfekhdaefaaaDoorW5
import Derived.Test.YtplmfekhdaefaaaDoorDmA
import Derived.Test.YtplmfekhdaefaaaDoorSvC
set_option linter.unusedSimpArgs false
set_option linter.unusedVariables false
namespace Go.Proofs.YtplmfekhdaefaaaDoor
open Go.Sv Go.Drv
set_option maxRecDepth 100000 in
set_option maxHeartbeats 1000000 in
theorem atEnd_fn {q : Nat} {A : Option Addr} {n c i : Nat} {w : World} (hq : w.heap[q]? = some (.cells #[.slice A n c, .int .i64 (i : Int)] 122 (0, 0))) : Fx Tryd.prog 61 [.pointer (some ⟨q, 0, none⟩)] w [] no (fun v L => v = .bool (decide (i = n)) ∧ L = []) := by
  refine Sv.Fx.body Tryd.func61 rfl T61 rfl ?_
  intro I hro hI
  refine KV.env [(0, _)] ⟨rfl, trivial⟩ (CV.seq (CV.region ?_))
  refine RV.op (OV.step gno (Step.assign rfl) rfl ?_)
  refine RV.nil (KV.then_n (KV.env [(0, _)] ⟨rfl, trivial⟩ (CV.seq ?_)))
  refine CV.any (Hp I w []) (by kernel_rfl) (fun _ h => h.drew) 11 rfl ?_
  refine AV.take 0 #[true, false, false, false, false, false, false, false, false, false, false] rfl (by kernel_rfl) (by kernel_rfl) (by kernel_rfl) (fun _ _ _ h => h) gno (Step.move rfl) rfl (fun _ h => h) (by kernel_rfl) ?_
  refine AV.take 1 #[true, true, false, false, false, false, false, false, false, false, false] rfl (by kernel_rfl) (by kernel_rfl) (by kernel_rfl) (fun _ _ _ h => h) gno (Step.nilCheck rfl) rfl (fun _ h => h) (by kernel_rfl) ?_
  refine AV.take 2 #[true, true, true, false, false, false, false, false, false, false, false] rfl (by kernel_rfl) (by kernel_rfl) (by kernel_rfl) (fun _ _ _ h => h) gno (Step.fieldAddr rfl (F122_1 _ _)) rfl (fun _ h => h) (by kernel_rfl) ?_
  refine AV.take 3 #[true, true, true, true, false, false, false, false, false, false, false] rfl (by kernel_rfl) (by kernel_rfl) (by kernel_rfl) (fun _ _ _ h => h) gno (Step.load Tryd.underlying3 rfl rfl (fun w h => (cell_of (h.ro hq (hI _)) 1).trans rfl)) rfl (fun _ h => h) (by kernel_rfl) ?_
  refine AV.take 4 #[true, true, true, true, true, false, false, false, false, false, false] rfl (by kernel_rfl) (by kernel_rfl) (by kernel_rfl) (fun _ _ _ h => h) gno (Step.move rfl) rfl (fun _ h => h) (by kernel_rfl) ?_
  refine AV.take 5 #[true, true, true, true, true, true, false, false, false, false, false] rfl (by kernel_rfl) (by kernel_rfl) (by kernel_rfl) (fun _ _ _ h => h) gno (Step.nilCheck rfl) rfl (fun _ h => h) (by kernel_rfl) ?_
  refine AV.take 6 #[true, true, true, true, true, true, true, false, false, false, false] rfl (by kernel_rfl) (by kernel_rfl) (by kernel_rfl) (fun _ _ _ h => h) gno (Step.fieldAddr rfl (F122_0 _ _)) rfl (fun _ h => h) (by kernel_rfl) ?_
  refine AV.take 7 #[true, true, true, true, true, true, true, true, false, false, false] rfl (by kernel_rfl) (by kernel_rfl) (by kernel_rfl) (fun _ _ _ h => h) gno (Step.load Tryd.underlying78 rfl rfl (fun w h => (cell_of (h.ro hq (hI _)) 0).trans rfl)) rfl (fun _ h => h) (by kernel_rfl) ?_
  refine AV.take 8 #[true, true, true, true, true, true, true, true, true, false, false] rfl (by kernel_rfl) (by kernel_rfl) (by kernel_rfl) (fun _ _ _ h => h) gno (Step.lenSl Tryd.underlying78 rfl) rfl (fun _ h => h) (by kernel_rfl) ?_
  refine AV.take 9 #[true, true, true, true, true, true, true, true, true, true, false] rfl (by kernel_rfl) (by kernel_rfl) (by kernel_rfl) (fun _ _ _ h => h) gno (Step.eql rfl rfl) rfl (fun _ h => h) (by kernel_rfl) ?_
  refine AV.take 10 #[true, true, true, true, true, true, true, true, true, true, true] rfl (by kernel_rfl) (by kernel_rfl) (by kernel_rfl) (fun _ _ _ h => h) gno (Step.assign rfl) rfl (fun _ h => h) (by kernel_rfl) ?_
  refine AV.done (by kernel_rfl) ?_
  refine KV.then_n (KV.env [(2, _)] ⟨rfl, trivial⟩ (CV.ret ?_))
  refine KV.sel [] [] rfl ?_
  exact KV.ret1 rfl rfl _ (fun _ h => h) ⟨by rw [show decide ((i : Int) = (n : Int)) = decide (i = n) from decide_eq_decide.2 (by omega)], rfl⟩

set_option maxRecDepth 100000 in
set_option maxHeartbeats 1000000 in
theorem name_fn {q : Nat} {A : Option Addr} {c i : Nat} {ts : List MT} {w : World} (hi : i ≤ ts.length) (hl : ts.length ≤ 1000000) : Fx Tryd.prog 60 [.pointer (some ⟨q, 0, none⟩)] w [Blk q (.cells #[.slice A ts.length c, .int .i64 (((i : Nat) : Int))] 122 (0, 0)), OS 115 tokK A c ts] no (fun v L => (∃ t, ts.drop i = .nm t :: ts.drop (i + 1) ∧ i < ts.length ∧ v = .tuple #[.string (bs t), .bool true] ∧ L = [Blk q (.cells #[.slice A ts.length c, .int .i64 (((i + 1 : Nat) : Int))] 122 (0, 0)), OS 115 tokK A c ts]) ∨ ((∀ t r, ts.drop i ≠ .nm t :: r) ∧ v = .tuple #[.string (bs []), .bool false] ∧ L = [Blk q (.cells #[.slice A ts.length c, .int .i64 (((i : Nat) : Int))] 122 (0, 0)), OS 115 tokK A c ts])) := by
  refine Sv.Fx.body Tryd.func60 rfl T60 rfl ?_
  intro I hro hI
  refine KV.env [(0, _)] ⟨rfl, trivial⟩ (CV.seq (CV.region ?_))
  refine RV.op (OV.step gno (Step.assign (v := .string (Sv.bs [])) rfl) rfl ?_)
  refine RV.op (OV.step gno (Step.assign rfl) rfl ?_)
  refine RV.nil (KV.then_n (KV.env [(0, _)] ⟨rfl, trivial⟩ (CV.seq (CV.seq ?_))))
  refine CV.any (Hp I w [Blk q (.cells #[.slice A ts.length c, .int .i64 (((i : Nat) : Int))] 122 (0, 0)), OS 115 tokK A c ts]) (by kernel_rfl) (fun _ h => h.drew) 16 rfl ?_
  refine AV.take 0 #[true, false, false, false, false, false, false, false, false, false, false, false, false, false, false, false] rfl (by kernel_rfl) (by kernel_rfl) (by kernel_rfl) (fun _ _ _ h => h) gno (Step.move rfl) rfl (fun _ h => h) (by kernel_rfl) ?_
  refine AV.all [1] (by kernel_rfl) (by decide) ?_
  refine ⟨⟨_, rfl, ?_⟩, trivial⟩
  · -- 1 comes up
    refine OV.call [] (F := [_, _]) Tryd.func61 B61 N61 rfl rfl (fun w h => atEnd_fn (h.blk 0 rfl)) (fun _ hb => hb.elim) gno rfl (fun v L' hp => ?_)
    obtain ⟨rfl, rfl⟩ := hp
    simp only [List.append_nil]
    refine AV.next #[true, true, false, false, false, false, false, false, false, false, false, false, false, false, false, false] (by kernel_rfl) (fun _ h => h) ?_
    refine AV.take 2 #[true, true, true, false, false, false, false, false, false, false, false, false, false, false, false, false] rfl (by kernel_rfl) (by kernel_rfl) (by kernel_rfl) (fun _ _ _ h => h) gno (Step.move rfl) rfl (fun _ h => h) (by kernel_rfl) ?_
    refine KV.cases 6 rfl (fun cc1 => ?_) (fun cc1 => ?_)
    · -- True
      have he := of_decide_eq_true cc1
      refine AV.takeSkip 3 #[true, true, true, true, false, false, false, false, false, false, false, false, false, false, false, false] rfl (by kernel_rfl) (by kernel_rfl) (by kernel_rfl) (fun _ _ _ h => h) rfl rfl (fun _ h => h) (by kernel_rfl) ?_
      refine AV.takeSkip 4 #[true, true, true, true, true, false, false, false, false, false, false, false, false, false, false, false] rfl (by kernel_rfl) (by kernel_rfl) (by kernel_rfl) (fun _ _ _ h => h) rfl rfl (fun _ h => h) (by kernel_rfl) ?_
      refine AV.takeSkip 5 #[true, true, true, true, true, true, false, false, false, false, false, false, false, false, false, false] rfl (by kernel_rfl) (by kernel_rfl) (by kernel_rfl) (fun _ _ _ h => h) rfl rfl (fun _ h => h) (by kernel_rfl) ?_
      refine AV.takeSkip 6 #[true, true, true, true, true, true, true, false, false, false, false, false, false, false, false, false] rfl (by kernel_rfl) (by kernel_rfl) (by kernel_rfl) (fun _ _ _ h => h) rfl rfl (fun _ h => h) (by kernel_rfl) ?_
      refine AV.takeSkip 7 #[true, true, true, true, true, true, true, true, false, false, false, false, false, false, false, false] rfl (by kernel_rfl) (by kernel_rfl) (by kernel_rfl) (fun _ _ _ h => h) rfl rfl (fun _ h => h) (by kernel_rfl) ?_
      refine AV.takeSkip 8 #[true, true, true, true, true, true, true, true, true, false, false, false, false, false, false, false] rfl (by kernel_rfl) (by kernel_rfl) (by kernel_rfl) (fun _ _ _ h => h) rfl rfl (fun _ h => h) (by kernel_rfl) ?_
      refine AV.takeSkip 9 #[true, true, true, true, true, true, true, true, true, true, false, false, false, false, false, false] rfl (by kernel_rfl) (by kernel_rfl) (by kernel_rfl) (fun _ _ _ h => h) rfl rfl (fun _ h => h) (by kernel_rfl) ?_
      refine AV.takeSkip 10 #[true, true, true, true, true, true, true, true, true, true, true, false, false, false, false, false] rfl (by kernel_rfl) (by kernel_rfl) (by kernel_rfl) (fun _ _ _ h => h) rfl rfl (fun _ h => h) (by kernel_rfl) ?_
      refine AV.takeSkip 11 #[true, true, true, true, true, true, true, true, true, true, true, true, false, false, false, false] rfl (by kernel_rfl) (by kernel_rfl) (by kernel_rfl) (fun _ _ _ h => h) rfl rfl (fun _ h => h) (by kernel_rfl) ?_
      refine AV.takeSkip 12 #[true, true, true, true, true, true, true, true, true, true, true, true, true, false, false, false] rfl (by kernel_rfl) (by kernel_rfl) (by kernel_rfl) (fun _ _ _ h => h) rfl rfl (fun _ h => h) (by kernel_rfl) ?_
      refine AV.takeSkip 13 #[true, true, true, true, true, true, true, true, true, true, true, true, true, true, false, false] rfl (by kernel_rfl) (by kernel_rfl) (by kernel_rfl) (fun _ _ _ h => h) rfl rfl (fun _ h => h) (by kernel_rfl) ?_
      refine AV.takeSkip 14 #[true, true, true, true, true, true, true, true, true, true, true, true, true, true, true, false] rfl (by kernel_rfl) (by kernel_rfl) (by kernel_rfl) (fun _ _ _ h => h) rfl rfl (fun _ h => h) (by kernel_rfl) ?_
      refine AV.take 15 #[true, true, true, true, true, true, true, true, true, true, true, true, true, true, true, true] rfl (by kernel_rfl) (by kernel_rfl) (by kernel_rfl) (fun _ _ _ h => h) gno (Step.pick_t rfl rfl) rfl (fun _ h => h) (by kernel_rfl) ?_
      refine AV.done (by kernel_rfl) ?_
      refine KV.then_n (KV.env [(0, _), (19, _)] ⟨rfl, rfl, trivial⟩ (CV.cond_t rfl (CV.seq (CV.region ?_))))
      refine RV.op (OV.step gno (Step.assign (v := .string (Sv.bs [])) rfl) rfl ?_)
      refine RV.op (OV.step gno (Step.assign rfl) rfl ?_)
      refine RV.nil (KV.then_n (KV.env [(2, _), (3, _)] ⟨rfl, rfl, trivial⟩ (CV.ret (KV.then_ret ?_))))
      refine KV.sel [0, 0] [_, _] rfl ?_
      exact KV.ret2 rfl rfl rfl _ (fun _ h => h) (.inr ⟨by first | exact nm_end he | exact nm_no (by omega) hk, rfl, rfl⟩)
    · -- False
      have he := of_decide_eq_false cc1
      refine AV.take 3 #[true, true, true, true, false, false, false, false, false, false, false, false, false, false, false, false] rfl (by kernel_rfl) (by kernel_rfl) (by kernel_rfl) (fun _ _ _ h => h) (gyes rfl) (Step.move rfl) rfl (fun _ h => h) (by kernel_rfl) ?_
      refine AV.take 4 #[true, true, true, true, true, false, false, false, false, false, false, false, false, false, false, false] rfl (by kernel_rfl) (by kernel_rfl) (by kernel_rfl) (fun _ _ _ h => h) (gyes rfl) (Step.nilCheck rfl) rfl (fun _ h => h) (by kernel_rfl) ?_
      refine AV.take 5 #[true, true, true, true, true, true, false, false, false, false, false, false, false, false, false, false] rfl (by kernel_rfl) (by kernel_rfl) (by kernel_rfl) (fun _ _ _ h => h) (gyes rfl) (Step.fieldAddr rfl (F122_0 _ _)) rfl (fun _ h => h) (by kernel_rfl) ?_
      refine AV.take 6 #[true, true, true, true, true, true, true, false, false, false, false, false, false, false, false, false] rfl (by kernel_rfl) (by kernel_rfl) (by kernel_rfl) (fun _ _ _ h => h) (gyes rfl) (Step.load Tryd.underlying78 rfl rfl (fun w h => h.cell 0 rfl rfl)) rfl (fun _ h => h) (by kernel_rfl) ?_
      refine AV.take 7 #[true, true, true, true, true, true, true, true, false, false, false, false, false, false, false, false] rfl (by kernel_rfl) (by kernel_rfl) (by kernel_rfl) (fun _ _ _ h => h) (gyes rfl) (Step.move rfl) rfl (fun _ h => h) (by kernel_rfl) ?_
      refine AV.take 8 #[true, true, true, true, true, true, true, true, true, false, false, false, false, false, false, false] rfl (by kernel_rfl) (by kernel_rfl) (by kernel_rfl) (fun _ _ _ h => h) (gyes rfl) (Step.nilCheck rfl) rfl (fun _ h => h) (by kernel_rfl) ?_
      refine AV.take 9 #[true, true, true, true, true, true, true, true, true, true, false, false, false, false, false, false] rfl (by kernel_rfl) (by kernel_rfl) (by kernel_rfl) (fun _ _ _ h => h) (gyes rfl) (Step.fieldAddr rfl (F122_1 _ _)) rfl (fun _ h => h) (by kernel_rfl) ?_
      refine AV.take 10 #[true, true, true, true, true, true, true, true, true, true, true, false, false, false, false, false] rfl (by kernel_rfl) (by kernel_rfl) (by kernel_rfl) (fun _ _ _ h => h) (gyes rfl) (Step.load Tryd.underlying3 rfl rfl (fun w h => h.cell 0 rfl rfl)) rfl (fun _ h => h) (by kernel_rfl) ?_
      refine AV.take 11 #[true, true, true, true, true, true, true, true, true, true, true, true, false, false, false, false] rfl (by kernel_rfl) (by kernel_rfl) (by kernel_rfl) (fun _ _ _ h => h) (gyes rfl) (Step.idx Tryd.underlying78 I115 (fun w h => h.os 1 rfl) rfl rfl (rfl) _ rfl (by omega)) rfl (fun _ h => h) (by kernel_rfl) ?_
      refine AV.take 12 #[true, true, true, true, true, true, true, true, true, true, true, true, true, false, false, false] rfl (by kernel_rfl) (by kernel_rfl) (by kernel_rfl) (fun _ _ _ h => h) (gyes rfl) (Step.fieldAddr rfl (F115_0 _ _)) rfl (fun _ h => h) (by kernel_rfl) ?_
      refine AV.take 13 #[true, true, true, true, true, true, true, true, true, true, true, true, true, true, false, false] rfl (by kernel_rfl) (by kernel_rfl) (by kernel_rfl) (fun _ _ _ h => h) (gyes rfl) (Step.load Tryd.underlying3 rfl rfl (fun w h => (h.os 1 rfl).cell0 (by omega) rfl)) rfl (fun _ h => h) (by kernel_rfl) ?_
      refine AV.take 14 #[true, true, true, true, true, true, true, true, true, true, true, true, true, true, true, false] rfl (by kernel_rfl) (by kernel_rfl) (by kernel_rfl) (fun _ _ _ h => h) (gyes rfl) (Step.neq rfl rfl) rfl (fun _ h => h) (by kernel_rfl) ?_
      refine AV.take 15 #[true, true, true, true, true, true, true, true, true, true, true, true, true, true, true, true] rfl (by kernel_rfl) (by kernel_rfl) (by kernel_rfl) (fun _ _ _ h => h) gno (Step.pick_f rfl rfl) rfl (fun _ h => h) (by kernel_rfl) ?_
      refine AV.done (by kernel_rfl) ?_
      refine KV.then_n (KV.env [(0, _), (19, _)] ⟨rfl, rfl, trivial⟩ ?_)
      refine KV.cases 19 rfl (fun cc2 => ?_) (fun cc2 => ?_)
      · -- True
        have hk := of_decide_eq_true cc2
        refine CV.cond_t rfl (CV.seq (CV.region ?_))
        refine RV.op (OV.step gno (Step.assign (v := .string (Sv.bs [])) rfl) rfl ?_)
        refine RV.op (OV.step gno (Step.assign rfl) rfl ?_)
        refine RV.nil (KV.then_n (KV.env [(2, _), (3, _)] ⟨rfl, rfl, trivial⟩ (CV.ret (KV.then_ret ?_))))
        refine KV.sel [0, 0] [_, _] rfl ?_
        exact KV.ret2 rfl rfl rfl _ (fun _ h => h) (.inr ⟨by first | exact nm_end he | exact nm_no (by omega) hk, rfl, rfl⟩)
      · -- False
        have hk := Decidable.not_not.1 (of_decide_eq_false cc2)
        refine CV.cond_f rfl (CV.skip (KV.then_n (KV.env [(0, _)] ⟨rfl, trivial⟩ (CV.seq (CV.region ?_)))))
        refine RV.op (OV.step gno (Step.move rfl) rfl ?_)
        refine RV.op (OV.step gno (Step.nilCheck rfl) rfl ?_)
        refine RV.op (OV.step gno (Step.fieldAddr rfl (F122_1 _ _)) rfl ?_)
        refine RV.op (OV.step gno (Step.load Tryd.underlying3 rfl rfl (fun w h => h.cell 0 rfl rfl)) rfl ?_)
        (first | refine RV.op (OV.step gno (Step.add rfl rfl (wI64 (by omega) (by omega))) rfl ?_) | refine RV.op (OV.step gno (Step.add rfl rfl rfl) rfl ?_))
        refine RV.op (OV.step gno (Step.nilCheck rfl) rfl ?_)
        refine RV.op (OV.step gno (Step.fieldAddr rfl (F122_1 _ _)) rfl ?_)
        refine RV.op (OV.store 0 [_] #[_, _] I3 rfl rfl rfl rfl rfl (Nat.le_of_ble_eq_true rfl) (by simp [Value.oneCell']) rfl gno ?_)
        refine RV.nil (KV.then_n (KV.env [(0, _)] ⟨rfl, trivial⟩ (CV.seq ?_)))
        refine CV.still (by kernel_rfl) (by kernel_rfl) (fun _ h => h.drew) ?_
        refine SV.step gno (Step.move rfl) rfl ?_
        refine SV.step gno (Step.nilCheck rfl) rfl ?_
        refine SV.step gno (Step.fieldAddr rfl (F122_0 _ _)) rfl ?_
        refine SV.step gno (Step.load Tryd.underlying78 rfl rfl (fun w h => h.cell 0 rfl rfl)) rfl ?_
        refine SV.step gno (Step.move rfl) rfl ?_
        refine SV.step gno (Step.nilCheck rfl) rfl ?_
        refine SV.step gno (Step.fieldAddr rfl (F122_1 _ _)) rfl ?_
        refine SV.step gno (Step.load Tryd.underlying3 rfl rfl (fun w h => h.cell 0 rfl rfl)) rfl ?_
        (first | refine SV.step gno (Step.sub rfl rfl (wI64 (by omega) (by omega))) rfl ?_ | refine SV.step gno (Step.sub rfl rfl rfl) rfl ?_)
        refine SV.step gno (Step.idx Tryd.underlying78 I115 (fun w h => h.os 1 rfl) rfl rfl (rfl) _ (show ((i : Int) + 1) - 1 = ((i : Nat) : Int) by omega) (by omega)) rfl ?_
        refine SV.step gno (Step.fieldAddr rfl (F115_1 _ _)) rfl ?_
        refine SV.step gno (Step.load Tryd.underlying9 rfl rfl (fun w h => (h.os 1 rfl).cell (by omega) rfl)) rfl ?_
        refine SV.step gno (Step.assign rfl) rfl ?_
        refine SV.step gno (Step.assign rfl) rfl ?_
        refine SV.nil (KV.then_n (KV.env [(2, _), (3, _)] ⟨rfl, rfl, trivial⟩ (CV.ret ?_)))
        refine KV.sel [0, 0] [_, _] rfl ?_
        exact KV.ret2 rfl rfl rfl _ (fun _ h => h) (.inl ⟨_, nm_yes (by omega) hk, by omega, rfl, rfl⟩)

set_option maxRecDepth 100000 in
set_option maxHeartbeats 4000000 in
theorem accept_fn (m : MT) {q : Nat} {A : Option Addr} {c i : Nat} {ts : List MT} {w : World} (hm : okS m) (ht : ∀ x ∈ ts, tkOk x) (hi : i ≤ ts.length) (hl : ts.length ≤ 1000000) : Fx Tryd.prog 79 [.pointer (some ⟨q, 0, none⟩), .int .i64 (tkind m), .string (bs (ttext m))] w [Blk q (.cells #[.slice A ts.length c, .int .i64 (((i : Nat) : Int))] 122 (0, 0)), OS 115 tokK A c ts] no (fun v L => (ts.drop i = m :: ts.drop (i + 1) ∧ i < ts.length ∧ v = .bool true ∧ L = [Blk q (.cells #[.slice A ts.length c, .int .i64 (((i + 1 : Nat) : Int))] 122 (0, 0)), OS 115 tokK A c ts]) ∨ ((∀ r, ts.drop i ≠ m :: r) ∧ v = .bool false ∧ L = [Blk q (.cells #[.slice A ts.length c, .int .i64 (((i : Nat) : Int))] 122 (0, 0)), OS 115 tokK A c ts])) := by
  refine Sv.Fx.body Tryd.func79 rfl T79 rfl ?_
  intro I hro hI
  refine KV.env [(0, _), (1, _), (2, _)] ⟨rfl, rfl, rfl, trivial⟩ (CV.seq (CV.region ?_))
  refine RV.op (OV.step gno (Step.assign rfl) rfl ?_)
  refine RV.nil (KV.then_n (KV.env [(0, _), (1, _), (2, _)] ⟨rfl, rfl, rfl, trivial⟩ (CV.seq (CV.seq ?_))))
  refine CV.any (Hp I w [Blk q (.cells #[.slice A ts.length c, .int .i64 (((i : Nat) : Int))] 122 (0, 0)), OS 115 tokK A c ts]) (by kernel_rfl) (fun _ h => h.drew) 32 rfl ?_
  refine AV.take 0 #[true, false, false, false, false, false, false, false, false, false, false, false, false, false, false, false, false, false, false, false, false, false, false, false, false, false, false, false, false, false, false, false] rfl (by kernel_rfl) (by kernel_rfl) (by kernel_rfl) (fun _ _ _ h => h) gno (Step.move rfl) rfl (fun _ h => h) (by kernel_rfl) ?_
  refine AV.all [1] (by kernel_rfl) (by decide) ?_
  refine ⟨⟨_, rfl, ?_⟩, trivial⟩
  · -- 1 comes up
    refine OV.call [] (F := [_, _]) Tryd.func61 B61 N61 rfl rfl (fun w h => atEnd_fn (h.blk 0 rfl)) (fun _ hb => hb.elim) gno rfl (fun v L' hp => ?_)
    obtain ⟨rfl, rfl⟩ := hp
    simp only [List.append_nil]
    refine AV.next #[true, true, false, false, false, false, false, false, false, false, false, false, false, false, false, false, false, false, false, false, false, false, false, false, false, false, false, false, false, false, false, false] (by kernel_rfl) (fun _ h => h) ?_
    refine AV.take 2 #[true, true, true, false, false, false, false, false, false, false, false, false, false, false, false, false, false, false, false, false, false, false, false, false, false, false, false, false, false, false, false, false] rfl (by kernel_rfl) (by kernel_rfl) (by kernel_rfl) (fun _ _ _ h => h) gno (Step.move rfl) rfl (fun _ h => h) (by kernel_rfl) ?_
    refine KV.cases 9 rfl (fun cc1 => ?_) (fun cc1 => ?_)
    · -- True
      have he := of_decide_eq_true cc1
      refine AV.takeSkip 3 #[true, true, true, true, false, false, false, false, false, false, false, false, false, false, false, false, false, false, false, false, false, false, false, false, false, false, false, false, false, false, false, false] rfl (by kernel_rfl) (by kernel_rfl) (by kernel_rfl) (fun _ _ _ h => h) rfl rfl (fun _ h => h) (by kernel_rfl) ?_
      refine AV.takeSkip 4 #[true, true, true, true, true, false, false, false, false, false, false, false, false, false, false, false, false, false, false, false, false, false, false, false, false, false, false, false, false, false, false, false] rfl (by kernel_rfl) (by kernel_rfl) (by kernel_rfl) (fun _ _ _ h => h) rfl rfl (fun _ h => h) (by kernel_rfl) ?_
      refine AV.takeSkip 5 #[true, true, true, true, true, true, false, false, false, false, false, false, false, false, false, false, false, false, false, false, false, false, false, false, false, false, false, false, false, false, false, false] rfl (by kernel_rfl) (by kernel_rfl) (by kernel_rfl) (fun _ _ _ h => h) rfl rfl (fun _ h => h) (by kernel_rfl) ?_
      refine AV.takeSkip 6 #[true, true, true, true, true, true, true, false, false, false, false, false, false, false, false, false, false, false, false, false, false, false, false, false, false, false, false, false, false, false, false, false] rfl (by kernel_rfl) (by kernel_rfl) (by kernel_rfl) (fun _ _ _ h => h) rfl rfl (fun _ h => h) (by kernel_rfl) ?_
      refine AV.takeSkip 7 #[true, true, true, true, true, true, true, true, false, false, false, false, false, false, false, false, false, false, false, false, false, false, false, false, false, false, false, false, false, false, false, false] rfl (by kernel_rfl) (by kernel_rfl) (by kernel_rfl) (fun _ _ _ h => h) rfl rfl (fun _ h => h) (by kernel_rfl) ?_
      refine AV.takeSkip 8 #[true, true, true, true, true, true, true, true, true, false, false, false, false, false, false, false, false, false, false, false, false, false, false, false, false, false, false, false, false, false, false, false] rfl (by kernel_rfl) (by kernel_rfl) (by kernel_rfl) (fun _ _ _ h => h) rfl rfl (fun _ h => h) (by kernel_rfl) ?_
      refine AV.takeSkip 9 #[true, true, true, true, true, true, true, true, true, true, false, false, false, false, false, false, false, false, false, false, false, false, false, false, false, false, false, false, false, false, false, false] rfl (by kernel_rfl) (by kernel_rfl) (by kernel_rfl) (fun _ _ _ h => h) rfl rfl (fun _ h => h) (by kernel_rfl) ?_
      refine AV.takeSkip 10 #[true, true, true, true, true, true, true, true, true, true, true, false, false, false, false, false, false, false, false, false, false, false, false, false, false, false, false, false, false, false, false, false] rfl (by kernel_rfl) (by kernel_rfl) (by kernel_rfl) (fun _ _ _ h => h) rfl rfl (fun _ h => h) (by kernel_rfl) ?_
      refine AV.takeSkip 11 #[true, true, true, true, true, true, true, true, true, true, true, true, false, false, false, false, false, false, false, false, false, false, false, false, false, false, false, false, false, false, false, false] rfl (by kernel_rfl) (by kernel_rfl) (by kernel_rfl) (fun _ _ _ h => h) rfl rfl (fun _ h => h) (by kernel_rfl) ?_
      refine AV.takeSkip 12 #[true, true, true, true, true, true, true, true, true, true, true, true, true, false, false, false, false, false, false, false, false, false, false, false, false, false, false, false, false, false, false, false] rfl (by kernel_rfl) (by kernel_rfl) (by kernel_rfl) (fun _ _ _ h => h) rfl rfl (fun _ h => h) (by kernel_rfl) ?_
      refine AV.takeSkip 13 #[true, true, true, true, true, true, true, true, true, true, true, true, true, true, false, false, false, false, false, false, false, false, false, false, false, false, false, false, false, false, false, false] rfl (by kernel_rfl) (by kernel_rfl) (by kernel_rfl) (fun _ _ _ h => h) rfl rfl (fun _ h => h) (by kernel_rfl) ?_
      refine AV.takeSkip 14 #[true, true, true, true, true, true, true, true, true, true, true, true, true, true, true, false, false, false, false, false, false, false, false, false, false, false, false, false, false, false, false, false] rfl (by kernel_rfl) (by kernel_rfl) (by kernel_rfl) (fun _ _ _ h => h) rfl rfl (fun _ h => h) (by kernel_rfl) ?_
      refine AV.takeSkip 15 #[true, true, true, true, true, true, true, true, true, true, true, true, true, true, true, true, false, false, false, false, false, false, false, false, false, false, false, false, false, false, false, false] rfl (by kernel_rfl) (by kernel_rfl) (by kernel_rfl) (fun _ _ _ h => h) rfl rfl (fun _ h => h) (by kernel_rfl) ?_
      refine AV.take 16 #[true, true, true, true, true, true, true, true, true, true, true, true, true, true, true, true, true, false, false, false, false, false, false, false, false, false, false, false, false, false, false, false] rfl (by kernel_rfl) (by kernel_rfl) (by kernel_rfl) (fun _ _ _ h => h) gno (Step.pick_t rfl rfl) rfl (fun _ h => h) (by kernel_rfl) ?_
      refine AV.take 17 #[true, true, true, true, true, true, true, true, true, true, true, true, true, true, true, true, true, true, false, false, false, false, false, false, false, false, false, false, false, false, false, false] rfl (by kernel_rfl) (by kernel_rfl) (by kernel_rfl) (fun _ _ _ h => h) gno (Step.move rfl) rfl (fun _ h => h) (by kernel_rfl) ?_
      refine AV.takeSkip 18 #[true, true, true, true, true, true, true, true, true, true, true, true, true, true, true, true, true, true, true, false, false, false, false, false, false, false, false, false, false, false, false, false] rfl (by kernel_rfl) (by kernel_rfl) (by kernel_rfl) (fun _ _ _ h => h) rfl rfl (fun _ h => h) (by kernel_rfl) ?_
      refine AV.takeSkip 19 #[true, true, true, true, true, true, true, true, true, true, true, true, true, true, true, true, true, true, true, true, false, false, false, false, false, false, false, false, false, false, false, false] rfl (by kernel_rfl) (by kernel_rfl) (by kernel_rfl) (fun _ _ _ h => h) rfl rfl (fun _ h => h) (by kernel_rfl) ?_
      refine AV.takeSkip 20 #[true, true, true, true, true, true, true, true, true, true, true, true, true, true, true, true, true, true, true, true, true, false, false, false, false, false, false, false, false, false, false, false] rfl (by kernel_rfl) (by kernel_rfl) (by kernel_rfl) (fun _ _ _ h => h) rfl rfl (fun _ h => h) (by kernel_rfl) ?_
      refine AV.takeSkip 21 #[true, true, true, true, true, true, true, true, true, true, true, true, true, true, true, true, true, true, true, true, true, true, false, false, false, false, false, false, false, false, false, false] rfl (by kernel_rfl) (by kernel_rfl) (by kernel_rfl) (fun _ _ _ h => h) rfl rfl (fun _ h => h) (by kernel_rfl) ?_
      refine AV.takeSkip 22 #[true, true, true, true, true, true, true, true, true, true, true, true, true, true, true, true, true, true, true, true, true, true, true, false, false, false, false, false, false, false, false, false] rfl (by kernel_rfl) (by kernel_rfl) (by kernel_rfl) (fun _ _ _ h => h) rfl rfl (fun _ h => h) (by kernel_rfl) ?_
      refine AV.takeSkip 23 #[true, true, true, true, true, true, true, true, true, true, true, true, true, true, true, true, true, true, true, true, true, true, true, true, false, false, false, false, false, false, false, false] rfl (by kernel_rfl) (by kernel_rfl) (by kernel_rfl) (fun _ _ _ h => h) rfl rfl (fun _ h => h) (by kernel_rfl) ?_
      refine AV.takeSkip 24 #[true, true, true, true, true, true, true, true, true, true, true, true, true, true, true, true, true, true, true, true, true, true, true, true, true, false, false, false, false, false, false, false] rfl (by kernel_rfl) (by kernel_rfl) (by kernel_rfl) (fun _ _ _ h => h) rfl rfl (fun _ h => h) (by kernel_rfl) ?_
      refine AV.takeSkip 25 #[true, true, true, true, true, true, true, true, true, true, true, true, true, true, true, true, true, true, true, true, true, true, true, true, true, true, false, false, false, false, false, false] rfl (by kernel_rfl) (by kernel_rfl) (by kernel_rfl) (fun _ _ _ h => h) rfl rfl (fun _ h => h) (by kernel_rfl) ?_
      refine AV.takeSkip 26 #[true, true, true, true, true, true, true, true, true, true, true, true, true, true, true, true, true, true, true, true, true, true, true, true, true, true, true, false, false, false, false, false] rfl (by kernel_rfl) (by kernel_rfl) (by kernel_rfl) (fun _ _ _ h => h) rfl rfl (fun _ h => h) (by kernel_rfl) ?_
      refine AV.takeSkip 27 #[true, true, true, true, true, true, true, true, true, true, true, true, true, true, true, true, true, true, true, true, true, true, true, true, true, true, true, true, false, false, false, false] rfl (by kernel_rfl) (by kernel_rfl) (by kernel_rfl) (fun _ _ _ h => h) rfl rfl (fun _ h => h) (by kernel_rfl) ?_
      refine AV.takeSkip 28 #[true, true, true, true, true, true, true, true, true, true, true, true, true, true, true, true, true, true, true, true, true, true, true, true, true, true, true, true, true, false, false, false] rfl (by kernel_rfl) (by kernel_rfl) (by kernel_rfl) (fun _ _ _ h => h) rfl rfl (fun _ h => h) (by kernel_rfl) ?_
      refine AV.takeSkip 29 #[true, true, true, true, true, true, true, true, true, true, true, true, true, true, true, true, true, true, true, true, true, true, true, true, true, true, true, true, true, true, false, false] rfl (by kernel_rfl) (by kernel_rfl) (by kernel_rfl) (fun _ _ _ h => h) rfl rfl (fun _ h => h) (by kernel_rfl) ?_
      refine AV.takeSkip 30 #[true, true, true, true, true, true, true, true, true, true, true, true, true, true, true, true, true, true, true, true, true, true, true, true, true, true, true, true, true, true, true, false] rfl (by kernel_rfl) (by kernel_rfl) (by kernel_rfl) (fun _ _ _ h => h) rfl rfl (fun _ h => h) (by kernel_rfl) ?_
      refine AV.take 31 #[true, true, true, true, true, true, true, true, true, true, true, true, true, true, true, true, true, true, true, true, true, true, true, true, true, true, true, true, true, true, true, true] rfl (by kernel_rfl) (by kernel_rfl) (by kernel_rfl) (fun _ _ _ h => h) gno (Step.pick_t rfl rfl) rfl (fun _ h => h) (by kernel_rfl) ?_
      refine AV.done (by kernel_rfl) ?_
      refine KV.then_n (KV.env [(0, _), (38, _)] ⟨rfl, rfl, trivial⟩ (CV.cond_t rfl (CV.seq (CV.region ?_))))
      refine RV.op (OV.step gno (Step.assign rfl) rfl ?_)
      refine RV.nil (KV.then_n (KV.env [(6, _)] ⟨rfl, trivial⟩ (CV.ret (KV.then_ret ?_))))
      refine KV.sel [0, 0] [_, _] rfl ?_
      exact KV.ret1 rfl rfl _ (fun _ h => h) (.inr ⟨by first | exact acc_end he | exact acc_no (by omega) (fun k => hk k.1) | exact acc_no (by omega) (fun k => hx k.2), rfl, rfl⟩)
    · -- False
      have he := of_decide_eq_false cc1
      refine AV.take 3 #[true, true, true, true, false, false, false, false, false, false, false, false, false, false, false, false, false, false, false, false, false, false, false, false, false, false, false, false, false, false, false, false] rfl (by kernel_rfl) (by kernel_rfl) (by kernel_rfl) (fun _ _ _ h => h) (gyes rfl) (Step.move rfl) rfl (fun _ h => h) (by kernel_rfl) ?_
      refine AV.take 4 #[true, true, true, true, true, false, false, false, false, false, false, false, false, false, false, false, false, false, false, false, false, false, false, false, false, false, false, false, false, false, false, false] rfl (by kernel_rfl) (by kernel_rfl) (by kernel_rfl) (fun _ _ _ h => h) (gyes rfl) (Step.nilCheck rfl) rfl (fun _ h => h) (by kernel_rfl) ?_
      refine AV.take 5 #[true, true, true, true, true, true, false, false, false, false, false, false, false, false, false, false, false, false, false, false, false, false, false, false, false, false, false, false, false, false, false, false] rfl (by kernel_rfl) (by kernel_rfl) (by kernel_rfl) (fun _ _ _ h => h) (gyes rfl) (Step.fieldAddr rfl (F122_0 _ _)) rfl (fun _ h => h) (by kernel_rfl) ?_
      refine AV.take 6 #[true, true, true, true, true, true, true, false, false, false, false, false, false, false, false, false, false, false, false, false, false, false, false, false, false, false, false, false, false, false, false, false] rfl (by kernel_rfl) (by kernel_rfl) (by kernel_rfl) (fun _ _ _ h => h) (gyes rfl) (Step.load Tryd.underlying78 rfl rfl (fun w h => h.cell 0 rfl rfl)) rfl (fun _ h => h) (by kernel_rfl) ?_
      refine AV.take 7 #[true, true, true, true, true, true, true, true, false, false, false, false, false, false, false, false, false, false, false, false, false, false, false, false, false, false, false, false, false, false, false, false] rfl (by kernel_rfl) (by kernel_rfl) (by kernel_rfl) (fun _ _ _ h => h) (gyes rfl) (Step.move rfl) rfl (fun _ h => h) (by kernel_rfl) ?_
      refine AV.take 8 #[true, true, true, true, true, true, true, true, true, false, false, false, false, false, false, false, false, false, false, false, false, false, false, false, false, false, false, false, false, false, false, false] rfl (by kernel_rfl) (by kernel_rfl) (by kernel_rfl) (fun _ _ _ h => h) (gyes rfl) (Step.nilCheck rfl) rfl (fun _ h => h) (by kernel_rfl) ?_
      refine AV.take 9 #[true, true, true, true, true, true, true, true, true, true, false, false, false, false, false, false, false, false, false, false, false, false, false, false, false, false, false, false, false, false, false, false] rfl (by kernel_rfl) (by kernel_rfl) (by kernel_rfl) (fun _ _ _ h => h) (gyes rfl) (Step.fieldAddr rfl (F122_1 _ _)) rfl (fun _ h => h) (by kernel_rfl) ?_
      refine AV.take 10 #[true, true, true, true, true, true, true, true, true, true, true, false, false, false, false, false, false, false, false, false, false, false, false, false, false, false, false, false, false, false, false, false] rfl (by kernel_rfl) (by kernel_rfl) (by kernel_rfl) (fun _ _ _ h => h) (gyes rfl) (Step.load Tryd.underlying3 rfl rfl (fun w h => h.cell 0 rfl rfl)) rfl (fun _ h => h) (by kernel_rfl) ?_
      refine AV.take 11 #[true, true, true, true, true, true, true, true, true, true, true, true, false, false, false, false, false, false, false, false, false, false, false, false, false, false, false, false, false, false, false, false] rfl (by kernel_rfl) (by kernel_rfl) (by kernel_rfl) (fun _ _ _ h => h) (gyes rfl) (Step.idx Tryd.underlying78 I115 (fun w h => h.os 1 rfl) rfl rfl (rfl) _ rfl (by omega)) rfl (fun _ h => h) (by kernel_rfl) ?_
      refine AV.take 12 #[true, true, true, true, true, true, true, true, true, true, true, true, true, false, false, false, false, false, false, false, false, false, false, false, false, false, false, false, false, false, false, false] rfl (by kernel_rfl) (by kernel_rfl) (by kernel_rfl) (fun _ _ _ h => h) (gyes rfl) (Step.fieldAddr rfl (F115_0 _ _)) rfl (fun _ h => h) (by kernel_rfl) ?_
      refine AV.take 13 #[true, true, true, true, true, true, true, true, true, true, true, true, true, true, false, false, false, false, false, false, false, false, false, false, false, false, false, false, false, false, false, false] rfl (by kernel_rfl) (by kernel_rfl) (by kernel_rfl) (fun _ _ _ h => h) (gyes rfl) (Step.load Tryd.underlying3 rfl rfl (fun w h => (h.os 1 rfl).cell0 (by omega) rfl)) rfl (fun _ h => h) (by kernel_rfl) ?_
      refine AV.take 14 #[true, true, true, true, true, true, true, true, true, true, true, true, true, true, true, false, false, false, false, false, false, false, false, false, false, false, false, false, false, false, false, false] rfl (by kernel_rfl) (by kernel_rfl) (by kernel_rfl) (fun _ _ _ h => h) (gyes rfl) (Step.move rfl) rfl (fun _ h => h) (by kernel_rfl) ?_
      refine AV.take 15 #[true, true, true, true, true, true, true, true, true, true, true, true, true, true, true, true, false, false, false, false, false, false, false, false, false, false, false, false, false, false, false, false] rfl (by kernel_rfl) (by kernel_rfl) (by kernel_rfl) (fun _ _ _ h => h) (gyes rfl) (Step.neq rfl rfl) rfl (fun _ h => h) (by kernel_rfl) ?_
      refine AV.take 16 #[true, true, true, true, true, true, true, true, true, true, true, true, true, true, true, true, true, false, false, false, false, false, false, false, false, false, false, false, false, false, false, false] rfl (by kernel_rfl) (by kernel_rfl) (by kernel_rfl) (fun _ _ _ h => h) gno (Step.pick_f rfl rfl) rfl (fun _ h => h) (by kernel_rfl) ?_
      refine AV.take 17 #[true, true, true, true, true, true, true, true, true, true, true, true, true, true, true, true, true, true, false, false, false, false, false, false, false, false, false, false, false, false, false, false] rfl (by kernel_rfl) (by kernel_rfl) (by kernel_rfl) (fun _ _ _ h => h) gno (Step.move rfl) rfl (fun _ h => h) (by kernel_rfl) ?_
      refine KV.cases 24 rfl (fun cc2 => ?_) (fun cc2 => ?_)
      · -- True
        have hk := of_decide_eq_true cc2
        refine AV.takeSkip 18 #[true, true, true, true, true, true, true, true, true, true, true, true, true, true, true, true, true, true, true, false, false, false, false, false, false, false, false, false, false, false, false, false] rfl (by kernel_rfl) (by kernel_rfl) (by kernel_rfl) (fun _ _ _ h => h) rfl rfl (fun _ h => h) (by kernel_rfl) ?_
        refine AV.takeSkip 19 #[true, true, true, true, true, true, true, true, true, true, true, true, true, true, true, true, true, true, true, true, false, false, false, false, false, false, false, false, false, false, false, false] rfl (by kernel_rfl) (by kernel_rfl) (by kernel_rfl) (fun _ _ _ h => h) rfl rfl (fun _ h => h) (by kernel_rfl) ?_
        refine AV.takeSkip 20 #[true, true, true, true, true, true, true, true, true, true, true, true, true, true, true, true, true, true, true, true, true, false, false, false, false, false, false, false, false, false, false, false] rfl (by kernel_rfl) (by kernel_rfl) (by kernel_rfl) (fun _ _ _ h => h) rfl rfl (fun _ h => h) (by kernel_rfl) ?_
        refine AV.takeSkip 21 #[true, true, true, true, true, true, true, true, true, true, true, true, true, true, true, true, true, true, true, true, true, true, false, false, false, false, false, false, false, false, false, false] rfl (by kernel_rfl) (by kernel_rfl) (by kernel_rfl) (fun _ _ _ h => h) rfl rfl (fun _ h => h) (by kernel_rfl) ?_
        refine AV.takeSkip 22 #[true, true, true, true, true, true, true, true, true, true, true, true, true, true, true, true, true, true, true, true, true, true, true, false, false, false, false, false, false, false, false, false] rfl (by kernel_rfl) (by kernel_rfl) (by kernel_rfl) (fun _ _ _ h => h) rfl rfl (fun _ h => h) (by kernel_rfl) ?_
        refine AV.takeSkip 23 #[true, true, true, true, true, true, true, true, true, true, true, true, true, true, true, true, true, true, true, true, true, true, true, true, false, false, false, false, false, false, false, false] rfl (by kernel_rfl) (by kernel_rfl) (by kernel_rfl) (fun _ _ _ h => h) rfl rfl (fun _ h => h) (by kernel_rfl) ?_
        refine AV.takeSkip 24 #[true, true, true, true, true, true, true, true, true, true, true, true, true, true, true, true, true, true, true, true, true, true, true, true, true, false, false, false, false, false, false, false] rfl (by kernel_rfl) (by kernel_rfl) (by kernel_rfl) (fun _ _ _ h => h) rfl rfl (fun _ h => h) (by kernel_rfl) ?_
        refine AV.takeSkip 25 #[true, true, true, true, true, true, true, true, true, true, true, true, true, true, true, true, true, true, true, true, true, true, true, true, true, true, false, false, false, false, false, false] rfl (by kernel_rfl) (by kernel_rfl) (by kernel_rfl) (fun _ _ _ h => h) rfl rfl (fun _ h => h) (by kernel_rfl) ?_
        refine AV.takeSkip 26 #[true, true, true, true, true, true, true, true, true, true, true, true, true, true, true, true, true, true, true, true, true, true, true, true, true, true, true, false, false, false, false, false] rfl (by kernel_rfl) (by kernel_rfl) (by kernel_rfl) (fun _ _ _ h => h) rfl rfl (fun _ h => h) (by kernel_rfl) ?_
        refine AV.takeSkip 27 #[true, true, true, true, true, true, true, true, true, true, true, true, true, true, true, true, true, true, true, true, true, true, true, true, true, true, true, true, false, false, false, false] rfl (by kernel_rfl) (by kernel_rfl) (by kernel_rfl) (fun _ _ _ h => h) rfl rfl (fun _ h => h) (by kernel_rfl) ?_
        refine AV.takeSkip 28 #[true, true, true, true, true, true, true, true, true, true, true, true, true, true, true, true, true, true, true, true, true, true, true, true, true, true, true, true, true, false, false, false] rfl (by kernel_rfl) (by kernel_rfl) (by kernel_rfl) (fun _ _ _ h => h) rfl rfl (fun _ h => h) (by kernel_rfl) ?_
        refine AV.takeSkip 29 #[true, true, true, true, true, true, true, true, true, true, true, true, true, true, true, true, true, true, true, true, true, true, true, true, true, true, true, true, true, true, false, false] rfl (by kernel_rfl) (by kernel_rfl) (by kernel_rfl) (fun _ _ _ h => h) rfl rfl (fun _ h => h) (by kernel_rfl) ?_
        refine AV.takeSkip 30 #[true, true, true, true, true, true, true, true, true, true, true, true, true, true, true, true, true, true, true, true, true, true, true, true, true, true, true, true, true, true, true, false] rfl (by kernel_rfl) (by kernel_rfl) (by kernel_rfl) (fun _ _ _ h => h) rfl rfl (fun _ h => h) (by kernel_rfl) ?_
        refine AV.take 31 #[true, true, true, true, true, true, true, true, true, true, true, true, true, true, true, true, true, true, true, true, true, true, true, true, true, true, true, true, true, true, true, true] rfl (by kernel_rfl) (by kernel_rfl) (by kernel_rfl) (fun _ _ _ h => h) gno (Step.pick_t rfl rfl) rfl (fun _ h => h) (by kernel_rfl) ?_
        refine AV.done (by kernel_rfl) ?_
        refine KV.then_n (KV.env [(0, _), (38, _)] ⟨rfl, rfl, trivial⟩ (CV.cond_t rfl (CV.seq (CV.region ?_))))
        refine RV.op (OV.step gno (Step.assign rfl) rfl ?_)
        refine RV.nil (KV.then_n (KV.env [(6, _)] ⟨rfl, trivial⟩ (CV.ret (KV.then_ret ?_))))
        refine KV.sel [0, 0] [_, _] rfl ?_
        exact KV.ret1 rfl rfl _ (fun _ h => h) (.inr ⟨by first | exact acc_end he | exact acc_no (by omega) (fun k => hk k.1) | exact acc_no (by omega) (fun k => hx k.2), rfl, rfl⟩)
      · -- False
        have hk := Decidable.not_not.1 (of_decide_eq_false cc2)
        refine AV.take 18 #[true, true, true, true, true, true, true, true, true, true, true, true, true, true, true, true, true, true, true, false, false, false, false, false, false, false, false, false, false, false, false, false] rfl (by kernel_rfl) (by kernel_rfl) (by kernel_rfl) (fun _ _ _ h => h) (gyes rfl) (Step.move rfl) rfl (fun _ h => h) (by kernel_rfl) ?_
        refine AV.take 19 #[true, true, true, true, true, true, true, true, true, true, true, true, true, true, true, true, true, true, true, true, false, false, false, false, false, false, false, false, false, false, false, false] rfl (by kernel_rfl) (by kernel_rfl) (by kernel_rfl) (fun _ _ _ h => h) (gyes rfl) (Step.nilCheck rfl) rfl (fun _ h => h) (by kernel_rfl) ?_
        refine AV.take 20 #[true, true, true, true, true, true, true, true, true, true, true, true, true, true, true, true, true, true, true, true, true, false, false, false, false, false, false, false, false, false, false, false] rfl (by kernel_rfl) (by kernel_rfl) (by kernel_rfl) (fun _ _ _ h => h) (gyes rfl) (Step.fieldAddr rfl (F122_0 _ _)) rfl (fun _ h => h) (by kernel_rfl) ?_
        refine AV.take 21 #[true, true, true, true, true, true, true, true, true, true, true, true, true, true, true, true, true, true, true, true, true, true, false, false, false, false, false, false, false, false, false, false] rfl (by kernel_rfl) (by kernel_rfl) (by kernel_rfl) (fun _ _ _ h => h) (gyes rfl) (Step.load Tryd.underlying78 rfl rfl (fun w h => h.cell 0 rfl rfl)) rfl (fun _ h => h) (by kernel_rfl) ?_
        refine AV.take 22 #[true, true, true, true, true, true, true, true, true, true, true, true, true, true, true, true, true, true, true, true, true, true, true, false, false, false, false, false, false, false, false, false] rfl (by kernel_rfl) (by kernel_rfl) (by kernel_rfl) (fun _ _ _ h => h) (gyes rfl) (Step.move rfl) rfl (fun _ h => h) (by kernel_rfl) ?_
        refine AV.take 23 #[true, true, true, true, true, true, true, true, true, true, true, true, true, true, true, true, true, true, true, true, true, true, true, true, false, false, false, false, false, false, false, false] rfl (by kernel_rfl) (by kernel_rfl) (by kernel_rfl) (fun _ _ _ h => h) (gyes rfl) (Step.nilCheck rfl) rfl (fun _ h => h) (by kernel_rfl) ?_
        refine AV.take 24 #[true, true, true, true, true, true, true, true, true, true, true, true, true, true, true, true, true, true, true, true, true, true, true, true, true, false, false, false, false, false, false, false] rfl (by kernel_rfl) (by kernel_rfl) (by kernel_rfl) (fun _ _ _ h => h) (gyes rfl) (Step.fieldAddr rfl (F122_1 _ _)) rfl (fun _ h => h) (by kernel_rfl) ?_
        refine AV.take 25 #[true, true, true, true, true, true, true, true, true, true, true, true, true, true, true, true, true, true, true, true, true, true, true, true, true, true, false, false, false, false, false, false] rfl (by kernel_rfl) (by kernel_rfl) (by kernel_rfl) (fun _ _ _ h => h) (gyes rfl) (Step.load Tryd.underlying3 rfl rfl (fun w h => h.cell 0 rfl rfl)) rfl (fun _ h => h) (by kernel_rfl) ?_
        refine AV.take 26 #[true, true, true, true, true, true, true, true, true, true, true, true, true, true, true, true, true, true, true, true, true, true, true, true, true, true, true, false, false, false, false, false] rfl (by kernel_rfl) (by kernel_rfl) (by kernel_rfl) (fun _ _ _ h => h) (gyes rfl) (Step.idx Tryd.underlying78 I115 (fun w h => h.os 1 rfl) rfl rfl (rfl) _ rfl (by omega)) rfl (fun _ h => h) (by kernel_rfl) ?_
        refine AV.take 27 #[true, true, true, true, true, true, true, true, true, true, true, true, true, true, true, true, true, true, true, true, true, true, true, true, true, true, true, true, false, false, false, false] rfl (by kernel_rfl) (by kernel_rfl) (by kernel_rfl) (fun _ _ _ h => h) (gyes rfl) (Step.fieldAddr rfl (F115_1 _ _)) rfl (fun _ h => h) (by kernel_rfl) ?_
        refine AV.take 28 #[true, true, true, true, true, true, true, true, true, true, true, true, true, true, true, true, true, true, true, true, true, true, true, true, true, true, true, true, true, false, false, false] rfl (by kernel_rfl) (by kernel_rfl) (by kernel_rfl) (fun _ _ _ h => h) (gyes rfl) (Step.load Tryd.underlying9 rfl rfl (fun w h => (h.os 1 rfl).cell (by omega) rfl)) rfl (fun _ h => h) (by kernel_rfl) ?_
        refine AV.take 29 #[true, true, true, true, true, true, true, true, true, true, true, true, true, true, true, true, true, true, true, true, true, true, true, true, true, true, true, true, true, true, false, false] rfl (by kernel_rfl) (by kernel_rfl) (by kernel_rfl) (fun _ _ _ h => h) (gyes rfl) (Step.move rfl) rfl (fun _ h => h) (by kernel_rfl) ?_
        refine AV.take 30 #[true, true, true, true, true, true, true, true, true, true, true, true, true, true, true, true, true, true, true, true, true, true, true, true, true, true, true, true, true, true, true, false] rfl (by kernel_rfl) (by kernel_rfl) (by kernel_rfl) (fun _ _ _ h => h) (gyes rfl) (Step.neqStr rfl rfl) rfl (fun _ h => h) (by kernel_rfl) ?_
        refine AV.take 31 #[true, true, true, true, true, true, true, true, true, true, true, true, true, true, true, true, true, true, true, true, true, true, true, true, true, true, true, true, true, true, true, true] rfl (by kernel_rfl) (by kernel_rfl) (by kernel_rfl) (fun _ _ _ h => h) gno (Step.pick_f rfl rfl) rfl (fun _ h => h) (by kernel_rfl) ?_
        refine AV.done (by kernel_rfl) ?_
        refine KV.then_n (KV.env [(0, _), (38, _)] ⟨rfl, rfl, trivial⟩ ?_)
        refine KV.cases 38 rfl (fun cc3 => ?_) (fun cc3 => ?_)
        · -- True
          have hx := of_decide_eq_true cc3
          refine CV.cond_t rfl (CV.seq (CV.region ?_))
          refine RV.op (OV.step gno (Step.assign rfl) rfl ?_)
          refine RV.nil (KV.then_n (KV.env [(6, _)] ⟨rfl, trivial⟩ (CV.ret (KV.then_ret ?_))))
          refine KV.sel [0, 0] [_, _] rfl ?_
          exact KV.ret1 rfl rfl _ (fun _ h => h) (.inr ⟨by first | exact acc_end he | exact acc_no (by omega) (fun k => hk k.1) | exact acc_no (by omega) (fun k => hx k.2), rfl, rfl⟩)
        · -- False
          have hx := Decidable.not_not.1 (of_decide_eq_false cc3)
          refine CV.cond_f rfl (CV.skip (KV.then_n (KV.env [(0, _)] ⟨rfl, trivial⟩ (CV.seq (CV.region ?_)))))
          refine RV.op (OV.step gno (Step.move rfl) rfl ?_)
          refine RV.op (OV.step gno (Step.nilCheck rfl) rfl ?_)
          refine RV.op (OV.step gno (Step.fieldAddr rfl (F122_1 _ _)) rfl ?_)
          refine RV.op (OV.step gno (Step.load Tryd.underlying3 rfl rfl (fun w h => h.cell 0 rfl rfl)) rfl ?_)
          (first | refine RV.op (OV.step gno (Step.add rfl rfl (wI64 (by omega) (by omega))) rfl ?_) | refine RV.op (OV.step gno (Step.add rfl rfl rfl) rfl ?_))
          refine RV.op (OV.step gno (Step.nilCheck rfl) rfl ?_)
          refine RV.op (OV.step gno (Step.fieldAddr rfl (F122_1 _ _)) rfl ?_)
          refine RV.op (OV.store 0 [_] #[_, _] I3 rfl rfl rfl rfl rfl (Nat.le_of_ble_eq_true rfl) (by simp [Value.oneCell']) rfl gno ?_)
          refine RV.nil (KV.then_n (KV.env [] trivial (CV.seq (CV.region ?_))))
          refine RV.op (OV.step gno (Step.assign rfl) rfl ?_)
          refine RV.nil (KV.then_n (KV.env [(6, _)] ⟨rfl, trivial⟩ (CV.ret ?_)))
          refine KV.sel [0, 0] [_, _] rfl ?_
          exact KV.ret1 rfl rfl _ (fun _ h => h) (.inl ⟨acc_yes (by omega) ht hm hk hx, by omega, rfl, rfl⟩)

set_option maxRecDepth 100000 in
set_option maxHeartbeats 4000000 in
theorem number_fn {q : Nat} {A : Option Addr} {c i : Nat} {ts : List MT} {w : World} {b o : Nat} {cur : Array Value} {te : TypeId} (cs : Int → Array Value) (ho : o + 1 ≤ cur.size) (hcs : ∀ v, (cur.toList.take o ++ [Value.int .u64 v] ++ cur.toList.drop (o + 1)).toArray = cs v) (hi : i ≤ ts.length) (hl : ts.length ≤ 1000000) : Fx Tryd.prog 80 [.pointer (some ⟨q, 0, none⟩), .pointer (some ⟨b, o, none⟩)] w [Blk q (.cells #[.slice A ts.length c, .int .i64 (((i : Nat) : Int))] 122 (0, 0)), OS 115 tokK A c ts, Blk b (.cells cur te (0, 0))] no (fun v L => (∃ x, ts.drop i = .num x :: ts.drop (i + 1) ∧ i < ts.length ∧ v = .bool true ∧ L = [Blk q (.cells #[.slice A ts.length c, .int .i64 (((i + 1 : Nat) : Int))] 122 (0, 0)), OS 115 tokK A c ts, Blk b (.cells (cs x) te (0, 0))]) ∨ ((∀ x r, ts.drop i ≠ .num x :: r) ∧ v = .bool false ∧ L = [Blk q (.cells #[.slice A ts.length c, .int .i64 (((i : Nat) : Int))] 122 (0, 0)), OS 115 tokK A c ts, Blk b (.cells cur te (0, 0))])) := by
  refine Sv.Fx.body Tryd.func80 rfl T80 rfl ?_
  intro I hro hI
  refine KV.env [(0, _), (1, _)] ⟨rfl, rfl, trivial⟩ (CV.seq (CV.region ?_))
  refine RV.op (OV.step gno (Step.assign rfl) rfl ?_)
  refine RV.nil (KV.then_n (KV.env [(0, _), (1, _)] ⟨rfl, rfl, trivial⟩ (CV.seq (CV.seq ?_))))
  refine CV.any (Hp I w [Blk q (.cells #[.slice A ts.length c, .int .i64 (((i : Nat) : Int))] 122 (0, 0)), OS 115 tokK A c ts, Blk b (.cells cur te (0, 0))]) (by kernel_rfl) (fun _ h => h.drew) 16 rfl ?_
  refine AV.take 0 #[true, false, false, false, false, false, false, false, false, false, false, false, false, false, false, false] rfl (by kernel_rfl) (by kernel_rfl) (by kernel_rfl) (fun _ _ _ h => h) gno (Step.move rfl) rfl (fun _ h => h) (by kernel_rfl) ?_
  refine AV.all [1] (by kernel_rfl) (by decide) ?_
  refine ⟨⟨_, rfl, ?_⟩, trivial⟩
  · -- 1 comes up
    refine OV.call [] (F := [_, _, _]) Tryd.func61 B61 N61 rfl rfl (fun w h => atEnd_fn (h.blk 0 rfl)) (fun _ hb => hb.elim) gno rfl (fun v L' hp => ?_)
    obtain ⟨rfl, rfl⟩ := hp
    simp only [List.append_nil]
    refine AV.next #[true, true, false, false, false, false, false, false, false, false, false, false, false, false, false, false] (by kernel_rfl) (fun _ h => h) ?_
    refine AV.take 2 #[true, true, true, false, false, false, false, false, false, false, false, false, false, false, false, false] rfl (by kernel_rfl) (by kernel_rfl) (by kernel_rfl) (fun _ _ _ h => h) gno (Step.move rfl) rfl (fun _ h => h) (by kernel_rfl) ?_
    refine KV.cases 7 rfl (fun cc1 => ?_) (fun cc1 => ?_)
    · -- True
      have he := of_decide_eq_true cc1
      refine AV.takeSkip 3 #[true, true, true, true, false, false, false, false, false, false, false, false, false, false, false, false] rfl (by kernel_rfl) (by kernel_rfl) (by kernel_rfl) (fun _ _ _ h => h) rfl rfl (fun _ h => h) (by kernel_rfl) ?_
      refine AV.takeSkip 4 #[true, true, true, true, true, false, false, false, false, false, false, false, false, false, false, false] rfl (by kernel_rfl) (by kernel_rfl) (by kernel_rfl) (fun _ _ _ h => h) rfl rfl (fun _ h => h) (by kernel_rfl) ?_
      refine AV.takeSkip 5 #[true, true, true, true, true, true, false, false, false, false, false, false, false, false, false, false] rfl (by kernel_rfl) (by kernel_rfl) (by kernel_rfl) (fun _ _ _ h => h) rfl rfl (fun _ h => h) (by kernel_rfl) ?_
      refine AV.takeSkip 6 #[true, true, true, true, true, true, true, false, false, false, false, false, false, false, false, false] rfl (by kernel_rfl) (by kernel_rfl) (by kernel_rfl) (fun _ _ _ h => h) rfl rfl (fun _ h => h) (by kernel_rfl) ?_
      refine AV.takeSkip 7 #[true, true, true, true, true, true, true, true, false, false, false, false, false, false, false, false] rfl (by kernel_rfl) (by kernel_rfl) (by kernel_rfl) (fun _ _ _ h => h) rfl rfl (fun _ h => h) (by kernel_rfl) ?_
      refine AV.takeSkip 8 #[true, true, true, true, true, true, true, true, true, false, false, false, false, false, false, false] rfl (by kernel_rfl) (by kernel_rfl) (by kernel_rfl) (fun _ _ _ h => h) rfl rfl (fun _ h => h) (by kernel_rfl) ?_
      refine AV.takeSkip 9 #[true, true, true, true, true, true, true, true, true, true, false, false, false, false, false, false] rfl (by kernel_rfl) (by kernel_rfl) (by kernel_rfl) (fun _ _ _ h => h) rfl rfl (fun _ h => h) (by kernel_rfl) ?_
      refine AV.takeSkip 10 #[true, true, true, true, true, true, true, true, true, true, true, false, false, false, false, false] rfl (by kernel_rfl) (by kernel_rfl) (by kernel_rfl) (fun _ _ _ h => h) rfl rfl (fun _ h => h) (by kernel_rfl) ?_
      refine AV.takeSkip 11 #[true, true, true, true, true, true, true, true, true, true, true, true, false, false, false, false] rfl (by kernel_rfl) (by kernel_rfl) (by kernel_rfl) (fun _ _ _ h => h) rfl rfl (fun _ h => h) (by kernel_rfl) ?_
      refine AV.takeSkip 12 #[true, true, true, true, true, true, true, true, true, true, true, true, true, false, false, false] rfl (by kernel_rfl) (by kernel_rfl) (by kernel_rfl) (fun _ _ _ h => h) rfl rfl (fun _ h => h) (by kernel_rfl) ?_
      refine AV.takeSkip 13 #[true, true, true, true, true, true, true, true, true, true, true, true, true, true, false, false] rfl (by kernel_rfl) (by kernel_rfl) (by kernel_rfl) (fun _ _ _ h => h) rfl rfl (fun _ h => h) (by kernel_rfl) ?_
      refine AV.takeSkip 14 #[true, true, true, true, true, true, true, true, true, true, true, true, true, true, true, false] rfl (by kernel_rfl) (by kernel_rfl) (by kernel_rfl) (fun _ _ _ h => h) rfl rfl (fun _ h => h) (by kernel_rfl) ?_
      refine AV.take 15 #[true, true, true, true, true, true, true, true, true, true, true, true, true, true, true, true] rfl (by kernel_rfl) (by kernel_rfl) (by kernel_rfl) (fun _ _ _ h => h) gno (Step.pick_t rfl rfl) rfl (fun _ h => h) (by kernel_rfl) ?_
      refine AV.done (by kernel_rfl) ?_
      refine KV.then_n (KV.env [(0, _), (1, _), (20, _)] ⟨rfl, rfl, rfl, trivial⟩ (CV.cond_t rfl (CV.seq (CV.region ?_))))
      refine RV.op (OV.step gno (Step.assign rfl) rfl ?_)
      refine RV.nil (KV.then_n (KV.env [(4, _)] ⟨rfl, trivial⟩ (CV.ret (KV.then_ret ?_))))
      refine KV.sel [0, 0, 0] [_, _, _] rfl ?_
      exact KV.ret1 rfl rfl _ (fun _ h => h) (.inr ⟨by first | exact num_end he | exact num_no (by omega) hk, rfl, rfl⟩)
    · -- False
      have he := of_decide_eq_false cc1
      refine AV.take 3 #[true, true, true, true, false, false, false, false, false, false, false, false, false, false, false, false] rfl (by kernel_rfl) (by kernel_rfl) (by kernel_rfl) (fun _ _ _ h => h) (gyes rfl) (Step.move rfl) rfl (fun _ h => h) (by kernel_rfl) ?_
      refine AV.take 4 #[true, true, true, true, true, false, false, false, false, false, false, false, false, false, false, false] rfl (by kernel_rfl) (by kernel_rfl) (by kernel_rfl) (fun _ _ _ h => h) (gyes rfl) (Step.nilCheck rfl) rfl (fun _ h => h) (by kernel_rfl) ?_
      refine AV.take 5 #[true, true, true, true, true, true, false, false, false, false, false, false, false, false, false, false] rfl (by kernel_rfl) (by kernel_rfl) (by kernel_rfl) (fun _ _ _ h => h) (gyes rfl) (Step.fieldAddr rfl (F122_0 _ _)) rfl (fun _ h => h) (by kernel_rfl) ?_
      refine AV.take 6 #[true, true, true, true, true, true, true, false, false, false, false, false, false, false, false, false] rfl (by kernel_rfl) (by kernel_rfl) (by kernel_rfl) (fun _ _ _ h => h) (gyes rfl) (Step.load Tryd.underlying78 rfl rfl (fun w h => h.cell 0 rfl rfl)) rfl (fun _ h => h) (by kernel_rfl) ?_
      refine AV.take 7 #[true, true, true, true, true, true, true, true, false, false, false, false, false, false, false, false] rfl (by kernel_rfl) (by kernel_rfl) (by kernel_rfl) (fun _ _ _ h => h) (gyes rfl) (Step.move rfl) rfl (fun _ h => h) (by kernel_rfl) ?_
      refine AV.take 8 #[true, true, true, true, true, true, true, true, true, false, false, false, false, false, false, false] rfl (by kernel_rfl) (by kernel_rfl) (by kernel_rfl) (fun _ _ _ h => h) (gyes rfl) (Step.nilCheck rfl) rfl (fun _ h => h) (by kernel_rfl) ?_
      refine AV.take 9 #[true, true, true, true, true, true, true, true, true, true, false, false, false, false, false, false] rfl (by kernel_rfl) (by kernel_rfl) (by kernel_rfl) (fun _ _ _ h => h) (gyes rfl) (Step.fieldAddr rfl (F122_1 _ _)) rfl (fun _ h => h) (by kernel_rfl) ?_
      refine AV.take 10 #[true, true, true, true, true, true, true, true, true, true, true, false, false, false, false, false] rfl (by kernel_rfl) (by kernel_rfl) (by kernel_rfl) (fun _ _ _ h => h) (gyes rfl) (Step.load Tryd.underlying3 rfl rfl (fun w h => h.cell 0 rfl rfl)) rfl (fun _ h => h) (by kernel_rfl) ?_
      refine AV.take 11 #[true, true, true, true, true, true, true, true, true, true, true, true, false, false, false, false] rfl (by kernel_rfl) (by kernel_rfl) (by kernel_rfl) (fun _ _ _ h => h) (gyes rfl) (Step.idx Tryd.underlying78 I115 (fun w h => h.os 1 rfl) rfl rfl (rfl) _ rfl (by omega)) rfl (fun _ h => h) (by kernel_rfl) ?_
      refine AV.take 12 #[true, true, true, true, true, true, true, true, true, true, true, true, true, false, false, false] rfl (by kernel_rfl) (by kernel_rfl) (by kernel_rfl) (fun _ _ _ h => h) (gyes rfl) (Step.fieldAddr rfl (F115_0 _ _)) rfl (fun _ h => h) (by kernel_rfl) ?_
      refine AV.take 13 #[true, true, true, true, true, true, true, true, true, true, true, true, true, true, false, false] rfl (by kernel_rfl) (by kernel_rfl) (by kernel_rfl) (fun _ _ _ h => h) (gyes rfl) (Step.load Tryd.underlying3 rfl rfl (fun w h => (h.os 1 rfl).cell0 (by omega) rfl)) rfl (fun _ h => h) (by kernel_rfl) ?_
      refine AV.take 14 #[true, true, true, true, true, true, true, true, true, true, true, true, true, true, true, false] rfl (by kernel_rfl) (by kernel_rfl) (by kernel_rfl) (fun _ _ _ h => h) (gyes rfl) (Step.neq rfl rfl) rfl (fun _ h => h) (by kernel_rfl) ?_
      refine AV.take 15 #[true, true, true, true, true, true, true, true, true, true, true, true, true, true, true, true] rfl (by kernel_rfl) (by kernel_rfl) (by kernel_rfl) (fun _ _ _ h => h) gno (Step.pick_f rfl rfl) rfl (fun _ h => h) (by kernel_rfl) ?_
      refine AV.done (by kernel_rfl) ?_
      refine KV.then_n (KV.env [(0, _), (1, _), (20, _)] ⟨rfl, rfl, rfl, trivial⟩ ?_)
      refine KV.cases 20 rfl (fun cc2 => ?_) (fun cc2 => ?_)
      · -- True
        have hk := of_decide_eq_true cc2
        refine CV.cond_t rfl (CV.seq (CV.region ?_))
        refine RV.op (OV.step gno (Step.assign rfl) rfl ?_)
        refine RV.nil (KV.then_n (KV.env [(4, _)] ⟨rfl, trivial⟩ (CV.ret (KV.then_ret ?_))))
        refine KV.sel [0, 0, 0] [_, _, _] rfl ?_
        exact KV.ret1 rfl rfl _ (fun _ h => h) (.inr ⟨by first | exact num_end he | exact num_no (by omega) hk, rfl, rfl⟩)
      · -- False
        have hk := Decidable.not_not.1 (of_decide_eq_false cc2)
        refine CV.cond_f rfl (CV.skip (KV.then_n (KV.env [(0, _), (1, _)] ⟨rfl, rfl, trivial⟩ (CV.seq ?_))))
        refine CV.stillTail 13 (by kernel_rfl) (by kernel_rfl) (fun _ h => h.drew) ?_
        refine SV.step gno (Step.move rfl) rfl ?_
        refine SV.step gno (Step.move rfl) rfl ?_
        refine SV.step gno (Step.nilCheck rfl) rfl ?_
        refine SV.step gno (Step.fieldAddr rfl (F122_0 _ _)) rfl ?_
        refine SV.step gno (Step.load Tryd.underlying78 rfl rfl (fun w h => h.cell 0 rfl rfl)) rfl ?_
        refine SV.step gno (Step.move rfl) rfl ?_
        refine SV.step gno (Step.nilCheck rfl) rfl ?_
        refine SV.step gno (Step.fieldAddr rfl (F122_1 _ _)) rfl ?_
        refine SV.step gno (Step.load Tryd.underlying3 rfl rfl (fun w h => h.cell 0 rfl rfl)) rfl ?_
        refine SV.step gno (Step.idx Tryd.underlying78 I115 (fun w h => h.os 1 rfl) rfl rfl (rfl) _ rfl (by omega)) rfl ?_
        refine SV.step gno (Step.fieldAddr rfl (F115_2 _ _)) rfl ?_
        refine SV.step gno (Step.load Tryd.underlying51 rfl rfl (fun w h => (h.os 1 rfl).cell (by omega) rfl)) rfl ?_
        refine SV.step gno (Step.nilCheck rfl) rfl ?_
        refine SV.nil ?_
        show KV _ (wpList _ _ _ _) _ _
        refine RV.op (OV.store 2 [_] (cs _) I51 rfl rfl rfl rfl rfl ho (by simp [Value.oneCell']) (hcs _) gno ?_)
        refine RV.nil (KV.then_n (KV.env [(0, _)] ⟨rfl, trivial⟩ (CV.seq (CV.region ?_))))
        refine RV.op (OV.step gno (Step.move rfl) rfl ?_)
        refine RV.op (OV.step gno (Step.nilCheck rfl) rfl ?_)
        refine RV.op (OV.step gno (Step.fieldAddr rfl (F122_1 _ _)) rfl ?_)
        refine RV.op (OV.step gno (Step.load Tryd.underlying3 rfl rfl (fun w h => h.cell 0 rfl rfl)) rfl ?_)
        (first | refine RV.op (OV.step gno (Step.add rfl rfl (wI64 (by omega) (by omega))) rfl ?_) | refine RV.op (OV.step gno (Step.add rfl rfl rfl) rfl ?_))
        refine RV.op (OV.step gno (Step.nilCheck rfl) rfl ?_)
        refine RV.op (OV.step gno (Step.fieldAddr rfl (F122_1 _ _)) rfl ?_)
        refine RV.op (OV.store 0 [_] #[_, _] I3 rfl rfl rfl rfl rfl (Nat.le_of_ble_eq_true rfl) (by simp [Value.oneCell']) rfl gno ?_)
        refine RV.nil (KV.then_n (KV.env [] trivial (CV.seq (CV.region ?_))))
        refine RV.op (OV.step gno (Step.assign rfl) rfl ?_)
        refine RV.nil (KV.then_n (KV.env [(4, _)] ⟨rfl, trivial⟩ (CV.ret ?_)))
        refine KV.sel [0, 0, 0] [_, _, _] rfl ?_
        exact KV.ret1 rfl rfl _ (fun _ h => h) (.inl ⟨_, num_yes (by omega) hk, by omega, rfl, rfl⟩)
end Go.Proofs.YtplmfekhdaefaaaDoor
