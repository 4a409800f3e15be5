/-
 Walks, part 30.
-/
import Derived.Test.YtplmfekhdaefaaaGreatDoorTabA
import Derived.Test.YtplmfekhdaefaaaGreatDoorW29
import Derived.Test.YtplmfekhdaefaaaGreatDoorDmC
set_option linter.unusedSimpArgs false
set_option linter.unusedVariables false
namespace Go.Proofs.YtplmfekhdaefaaaGreatDoor
open Go.Sv Go.Drv
set_option maxRecDepth 100000 in
set_option maxHeartbeats 4000000 in
theorem rlines_fn (s : Bs) (hs : s.length ≤ 1000000) {w : World} : Fx Tryz.prog 30 [.string (bs s)] w [] no (fun v L => ∃ A c, v = .slice A (splitNL s).length c ∧ L = [OS 9 strK A c (splitNL s)]) := by
 refine Sv.Fx.body Tryz.func30 rfl T30 rfl ?_
 intro I hro hI
 refine KV.env [(0, _)] ⟨rfl, trivial⟩ (CV.seq (CV.region ?_))
 refine RV.a rfl rfl ?_
 refine RV.nil (KV.then_n (KV.env [(0, _)] ⟨rfl, trivial⟩ (CV.seq ?_)))
 refine KV.heap (fun w h => h.nilOS (e := 9) (K := strK)) ?_
 refine CV.region ?_
 refine RV.a rfl rfl ?_
 refine RV.nil (KV.then_n (KV.env [(0, _), (3, _)] ⟨rfl, rfl, trivial⟩ (CV.seq (CV.region ?_))))
 refine RV.a rfl rfl ?_
 refine RV.nil (KV.then_n (KV.env [(0, _), (3, _), (4, _)] ⟨rfl, rfl, rfl, trivial⟩ (CV.seq (CV.seq (CV.region ?_)))))
 refine RV.a rfl rfl ?_
 refine RV.nil (KV.then_n (KV.env [(0, _), (3, _), (4, _), (5, _)] ⟨rfl, rfl, rfl, rfl, trivial⟩ (CV.block ?_)))
 refine KV.sel [0] [_] rfl ?_
 refine CV.loop2 (fun (i : Nat) (X : LnG) => LnI s i X) (fun (i : Nat) (X : LnG) => s.length + 1 - i) (fun (i : Nat) (X : LnG) => [(0, .string (bs s)), (3, .slice X.A X.P.length X.c), (4, .int .i64 X.f), (5, .int .i64 i)]) (fun (i : Nat) (X : LnG) => Hp I w [OS 9 strK X.A X.c X.P]) (0) (⟨0, [], none, 0⟩) (LnI.start s) ⟨rfl, rfl, rfl, rfl, trivial⟩ (fun _ h => h) ?_
 intro i X hinv
 refine CV.seq (CV.seq (CV.region ?_))
 refine RV.m rfl rfl (RV.m rfl rfl (RV.s (Step.lenStr Tryz.underlying9 rfl) rfl ?_))
 refine RV.op (OV.split gno (Step.leq rfl rfl) rfl (fun hi => ?_) (fun hi => ?_))
 ·
  refine RV.nil (KV.then_n (KV.env [(0, _), (3, _), (4, _), (5, _), (9, _)] ⟨rfl, rfl, rfl, rfl, rfl, trivial⟩ (CV.cond_t rfl (CV.skip (KV.then_n ?_)))))
  refine KV.env [(0, _), (3, _), (4, _), (5, _)] ⟨rfl, rfl, rfl, rfl, trivial⟩ (CV.seq (CV.block (CV.seq ?_)))
  have hfi := hinv.le (by omega)
  have hPl := hinv.1
  refine CV.region ?_
  refine RV.m rfl rfl (RV.m rfl rfl (RV.s (Step.lenStr Tryz.underlying9 rfl) rfl ?_))
  refine RV.op (OV.split gno (Step.eql rfl rfl) rfl (fun he => ?_) (fun he => ?_))
  ·
   refine RV.m rfl rfl (RV.k rfl rfl (RV.k rfl rfl (RV.k rfl rfl (RV.k rfl rfl (RV.s (Step.pick_t rfl rfl) rfl ?_)))))
   refine RV.nil (KV.then_n (KV.env [(0, _), (3, _), (4, _), (5, _), (21, _)] ⟨rfl, rfl, rfl, rfl, rfl, trivial⟩ (CV.cond_t rfl (CV.seq (CV.region ?_)))))
   refine RV.m rfl rfl (RV.m rfl rfl (RV.m rfl rfl (RV.m rfl rfl ?_)))
   refine RV.s (Step.slStrLH Tryz.underlying9 rfl rfl rfl (X.f) (i) (rfl) (rfl) (by omega) (by omega)) rfl ?_
   refine RV.op (OV.buildSlice (K := strK) ([((s.take i).drop X.f)]) rfl (Bs22_1_0 _) rfl rfl (by omega) gno rfl (fun y => ?_))
   refine RV.op (OV.append 0 Tryz.underlying22 I9 rfl rfl rfl rfl rfl rfl (fun w h => h.os 1 rfl) (by simp only [List.length_cons, List.length_nil]; omega) (by simp only [List.length_cons, List.length_nil]; omega) gno rfl (fun A2 c2 => ?_))
   refine RV.a rfl rfl ?_
   refine RV.nil (KV.then_n (KV.env [(0, _), (3, _), (5, _)] ⟨rfl, rfl, rfl, trivial⟩ (CV.region ?_)))
   refine RV.m rfl rfl ?_
   (first | refine RV.op (OV.step gno (Step.add rfl rfl (wI64 (by omega) (by omega))) rfl ?_) | refine RV.op (OV.step gno (Step.add rfl rfl rfl) rfl ?_))
   refine RV.a rfl rfl ?_
   refine RV.nil (KV.block_n (KV.then_n (KV.env [(0, _), (3, _), (4, _), (5, _)] ⟨rfl, rfl, rfl, rfl, trivial⟩ (CV.region ?_))))
   refine RV.m rfl rfl ?_
   (first | refine RV.op (OV.step gno (Step.add rfl rfl (wI64 (by omega) (by omega))) rfl ?_) | refine RV.op (OV.step gno (Step.add rfl rfl rfl) rfl ?_))
   refine RV.a rfl rfl ?_
   refine RV.nil (KV.then_n (KV.env [(0, _), (3, _), (4, _), (5, _)] ⟨rfl, rfl, rfl, rfl, trivial⟩ ?_))
   refine KV.sel [0] [_] rfl ?_
   (first | exact KV.loop2 (x := i) (y := X) (i + 1) (⟨i + 1, X.P ++ [((s.take i).drop X.f)], A2, c2⟩) (by first | exact hinv.nl (by omega) hc A2 c2 | exact hinv.fin (by omega) _ A2 c2) (by omega) ⟨rfl, rfl, rfl, rfl, trivial⟩ (fun _ h => h) | exact KV.loop2 (x := i) (y := X) (i + 1) (X) (hinv.no (by omega) hc) (by omega) ⟨rfl, rfl, rfl, rfl, trivial⟩ (fun _ h => h))
  ·
   refine RV.m rfl rfl (RV.gw rfl (Step.move rfl) rfl (RV.gw rfl (Step.move rfl) rfl ?_))
   refine RV.gw rfl (Step.idxStr Tryz.underlying9 rfl rfl _ rfl (by omega)) rfl ?_
   refine RV.op (OV.split (gyes rfl) (Step.eql rfl rfl) rfl (fun hc => ?_) (fun hc => ?_))
   ·
    refine RV.s (Step.pick_f rfl rfl) rfl ?_
    refine RV.nil (KV.then_n (KV.env [(0, _), (3, _), (4, _), (5, _), (21, _)] ⟨rfl, rfl, rfl, rfl, rfl, trivial⟩ (CV.cond_t rfl (CV.seq (CV.region ?_)))))
    refine RV.m rfl rfl (RV.m rfl rfl (RV.m rfl rfl (RV.m rfl rfl ?_)))
    refine RV.s (Step.slStrLH Tryz.underlying9 rfl rfl rfl (X.f) (i) (rfl) (rfl) (by omega) (by omega)) rfl ?_
    refine RV.op (OV.buildSlice (K := strK) ([((s.take i).drop X.f)]) rfl (Bs22_1_0 _) rfl rfl (by omega) gno rfl (fun y => ?_))
    refine RV.op (OV.append 0 Tryz.underlying22 I9 rfl rfl rfl rfl rfl rfl (fun w h => h.os 1 rfl) (by simp only [List.length_cons, List.length_nil]; omega) (by simp only [List.length_cons, List.length_nil]; omega) gno rfl (fun A2 c2 => ?_))
    refine RV.a rfl rfl ?_
    refine RV.nil (KV.then_n (KV.env [(0, _), (3, _), (5, _)] ⟨rfl, rfl, rfl, trivial⟩ (CV.region ?_)))
    refine RV.m rfl rfl ?_
    (first | refine RV.op (OV.step gno (Step.add rfl rfl (wI64 (by omega) (by omega))) rfl ?_) | refine RV.op (OV.step gno (Step.add rfl rfl rfl) rfl ?_))
    refine RV.a rfl rfl ?_
    refine RV.nil (KV.block_n (KV.then_n (KV.env [(0, _), (3, _), (4, _), (5, _)] ⟨rfl, rfl, rfl, rfl, trivial⟩ (CV.region ?_))))
    refine RV.m rfl rfl ?_
    (first | refine RV.op (OV.step gno (Step.add rfl rfl (wI64 (by omega) (by omega))) rfl ?_) | refine RV.op (OV.step gno (Step.add rfl rfl rfl) rfl ?_))
    refine RV.a rfl rfl ?_
    refine RV.nil (KV.then_n (KV.env [(0, _), (3, _), (4, _), (5, _)] ⟨rfl, rfl, rfl, rfl, trivial⟩ ?_))
    refine KV.sel [0] [_] rfl ?_
    (first | exact KV.loop2 (x := i) (y := X) (i + 1) (⟨i + 1, X.P ++ [((s.take i).drop X.f)], A2, c2⟩) (by first | exact hinv.nl (by omega) hc A2 c2 | exact hinv.fin (by omega) _ A2 c2) (by omega) ⟨rfl, rfl, rfl, rfl, trivial⟩ (fun _ h => h) | exact KV.loop2 (x := i) (y := X) (i + 1) (X) (hinv.no (by omega) hc) (by omega) ⟨rfl, rfl, rfl, rfl, trivial⟩ (fun _ h => h))
   ·
    refine RV.s (Step.pick_f rfl rfl) rfl ?_
    refine RV.nil (KV.then_n (KV.env [(0, _), (3, _), (4, _), (5, _), (21, _)] ⟨rfl, rfl, rfl, rfl, rfl, trivial⟩ (CV.cond_f rfl (CV.skip (KV.block_n ?_)))))
    refine KV.then_n (KV.env [(0, _), (3, _), (4, _), (5, _)] ⟨rfl, rfl, rfl, rfl, trivial⟩ (CV.region ?_))
    refine RV.m rfl rfl ?_
    (first | refine RV.op (OV.step gno (Step.add rfl rfl (wI64 (by omega) (by omega))) rfl ?_) | refine RV.op (OV.step gno (Step.add rfl rfl rfl) rfl ?_))
    refine RV.a rfl rfl ?_
    refine RV.nil (KV.then_n (KV.env [(0, _), (3, _), (4, _), (5, _)] ⟨rfl, rfl, rfl, rfl, trivial⟩ ?_))
    refine KV.sel [0] [_] rfl ?_
    (first | exact KV.loop2 (x := i) (y := X) (i + 1) (⟨i + 1, X.P ++ [((s.take i).drop X.f)], A2, c2⟩) (by first | exact hinv.nl (by omega) hc A2 c2 | exact hinv.fin (by omega) _ A2 c2) (by omega) ⟨rfl, rfl, rfl, rfl, trivial⟩ (fun _ h => h) | exact KV.loop2 (x := i) (y := X) (i + 1) (X) (hinv.no (by omega) hc) (by omega) ⟨rfl, rfl, rfl, rfl, trivial⟩ (fun _ h => h))
 ·
  refine RV.nil (KV.then_n (KV.env [(0, _), (3, _), (4, _), (5, _), (9, _)] ⟨rfl, rfl, rfl, rfl, rfl, trivial⟩ (CV.cond_f rfl (CV.exit (KV.then_exit ?_)))))
  refine KV.then_exit (KV.block_hit (KV.then_n (KV.env [(3, _)] ⟨rfl, trivial⟩ (CV.seq (CV.region ?_)))))
  refine RV.m rfl rfl (RV.a rfl rfl ?_)
  refine RV.nil (KV.then_n (KV.env [(2, _)] ⟨rfl, trivial⟩ (CV.ret ?_)))
  refine KV.sel [0] [_] rfl ?_
  rw [hinv.last (by omega)]
  exact KV.ret1 rfl rfl _ (fun _ h => h) ⟨X.A, X.c, rfl, rfl⟩

def rdL (q : Nat) (X : RH) : List Assn := [Blk q (.cells #[.string (bs X.name), .slice X.sA X.ss.length X.sc, .slice none 0 0, .slice X.aA X.al.length X.ac, .bool X.named] 81 (0, 0)), OS 9 strK X.sA X.sc X.ss, OS 88 lnK X.aA X.ac X.al, Big opL X.al]
structure GrR (X Y : RH) : Prop where
 s : Y.ss.length ≤ X.ss.length + 1
 a : Y.al.length ≤ X.al.length + 1
theorem Hp.bigL {I0 : Ids} {w0 w : World} {A1 A2 A3 : Assn} {hs : List LH} (y : LH) {X : Assn} (h : Hp I0 w0 [A1, A2, A3, Big opL hs, X] w) (hx : X = opL y) : Hp I0 w0 [A1, A2, A3, Big opL (hs ++ [y])] w := by
 subst hx
 exact Hp.bigSnoc (L := [A1, A2, A3, Big opL hs]) (k := 3) h rfl

set_option maxRecDepth 100000 in
set_option maxHeartbeats 8000000 in
theorem radd_fn {q : Nat} {A : Option Addr} {c : Nat} {ts : List MT} {w : World} (X : RH) (ht : ∀ x ∈ ts, tkOk x) (h0 : 0 < ts.length) (hl : ts.length ≤ 1000000) (hb1 : X.ss.length ≤ 1000000) (hb2 : X.al.length ≤ 1000000) : Fx Tryz.prog 32 [.pointer (some ⟨q, 0, none⟩), .slice A ts.length c] w (rdL q X ++ [OS 128 rtokK A c ts]) no (fun v L => (∃ Y : RH, lineM X.ps ts = some Y.ps ∧ GrR X Y ∧ v = .bool true ∧ L = rdL q Y) ∨ (lineM X.ps ts = none ∧ v = .bool false ∧ L = [])) := by
 refine Sv.Fx.body Tryz.func32 rfl T32 rfl ?_
 intro I hro hI
 refine KV.env [(0, _), (1, _)] ⟨rfl, rfl, trivial⟩ ?_
 unfold rdL
 simp only [List.cons_append, List.nil_append]
 refine CV.seq (CV.region ?_)
 refine RV.a rfl rfl ?_
 refine RV.nil (KV.then_n (KV.env [(0, _), (1, _)] ⟨rfl, rfl, trivial⟩ (CV.seq (CV.block (CV.seq ?_)))))
 refine CV.region ?_
 refine RV.m rfl rfl (RV.s (Step.nilCheck rfl) rfl (RV.s (Step.fieldAddr rfl (F81_2 _ _)) rfl (RV.s (Step.load Tryz.underlying4 rfl rfl (fun w h => h.cell 0 rfl rfl)) rfl (RV.s (Step.not rfl) rfl (RV.a rfl rfl ?_)))))
 refine RV.nil (KV.then_n (KV.env [(0, _), (1, _), (7, _)] ⟨rfl, rfl, rfl, trivial⟩ ?_))
 refine KV.cases 7 rfl (fun cc1 => ?_) (fun cc1 => ?_)
 ·
  have hnm := neg_t cc1
  refine CV.cond_t rfl (CV.seq (CV.seq (CV.region ?_)))
  refine RV.m rfl rfl ?_
  refine RV.op (OV.call [] (F := [_, _, _, _, _]) Tryz.func60 B60 N60 rfl rfl (fun w h => kinds_fn (ts := ts) (h.os 4 rfl) rfl hl) (fun _ hb => hb.elim) gno rfl (fun v L' hp => ?_))
  obtain ⟨rfl, rfl⟩ := hp
  simp only [List.append_nil]
  refine RV.op (OV.split gno (Step.neqStr (l2 := [110, 110]) rfl rfl) rfl (fun k1 => ?_) (fun k1 => ?_))
  ·
   refine RV.m rfl rfl (RV.k rfl rfl (RV.k rfl rfl (RV.k rfl rfl (RV.k rfl rfl (RV.k rfl rfl (RV.s (Step.pick_t rfl rfl) rfl ?_))))))
   refine RV.nil (KV.then_n (KV.env [(0, _), (1, _), (22, _)] ⟨rfl, rfl, rfl, trivial⟩ (CV.cond_t rfl (CV.seq (CV.region ?_)))))
   refine RV.a rfl rfl ?_
   refine RV.nil (KV.then_n (KV.env [(4, _)] ⟨rfl, trivial⟩ (CV.ret (KV.then_ret (KV.block_ret ?_)))))
   refine KV.then_ret ?_
   refine KV.sel [] [] rfl ?_
   exact KV.ret1 rfl rfl _ (fun _ h => h.sel [] rfl) (.inr ⟨lmR_dno h0 hnm (by first | exact fun k => k2 k.2 | exact fun k => k1 k.1), rfl, rfl⟩)
  ·
   refine RV.m rfl rfl (RV.gw rfl (Step.move rfl) rfl ?_)
   refine RV.op (OV.step (gyes rfl) (Step.idx Tryz.underlying83 I128 (fun w h => (h.os 4 rfl)) rfl rfl (by first | rfl | omega) _ (show (0 : Int) = ((0 : Nat) : Int) from rfl) (by omega)) rfl ?_)
   refine RV.gw rfl (Step.fieldAddr rfl (F128_1 _ _)) rfl ?_
   refine RV.gw rfl (Step.load Tryz.underlying9 rfl rfl (fun w h => (h.os 4 rfl).cell (by omega) rfl)) rfl ?_
   refine RV.op (OV.split (gyes rfl) (Step.neqStr (l2 := [100, 114, 105, 118, 101, 114]) rfl rfl) rfl (fun k2 => ?_) (fun k2 => ?_))
   ·
    refine RV.s (Step.pick_f rfl rfl) rfl ?_
    refine RV.nil (KV.then_n (KV.env [(0, _), (1, _), (22, _)] ⟨rfl, rfl, rfl, trivial⟩ (CV.cond_t rfl (CV.seq (CV.region ?_)))))
    refine RV.a rfl rfl ?_
    refine RV.nil (KV.then_n (KV.env [(4, _)] ⟨rfl, trivial⟩ (CV.ret (KV.then_ret (KV.block_ret ?_)))))
    refine KV.then_ret ?_
    refine KV.sel [] [] rfl ?_
    exact KV.ret1 rfl rfl _ (fun _ h => h.sel [] rfl) (.inr ⟨lmR_dno h0 hnm (by first | exact fun k => k2 k.2 | exact fun k => k1 k.1), rfl, rfl⟩)
   ·
    refine RV.s (Step.pick_f rfl rfl) rfl ?_
    refine RV.nil (KV.then_n (KV.env [(0, _), (1, _), (22, _)] ⟨rfl, rfl, rfl, trivial⟩ (CV.cond_f rfl (CV.skip (KV.then_n ?_)))))
    refine KV.env [(0, _), (1, _)] ⟨rfl, rfl, trivial⟩ (CV.seq ?_)
    have hl2 : ts.length = 2 := by have := congrArg List.length (Decidable.not_not.1 k1); rw [List.length_map] at this; exact this
    refine CV.region ?_
    refine RV.m rfl rfl (RV.m rfl rfl (RV.m rfl rfl ?_))
    refine RV.op (OV.step gno (Step.idx Tryz.underlying83 I128 (fun w h => (h.os 4 rfl)) rfl rfl (by first | rfl | omega) _ (show (1 : Int) = ((1 : Nat) : Int) from rfl) (by omega)) rfl ?_)
    refine RV.s (Step.fieldAddr rfl (F128_1 _ _)) rfl ?_
    refine RV.s (Step.load Tryz.underlying9 rfl rfl (fun w h => (h.os 4 rfl).cell (by omega) rfl)) rfl ?_
    refine RV.s (Step.nilCheck rfl) rfl (RV.s (Step.fieldAddr rfl (F81_0 _ _)) rfl (RV.s (Step.fieldAddr rfl (F25_0 _ _)) rfl ?_))
    refine RV.op (OV.store 0 [_] #[_, _, _, _, _] I9 rfl rfl rfl rfl rfl (Nat.le_of_ble_eq_true rfl) (by simp [Value.oneCell']) rfl gno ?_)
    refine RV.s (Step.nilCheck rfl) rfl (RV.s (Step.fieldAddr rfl (F81_2 _ _)) rfl ?_)
    refine RV.op (OV.store 0 [_] #[_, _, _, _, _] I4 rfl rfl rfl rfl rfl (Nat.le_of_ble_eq_true rfl) (by simp [Value.oneCell']) rfl gno ?_)
    refine RV.nil (KV.then_n (KV.env [] trivial (CV.seq (CV.region ?_))))
    refine RV.a rfl rfl ?_
    refine RV.nil (KV.then_n (KV.env [(4, _)] ⟨rfl, trivial⟩ (CV.ret (KV.block_ret (KV.then_ret ?_)))))
    refine KV.sel [0, 0, 0, 0] [_, _, _, _] rfl ?_
    exact KV.ret1 rfl rfl _ (fun _ h => h) (.inl ⟨{ X with name := rtext (tA ts 1), named := true }, lmR_dok ht hnm (Decidable.not_not.1 k1) (Decidable.not_not.1 k2), ⟨by simp, by simp⟩, rfl, rfl⟩)
 ·
  have hnm := neg_f cc1
  refine CV.cond_f rfl (CV.seq (CV.region ?_))
  refine RV.m rfl rfl ?_
  refine RV.op (OV.step gno (Step.idx Tryz.underlying83 I128 (fun w h => (h.os 4 rfl)) rfl rfl (by first | rfl | omega) _ (show (0 : Int) = ((0 : Nat) : Int) from rfl) (by omega)) rfl ?_)
  refine RV.s (Step.fieldAddr rfl (F128_1 _ _)) rfl ?_
  refine RV.s (Step.load Tryz.underlying9 rfl rfl (fun w h => (h.os 4 rfl).cell (by omega) rfl)) rfl ?_
  refine RV.op (OV.split gno (Step.eqlStr (l2 := [115, 116, 97, 116, 101]) rfl rfl) rfl (fun k3 => ?_) (fun k3 => ?_))
  ·
   refine RV.a rfl rfl ?_
   refine RV.nil (KV.then_n (KV.env [(0, _), (1, _), (34, _)] ⟨rfl, rfl, rfl, trivial⟩ (CV.cond_t rfl (CV.seq (CV.seq ?_)))))
   refine CV.region ?_
   refine RV.m rfl rfl ?_
   refine RV.op (OV.call [] (F := [_, _, _, _, _]) Tryz.func60 B60 N60 rfl rfl (fun w h => kinds_fn (ts := ts) (h.os 4 rfl) rfl hl) (fun _ hb => hb.elim) gno rfl (fun v L' hp => ?_))
   obtain ⟨rfl, rfl⟩ := hp
   simp only [List.append_nil]
   refine RV.op (OV.split gno (Step.neqStr (l2 := [110, 110]) rfl rfl) rfl (fun k4 => ?_) (fun k4 => ?_))
   ·
    refine RV.nil (KV.then_n (KV.env [(0, _), (1, _), (42, _)] ⟨rfl, rfl, rfl, trivial⟩ (CV.cond_t rfl (CV.seq (CV.region ?_)))))
    refine RV.a rfl rfl ?_
    refine RV.nil (KV.then_n (KV.env [(4, _)] ⟨rfl, trivial⟩ (CV.ret (KV.then_ret (KV.block_ret ?_)))))
    refine KV.then_ret ?_
    refine KV.sel [] [] rfl ?_
    exact KV.ret1 rfl rfl _ (fun _ h => h.sel [] rfl) (.inr ⟨lmR_sno hnm k3 k4, rfl, rfl⟩)
   ·
    refine RV.nil (KV.then_n (KV.env [(0, _), (1, _), (42, _)] ⟨rfl, rfl, rfl, trivial⟩ (CV.cond_f rfl (CV.skip (KV.then_n ?_)))))
    refine KV.env [(0, _), (1, _)] ⟨rfl, rfl, trivial⟩ (CV.seq ?_)
    have hl2 : ts.length = 2 := by have := congrArg List.length (Decidable.not_not.1 k4); rw [List.length_map] at this; exact this
    refine CV.any (Hp I w [OS 128 rtokK A c ts]) (by kernel_rfl) (fun _ h => h.drew) 16 rfl ?_
    refine AV.u 0 (bl 16 1) rfl gno (Step.move rfl) rfl (fun _ h => h.sel [4] rfl) ?_
    refine AV.u 1 (bl 16 3) rfl gno (Step.move rfl) rfl (fun _ h => h.sel [4] rfl) ?_
    refine AV.u 2 (bl 16 7) rfl gno (Step.nilCheck rfl) rfl (fun _ h => h.sel [4] rfl) ?_
    refine AV.u 3 (bl 16 15) rfl gno (Step.fieldAddr rfl (F81_0 _ _)) rfl (fun _ h => h.sel [4] rfl) ?_
    refine AV.u 4 (bl 16 31) rfl gno (Step.fieldAddr rfl (F25_1 _ _)) rfl (fun _ h => h.sel [4] rfl) ?_
    refine AV.u 6 (bl 16 95) rfl gno (Step.move rfl) rfl (fun _ h => h.sel [4] rfl) ?_
    refine AV.u 7 (bl 16 223) rfl gno (Step.idx Tryz.underlying83 I128 (fun w h => h.os 0 rfl) rfl rfl (by first | rfl | omega) _ (show (1 : Int) = ((1 : Nat) : Int) from rfl) (by omega)) rfl (fun _ h => h.sel [4] rfl) ?_
    refine AV.u 8 (bl 16 479) rfl gno (Step.fieldAddr rfl (F128_1 _ _)) rfl (fun _ h => h.sel [4] rfl) ?_
    refine AV.u 9 (bl 16 991) rfl gno (Step.load Tryz.underlying9 rfl rfl (fun w h => (h.os 0 rfl).cell (by omega) rfl)) rfl (fun _ h => h.sel [4] rfl) ?_
    refine AV.all [5, 10] (by kernel_rfl) (by decide) ?_
    refine ⟨⟨_, rfl, ?_⟩, ⟨⟨_, rfl, ?_⟩, trivial⟩⟩
    ·
     refine OV.step gno (Step.load Tryz.underlying22 rfl rfl (fun w h => h.cell 0 rfl rfl)) rfl ?_
     refine AV.next (bl 16 1023) (by kernel_rfl) (fun _ h => h.sel [4] rfl) ?_
     refine AV.all [10] (by kernel_rfl) (by decide) ?_
     refine ⟨⟨_, rfl, ?_⟩, trivial⟩
     ·
      refine OV.buildSlice (K := strK) ([rtext (tA ts 1)]) rfl (Bs22_1_0 _) rfl rfl (by omega) gno rfl (fun y => ?_)
      refine AV.next (bl 16 2047) (by kernel_rfl) (fun _ h => h.sel [4] rfl) ?_
      refine AV.all [11] (by kernel_rfl) (by decide) ?_
      refine ⟨⟨_, rfl, ?_⟩, trivial⟩
      ·
       refine OV.append 1 Tryz.underlying22 I9 rfl rfl rfl rfl rfl rfl (fun w h => h.os 5 rfl) (by simp only [List.length_cons, List.length_nil]; omega) (by simp only [List.length_cons, List.length_nil]; omega) gno rfl (fun A2 c2 => ?_)
       refine AV.next (bl 16 4095) (by kernel_rfl) (fun _ h => h.sel [4] rfl) ?_
       refine AV.u 12 (bl 16 8191) rfl gno (Step.nilCheck rfl) rfl (fun _ h => h.sel [4] rfl) ?_
       refine AV.u 13 (bl 16 16383) rfl gno (Step.fieldAddr rfl (F81_0 _ _)) rfl (fun _ h => h.sel [4] rfl) ?_
       refine AV.u 14 (bl 16 32767) rfl gno (Step.fieldAddr rfl (F25_1 _ _)) rfl (fun _ h => h.sel [4] rfl) ?_
       refine AV.all [15] (by kernel_rfl) (by decide) ?_
       refine ⟨⟨_, rfl, ?_⟩, trivial⟩
       ·
        refine OV.store 0 [_] #[_, _, _, _, _] I22 rfl rfl rfl rfl rfl (Nat.le_of_ble_eq_true rfl) (by simp [Value.oneCell']) rfl gno ?_
        refine AV.next (bl 16 65535) (by kernel_rfl) (fun _ h => h.sel [4] rfl) ?_
        refine AV.done (by kernel_rfl) ?_
        refine KV.then_n (KV.env [] trivial (CV.seq (CV.region ?_)))
        refine RV.a rfl rfl ?_
        refine RV.nil (KV.then_n (KV.env [(4, _)] ⟨rfl, trivial⟩ (CV.ret (KV.block_ret (KV.then_ret ?_)))))
        refine KV.sel [0, 0, 0, 0] [_, _, _, _] rfl ?_
        exact KV.ret1 rfl rfl _ (fun _ h => h) (.inl ⟨{ X with sA := A2, sc := c2, ss := X.ss ++ [rtext (tA ts 1)] }, lmR_sok ht hnm (Decidable.not_not.1 k4) k3, ⟨by simp, by simp⟩, rfl, rfl⟩)
    ·
     refine OV.buildSlice (K := strK) ([rtext (tA ts 1)]) rfl (Bs22_1_0 _) rfl rfl (by omega) gno rfl (fun y => ?_)
     refine AV.next (bl 16 2015) (by kernel_rfl) (fun _ h => h.sel [4] rfl) ?_
     refine AV.all [5] (by kernel_rfl) (by decide) ?_
     refine ⟨⟨_, rfl, ?_⟩, trivial⟩
     ·
      refine OV.step gno (Step.load Tryz.underlying22 rfl rfl (fun w h => h.cell 0 rfl rfl)) rfl ?_
      refine AV.next (bl 16 2047) (by kernel_rfl) (fun _ h => h.sel [4] rfl) ?_
      refine AV.all [11] (by kernel_rfl) (by decide) ?_
      refine ⟨⟨_, rfl, ?_⟩, trivial⟩
      ·
       refine OV.append 1 Tryz.underlying22 I9 rfl rfl rfl rfl rfl rfl (fun w h => h.os 5 rfl) (by simp only [List.length_cons, List.length_nil]; omega) (by simp only [List.length_cons, List.length_nil]; omega) gno rfl (fun A2 c2 => ?_)
       refine AV.next (bl 16 4095) (by kernel_rfl) (fun _ h => h.sel [4] rfl) ?_
       refine AV.u 12 (bl 16 8191) rfl gno (Step.nilCheck rfl) rfl (fun _ h => h.sel [4] rfl) ?_
       refine AV.u 13 (bl 16 16383) rfl gno (Step.fieldAddr rfl (F81_0 _ _)) rfl (fun _ h => h.sel [4] rfl) ?_
       refine AV.u 14 (bl 16 32767) rfl gno (Step.fieldAddr rfl (F25_1 _ _)) rfl (fun _ h => h.sel [4] rfl) ?_
       refine AV.all [15] (by kernel_rfl) (by decide) ?_
       refine ⟨⟨_, rfl, ?_⟩, trivial⟩
       ·
        refine OV.store 0 [_] #[_, _, _, _, _] I22 rfl rfl rfl rfl rfl (Nat.le_of_ble_eq_true rfl) (by simp [Value.oneCell']) rfl gno ?_
        refine AV.next (bl 16 65535) (by kernel_rfl) (fun _ h => h.sel [4] rfl) ?_
        refine AV.done (by kernel_rfl) ?_
        refine KV.then_n (KV.env [] trivial (CV.seq (CV.region ?_)))
        refine RV.a rfl rfl ?_
        refine RV.nil (KV.then_n (KV.env [(4, _)] ⟨rfl, trivial⟩ (CV.ret (KV.block_ret (KV.then_ret ?_)))))
        refine KV.sel [0, 0, 0, 0] [_, _, _, _] rfl ?_
        exact KV.ret1 rfl rfl _ (fun _ h => h) (.inl ⟨{ X with sA := A2, sc := c2, ss := X.ss ++ [rtext (tA ts 1)] }, lmR_sok ht hnm (Decidable.not_not.1 k4) k3, ⟨by simp, by simp⟩, rfl, rfl⟩)
  ·
   refine RV.a rfl rfl ?_
   refine RV.nil (KV.then_n (KV.env [(0, _), (1, _), (34, _)] ⟨rfl, rfl, rfl, trivial⟩ (CV.cond_f rfl (CV.seq (CV.region ?_)))))
   refine RV.m rfl rfl ?_
   refine RV.op (OV.step gno (Step.idx Tryz.underlying83 I128 (fun w h => (h.os 4 rfl)) rfl rfl (by first | rfl | omega) _ (show (0 : Int) = ((0 : Nat) : Int) from rfl) (by omega)) rfl ?_)
   refine RV.s (Step.fieldAddr rfl (F128_1 _ _)) rfl ?_
   refine RV.s (Step.load Tryz.underlying9 rfl rfl (fun w h => (h.os 4 rfl).cell (by omega) rfl)) rfl ?_
   refine RV.op (OV.split gno (Step.eqlStr (l2 := [111, 110]) rfl rfl) rfl (fun k5 => ?_) (fun k5 => ?_))
   ·
    refine RV.m rfl rfl (RV.gw rfl (Step.move rfl) rfl (RV.gw rfl (Step.nilCheck rfl) rfl (RV.gw rfl (Step.fieldAddr rfl (F81_0 _ _)) rfl (RV.gw rfl (Step.fieldAddr rfl (F25_1 _ _)) rfl (RV.gw rfl (Step.load Tryz.underlying22 rfl rfl (fun w h => h.cell 0 rfl rfl)) rfl (RV.gw rfl (Step.lenSl Tryz.underlying22 rfl) rfl ?_))))))
    refine RV.op (OV.split (gyes rfl) (Step.gtr rfl rfl) rfl (fun k6 => ?_) (fun k6 => ?_))
    ·
     refine RV.s (Step.pick_t rfl rfl) rfl (RV.a rfl rfl ?_)
     refine RV.nil (KV.then_n (KV.env [(0, _), (1, _), (58, _)] ⟨rfl, rfl, rfl, trivial⟩ (CV.cond_t rfl (CV.seq ?_))))
     have hkb : kB (tA ts 0) = 110 := by rw [rt_nm (t := tA ts 0) (by rw [k5]; decide)]; rfl
     have hss : X.ss ≠ [] := by intro e; rw [e] at k6; exact absurd k6 (by decide)
     refine CV.region ?_
     refine RV.m rfl rfl (RV.m rfl rfl (RV.s (Step.nilCheck rfl) rfl (RV.s (Step.fieldAddr rfl (F81_0 _ _)) rfl (RV.s (Step.fieldAddr rfl (F25_1 _ _)) rfl (RV.s (Step.load Tryz.underlying22 rfl rfl (fun w h => h.cell 0 rfl rfl)) rfl (RV.s (Step.lenSl Tryz.underlying22 rfl) rfl ?_))))))
     (first | refine RV.op (OV.step gno (Step.sub rfl rfl (wI64 (by omega) (by omega))) rfl ?_) | refine RV.op (OV.step gno (Step.sub rfl rfl rfl) rfl ?_))
     refine RV.op (OV.call [] (F := [_, _, _, _, _]) Tryz.func61 B61 N61 rfl rfl (fun w h => ron_fn ((X.ss.length : Int) - 1) (h.os 4 rfl) (h.osCap 4 rfl).1 ht hl h0 hkb) (fun _ hb => hb.elim) gno rfl (fun v L' hp => ?_))
     rcases hp with ⟨x, A1, c1, hon, hol, rfl, rfl⟩ | ⟨hon, y0, hy1, hy2, hy3, rfl, rfl⟩
     ·
      skip
      obtain ⟨yy, hyy⟩ : ∃ yy : LH, yy = (⟨⟨{ x.1 with frm := (X.ss.length : Int) - 1 }, A1, c1⟩, x.2⟩ : LH) := ⟨_, rfl⟩
      rw [← hyy]
      refine RV.m rfl rfl (RV.s (Step.extract0 rfl rfl) rfl (RV.s (Step.extract0 rfl rfl) rfl ?_))
      refine RV.op (OV.alloc #[.int .i64 0, .string (Sv.bs []), .bool false, .int .u64 0, .int .u64 0, .int .u64 0, .slice none 0 0, .int .i64 0, .string (Sv.bs [])] I88 rfl gno rfl (fun x5 => ?_))
      refine RV.op (OV.store 6 [_, _, _, _, _, _, _, _, _] #[_, _, _, _, _, _, _, _, _] I88 rfl rfl rfl rfl rfl (Nat.le_of_ble_eq_true rfl) (by simp [Value.oneCell']) rfl gno ?_)
      refine RV.a rfl rfl ?_
      refine RV.nil (KV.then_n (KV.env [(0, _), (5, _), (6, _)] ⟨rfl, rfl, rfl, trivial⟩ (CV.seq ?_)))
      refine CV.any (Hp I w [Blk x5 (.cells #[.int .i64 yy.h.t.frm, .string (bs yy.h.t.ev), .bool yy.h.t.gd.used, .int .u64 yy.h.t.gd.reg, .int .u64 yy.h.t.gd.mask, .int .u64 yy.h.t.gd.val, .slice yy.h.A yy.h.t.ops.length yy.h.c, .int .i64 yy.h.t.to, .string (bs yy.to)] 88 (0, 0))]) (by kernel_rfl) (fun _ h => h.drew) 11 rfl ?_
      refine AV.u 0 (bl 11 1) rfl gno (Step.move rfl) rfl (fun _ h => h.sel [6] rfl) ?_
      refine AV.u 1 (bl 11 3) rfl gno (Step.move rfl) rfl (fun _ h => h.sel [6] rfl) ?_
      refine AV.u 2 (bl 11 7) rfl gno (Step.nilCheck rfl) rfl (fun _ h => h.sel [6] rfl) ?_
      refine AV.u 3 (bl 11 15) rfl gno (Step.fieldAddr rfl (F81_1 _ _)) rfl (fun _ h => h.sel [6] rfl) ?_
      refine AV.u 5 (bl 11 47) rfl gno (Step.loadN _ Tryz.underlying88 rfl I88 rfl rfl (fun w h => h.cells 0 rfl)) rfl (fun _ h => h.sel [6] rfl) ?_
      refine AV.all [4, 6] (by kernel_rfl) (by decide) ?_
      refine ⟨⟨_, rfl, ?_⟩, ⟨⟨_, rfl, ?_⟩, trivial⟩⟩
      ·
       refine OV.step gno (Step.load Tryz.underlying79 rfl rfl (fun w h => h.cell 0 rfl rfl)) rfl ?_
       refine AV.next (bl 11 63) (by kernel_rfl) (fun _ h => h.sel [6] rfl) ?_
       refine AV.all [6] (by kernel_rfl) (by decide) ?_
       refine ⟨⟨_, rfl, ?_⟩, trivial⟩
       ·
        refine OV.buildSlice (K := lnK) ([yy]) rfl (Bs79_1_0 _ _ _ _ _ _ _ _ _) rfl rfl (by omega) gno rfl (fun y => ?_)
        refine AV.next (bl 11 127) (by kernel_rfl) (fun _ h => h.sel [6] rfl) ?_
        refine AV.all [7] (by kernel_rfl) (by decide) ?_
        refine ⟨⟨_, rfl, ?_⟩, trivial⟩
        ·
         refine OV.append 2 Tryz.underlying79 I88 rfl rfl rfl rfl rfl rfl (fun w h => h.os 7 rfl) (by simp only [List.length_cons, List.length_nil]; omega) (by simp only [List.length_cons, List.length_nil]; omega) gno rfl (fun A2 c2 => ?_)
         refine AV.next (bl 11 255) (by kernel_rfl) (fun _ h => h.sel [6] rfl) ?_
         refine AV.u 8 (bl 11 511) rfl gno (Step.nilCheck rfl) rfl (fun _ h => h.sel [6] rfl) ?_
         refine AV.u 9 (bl 11 1023) rfl gno (Step.fieldAddr rfl (F81_1 _ _)) rfl (fun _ h => h.sel [6] rfl) ?_
         refine AV.all [10] (by kernel_rfl) (by decide) ?_
         refine ⟨⟨_, rfl, ?_⟩, trivial⟩
         ·
          refine OV.store 0 [_] #[_, _, _, _, _] I79 rfl rfl rfl rfl rfl (Nat.le_of_ble_eq_true rfl) (by simp [Value.oneCell']) rfl gno ?_
          refine AV.next (bl 11 2047) (by kernel_rfl) (fun _ h => h.sel [6] rfl) ?_
          refine AV.done (by kernel_rfl) ?_
          refine KV.then_n (KV.env [(6, _)] ⟨rfl, trivial⟩ (CV.seq (CV.region ?_)))
          refine RV.m rfl rfl (RV.a rfl rfl ?_)
          refine RV.nil (KV.then_n (KV.env [(4, _)] ⟨rfl, trivial⟩ (CV.ret (KV.block_ret (KV.then_ret ?_)))))
          refine KV.sel [0, 0, 0, 0, 1] [_, _, _, _, _] rfl ?_
          have hlm := lmR_on (p := X.ps) (ts := ts) hnm k5 hss
          rw [hon] at hlm
          first | exact KV.ret1 rfl rfl _ (fun _ h => Hp.bigL yy h (by rw [hyy]; rfl)) (.inl ⟨{ X with aA := A2, ac := c2, al := X.al ++ [yy] }, by rw [hlm, hyy]; simp [RH.ps], ⟨by simp, by simp⟩, rfl, rfl⟩) | exact KV.ret1 rfl rfl _ (fun _ h => h) (.inr ⟨hlm, rfl, rfl⟩)
      ·
       refine OV.buildSlice (K := lnK) ([yy]) rfl (Bs79_1_0 _ _ _ _ _ _ _ _ _) rfl rfl (by omega) gno rfl (fun y => ?_)
       refine AV.next (bl 11 111) (by kernel_rfl) (fun _ h => h.sel [6] rfl) ?_
       refine AV.all [4] (by kernel_rfl) (by decide) ?_
       refine ⟨⟨_, rfl, ?_⟩, trivial⟩
       ·
        refine OV.step gno (Step.load Tryz.underlying79 rfl rfl (fun w h => h.cell 0 rfl rfl)) rfl ?_
        refine AV.next (bl 11 127) (by kernel_rfl) (fun _ h => h.sel [6] rfl) ?_
        refine AV.all [7] (by kernel_rfl) (by decide) ?_
        refine ⟨⟨_, rfl, ?_⟩, trivial⟩
        ·
         refine OV.append 2 Tryz.underlying79 I88 rfl rfl rfl rfl rfl rfl (fun w h => h.os 7 rfl) (by simp only [List.length_cons, List.length_nil]; omega) (by simp only [List.length_cons, List.length_nil]; omega) gno rfl (fun A2 c2 => ?_)
         refine AV.next (bl 11 255) (by kernel_rfl) (fun _ h => h.sel [6] rfl) ?_
         refine AV.u 8 (bl 11 511) rfl gno (Step.nilCheck rfl) rfl (fun _ h => h.sel [6] rfl) ?_
         refine AV.u 9 (bl 11 1023) rfl gno (Step.fieldAddr rfl (F81_1 _ _)) rfl (fun _ h => h.sel [6] rfl) ?_
         refine AV.all [10] (by kernel_rfl) (by decide) ?_
         refine ⟨⟨_, rfl, ?_⟩, trivial⟩
         ·
          refine OV.store 0 [_] #[_, _, _, _, _] I79 rfl rfl rfl rfl rfl (Nat.le_of_ble_eq_true rfl) (by simp [Value.oneCell']) rfl gno ?_
          refine AV.next (bl 11 2047) (by kernel_rfl) (fun _ h => h.sel [6] rfl) ?_
          refine AV.done (by kernel_rfl) ?_
          refine KV.then_n (KV.env [(6, _)] ⟨rfl, trivial⟩ (CV.seq (CV.region ?_)))
          refine RV.m rfl rfl (RV.a rfl rfl ?_)
          refine RV.nil (KV.then_n (KV.env [(4, _)] ⟨rfl, trivial⟩ (CV.ret (KV.block_ret (KV.then_ret ?_)))))
          refine KV.sel [0, 0, 0, 0, 1] [_, _, _, _, _] rfl ?_
          have hlm := lmR_on (p := X.ps) (ts := ts) hnm k5 hss
          rw [hon] at hlm
          first | exact KV.ret1 rfl rfl _ (fun _ h => Hp.bigL yy h (by rw [hyy]; rfl)) (.inl ⟨{ X with aA := A2, ac := c2, al := X.al ++ [yy] }, by rw [hlm, hyy]; simp [RH.ps], ⟨by simp, by simp⟩, rfl, rfl⟩) | exact KV.ret1 rfl rfl _ (fun _ h => h) (.inr ⟨hlm, rfl, rfl⟩)
     ·
      skip
      simp only [List.append_nil]
      obtain ⟨yy, hyy⟩ : ∃ yy : LH, yy = y0 := ⟨_, rfl⟩
      rw [← hyy]
      refine RV.m rfl rfl (RV.s (Step.extract0 rfl rfl) rfl (RV.s (Step.extract0 rfl rfl) rfl ?_))
      refine RV.op (OV.alloc #[.int .i64 0, .string (Sv.bs []), .bool false, .int .u64 0, .int .u64 0, .int .u64 0, .slice none 0 0, .int .i64 0, .string (Sv.bs [])] I88 rfl gno rfl (fun x5 => ?_))
      refine RV.op (OV.store 5 [_, _, _, _, _, _, _, _, _] #[_, _, _, _, _, _, _, _, _] I88 rfl rfl rfl rfl rfl (Nat.le_of_ble_eq_true rfl) (by simp [Value.oneCell']) rfl gno ?_)
      refine RV.a rfl rfl ?_
      refine RV.nil (KV.then_n (KV.env [(0, _), (5, _), (6, _)] ⟨rfl, rfl, rfl, trivial⟩ (CV.seq ?_)))
      refine CV.any (Hp I w [Blk x5 (.cells #[.int .i64 yy.h.t.frm, .string (bs yy.h.t.ev), .bool yy.h.t.gd.used, .int .u64 yy.h.t.gd.reg, .int .u64 yy.h.t.gd.mask, .int .u64 yy.h.t.gd.val, .slice yy.h.A yy.h.t.ops.length yy.h.c, .int .i64 yy.h.t.to, .string (bs yy.to)] 88 (0, 0))]) (by kernel_rfl) (fun _ h => h.drew) 11 rfl ?_
      refine AV.u 0 (bl 11 1) rfl gno (Step.move rfl) rfl (fun _ h => h.sel [5] rfl) ?_
      refine AV.u 1 (bl 11 3) rfl gno (Step.move rfl) rfl (fun _ h => h.sel [5] rfl) ?_
      refine AV.u 2 (bl 11 7) rfl gno (Step.nilCheck rfl) rfl (fun _ h => h.sel [5] rfl) ?_
      refine AV.u 3 (bl 11 15) rfl gno (Step.fieldAddr rfl (F81_1 _ _)) rfl (fun _ h => h.sel [5] rfl) ?_
      refine AV.u 5 (bl 11 47) rfl gno (Step.loadN _ Tryz.underlying88 rfl I88 rfl rfl (fun w h => h.cells 0 rfl)) rfl (fun _ h => h.sel [5] rfl) ?_
      refine AV.all [4, 6] (by kernel_rfl) (by decide) ?_
      refine ⟨⟨_, rfl, ?_⟩, ⟨⟨_, rfl, ?_⟩, trivial⟩⟩
      ·
       refine OV.step gno (Step.load Tryz.underlying79 rfl rfl (fun w h => h.cell 0 rfl rfl)) rfl ?_
       refine AV.next (bl 11 63) (by kernel_rfl) (fun _ h => h.sel [5] rfl) ?_
       refine AV.all [6] (by kernel_rfl) (by decide) ?_
       refine ⟨⟨_, rfl, ?_⟩, trivial⟩
       ·
        refine OV.buildSlice (K := lnK) ([yy]) rfl (Bs79_1_0 _ _ _ _ _ _ _ _ _) rfl rfl (by omega) gno rfl (fun y => ?_)
        refine AV.next (bl 11 127) (by kernel_rfl) (fun _ h => h.sel [5] rfl) ?_
        refine AV.all [7] (by kernel_rfl) (by decide) ?_
        refine ⟨⟨_, rfl, ?_⟩, trivial⟩
        ·
         refine OV.append 2 Tryz.underlying79 I88 rfl rfl rfl rfl rfl rfl (fun w h => h.os 6 rfl) (by simp only [List.length_cons, List.length_nil]; omega) (by simp only [List.length_cons, List.length_nil]; omega) gno rfl (fun A2 c2 => ?_)
         refine AV.next (bl 11 255) (by kernel_rfl) (fun _ h => h.sel [5] rfl) ?_
         refine AV.u 8 (bl 11 511) rfl gno (Step.nilCheck rfl) rfl (fun _ h => h.sel [5] rfl) ?_
         refine AV.u 9 (bl 11 1023) rfl gno (Step.fieldAddr rfl (F81_1 _ _)) rfl (fun _ h => h.sel [5] rfl) ?_
         refine AV.all [10] (by kernel_rfl) (by decide) ?_
         refine ⟨⟨_, rfl, ?_⟩, trivial⟩
         ·
          refine OV.store 0 [_] #[_, _, _, _, _] I79 rfl rfl rfl rfl rfl (Nat.le_of_ble_eq_true rfl) (by simp [Value.oneCell']) rfl gno ?_
          refine AV.next (bl 11 2047) (by kernel_rfl) (fun _ h => h.sel [5] rfl) ?_
          refine AV.done (by kernel_rfl) ?_
          refine KV.then_n (KV.env [(6, _)] ⟨rfl, trivial⟩ (CV.seq (CV.region ?_)))
          refine RV.m rfl rfl (RV.a rfl rfl ?_)
          refine RV.nil (KV.then_n (KV.env [(4, _)] ⟨rfl, trivial⟩ (CV.ret (KV.block_ret (KV.then_ret ?_)))))
          refine KV.sel [] [] rfl ?_
          have hlm := lmR_on (p := X.ps) (ts := ts) hnm k5 hss
          rw [hon] at hlm
          first | exact KV.ret1 rfl rfl _ (fun _ h => Hp.bigL yy h (by rw [hyy]; rfl)) (.inl ⟨{ X with aA := A2, ac := c2, al := X.al ++ [yy] }, by rw [hlm, hyy]; simp [RH.ps], ⟨by simp, by simp⟩, rfl, rfl⟩) | exact KV.ret1 rfl rfl _ (fun _ h => h) (.inr ⟨hlm, rfl, rfl⟩)
      ·
       refine OV.buildSlice (K := lnK) ([yy]) rfl (Bs79_1_0 _ _ _ _ _ _ _ _ _) rfl rfl (by omega) gno rfl (fun y => ?_)
       refine AV.next (bl 11 111) (by kernel_rfl) (fun _ h => h.sel [5] rfl) ?_
       refine AV.all [4] (by kernel_rfl) (by decide) ?_
       refine ⟨⟨_, rfl, ?_⟩, trivial⟩
       ·
        refine OV.step gno (Step.load Tryz.underlying79 rfl rfl (fun w h => h.cell 0 rfl rfl)) rfl ?_
        refine AV.next (bl 11 127) (by kernel_rfl) (fun _ h => h.sel [5] rfl) ?_
        refine AV.all [7] (by kernel_rfl) (by decide) ?_
        refine ⟨⟨_, rfl, ?_⟩, trivial⟩
        ·
         refine OV.append 2 Tryz.underlying79 I88 rfl rfl rfl rfl rfl rfl (fun w h => h.os 6 rfl) (by simp only [List.length_cons, List.length_nil]; omega) (by simp only [List.length_cons, List.length_nil]; omega) gno rfl (fun A2 c2 => ?_)
         refine AV.next (bl 11 255) (by kernel_rfl) (fun _ h => h.sel [5] rfl) ?_
         refine AV.u 8 (bl 11 511) rfl gno (Step.nilCheck rfl) rfl (fun _ h => h.sel [5] rfl) ?_
         refine AV.u 9 (bl 11 1023) rfl gno (Step.fieldAddr rfl (F81_1 _ _)) rfl (fun _ h => h.sel [5] rfl) ?_
         refine AV.all [10] (by kernel_rfl) (by decide) ?_
         refine ⟨⟨_, rfl, ?_⟩, trivial⟩
         ·
          refine OV.store 0 [_] #[_, _, _, _, _] I79 rfl rfl rfl rfl rfl (Nat.le_of_ble_eq_true rfl) (by simp [Value.oneCell']) rfl gno ?_
          refine AV.next (bl 11 2047) (by kernel_rfl) (fun _ h => h.sel [5] rfl) ?_
          refine AV.done (by kernel_rfl) ?_
          refine KV.then_n (KV.env [(6, _)] ⟨rfl, trivial⟩ (CV.seq (CV.region ?_)))
          refine RV.m rfl rfl (RV.a rfl rfl ?_)
          refine RV.nil (KV.then_n (KV.env [(4, _)] ⟨rfl, trivial⟩ (CV.ret (KV.block_ret (KV.then_ret ?_)))))
          refine KV.sel [] [] rfl ?_
          have hlm := lmR_on (p := X.ps) (ts := ts) hnm k5 hss
          rw [hon] at hlm
          first | exact KV.ret1 rfl rfl _ (fun _ h => Hp.bigL yy h (by rw [hyy]; rfl)) (.inl ⟨{ X with aA := A2, ac := c2, al := X.al ++ [yy] }, by rw [hlm, hyy]; simp [RH.ps], ⟨by simp, by simp⟩, rfl, rfl⟩) | exact KV.ret1 rfl rfl _ (fun _ h => h) (.inr ⟨hlm, rfl, rfl⟩)
    ·
     refine RV.s (Step.pick_t rfl rfl) rfl (RV.a rfl rfl ?_)
     refine RV.nil (KV.then_n (KV.env [(0, _), (1, _), (58, _)] ⟨rfl, rfl, rfl, trivial⟩ (CV.cond_f rfl (CV.skip (KV.block_n ?_)))))
     refine KV.then_n (KV.env [] trivial (CV.seq (CV.region ?_)))
     refine RV.a rfl rfl ?_
     refine RV.nil (KV.then_n (KV.env [(4, _)] ⟨rfl, trivial⟩ (CV.ret ?_)))
     refine KV.sel [] [] rfl ?_
     exact KV.ret1 rfl rfl _ (fun _ h => h.sel [] rfl) (.inr ⟨lmR_no h0 hnm k3 (by first | exact fun k => k5 k.1 | exact fun k => k6 (by have h9 : 0 < X.ss.length := List.length_pos_iff.2 k.2; omega)), rfl, rfl⟩)
   ·
    refine RV.m rfl rfl (RV.k rfl rfl (RV.k rfl rfl (RV.k rfl rfl (RV.k rfl rfl (RV.k rfl rfl (RV.k rfl rfl (RV.k rfl rfl ?_)))))))
    refine RV.s (Step.pick_f rfl rfl) rfl (RV.a rfl rfl ?_)
    refine RV.nil (KV.then_n (KV.env [(0, _), (1, _), (58, _)] ⟨rfl, rfl, rfl, trivial⟩ (CV.cond_f rfl (CV.skip (KV.block_n ?_)))))
    refine KV.then_n (KV.env [] trivial (CV.seq (CV.region ?_)))
    refine RV.a rfl rfl ?_
    refine RV.nil (KV.then_n (KV.env [(4, _)] ⟨rfl, trivial⟩ (CV.ret ?_)))
    refine KV.sel [] [] rfl ?_
    exact KV.ret1 rfl rfl _ (fun _ h => h.sel [] rfl) (.inr ⟨lmR_no h0 hnm k3 (by first | exact fun k => k5 k.1 | exact fun k => k6 (by have h9 : 0 < X.ss.length := List.length_pos_iff.2 k.2; omega)), rfl, rfl⟩)
end Go.Proofs.YtplmfekhdaefaaaGreatDoor
