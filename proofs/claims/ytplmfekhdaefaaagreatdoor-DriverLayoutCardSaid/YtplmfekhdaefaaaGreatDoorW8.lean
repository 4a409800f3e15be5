/-
 Walks, part 8.
-/
import Derived.Test.YtplmfekhdaefaaaGreatDoorTabA
import Derived.Test.YtplmfekhdaefaaaGreatDoorW7
import Derived.Test.YtplmfekhdaefaaaGreatDoorDmA
set_option linter.unusedSimpArgs false
set_option linter.unusedVariables false
namespace Go.Proofs.YtplmfekhdaefaaaGreatDoor
open Go.Sv Go.Drv
def psL (p : Nat) (P : PH) : List Assn := [Blk p (.cells #[.string (bs P.name), .slice P.sA P.ss.length P.sc, .slice P.tA P.hs.length P.tc, .bool P.named, .slice P.gA P.tg.length P.gc] 67 (0, 0)), OS 9 strK P.sA P.sc P.ss, OS 48 thK P.tA P.tc P.hs, Big opA P.hs, OS 9 strK P.gA P.gc P.tg]
structure Grow (P P' : PH) : Prop where
 s : P'.ss.length ≤ P.ss.length + 1
 t : P'.hs.length ≤ P.hs.length + 1
 g : P'.tg.length ≤ P.tg.length + 1

set_option maxRecDepth 100000 in
set_option maxHeartbeats 16000000 in
theorem line_fn {p : Nat} {A : Option Addr} {c : Nat} {ts : List MT} {w : World} (P : PH) (ht : ∀ x ∈ ts, tkOk x) (hl : ts.length ≤ 1000000) (h1 : P.ss.length ≤ 1000000) (h2 : P.hs.length ≤ 1000000) (h3 : P.tg.length ≤ 1000000) : Fx Tryz.prog 27 [.pointer (some ⟨p, 0, none⟩), .slice A ts.length c] w (psL p P ++ [OS 114 tokK A c ts]) no (fun v L => (∃ P' : PH, lineM P.ps ts = some P'.ps ∧ Grow P P' ∧ v = .bool true ∧ L = psL p P' ++ [OS 114 tokK A c ts]) ∨ (lineM P.ps ts = none ∧ v = .bool false ∧ L = [])) := by
 refine Sv.Fx.body Tryz.func27 rfl T27 rfl ?_
 intro I hro hI
 refine KV.env [(0, _), (1, _)] ⟨rfl, rfl, trivial⟩ ?_
 unfold psL
 refine CV.seq (CV.region ?_)
 refine RV.a rfl rfl ?_
 refine RV.nil (KV.then_n (KV.env [(0, _), (1, _)] ⟨rfl, rfl, trivial⟩ (CV.seq (CV.seq (CV.region ?_)))))
 refine RV.m rfl rfl (RV.s (Step.lenSl Tryz.underlying71 rfl) rfl ?_)
 refine RV.op (OV.split gno (Step.eql rfl rfl) rfl (fun hz => ?_) (fun hz => ?_))
 ·
  refine RV.nil (KV.then_n (KV.env [(0, _), (1, _), (15, _)] ⟨rfl, rfl, rfl, trivial⟩ (CV.cond_t rfl (CV.seq (CV.region ?_)))))
  refine RV.a rfl rfl ?_
  refine RV.nil (KV.then_n (KV.env [(4, _)] ⟨rfl, trivial⟩ (CV.ret (KV.then_ret ?_))))
  refine KV.sel [0, 0, 0, 0, 0, 0] [_, _, _, _, _, _] rfl ?_
  exact KV.ret1 rfl rfl _ (fun _ h => h) (.inl ⟨P, lm_nil (by omega), ⟨Nat.le_succ _, Nat.le_succ _, Nat.le_succ _⟩, rfl, rfl⟩)
 ·
  refine RV.nil (KV.then_n (KV.env [(0, _), (1, _), (15, _)] ⟨rfl, rfl, rfl, trivial⟩ (CV.cond_f rfl (CV.skip (KV.then_n ?_)))))
  refine KV.env [(0, _), (1, _)] ⟨rfl, rfl, trivial⟩ (CV.seq (CV.region ?_))
  refine RV.m rfl rfl (RV.s (Step.build rfl (Bd121_0 _ _ _)) rfl ?_)
  refine RV.op (OV.alloc #[.slice none 0 0, .int .i64 0] I121 rfl gno rfl (fun q => ?_))
  refine RV.op (OV.store 6 [_, _] #[_, _] I121 rfl rfl rfl rfl rfl (Nat.le_of_ble_eq_true rfl) (by simp [Value.oneCell']) rfl gno ?_)
  refine RV.nil (KV.then_n (KV.env [(0, _), (5, _)] ⟨rfl, rfl, trivial⟩ (CV.seq (CV.region ?_))))
  refine RV.op (OV.call [6, 5] (F := [_, _, _, _, _]) Tryz.func53 B53 N53 rfl rfl (fun w h => name_fn (i := 0) (Nat.zero_le _) hl) (fun _ hb => hb.elim) gno rfl (fun v L' hp => ?_))
  rcases hp with ⟨kw, hK, hKl, rfl, rfl⟩ | ⟨hK, rfl, rfl⟩
  ·
   skip
   refine RV.m rfl rfl (RV.s (Step.extract0 rfl rfl) rfl (RV.s (Step.extract0 rfl rfl) rfl (RV.a rfl rfl (RV.a rfl rfl ?_))))
   refine RV.nil (KV.then_n (KV.env [(0, _), (5, _), (6, _), (7, _)] ⟨rfl, rfl, rfl, rfl, trivial⟩ (CV.seq (CV.seq (CV.region ?_)))))
   refine RV.m rfl rfl (RV.s (Step.not rfl) rfl ?_)
   refine RV.nil (KV.then_n (KV.env [(0, _), (5, _), (6, _), (23, _)] ⟨rfl, rfl, rfl, rfl, trivial⟩ (CV.cond_f rfl (CV.skip (KV.then_n ?_)))))
   refine KV.env [(0, _), (5, _), (6, _)] ⟨rfl, rfl, rfl, trivial⟩ (CV.seq (CV.block (CV.seq (CV.region ?_))))
   refine RV.m rfl rfl (RV.s (Step.nilCheck rfl) rfl (RV.s (Step.fieldAddr rfl (F67_1 _ _)) rfl (RV.s (Step.load Tryz.underlying4 rfl rfl (fun w h => h.cell 0 rfl rfl)) rfl (RV.s (Step.not rfl) rfl (RV.a rfl rfl ?_)))))
   refine RV.nil (KV.then_n (KV.env [(0, _), (5, _), (6, _), (24, _)] ⟨rfl, rfl, rfl, rfl, trivial⟩ ?_))
   refine KV.cases 24 rfl (fun cc1 => ?_) (fun cc1 => ?_)
   ·
    have hnd := neg_t cc1
    refine CV.cond_t rfl (CV.seq (CV.region ?_))
    refine RV.m rfl rfl ?_
    refine RV.op (OV.call [5, 5] (F := [_, _, _, _, _]) Tryz.func53 B53 N53 rfl rfl (fun w h => name_fn (by omega) hl) (fun _ hb => hb.elim) gno rfl (fun v L' hp => ?_))
    rcases hp with ⟨n, hN, hNl, rfl, rfl⟩ | ⟨hN, rfl, rfl⟩
    ·
     skip
     refine RV.m rfl rfl (RV.s (Step.extract0 rfl rfl) rfl (RV.s (Step.extract0 rfl rfl) rfl (RV.s (Step.nilCheck rfl) rfl (RV.s (Step.fieldAddr rfl (F67_0 _ _)) rfl (RV.s (Step.fieldAddr rfl (F25_0 _ _)) rfl ?_)))))
     refine RV.op (OV.store 0 [_] #[_, _, _, _, _] I9 rfl rfl rfl rfl rfl (Nat.le_of_ble_eq_true rfl) (by simp [Value.oneCell']) rfl gno ?_)
     refine RV.a rfl rfl ?_
     refine RV.nil (KV.then_n (KV.env [(0, _), (5, _), (6, _), (7, _)] ⟨rfl, rfl, rfl, rfl, trivial⟩ (CV.seq (CV.region ?_))))
     refine RV.m rfl rfl (RV.s (Step.nilCheck rfl) rfl (RV.s (Step.fieldAddr rfl (F67_1 _ _)) rfl ?_))
     refine RV.op (OV.store 0 [_] #[_, _, _, _, _] I4 rfl rfl rfl rfl rfl (Nat.le_of_ble_eq_true rfl) (by simp [Value.oneCell']) rfl gno ?_)
     refine RV.nil (KV.then_n (KV.env [(5, _), (6, _), (7, _)] ⟨rfl, rfl, rfl, trivial⟩ (CV.seq (CV.region ?_))))
     refine RV.m rfl rfl (RV.m rfl rfl (RV.gw rfl (Step.move rfl) rfl ?_))
     refine RV.op (OV.split (gyes rfl) (Step.eqlStr (l2 := [100, 114, 105, 118, 101, 114]) rfl rfl) rfl (fun hkd => ?_) (fun hkd => ?_))
     ·
      refine RV.s (Step.pick_t rfl rfl) rfl (RV.m rfl rfl ?_)
      refine RV.op (OV.call [] (F := [_, _, _, _, _, _, _]) Tryz.func54 B54 N54 rfl rfl (fun w h => atEnd_fn (h.blk 5 rfl)) (fun _ hb => hb.elim) (gyes rfl) rfl (fun v L' hp => ?_))
      obtain ⟨rfl, rfl⟩ := hp
      simp only [List.append_nil]
      refine RV.s (Step.pick_t rfl rfl) rfl (RV.a rfl rfl ?_)
      refine RV.nil (KV.then_n (KV.env [(4, _)] ⟨rfl, trivial⟩ (CV.ret (KV.block_ret (KV.then_ret ?_)))))
      refine KV.sel [0, 0, 0, 0, 0, 1] [_, _, _, _, _, _] rfl ?_
      (first | (exact KV.ret1 rfl rfl _ (fun _ h => h.sel [] rfl) (.inr ⟨lm_dn hK hnd hN, rfl, rfl⟩)) | (exact KV.ret1 rfl rfl _ (fun _ h => h.sel [] rfl) (.inr ⟨lm_dk hK hnd hkd, rfl, rfl⟩)) | (by_cases hend : 0 + 1 + 1 = ts.length; (rw [decide_eq_true hend]; exact KV.ret1 rfl rfl _ (fun _ h => h) (.inl ⟨{ P with named := true, name := n }, lm_dok hK hnd hN hkd hend, ⟨by first | exact Nat.le_succ _ | (show (_ ++ _ : List _).length ≤ _; rw [List.length_append]; exact Nat.le_refl _), by first | exact Nat.le_succ _ | (show (_ ++ _ : List _).length ≤ _; rw [List.length_append]; exact Nat.le_refl _), by first | exact Nat.le_succ _ | (show (_ ++ _ : List _).length ≤ _; rw [List.length_append]; exact Nat.le_refl _)⟩, rfl, rfl⟩)); rw [decide_eq_false hend]; exact KV.ret1 rfl rfl _ (fun _ h => h.sel [] rfl) (.inr ⟨lm_de hK hnd hN (by omega) hend, rfl, rfl⟩)))
     ·
      refine RV.s (Step.pick_t rfl rfl) rfl (RV.m rfl rfl (RV.k rfl rfl (RV.s (Step.pick_f rfl rfl) rfl (RV.a rfl rfl ?_))))
      refine RV.nil (KV.then_n (KV.env [(4, _)] ⟨rfl, trivial⟩ (CV.ret (KV.block_ret (KV.then_ret ?_)))))
      refine KV.sel [0, 0, 0, 0, 0, 1] [_, _, _, _, _, _] rfl ?_
      (first | (exact KV.ret1 rfl rfl _ (fun _ h => h.sel [] rfl) (.inr ⟨lm_dn hK hnd hN, rfl, rfl⟩)) | (exact KV.ret1 rfl rfl _ (fun _ h => h.sel [] rfl) (.inr ⟨lm_dk hK hnd hkd, rfl, rfl⟩)) | (by_cases hend : 0 + 1 + 1 = ts.length; (rw [decide_eq_true hend]; exact KV.ret1 rfl rfl _ (fun _ h => h) (.inl ⟨{ P with named := true, name := n }, lm_dok hK hnd hN hkd hend, ⟨by first | exact Nat.le_succ _ | (show (_ ++ _ : List _).length ≤ _; rw [List.length_append]; exact Nat.le_refl _), by first | exact Nat.le_succ _ | (show (_ ++ _ : List _).length ≤ _; rw [List.length_append]; exact Nat.le_refl _), by first | exact Nat.le_succ _ | (show (_ ++ _ : List _).length ≤ _; rw [List.length_append]; exact Nat.le_refl _)⟩, rfl, rfl⟩)); rw [decide_eq_false hend]; exact KV.ret1 rfl rfl _ (fun _ h => h.sel [] rfl) (.inr ⟨lm_de hK hnd hN (by omega) hend, rfl, rfl⟩)))
    ·
     skip
     refine RV.m rfl rfl (RV.s (Step.extract0 rfl rfl) rfl (RV.s (Step.extract0 rfl rfl) rfl (RV.s (Step.nilCheck rfl) rfl (RV.s (Step.fieldAddr rfl (F67_0 _ _)) rfl (RV.s (Step.fieldAddr rfl (F25_0 _ _)) rfl ?_)))))
     refine RV.op (OV.store 0 [_] #[_, _, _, _, _] I9 rfl rfl rfl rfl rfl (Nat.le_of_ble_eq_true rfl) (by simp [Value.oneCell']) rfl gno ?_)
     refine RV.a rfl rfl ?_
     refine RV.nil (KV.then_n (KV.env [(0, _), (5, _), (6, _), (7, _)] ⟨rfl, rfl, rfl, rfl, trivial⟩ (CV.seq (CV.region ?_))))
     refine RV.m rfl rfl (RV.s (Step.nilCheck rfl) rfl (RV.s (Step.fieldAddr rfl (F67_1 _ _)) rfl ?_))
     refine RV.op (OV.store 0 [_] #[_, _, _, _, _] I4 rfl rfl rfl rfl rfl (Nat.le_of_ble_eq_true rfl) (by simp [Value.oneCell']) rfl gno ?_)
     refine RV.nil (KV.then_n (KV.env [(5, _), (6, _), (7, _)] ⟨rfl, rfl, rfl, trivial⟩ (CV.seq (CV.region ?_))))
     refine RV.m rfl rfl (RV.m rfl rfl (RV.k rfl rfl (RV.k rfl rfl (RV.s (Step.pick_f rfl rfl) rfl (RV.m rfl rfl (RV.k rfl rfl (RV.s (Step.pick_f rfl rfl) rfl ?_)))))))
     refine RV.a rfl rfl ?_
     refine RV.nil (KV.then_n (KV.env [(4, _)] ⟨rfl, trivial⟩ (CV.ret (KV.block_ret (KV.then_ret ?_)))))
     refine KV.sel [0, 0, 0, 0, 0, 1] [_, _, _, _, _, _] rfl ?_
     (first | (exact KV.ret1 rfl rfl _ (fun _ h => h.sel [] rfl) (.inr ⟨lm_dn hK hnd hN, rfl, rfl⟩)) | (exact KV.ret1 rfl rfl _ (fun _ h => h.sel [] rfl) (.inr ⟨lm_dk hK hnd hkd, rfl, rfl⟩)) | (by_cases hend : 0 + 1 + 1 = ts.length; (rw [decide_eq_true hend]; exact KV.ret1 rfl rfl _ (fun _ h => h) (.inl ⟨{ P with named := true, name := n }, lm_dok hK hnd hN hkd hend, ⟨by first | exact Nat.le_succ _ | (show (_ ++ _ : List _).length ≤ _; rw [List.length_append]; exact Nat.le_refl _), by first | exact Nat.le_succ _ | (show (_ ++ _ : List _).length ≤ _; rw [List.length_append]; exact Nat.le_refl _), by first | exact Nat.le_succ _ | (show (_ ++ _ : List _).length ≤ _; rw [List.length_append]; exact Nat.le_refl _)⟩, rfl, rfl⟩)); rw [decide_eq_false hend]; exact KV.ret1 rfl rfl _ (fun _ h => h.sel [] rfl) (.inr ⟨lm_de hK hnd hN (by omega) hend, rfl, rfl⟩)))
   ·
    have hnd := neg_f cc1
    refine CV.cond_f rfl (CV.seq (CV.region ?_))
    refine RV.m rfl rfl ?_
    refine RV.op (OV.split gno (Step.eqlStr (l2 := [115, 116, 97, 116, 101]) rfl rfl) rfl (fun hks => ?_) (fun hks => ?_))
    ·
     refine RV.a rfl rfl ?_
     refine RV.nil (KV.then_n (KV.env [(0, _), (5, _), (6, _), (49, _)] ⟨rfl, rfl, rfl, rfl, trivial⟩ (CV.cond_t rfl (CV.seq (CV.region ?_)))))
     refine RV.op (OV.call [5, 5] (F := [_, _, _, _, _]) Tryz.func53 B53 N53 rfl rfl (fun w h => name_fn (by omega) hl) (fun _ hb => hb.elim) gno rfl (fun v L' hp => ?_))
     rcases hp with ⟨n, hN, hNl, rfl, rfl⟩ | ⟨hN, rfl, rfl⟩
     ·
      skip
      refine RV.m rfl rfl (RV.s (Step.extract0 rfl rfl) rfl (RV.s (Step.extract0 rfl rfl) rfl (RV.a rfl rfl (RV.a rfl rfl ?_))))
      refine RV.nil (KV.then_n (KV.env [(0, _), (5, _), (8, _), (9, _)] ⟨rfl, rfl, rfl, rfl, trivial⟩ (CV.seq (CV.region ?_))))
      refine RV.m rfl rfl (RV.m rfl rfl (RV.s (Step.nilCheck rfl) rfl (RV.s (Step.fieldAddr rfl (F67_0 _ _)) rfl (RV.s (Step.fieldAddr rfl (F25_1 _ _)) rfl (RV.s (Step.load Tryz.underlying22 rfl rfl (fun w h => h.cell 0 rfl rfl)) rfl (RV.m rfl rfl ?_))))))
      refine RV.op (OV.buildSlice (K := strK) ([n]) rfl (Bs22_1_0 _) rfl rfl (by omega) gno rfl (fun b13_7 => ?_))
      refine RV.op (OV.append 1 Tryz.underlying22 I9 rfl rfl rfl rfl rfl rfl (fun w h => h.os 7 rfl) (by simp only [List.length_cons, List.length_nil]; omega) (by simp only [List.length_cons, List.length_nil]; omega) gno rfl (fun A2 c2 => ?_))
      refine RV.s (Step.nilCheck rfl) rfl (RV.s (Step.fieldAddr rfl (F67_0 _ _)) rfl (RV.s (Step.fieldAddr rfl (F25_1 _ _)) rfl ?_))
      refine RV.op (OV.store 0 [_] #[_, _, _, _, _] I22 rfl rfl rfl rfl rfl (Nat.le_of_ble_eq_true rfl) (by simp [Value.oneCell']) rfl gno ?_)
      refine RV.nil (KV.then_n (KV.env [(5, _), (9, _)] ⟨rfl, rfl, trivial⟩ (CV.seq (CV.region ?_))))
      refine RV.m rfl rfl (RV.m rfl rfl ?_)
      refine RV.op (OV.call [] (F := [_, _, _, _, _, _, _, _]) Tryz.func54 B54 N54 rfl rfl (fun w h => atEnd_fn (h.blk 5 rfl)) (fun _ hb => hb.elim) (gyes rfl) rfl (fun v L' hp => ?_))
      obtain ⟨rfl, rfl⟩ := hp
      simp only [List.append_nil]
      refine RV.s (Step.pick_t rfl rfl) rfl (RV.a rfl rfl ?_)
      refine RV.nil (KV.then_n (KV.env [(4, _)] ⟨rfl, trivial⟩ (CV.ret (KV.block_ret (KV.then_ret ?_)))))
      refine KV.sel [0, 0, 0, 0, 0, 1] [_, _, _, _, _, _] rfl ?_
      (first | (exact KV.ret1 rfl rfl _ (fun _ h => h.sel [] rfl) (.inr ⟨lm_sn hK hnd hks hN, rfl, rfl⟩)) | (by_cases hend : 0 + 1 + 1 = ts.length; (rw [decide_eq_true hend]; exact KV.ret1 rfl rfl _ (fun _ h => h) (.inl ⟨{ P with sA := A2, sc := c2, ss := P.ss ++ [n] }, lm_sok hK hnd hks hN hend, ⟨by first | exact Nat.le_succ _ | (show (_ ++ _ : List _).length ≤ _; rw [List.length_append]; exact Nat.le_refl _), by first | exact Nat.le_succ _ | (show (_ ++ _ : List _).length ≤ _; rw [List.length_append]; exact Nat.le_refl _), by first | exact Nat.le_succ _ | (show (_ ++ _ : List _).length ≤ _; rw [List.length_append]; exact Nat.le_refl _)⟩, rfl, rfl⟩)); rw [decide_eq_false hend]; exact KV.ret1 rfl rfl _ (fun _ h => h.sel [] rfl) (.inr ⟨lm_se hK hnd hks hN (by omega) hend, rfl, rfl⟩)))
     ·
      skip
      refine RV.m rfl rfl (RV.s (Step.extract0 rfl rfl) rfl (RV.s (Step.extract0 rfl rfl) rfl (RV.a rfl rfl (RV.a rfl rfl ?_))))
      refine RV.nil (KV.then_n (KV.env [(0, _), (5, _), (8, _), (9, _)] ⟨rfl, rfl, rfl, rfl, trivial⟩ (CV.seq (CV.region ?_))))
      refine RV.m rfl rfl (RV.m rfl rfl (RV.s (Step.nilCheck rfl) rfl (RV.s (Step.fieldAddr rfl (F67_0 _ _)) rfl (RV.s (Step.fieldAddr rfl (F25_1 _ _)) rfl (RV.s (Step.load Tryz.underlying22 rfl rfl (fun w h => h.cell 0 rfl rfl)) rfl (RV.m rfl rfl ?_))))))
      refine RV.op (OV.buildSlice (K := strK) ([[]]) rfl (Bs22_1_0 _) rfl rfl (by omega) gno rfl (fun b13_7 => ?_))
      refine RV.op (OV.append 1 Tryz.underlying22 I9 rfl rfl rfl rfl rfl rfl (fun w h => h.os 7 rfl) (by simp only [List.length_cons, List.length_nil]; omega) (by simp only [List.length_cons, List.length_nil]; omega) gno rfl (fun A2 c2 => ?_))
      refine RV.s (Step.nilCheck rfl) rfl (RV.s (Step.fieldAddr rfl (F67_0 _ _)) rfl (RV.s (Step.fieldAddr rfl (F25_1 _ _)) rfl ?_))
      refine RV.op (OV.store 0 [_] #[_, _, _, _, _] I22 rfl rfl rfl rfl rfl (Nat.le_of_ble_eq_true rfl) (by simp [Value.oneCell']) rfl gno ?_)
      refine RV.nil (KV.then_n (KV.env [(5, _), (9, _)] ⟨rfl, rfl, trivial⟩ (CV.seq (CV.region ?_))))
      refine RV.m rfl rfl (RV.m rfl rfl (RV.k rfl rfl (RV.s (Step.pick_f rfl rfl) rfl (RV.a rfl rfl ?_))))
      refine RV.nil (KV.then_n (KV.env [(4, _)] ⟨rfl, trivial⟩ (CV.ret (KV.block_ret (KV.then_ret ?_)))))
      refine KV.sel [0, 0, 0, 0, 0, 1] [_, _, _, _, _, _] rfl ?_
      (first | (exact KV.ret1 rfl rfl _ (fun _ h => h.sel [] rfl) (.inr ⟨lm_sn hK hnd hks hN, rfl, rfl⟩)) | (by_cases hend : 0 + 1 + 1 = ts.length; (rw [decide_eq_true hend]; exact KV.ret1 rfl rfl _ (fun _ h => h) (.inl ⟨{ P with sA := A2, sc := c2, ss := P.ss ++ [n] }, lm_sok hK hnd hks hN hend, ⟨by first | exact Nat.le_succ _ | (show (_ ++ _ : List _).length ≤ _; rw [List.length_append]; exact Nat.le_refl _), by first | exact Nat.le_succ _ | (show (_ ++ _ : List _).length ≤ _; rw [List.length_append]; exact Nat.le_refl _), by first | exact Nat.le_succ _ | (show (_ ++ _ : List _).length ≤ _; rw [List.length_append]; exact Nat.le_refl _)⟩, rfl, rfl⟩)); rw [decide_eq_false hend]; exact KV.ret1 rfl rfl _ (fun _ h => h.sel [] rfl) (.inr ⟨lm_se hK hnd hks hN (by omega) hend, rfl, rfl⟩)))
    ·
     refine RV.a rfl rfl ?_
     refine RV.nil (KV.then_n (KV.env [(0, _), (5, _), (6, _), (49, _)] ⟨rfl, rfl, rfl, rfl, trivial⟩ (CV.cond_f rfl (CV.seq (CV.region ?_)))))
     refine RV.m rfl rfl ?_
     refine RV.op (OV.split gno (Step.eqlStr (l2 := [111, 110]) rfl rfl) rfl (fun hko => ?_) (fun hko => ?_))
     ·
      refine RV.m rfl rfl (RV.gw rfl (Step.move rfl) rfl (RV.gw rfl (Step.nilCheck rfl) rfl (RV.gw rfl (Step.fieldAddr rfl (F67_0 _ _)) rfl (RV.gw rfl (Step.fieldAddr rfl (F25_1 _ _)) rfl (RV.gw rfl (Step.load Tryz.underlying22 rfl rfl (fun w h => h.cell 0 rfl rfl)) rfl (RV.gw rfl (Step.lenSl Tryz.underlying22 rfl) rfl ?_))))))
      refine RV.op (OV.split (gyes rfl) (Step.gtr rfl rfl) rfl (fun hss => ?_) (fun hss => ?_))
      ·
       refine RV.s (Step.pick_t rfl rfl) rfl (RV.a rfl rfl ?_)
       refine RV.nil (KV.then_n (KV.env [(0, _), (5, _), (72, _)] ⟨rfl, rfl, rfl, trivial⟩ (CV.cond_t rfl (CV.seq (CV.region ?_)))))
       refine RV.op (OV.call [5, 5] (F := [_, _, _, _, _]) Tryz.func55 B55 N55 rfl rfl (fun w h => transition_fn ht (by omega) hl) (fun _ hb => hb.elim) gno rfl (fun v L' hp => ?_))
       rcases hp with ⟨H, s, k, hO, hk, rfl, rfl⟩ | ⟨hO, H, s, k, hk, rfl, rfl⟩
       ·
        skip
        refine RV.m rfl rfl (RV.s (Step.extract0 rfl rfl) rfl (RV.s (Step.extract0 rfl rfl) rfl (RV.s (Step.extract0 rfl rfl) rfl ?_)))
        refine RV.op (OV.alloc #[.int .i64 0, .string (Sv.bs []), .bool false, .int .u64 0, .int .u64 0, .int .u64 0, .slice none 0 0, .int .i64 0] I48 rfl gno rfl (fun tr => ?_))
        refine RV.op (OV.store 8 [_, _, _, _, _, _, _, _] #[_, _, _, _, _, _, _, _] I48 rfl rfl rfl rfl rfl (Nat.le_of_ble_eq_true rfl) (by simp [Value.oneCell']) rfl gno ?_)
        refine RV.a rfl rfl (RV.a rfl rfl ?_)
        refine RV.nil (KV.then_n (KV.env [(0, _), (10, _), (11, _), (12, _)] ⟨rfl, rfl, rfl, rfl, trivial⟩ (CV.seq (CV.region ?_))))
        refine RV.m rfl rfl (RV.s (Step.nilCheck rfl) rfl (RV.s (Step.fieldAddr rfl (F67_0 _ _)) rfl (RV.s (Step.fieldAddr rfl (F25_1 _ _)) rfl (RV.s (Step.load Tryz.underlying22 rfl rfl (fun w h => h.cell 0 rfl rfl)) rfl (RV.s (Step.lenSl Tryz.underlying22 rfl) rfl ?_)))))
        (first | refine RV.op (OV.step gno (Step.sub rfl rfl (wI64 (by omega) (by omega))) rfl ?_) | refine RV.op (OV.step gno (Step.sub rfl rfl rfl) rfl ?_))
        refine RV.s (Step.fieldAddr rfl (F48_0 _ _)) rfl ?_
        refine RV.op (OV.store 8 [_] #[_, _, _, _, _, _, _, _] I3 rfl rfl rfl rfl rfl (Nat.le_of_ble_eq_true rfl) (by simp [Value.oneCell']) rfl gno ?_)
        refine RV.nil (KV.then_n (KV.env [(0, _), (10, _), (11, _), (12, _)] ⟨rfl, rfl, rfl, rfl, trivial⟩ (CV.seq ?_)))
        refine CV.any (Hp I w [Blk tr (.cells #[.int .i64 ((P.ss.length : Int) - 1), .string (bs H.t.ev), .bool H.t.gd.used, .int .u64 H.t.gd.reg, .int .u64 H.t.gd.mask, .int .u64 H.t.gd.val, .slice H.A H.t.ops.length H.c, .int .i64 H.t.to] 48 (0, 0))]) (by kernel_rfl) (fun _ h => h.drew) 13 rfl ?_
        refine AV.u 0 (bl 13 1) rfl gno (Step.move rfl) rfl (fun _ h => h.sel [8] rfl) ?_
        refine AV.u 1 (bl 13 3) rfl gno (Step.move rfl) rfl (fun _ h => h.sel [8] rfl) ?_
        refine AV.u 2 (bl 13 7) rfl gno (Step.nilCheck rfl) rfl (fun _ h => h.sel [8] rfl) ?_
        refine AV.u 3 (bl 13 15) rfl gno (Step.fieldAddr rfl (F67_0 _ _)) rfl (fun _ h => h.sel [8] rfl) ?_
        refine AV.u 4 (bl 13 31) rfl gno (Step.fieldAddr rfl (F25_2 _ _)) rfl (fun _ h => h.sel [8] rfl) ?_
        refine AV.u 6 (bl 13 95) rfl gno (Step.loadN _ Tryz.underlying48 rfl I48 rfl rfl (fun w h => h.cells 0 rfl)) rfl (fun _ h => h.sel [8] rfl) ?_
        refine AV.all [5, 7] (by kernel_rfl) (by decide) ?_
        refine ⟨⟨_, rfl, ?_⟩, ⟨⟨_, rfl, ?_⟩, trivial⟩⟩
        ·
         refine OV.step gno (Step.load Tryz.underlying23 rfl rfl (fun w h => h.cell 0 rfl rfl)) rfl ?_
         refine AV.next (bl 13 127) (by kernel_rfl) (fun _ h => h.sel [8] rfl) ?_
         refine AV.all [7] (by kernel_rfl) (by decide) ?_
         refine ⟨⟨_, rfl, ?_⟩, trivial⟩
         ·
          refine OV.buildSlice (K := thK) ([({ H with t := { H.t with frm := (P.ss.length : Int) - 1 } } : TH)]) rfl (Bs23_1_0 _ _ _ _ _ _ _ _) rfl rfl (by omega) gno rfl (fun b18_7 => ?_)
          refine AV.next (bl 13 255) (by kernel_rfl) (fun _ h => h.sel [8] rfl) ?_
          refine AV.all [8] (by kernel_rfl) (by decide) ?_
          refine ⟨⟨_, rfl, ?_⟩, trivial⟩
          ·
           refine OV.append 2 Tryz.underlying23 I48 rfl rfl rfl rfl rfl rfl (fun w h => h.os 9 rfl) (by simp only [List.length_cons, List.length_nil]; omega) (by simp only [List.length_cons, List.length_nil]; omega) gno rfl (fun A2 c2 => ?_)
           refine AV.next (bl 13 511) (by kernel_rfl) (fun _ h => h.sel [8] rfl) ?_
           refine AV.u 9 (bl 13 1023) rfl gno (Step.nilCheck rfl) rfl (fun _ h => h.sel [8] rfl) ?_
           refine AV.u 10 (bl 13 2047) rfl gno (Step.fieldAddr rfl (F67_0 _ _)) rfl (fun _ h => h.sel [8] rfl) ?_
           refine AV.u 11 (bl 13 4095) rfl gno (Step.fieldAddr rfl (F25_2 _ _)) rfl (fun _ h => h.sel [8] rfl) ?_
           refine AV.all [12] (by kernel_rfl) (by decide) ?_
           refine ⟨⟨_, rfl, ?_⟩, trivial⟩
           ·
            refine OV.store 0 [_] #[_, _, _, _, _] I23 rfl rfl rfl rfl rfl (Nat.le_of_ble_eq_true rfl) (by simp [Value.oneCell']) rfl gno ?_
            refine AV.next (bl 13 8191) (by kernel_rfl) (fun _ h => h.sel [8] rfl) ?_
            refine AV.done (by kernel_rfl) ?_
            refine KV.then_n (KV.env [(0, _), (11, _), (12, _)] ⟨rfl, rfl, rfl, trivial⟩ (CV.seq (CV.region ?_)))
            refine RV.m rfl rfl (RV.m rfl rfl (RV.s (Step.nilCheck rfl) rfl (RV.s (Step.fieldAddr rfl (F67_2 _ _)) rfl (RV.s (Step.load Tryz.underlying22 rfl rfl (fun w h => h.cell 0 rfl rfl)) rfl (RV.m rfl rfl ?_)))))
            refine RV.op (OV.buildSlice (K := strK) ([s]) rfl (Bs22_1_0 _) rfl rfl (by omega) gno rfl (fun b19_6 => ?_))
            refine RV.op (OV.append 4 Tryz.underlying22 I9 rfl rfl rfl rfl rfl rfl (fun w h => h.os 10 rfl) (by simp only [List.length_cons, List.length_nil]; omega) (by simp only [List.length_cons, List.length_nil]; omega) gno rfl (fun A3 c3 => ?_))
            refine RV.s (Step.nilCheck rfl) rfl (RV.s (Step.fieldAddr rfl (F67_2 _ _)) rfl ?_)
            refine RV.op (OV.store 0 [_] #[_, _, _, _, _] I22 rfl rfl rfl rfl rfl (Nat.le_of_ble_eq_true rfl) (by simp [Value.oneCell']) rfl gno ?_)
            refine RV.nil (KV.then_n (KV.env [(12, _)] ⟨rfl, trivial⟩ (CV.seq (CV.region ?_))))
            refine RV.m rfl rfl (RV.a rfl rfl ?_)
            refine RV.nil (KV.then_n (KV.env [(4, _)] ⟨rfl, trivial⟩ (CV.ret (KV.block_ret (KV.then_ret ?_)))))
            refine KV.sel [0, 0, 0, 0, 0, 1, 1] [_, _, _, _, _, _, _] rfl ?_
            (first | exact KV.ret1 rfl rfl _ (fun _ h => h.sel [] rfl) (.inr ⟨lm_on hK hnd hks hO, rfl, rfl⟩) | exact KV.ret1 rfl rfl _ (fun _ h => Hp.bigSnoc (L := [_, _, _, _, _, _]) (F := opA) (h' := ({ H with t := { H.t with frm := (P.ss.length : Int) - 1 } } : TH)) (k := 3) h rfl) (.inl ⟨({ P with tA := A2, tc := c2, hs := P.hs ++ [({ H with t := { H.t with frm := (P.ss.length : Int) - 1 } } : TH)], gA := A3, gc := c3, tg := P.tg ++ [s] } : PH), (lm_ook hK hnd hks hko (fun k => by have h5 : P.ps.ss.length = P.ss.length := rfl; rw [k] at h5; have h6 : ([] : List Bs).length = 0 := rfl; omega) hO).trans (by simp [PH.ps]), ⟨by first | exact Nat.le_succ _ | (show (_ ++ _ : List _).length ≤ _; rw [List.length_append]; exact Nat.le_refl _), by first | exact Nat.le_succ _ | (show (_ ++ _ : List _).length ≤ _; rw [List.length_append]; exact Nat.le_refl _), by first | exact Nat.le_succ _ | (show (_ ++ _ : List _).length ≤ _; rw [List.length_append]; exact Nat.le_refl _)⟩, rfl, rfl⟩))
        ·
         refine OV.buildSlice (K := thK) ([({ H with t := { H.t with frm := (P.ss.length : Int) - 1 } } : TH)]) rfl (Bs23_1_0 _ _ _ _ _ _ _ _) rfl rfl (by omega) gno rfl (fun b18_7 => ?_)
         refine AV.next (bl 13 223) (by kernel_rfl) (fun _ h => h.sel [8] rfl) ?_
         refine AV.all [5] (by kernel_rfl) (by decide) ?_
         refine ⟨⟨_, rfl, ?_⟩, trivial⟩
         ·
          refine OV.step gno (Step.load Tryz.underlying23 rfl rfl (fun w h => h.cell 0 rfl rfl)) rfl ?_
          refine AV.next (bl 13 255) (by kernel_rfl) (fun _ h => h.sel [8] rfl) ?_
          refine AV.all [8] (by kernel_rfl) (by decide) ?_
          refine ⟨⟨_, rfl, ?_⟩, trivial⟩
          ·
           refine OV.append 2 Tryz.underlying23 I48 rfl rfl rfl rfl rfl rfl (fun w h => h.os 9 rfl) (by simp only [List.length_cons, List.length_nil]; omega) (by simp only [List.length_cons, List.length_nil]; omega) gno rfl (fun A2 c2 => ?_)
           refine AV.next (bl 13 511) (by kernel_rfl) (fun _ h => h.sel [8] rfl) ?_
           refine AV.u 9 (bl 13 1023) rfl gno (Step.nilCheck rfl) rfl (fun _ h => h.sel [8] rfl) ?_
           refine AV.u 10 (bl 13 2047) rfl gno (Step.fieldAddr rfl (F67_0 _ _)) rfl (fun _ h => h.sel [8] rfl) ?_
           refine AV.u 11 (bl 13 4095) rfl gno (Step.fieldAddr rfl (F25_2 _ _)) rfl (fun _ h => h.sel [8] rfl) ?_
           refine AV.all [12] (by kernel_rfl) (by decide) ?_
           refine ⟨⟨_, rfl, ?_⟩, trivial⟩
           ·
            refine OV.store 0 [_] #[_, _, _, _, _] I23 rfl rfl rfl rfl rfl (Nat.le_of_ble_eq_true rfl) (by simp [Value.oneCell']) rfl gno ?_
            refine AV.next (bl 13 8191) (by kernel_rfl) (fun _ h => h.sel [8] rfl) ?_
            refine AV.done (by kernel_rfl) ?_
            refine KV.then_n (KV.env [(0, _), (11, _), (12, _)] ⟨rfl, rfl, rfl, trivial⟩ (CV.seq (CV.region ?_)))
            refine RV.m rfl rfl (RV.m rfl rfl (RV.s (Step.nilCheck rfl) rfl (RV.s (Step.fieldAddr rfl (F67_2 _ _)) rfl (RV.s (Step.load Tryz.underlying22 rfl rfl (fun w h => h.cell 0 rfl rfl)) rfl (RV.m rfl rfl ?_)))))
            refine RV.op (OV.buildSlice (K := strK) ([s]) rfl (Bs22_1_0 _) rfl rfl (by omega) gno rfl (fun b19_6 => ?_))
            refine RV.op (OV.append 4 Tryz.underlying22 I9 rfl rfl rfl rfl rfl rfl (fun w h => h.os 10 rfl) (by simp only [List.length_cons, List.length_nil]; omega) (by simp only [List.length_cons, List.length_nil]; omega) gno rfl (fun A3 c3 => ?_))
            refine RV.s (Step.nilCheck rfl) rfl (RV.s (Step.fieldAddr rfl (F67_2 _ _)) rfl ?_)
            refine RV.op (OV.store 0 [_] #[_, _, _, _, _] I22 rfl rfl rfl rfl rfl (Nat.le_of_ble_eq_true rfl) (by simp [Value.oneCell']) rfl gno ?_)
            refine RV.nil (KV.then_n (KV.env [(12, _)] ⟨rfl, trivial⟩ (CV.seq (CV.region ?_))))
            refine RV.m rfl rfl (RV.a rfl rfl ?_)
            refine RV.nil (KV.then_n (KV.env [(4, _)] ⟨rfl, trivial⟩ (CV.ret (KV.block_ret (KV.then_ret ?_)))))
            refine KV.sel [0, 0, 0, 0, 0, 1, 1] [_, _, _, _, _, _, _] rfl ?_
            (first | exact KV.ret1 rfl rfl _ (fun _ h => h.sel [] rfl) (.inr ⟨lm_on hK hnd hks hO, rfl, rfl⟩) | exact KV.ret1 rfl rfl _ (fun _ h => Hp.bigSnoc (L := [_, _, _, _, _, _]) (F := opA) (h' := ({ H with t := { H.t with frm := (P.ss.length : Int) - 1 } } : TH)) (k := 3) h rfl) (.inl ⟨({ P with tA := A2, tc := c2, hs := P.hs ++ [({ H with t := { H.t with frm := (P.ss.length : Int) - 1 } } : TH)], gA := A3, gc := c3, tg := P.tg ++ [s] } : PH), (lm_ook hK hnd hks hko (fun k => by have h5 : P.ps.ss.length = P.ss.length := rfl; rw [k] at h5; have h6 : ([] : List Bs).length = 0 := rfl; omega) hO).trans (by simp [PH.ps]), ⟨by first | exact Nat.le_succ _ | (show (_ ++ _ : List _).length ≤ _; rw [List.length_append]; exact Nat.le_refl _), by first | exact Nat.le_succ _ | (show (_ ++ _ : List _).length ≤ _; rw [List.length_append]; exact Nat.le_refl _), by first | exact Nat.le_succ _ | (show (_ ++ _ : List _).length ≤ _; rw [List.length_append]; exact Nat.le_refl _)⟩, rfl, rfl⟩))
       ·
        skip
        refine RV.m rfl rfl (RV.s (Step.extract0 rfl rfl) rfl (RV.s (Step.extract0 rfl rfl) rfl (RV.s (Step.extract0 rfl rfl) rfl ?_)))
        refine RV.op (OV.alloc #[.int .i64 0, .string (Sv.bs []), .bool false, .int .u64 0, .int .u64 0, .int .u64 0, .slice none 0 0, .int .i64 0] I48 rfl gno rfl (fun tr => ?_))
        refine RV.op (OV.store 7 [_, _, _, _, _, _, _, _] #[_, _, _, _, _, _, _, _] I48 rfl rfl rfl rfl rfl (Nat.le_of_ble_eq_true rfl) (by simp [Value.oneCell']) rfl gno ?_)
        refine RV.a rfl rfl (RV.a rfl rfl ?_)
        refine RV.nil (KV.then_n (KV.env [(0, _), (10, _), (11, _), (12, _)] ⟨rfl, rfl, rfl, rfl, trivial⟩ (CV.seq (CV.region ?_))))
        refine RV.m rfl rfl (RV.s (Step.nilCheck rfl) rfl (RV.s (Step.fieldAddr rfl (F67_0 _ _)) rfl (RV.s (Step.fieldAddr rfl (F25_1 _ _)) rfl (RV.s (Step.load Tryz.underlying22 rfl rfl (fun w h => h.cell 0 rfl rfl)) rfl (RV.s (Step.lenSl Tryz.underlying22 rfl) rfl ?_)))))
        (first | refine RV.op (OV.step gno (Step.sub rfl rfl (wI64 (by omega) (by omega))) rfl ?_) | refine RV.op (OV.step gno (Step.sub rfl rfl rfl) rfl ?_))
        refine RV.s (Step.fieldAddr rfl (F48_0 _ _)) rfl ?_
        refine RV.op (OV.store 7 [_] #[_, _, _, _, _, _, _, _] I3 rfl rfl rfl rfl rfl (Nat.le_of_ble_eq_true rfl) (by simp [Value.oneCell']) rfl gno ?_)
        refine RV.nil (KV.then_n (KV.env [(0, _), (10, _), (11, _), (12, _)] ⟨rfl, rfl, rfl, rfl, trivial⟩ (CV.seq ?_)))
        refine CV.any (Hp I w [Blk tr (.cells #[.int .i64 ((P.ss.length : Int) - 1), .string (bs H.t.ev), .bool H.t.gd.used, .int .u64 H.t.gd.reg, .int .u64 H.t.gd.mask, .int .u64 H.t.gd.val, .slice H.A H.t.ops.length H.c, .int .i64 H.t.to] 48 (0, 0))]) (by kernel_rfl) (fun _ h => h.drew) 13 rfl ?_
        refine AV.u 0 (bl 13 1) rfl gno (Step.move rfl) rfl (fun _ h => h.sel [7] rfl) ?_
        refine AV.u 1 (bl 13 3) rfl gno (Step.move rfl) rfl (fun _ h => h.sel [7] rfl) ?_
        refine AV.u 2 (bl 13 7) rfl gno (Step.nilCheck rfl) rfl (fun _ h => h.sel [7] rfl) ?_
        refine AV.u 3 (bl 13 15) rfl gno (Step.fieldAddr rfl (F67_0 _ _)) rfl (fun _ h => h.sel [7] rfl) ?_
        refine AV.u 4 (bl 13 31) rfl gno (Step.fieldAddr rfl (F25_2 _ _)) rfl (fun _ h => h.sel [7] rfl) ?_
        refine AV.u 6 (bl 13 95) rfl gno (Step.loadN _ Tryz.underlying48 rfl I48 rfl rfl (fun w h => h.cells 0 rfl)) rfl (fun _ h => h.sel [7] rfl) ?_
        refine AV.all [5, 7] (by kernel_rfl) (by decide) ?_
        refine ⟨⟨_, rfl, ?_⟩, ⟨⟨_, rfl, ?_⟩, trivial⟩⟩
        ·
         refine OV.step gno (Step.load Tryz.underlying23 rfl rfl (fun w h => h.cell 0 rfl rfl)) rfl ?_
         refine AV.next (bl 13 127) (by kernel_rfl) (fun _ h => h.sel [7] rfl) ?_
         refine AV.all [7] (by kernel_rfl) (by decide) ?_
         refine ⟨⟨_, rfl, ?_⟩, trivial⟩
         ·
          refine OV.buildSlice (K := thK) ([({ H with t := { H.t with frm := (P.ss.length : Int) - 1 } } : TH)]) rfl (Bs23_1_0 _ _ _ _ _ _ _ _) rfl rfl (by omega) gno rfl (fun b18_7 => ?_)
          refine AV.next (bl 13 255) (by kernel_rfl) (fun _ h => h.sel [7] rfl) ?_
          refine AV.all [8] (by kernel_rfl) (by decide) ?_
          refine ⟨⟨_, rfl, ?_⟩, trivial⟩
          ·
           refine OV.append 2 Tryz.underlying23 I48 rfl rfl rfl rfl rfl rfl (fun w h => h.os 8 rfl) (by simp only [List.length_cons, List.length_nil]; omega) (by simp only [List.length_cons, List.length_nil]; omega) gno rfl (fun A2 c2 => ?_)
           refine AV.next (bl 13 511) (by kernel_rfl) (fun _ h => h.sel [7] rfl) ?_
           refine AV.u 9 (bl 13 1023) rfl gno (Step.nilCheck rfl) rfl (fun _ h => h.sel [7] rfl) ?_
           refine AV.u 10 (bl 13 2047) rfl gno (Step.fieldAddr rfl (F67_0 _ _)) rfl (fun _ h => h.sel [7] rfl) ?_
           refine AV.u 11 (bl 13 4095) rfl gno (Step.fieldAddr rfl (F25_2 _ _)) rfl (fun _ h => h.sel [7] rfl) ?_
           refine AV.all [12] (by kernel_rfl) (by decide) ?_
           refine ⟨⟨_, rfl, ?_⟩, trivial⟩
           ·
            refine OV.store 0 [_] #[_, _, _, _, _] I23 rfl rfl rfl rfl rfl (Nat.le_of_ble_eq_true rfl) (by simp [Value.oneCell']) rfl gno ?_
            refine AV.next (bl 13 8191) (by kernel_rfl) (fun _ h => h.sel [7] rfl) ?_
            refine AV.done (by kernel_rfl) ?_
            refine KV.then_n (KV.env [(0, _), (11, _), (12, _)] ⟨rfl, rfl, rfl, trivial⟩ (CV.seq (CV.region ?_)))
            refine RV.m rfl rfl (RV.m rfl rfl (RV.s (Step.nilCheck rfl) rfl (RV.s (Step.fieldAddr rfl (F67_2 _ _)) rfl (RV.s (Step.load Tryz.underlying22 rfl rfl (fun w h => h.cell 0 rfl rfl)) rfl (RV.m rfl rfl ?_)))))
            refine RV.op (OV.buildSlice (K := strK) ([s]) rfl (Bs22_1_0 _) rfl rfl (by omega) gno rfl (fun b19_6 => ?_))
            refine RV.op (OV.append 4 Tryz.underlying22 I9 rfl rfl rfl rfl rfl rfl (fun w h => h.os 9 rfl) (by simp only [List.length_cons, List.length_nil]; omega) (by simp only [List.length_cons, List.length_nil]; omega) gno rfl (fun A3 c3 => ?_))
            refine RV.s (Step.nilCheck rfl) rfl (RV.s (Step.fieldAddr rfl (F67_2 _ _)) rfl ?_)
            refine RV.op (OV.store 0 [_] #[_, _, _, _, _] I22 rfl rfl rfl rfl rfl (Nat.le_of_ble_eq_true rfl) (by simp [Value.oneCell']) rfl gno ?_)
            refine RV.nil (KV.then_n (KV.env [(12, _)] ⟨rfl, trivial⟩ (CV.seq (CV.region ?_))))
            refine RV.m rfl rfl (RV.a rfl rfl ?_)
            refine RV.nil (KV.then_n (KV.env [(4, _)] ⟨rfl, trivial⟩ (CV.ret (KV.block_ret (KV.then_ret ?_)))))
            refine KV.sel [] [] rfl ?_
            (first | exact KV.ret1 rfl rfl _ (fun _ h => h.sel [] rfl) (.inr ⟨lm_on hK hnd hks hO, rfl, rfl⟩) | exact KV.ret1 rfl rfl _ (fun _ h => Hp.bigSnoc (L := [_, _, _, _, _, _]) (F := opA) (h' := ({ H with t := { H.t with frm := (P.ss.length : Int) - 1 } } : TH)) (k := 3) h rfl) (.inl ⟨({ P with tA := A2, tc := c2, hs := P.hs ++ [({ H with t := { H.t with frm := (P.ss.length : Int) - 1 } } : TH)], gA := A3, gc := c3, tg := P.tg ++ [s] } : PH), (lm_ook hK hnd hks hko (fun k => by have h5 : P.ps.ss.length = P.ss.length := rfl; rw [k] at h5; have h6 : ([] : List Bs).length = 0 := rfl; omega) hO).trans (by simp [PH.ps]), ⟨by first | exact Nat.le_succ _ | (show (_ ++ _ : List _).length ≤ _; rw [List.length_append]; exact Nat.le_refl _), by first | exact Nat.le_succ _ | (show (_ ++ _ : List _).length ≤ _; rw [List.length_append]; exact Nat.le_refl _), by first | exact Nat.le_succ _ | (show (_ ++ _ : List _).length ≤ _; rw [List.length_append]; exact Nat.le_refl _)⟩, rfl, rfl⟩))
        ·
         refine OV.buildSlice (K := thK) ([({ H with t := { H.t with frm := (P.ss.length : Int) - 1 } } : TH)]) rfl (Bs23_1_0 _ _ _ _ _ _ _ _) rfl rfl (by omega) gno rfl (fun b18_7 => ?_)
         refine AV.next (bl 13 223) (by kernel_rfl) (fun _ h => h.sel [7] rfl) ?_
         refine AV.all [5] (by kernel_rfl) (by decide) ?_
         refine ⟨⟨_, rfl, ?_⟩, trivial⟩
         ·
          refine OV.step gno (Step.load Tryz.underlying23 rfl rfl (fun w h => h.cell 0 rfl rfl)) rfl ?_
          refine AV.next (bl 13 255) (by kernel_rfl) (fun _ h => h.sel [7] rfl) ?_
          refine AV.all [8] (by kernel_rfl) (by decide) ?_
          refine ⟨⟨_, rfl, ?_⟩, trivial⟩
          ·
           refine OV.append 2 Tryz.underlying23 I48 rfl rfl rfl rfl rfl rfl (fun w h => h.os 8 rfl) (by simp only [List.length_cons, List.length_nil]; omega) (by simp only [List.length_cons, List.length_nil]; omega) gno rfl (fun A2 c2 => ?_)
           refine AV.next (bl 13 511) (by kernel_rfl) (fun _ h => h.sel [7] rfl) ?_
           refine AV.u 9 (bl 13 1023) rfl gno (Step.nilCheck rfl) rfl (fun _ h => h.sel [7] rfl) ?_
           refine AV.u 10 (bl 13 2047) rfl gno (Step.fieldAddr rfl (F67_0 _ _)) rfl (fun _ h => h.sel [7] rfl) ?_
           refine AV.u 11 (bl 13 4095) rfl gno (Step.fieldAddr rfl (F25_2 _ _)) rfl (fun _ h => h.sel [7] rfl) ?_
           refine AV.all [12] (by kernel_rfl) (by decide) ?_
           refine ⟨⟨_, rfl, ?_⟩, trivial⟩
           ·
            refine OV.store 0 [_] #[_, _, _, _, _] I23 rfl rfl rfl rfl rfl (Nat.le_of_ble_eq_true rfl) (by simp [Value.oneCell']) rfl gno ?_
            refine AV.next (bl 13 8191) (by kernel_rfl) (fun _ h => h.sel [7] rfl) ?_
            refine AV.done (by kernel_rfl) ?_
            refine KV.then_n (KV.env [(0, _), (11, _), (12, _)] ⟨rfl, rfl, rfl, trivial⟩ (CV.seq (CV.region ?_)))
            refine RV.m rfl rfl (RV.m rfl rfl (RV.s (Step.nilCheck rfl) rfl (RV.s (Step.fieldAddr rfl (F67_2 _ _)) rfl (RV.s (Step.load Tryz.underlying22 rfl rfl (fun w h => h.cell 0 rfl rfl)) rfl (RV.m rfl rfl ?_)))))
            refine RV.op (OV.buildSlice (K := strK) ([s]) rfl (Bs22_1_0 _) rfl rfl (by omega) gno rfl (fun b19_6 => ?_))
            refine RV.op (OV.append 4 Tryz.underlying22 I9 rfl rfl rfl rfl rfl rfl (fun w h => h.os 9 rfl) (by simp only [List.length_cons, List.length_nil]; omega) (by simp only [List.length_cons, List.length_nil]; omega) gno rfl (fun A3 c3 => ?_))
            refine RV.s (Step.nilCheck rfl) rfl (RV.s (Step.fieldAddr rfl (F67_2 _ _)) rfl ?_)
            refine RV.op (OV.store 0 [_] #[_, _, _, _, _] I22 rfl rfl rfl rfl rfl (Nat.le_of_ble_eq_true rfl) (by simp [Value.oneCell']) rfl gno ?_)
            refine RV.nil (KV.then_n (KV.env [(12, _)] ⟨rfl, trivial⟩ (CV.seq (CV.region ?_))))
            refine RV.m rfl rfl (RV.a rfl rfl ?_)
            refine RV.nil (KV.then_n (KV.env [(4, _)] ⟨rfl, trivial⟩ (CV.ret (KV.block_ret (KV.then_ret ?_)))))
            refine KV.sel [] [] rfl ?_
            (first | exact KV.ret1 rfl rfl _ (fun _ h => h.sel [] rfl) (.inr ⟨lm_on hK hnd hks hO, rfl, rfl⟩) | exact KV.ret1 rfl rfl _ (fun _ h => Hp.bigSnoc (L := [_, _, _, _, _, _]) (F := opA) (h' := ({ H with t := { H.t with frm := (P.ss.length : Int) - 1 } } : TH)) (k := 3) h rfl) (.inl ⟨({ P with tA := A2, tc := c2, hs := P.hs ++ [({ H with t := { H.t with frm := (P.ss.length : Int) - 1 } } : TH)], gA := A3, gc := c3, tg := P.tg ++ [s] } : PH), (lm_ook hK hnd hks hko (fun k => by have h5 : P.ps.ss.length = P.ss.length := rfl; rw [k] at h5; have h6 : ([] : List Bs).length = 0 := rfl; omega) hO).trans (by simp [PH.ps]), ⟨by first | exact Nat.le_succ _ | (show (_ ++ _ : List _).length ≤ _; rw [List.length_append]; exact Nat.le_refl _), by first | exact Nat.le_succ _ | (show (_ ++ _ : List _).length ≤ _; rw [List.length_append]; exact Nat.le_refl _), by first | exact Nat.le_succ _ | (show (_ ++ _ : List _).length ≤ _; rw [List.length_append]; exact Nat.le_refl _)⟩, rfl, rfl⟩))
      ·
       refine RV.s (Step.pick_t rfl rfl) rfl (RV.a rfl rfl ?_)
       refine RV.nil (KV.then_n (KV.env [(0, _), (5, _), (72, _)] ⟨rfl, rfl, rfl, trivial⟩ (CV.cond_f rfl (CV.skip (KV.block_n ?_)))))
       refine KV.then_n (KV.env [] trivial (CV.seq (CV.region ?_)))
       refine RV.a rfl rfl ?_
       refine RV.nil (KV.then_n (KV.env [(4, _)] ⟨rfl, trivial⟩ (CV.ret ?_)))
       refine KV.sel [] [] rfl ?_
       exact KV.ret1 rfl rfl _ (fun _ h => h.sel [] rfl) (.inr ⟨lm_no hK hnd hks (by first | exact fun k => hko k.1 | exact fun k => hss (by have := List.length_pos_iff.2 k.2; show (0 : Int) < (P.ss.length : Int); have h5 : P.ps.ss.length = P.ss.length := rfl; omega)), rfl, rfl⟩)
     ·
      refine RV.m rfl rfl (RV.k rfl rfl (RV.k rfl rfl (RV.k rfl rfl (RV.k rfl rfl (RV.k rfl rfl (RV.k rfl rfl (RV.k rfl rfl ?_)))))))
      refine RV.s (Step.pick_f rfl rfl) rfl (RV.a rfl rfl ?_)
      refine RV.nil (KV.then_n (KV.env [(0, _), (5, _), (72, _)] ⟨rfl, rfl, rfl, trivial⟩ (CV.cond_f rfl (CV.skip (KV.block_n ?_)))))
      refine KV.then_n (KV.env [] trivial (CV.seq (CV.region ?_)))
      refine RV.a rfl rfl ?_
      refine RV.nil (KV.then_n (KV.env [(4, _)] ⟨rfl, trivial⟩ (CV.ret ?_)))
      refine KV.sel [] [] rfl ?_
      exact KV.ret1 rfl rfl _ (fun _ h => h.sel [] rfl) (.inr ⟨lm_no hK hnd hks (by first | exact fun k => hko k.1 | exact fun k => hss (by have := List.length_pos_iff.2 k.2; show (0 : Int) < (P.ss.length : Int); have h5 : P.ps.ss.length = P.ss.length := rfl; omega)), rfl, rfl⟩)
  ·
   skip
   refine RV.m rfl rfl (RV.s (Step.extract0 rfl rfl) rfl (RV.s (Step.extract0 rfl rfl) rfl (RV.a rfl rfl (RV.a rfl rfl ?_))))
   refine RV.nil (KV.then_n (KV.env [(0, _), (5, _), (6, _), (7, _)] ⟨rfl, rfl, rfl, rfl, trivial⟩ (CV.seq (CV.seq (CV.region ?_)))))
   refine RV.m rfl rfl (RV.s (Step.not rfl) rfl ?_)
   refine RV.nil (KV.then_n (KV.env [(0, _), (5, _), (6, _), (23, _)] ⟨rfl, rfl, rfl, rfl, trivial⟩ (CV.cond_t rfl (CV.seq (CV.region ?_)))))
   refine RV.a rfl rfl ?_
   refine RV.nil (KV.then_n (KV.env [(4, _)] ⟨rfl, trivial⟩ (CV.ret (KV.then_ret ?_))))
   refine KV.sel [] [] rfl ?_
   exact KV.ret1 rfl rfl _ (fun _ h => h.sel [] rfl) (.inr ⟨lm_nonm (by omega) hK, rfl, rfl⟩)
end Go.Proofs.YtplmfekhdaefaaaGreatDoor
