/-
 Walks, part 11.
-/
import Derived.Test.YtplmfekhdaefaaaGreatDoorTabA
import Derived.Test.YtplmfekhdaefaaaGreatDoorW10
set_option linter.unusedSimpArgs false
set_option linter.unusedVariables false
namespace Go.Proofs.YtplmfekhdaefaaaGreatDoor
open Go.Sv Go.Drv
set_option maxRecDepth 100000 in
set_option maxHeartbeats 1000000 in
theorem cloneS_fn {A : Option Addr} {n c : Nat} {l : List Bs} {w : World} (hs : RS w strK A l) (hn : n = l.length) (hl : l.length ≤ 1000000) : Fx Tryz.prog 65 [.slice A n c] w [] no (fun v L => ∃ A2 c2, v = .slice A2 l.length c2 ∧ L = [OS 9 strK A2 c2 l]) := by
 subst hn
 refine Sv.Fx.body Tryz.func65 rfl T65 rfl ?_
 intro I hro hI
 refine KV.env [(0, _)] ⟨rfl, trivial⟩ (CV.seq (CV.region ?_))
 refine RV.a rfl rfl ?_
 refine RV.nil (KV.then_n (KV.env [(0, _)] ⟨rfl, trivial⟩ (CV.seq (CV.seq (CV.region ?_)))))
 refine RV.m rfl rfl ?_
 refine RV.op (OV.split gno (Step.nilSl Tryz.underlying22 rfl rfl) rfl (fun hz => ?_) (fun hz => ?_))
 ·
  refine RV.nil (KV.then_n (KV.env [(0, _), (4, _)] ⟨rfl, rfl, trivial⟩ (CV.cond_t rfl (CV.seq (CV.region ?_)))))
  refine RV.a rfl rfl ?_
  refine RV.nil (KV.then_n (KV.env [(2, _)] ⟨rfl, trivial⟩ (CV.ret (KV.then_ret ?_))))
  refine KV.sel [] [] rfl ?_
  subst hz
  obtain rfl := RS.nil_of hs
  exact KV.ret1 rfl rfl _ (fun _ h => h.nilOS) ⟨none, 0, rfl, rfl⟩
 ·
  refine RV.nil (KV.then_n (KV.env [(0, _), (4, _)] ⟨rfl, rfl, trivial⟩ (CV.cond_f rfl (CV.skip (KV.then_n ?_)))))
  refine KV.env [(0, _)] ⟨rfl, trivial⟩ (CV.seq (CV.region ?_))
  refine RV.op (OV.buildSlice (K := strK) ([]) rfl (Bs22_0_) rfl rfl (by omega) gno rfl (fun b3_0 => ?_))
  refine RV.m rfl rfl ?_
  refine RV.op (OV.append 0 Tryz.underlying22 I9 rfl rfl rfl rfl rfl rfl (fun w h => h.rs hs (fun _ => hI _)) (by simp only [List.length_nil]; omega) (by simp only [List.length_nil]; omega) gno rfl (fun A2 c2 => ?_))
  refine RV.a rfl rfl ?_
  refine RV.nil (KV.then_n (KV.env [(2, _)] ⟨rfl, trivial⟩ (CV.ret ?_)))
  refine KV.sel [0] [_] rfl ?_
  exact KV.ret1 rfl rfl _ (fun _ h => h) ⟨A2, c2, rfl, rfl⟩

set_option maxRecDepth 100000 in
set_option maxHeartbeats 1000000 in
theorem cloneT_fn {A : Option Addr} {n c : Nat} {l : List TH} {w : World} (hs : RS w thK A l) (hn : n = l.length) (hl : l.length ≤ 1000000) : Fx Tryz.prog 66 [.slice A n c] w [] no (fun v L => ∃ A2 c2, v = .slice A2 l.length c2 ∧ L = [OS 48 thK A2 c2 l]) := by
 subst hn
 refine Sv.Fx.body Tryz.func66 rfl T66 rfl ?_
 intro I hro hI
 refine KV.env [(0, _)] ⟨rfl, trivial⟩ (CV.seq (CV.region ?_))
 refine RV.a rfl rfl ?_
 refine RV.nil (KV.then_n (KV.env [(0, _)] ⟨rfl, trivial⟩ (CV.seq (CV.seq (CV.region ?_)))))
 refine RV.m rfl rfl ?_
 refine RV.op (OV.split gno (Step.nilSl Tryz.underlying23 rfl rfl) rfl (fun hz => ?_) (fun hz => ?_))
 ·
  refine RV.nil (KV.then_n (KV.env [(0, _), (4, _)] ⟨rfl, rfl, trivial⟩ (CV.cond_t rfl (CV.seq (CV.region ?_)))))
  refine RV.a rfl rfl ?_
  refine RV.nil (KV.then_n (KV.env [(2, _)] ⟨rfl, trivial⟩ (CV.ret (KV.then_ret ?_))))
  refine KV.sel [] [] rfl ?_
  subst hz
  obtain rfl := RS.nil_of hs
  exact KV.ret1 rfl rfl _ (fun _ h => h.nilOS) ⟨none, 0, rfl, rfl⟩
 ·
  refine RV.nil (KV.then_n (KV.env [(0, _), (4, _)] ⟨rfl, rfl, trivial⟩ (CV.cond_f rfl (CV.skip (KV.then_n ?_)))))
  refine KV.env [(0, _)] ⟨rfl, trivial⟩ (CV.seq (CV.region ?_))
  refine RV.op (OV.buildSlice (K := thK) ([]) rfl (Bs23_0_) rfl rfl (by omega) gno rfl (fun b3_0 => ?_))
  refine RV.m rfl rfl ?_
  refine RV.op (OV.append 0 Tryz.underlying23 I48 rfl rfl rfl rfl rfl rfl (fun w h => h.rs hs (fun _ => hI _)) (by simp only [List.length_nil]; omega) (by simp only [List.length_nil]; omega) gno rfl (fun A2 c2 => ?_))
  refine RV.a rfl rfl ?_
  refine RV.nil (KV.then_n (KV.env [(2, _)] ⟨rfl, trivial⟩ (CV.ret ?_)))
  refine KV.sel [0] [_] rfl ?_
  exact KV.ret1 rfl rfl _ (fun _ h => h) ⟨A2, c2, rfl, rfl⟩

set_option maxRecDepth 100000 in
set_option maxHeartbeats 1000000 in
theorem cloneO_fn {A : Option Addr} {n c : Nat} {l : List Ro} {w : World} (hs : RS w roK A l) (hn : n = l.length) (hl : l.length ≤ 1000000) : Fx Tryz.prog 67 [.slice A n c] w [] no (fun v L => ∃ A2 c2, v = .slice A2 l.length c2 ∧ L = [OS 59 roK A2 c2 l]) := by
 subst hn
 refine Sv.Fx.body Tryz.func67 rfl T67 rfl ?_
 intro I hro hI
 refine KV.env [(0, _)] ⟨rfl, trivial⟩ (CV.seq (CV.region ?_))
 refine RV.a rfl rfl ?_
 refine RV.nil (KV.then_n (KV.env [(0, _)] ⟨rfl, trivial⟩ (CV.seq (CV.seq (CV.region ?_)))))
 refine RV.m rfl rfl ?_
 refine RV.op (OV.split gno (Step.nilSl Tryz.underlying46 rfl rfl) rfl (fun hz => ?_) (fun hz => ?_))
 ·
  refine RV.nil (KV.then_n (KV.env [(0, _), (4, _)] ⟨rfl, rfl, trivial⟩ (CV.cond_t rfl (CV.seq (CV.region ?_)))))
  refine RV.a rfl rfl ?_
  refine RV.nil (KV.then_n (KV.env [(2, _)] ⟨rfl, trivial⟩ (CV.ret (KV.then_ret ?_))))
  refine KV.sel [] [] rfl ?_
  subst hz
  obtain rfl := RS.nil_of hs
  exact KV.ret1 rfl rfl _ (fun _ h => h.nilOS) ⟨none, 0, rfl, rfl⟩
 ·
  refine RV.nil (KV.then_n (KV.env [(0, _), (4, _)] ⟨rfl, rfl, trivial⟩ (CV.cond_f rfl (CV.skip (KV.then_n ?_)))))
  refine KV.env [(0, _)] ⟨rfl, trivial⟩ (CV.seq (CV.region ?_))
  refine RV.op (OV.buildSlice (K := roK) ([]) rfl (Bs46_0_) rfl rfl (by omega) gno rfl (fun b3_0 => ?_))
  refine RV.m rfl rfl ?_
  refine RV.op (OV.append 0 Tryz.underlying46 I59 rfl rfl rfl rfl rfl rfl (fun w h => h.rs hs (fun _ => hI _)) (by simp only [List.length_nil]; omega) (by simp only [List.length_nil]; omega) gno rfl (fun A2 c2 => ?_))
  refine RV.a rfl rfl ?_
  refine RV.nil (KV.then_n (KV.env [(2, _)] ⟨rfl, trivial⟩ (CV.ret ?_)))
  refine KV.sel [0] [_] rfl ?_
  exact KV.ret1 rfl rfl _ (fun _ h => h) ⟨A2, c2, rfl, rfl⟩
end Go.Proofs.YtplmfekhdaefaaaGreatDoor
