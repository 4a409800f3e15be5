/-
 Walks, part 17.
-/
import Derived.Test.YtplmfekhdaefaaaGreatDoorTabA
import Derived.Test.YtplmfekhdaefaaaGreatDoorW16
import Derived.Test.YtplmfekhdaefaaaGreatDoorDmB
set_option linter.unusedSimpArgs false
set_option linter.unusedVariables false
namespace Go.Proofs.YtplmfekhdaefaaaGreatDoor
open Go.Sv Go.Drv
set_option maxRecDepth 100000 in
set_option maxHeartbeats 1000000 in
theorem mod_fn (v : Int) (n : Nat) (hn : 0 < n) (hn2 : n ≤ 1000000) : FxP Tryz.prog 11 [.int .i64 v, .int .i64 n] (.int .i64 (modM v n)) := by
 refine Sv.FxP.body Tryz.func11 rfl T11 rfl ?_
 intro wp
 refine KV.env [(0, _), (1, _)] ⟨rfl, rfl, trivial⟩ (CV.seq (CV.region ?_))
 refine RV.a rfl rfl ?_
 refine RV.nil (KV.then_n (KV.env [(0, _), (1, _)] ⟨rfl, rfl, trivial⟩ (CV.seq (CV.region ?_))))
 refine RV.m rfl rfl (RV.s (Step.convI Tryz.underlying3 Tryz.underlying65 rfl (rfl)) rfl (RV.m rfl rfl ?_))
 refine RV.s (Step.convI Tryz.underlying3 Tryz.underlying65 rfl (wU64 (by omega) (by omega))) rfl ?_
 refine RV.s (Step.rem rfl rfl (by omega) (rfl)) rfl ?_
 refine RV.s (Step.convI Tryz.underlying65 Tryz.underlying3 rfl (wI64 (by have := modT v hn; omega) (by have := modT v hn; omega))) rfl ?_
 refine RV.a rfl rfl ?_
 refine RV.nil (KV.then_n (KV.env [(4, _)] ⟨rfl, trivial⟩ (CV.ret ?_)))
 exact KV.retP1 rfl rfl (by rw [modM_t v hn])

theorem evI : ∀ {q : Nat} (h : q < 6) (w : World), (Instr.index 63 (.agg ([.string (bs [115, 116, 97, 114, 116]), .string (bs [105, 114, 113]), .string (bs [111, 110]), .string (bs [100, 114, 105, 118, 101, 114]), .string (bs [110, 111, 110, 101]), .string (bs [])] : List Value).toArray) (.int .i64 (q : Int))).run Tryz.prog w = .ok (.string (bs (evL.getD q []))) w
 | 0, _, w => by kernel_rfl
 | 1, _, w => by kernel_rfl
 | 2, _, w => by kernel_rfl
 | 3, _, w => by kernel_rfl
 | 4, _, w => by kernel_rfl
 | 5, _, w => by kernel_rfl
 | n + 6, h, _ => by omega
theorem strs_get (l : List Bs) {q : Nat} (h : q < l.length) : (l.map (fun s => Value.string (bs s)))[0 + q * 1]? = some (.string (bs (l.getD q []))) := by
 rw [Nat.zero_add, Nat.mul_one, List.getElem?_map, List.getElem?_eq_getElem h]
 simp [List.getD, List.getElem?_eq_getElem h]

set_option maxRecDepth 100000 in
set_option maxHeartbeats 4000000 in
theorem large_fn (d : DH) {w : World} (hd : DR w d) : Fx Tryz.prog 7 [.agg #[.string (bs d.name), .slice d.sA d.ss.length d.sc, .slice d.tA d.hs.length d.tc]] w [] no (fun v L => v = .bool (lrgM d.d) ∧ L = []) := by
 refine Sv.Fx.body Tryz.func7 rfl T7 rfl ?_
 intro I hro hI
 refine KV.env [(0, _)] ⟨rfl, trivial⟩ (CV.seq (CV.region ?_))
 refine RV.op (OV.box (t := 25) #[_, _, _] rfl rfl gno rfl (fun p => ?_))
 refine RV.a rfl rfl ?_
 refine RV.nil (KV.then_n (KV.env [(1, _)] ⟨rfl, trivial⟩ (CV.seq (CV.seq (CV.region ?_)))))
 refine RV.s (Step.fieldAddr rfl (F25_1 _ _)) rfl (RV.s (Step.load Tryz.underlying22 rfl rfl (fun w h => h.cell 0 rfl rfl)) rfl (RV.s (Step.lenSl Tryz.underlying22 rfl) rfl ?_))
 refine RV.op (OV.split gno (Step.gtr rfl rfl) rfl (fun a1 => ?_) (fun a1 => ?_))
 ·
  refine RV.m rfl rfl (RV.k rfl rfl (RV.k rfl rfl (RV.k rfl rfl (RV.k rfl rfl (RV.s (Step.pick_t rfl rfl) rfl (RV.m rfl rfl (RV.k rfl rfl ?_)))))))
  refine RV.k rfl rfl (RV.k rfl rfl (RV.k rfl rfl (RV.s (Step.pick_t rfl rfl) rfl ?_)))
  refine RV.nil (KV.then_n (KV.env [(1, _), (20, _)] ⟨rfl, rfl, trivial⟩ (CV.cond_t rfl (CV.seq (CV.region ?_)))))
  refine RV.a rfl rfl ?_
  refine RV.nil (KV.then_n (KV.env [(2, _)] ⟨rfl, trivial⟩ (CV.ret (KV.then_ret ?_))))
  refine KV.sel [] [] rfl ?_
  exact KV.ret1 rfl rfl _ (fun _ h => h) ⟨by rw [lrg_a (d := d.d) (show 40 < d.ss.length ∨ 40 < (d.hs.map (·.t)).length ∨ 100 < d.name.length by rw [List.length_map]; omega)], rfl⟩
 ·
  refine RV.m rfl rfl (RV.gw rfl (Step.fieldAddr rfl (F25_2 _ _)) rfl (RV.gw rfl (Step.load Tryz.underlying23 rfl rfl (fun w h => h.cell 0 rfl rfl)) rfl (RV.gw rfl (Step.lenSl Tryz.underlying23 rfl) rfl ?_)))
  refine RV.op (OV.split (gyes rfl) (Step.gtr rfl rfl) rfl (fun a2 => ?_) (fun a2 => ?_))
  ·
   refine RV.s (Step.pick_f rfl rfl) rfl (RV.m rfl rfl (RV.k rfl rfl (RV.k rfl rfl (RV.k rfl rfl (RV.k rfl rfl (RV.s (Step.pick_t rfl rfl) rfl ?_))))))
   refine RV.nil (KV.then_n (KV.env [(1, _), (20, _)] ⟨rfl, rfl, trivial⟩ (CV.cond_t rfl (CV.seq (CV.region ?_)))))
   refine RV.a rfl rfl ?_
   refine RV.nil (KV.then_n (KV.env [(2, _)] ⟨rfl, trivial⟩ (CV.ret (KV.then_ret ?_))))
   refine KV.sel [] [] rfl ?_
   exact KV.ret1 rfl rfl _ (fun _ h => h) ⟨by rw [lrg_a (d := d.d) (show 40 < d.ss.length ∨ 40 < (d.hs.map (·.t)).length ∨ 100 < d.name.length by rw [List.length_map]; omega)], rfl⟩
  ·
   refine RV.s (Step.pick_f rfl rfl) rfl (RV.m rfl rfl (RV.gw rfl (Step.fieldAddr rfl (F25_0 _ _)) rfl (RV.gw rfl (Step.load Tryz.underlying9 rfl rfl (fun w h => h.cell 0 rfl rfl)) rfl (RV.gw rfl (Step.lenStr Tryz.underlying9 rfl) rfl ?_))))
   refine RV.op (OV.split (gyes rfl) (Step.gtr rfl rfl) rfl (fun a3 => ?_) (fun a3 => ?_))
   ·
    refine RV.s (Step.pick_f rfl rfl) rfl ?_
    refine RV.nil (KV.then_n (KV.env [(1, _), (20, _)] ⟨rfl, rfl, trivial⟩ (CV.cond_t rfl (CV.seq (CV.region ?_)))))
    refine RV.a rfl rfl ?_
    refine RV.nil (KV.then_n (KV.env [(2, _)] ⟨rfl, trivial⟩ (CV.ret (KV.then_ret ?_))))
    refine KV.sel [] [] rfl ?_
    exact KV.ret1 rfl rfl _ (fun _ h => h) ⟨by rw [lrg_a (d := d.d) (show 40 < d.ss.length ∨ 40 < (d.hs.map (·.t)).length ∨ 100 < d.name.length by rw [List.length_map]; omega)], rfl⟩
   ·
    refine RV.s (Step.pick_f rfl rfl) rfl ?_
    refine RV.nil (KV.then_n (KV.env [(1, _), (20, _)] ⟨rfl, rfl, trivial⟩ (CV.cond_f rfl (CV.skip (KV.then_n ?_)))))
    refine KV.env [(1, _)] ⟨rfl, trivial⟩ (CV.seq (CV.seq (CV.region ?_)))
    refine RV.a rfl rfl ?_
    refine RV.nil (KV.then_n (KV.env [(1, _), (3, _)] ⟨rfl, rfl, trivial⟩ (CV.block ?_)))
    refine KV.sel [0] [_] rfl ?_
    refine CV.loopI (fun (j : Nat) => j ≤ d.hs.length ∧ ∀ i, i < j → (d.hs.getD i thK.d).t.ops.length ≤ 20 ∧ (d.hs.getD i thK.d).t.ev.length ≤ 100) (fun (j : Nat) => d.hs.length - j) (fun (j : Nat) => [(1, .pointer (some ⟨p, 0, none⟩)), (3, .int .i64 j)]) (fun (j : Nat) => Hp I w [Blk p (.cells #[.string (bs d.name), .slice d.sA d.ss.length d.sc, .slice d.tA d.hs.length d.tc] 25 (0, 0))]) (0) ⟨Nat.zero_le _, fun i hi => by omega⟩ ⟨rfl, rfl, trivial⟩ (fun _ h => h) ?_
    intro j hinv
    refine CV.seq (CV.seq (CV.region ?_))
    refine RV.m rfl rfl (RV.s (Step.fieldAddr rfl (F25_2 _ _)) rfl (RV.s (Step.load Tryz.underlying23 rfl rfl (fun w h => h.cell 0 rfl rfl)) rfl (RV.s (Step.lenSl Tryz.underlying23 rfl) rfl ?_)))
    refine RV.op (OV.split gno (Step.lss rfl rfl) rfl (fun hj => ?_) (fun hj => ?_))
    ·
     refine RV.nil (KV.then_n (KV.env [(1, _), (3, _), (25, _)] ⟨rfl, rfl, rfl, trivial⟩ (CV.cond_t rfl (CV.skip (KV.then_n ?_)))))
     refine KV.env [(1, _), (3, _)] ⟨rfl, rfl, trivial⟩ (CV.seq (CV.block (CV.seq (CV.region ?_))))
     refine RV.s (Step.fieldAddr rfl (F25_2 _ _)) rfl (RV.s (Step.load Tryz.underlying23 rfl rfl (fun w h => h.cell 0 rfl rfl)) rfl (RV.m rfl rfl ?_))
     refine RV.s (Step.idx Tryz.underlying23 I48 (fun w h => (DR.keep h hd hI).t) rfl rfl (rfl) _ rfl (by omega)) rfl ?_
     refine RV.s (Step.fieldAddr rfl (F48_3 _ _)) rfl ?_
     refine RV.s (Step.load Tryz.underlying46 rfl rfl (fun w h => ((DR.keep h hd hI).t).cell (by omega) rfl)) rfl ?_
     refine RV.s (Step.lenSl Tryz.underlying46 rfl) rfl ?_
     refine RV.op (OV.split gno (Step.gtr rfl rfl) rfl (fun b1 => ?_) (fun b1 => ?_))
     ·
      refine RV.m rfl rfl (RV.k rfl rfl (RV.k rfl rfl (RV.k rfl rfl (RV.k rfl rfl (RV.k rfl rfl (RV.k rfl rfl (RV.k rfl rfl ?_)))))))
      refine RV.k rfl rfl (RV.s (Step.pick_t rfl rfl) rfl ?_)
      refine RV.nil (KV.then_n (KV.env [(1, _), (3, _), (45, _)] ⟨rfl, rfl, rfl, trivial⟩ (CV.cond_t rfl (CV.seq (CV.region ?_)))))
      refine RV.a rfl rfl ?_
      refine RV.nil (KV.then_n (KV.env [(2, _)] ⟨rfl, trivial⟩ (CV.ret (KV.block_ret (KV.then_ret ?_)))))
      refine KV.then_ret (KV.block_ret (KV.then_ret ?_))
      refine KV.sel [] [] rfl ?_
      exact KV.ret1 rfl rfl _ (fun _ h => h) ⟨by rw [lrg_t (d := d.d) (i := j) (show j < (d.hs.map (·.t)).length by rw [List.length_map]; omega) (by show 20 < (trA (d.hs.map (·.t)) j).ops.length ∨ 100 < (trA (d.hs.map (·.t)) j).ev.length; rw [trA_th]; omega)], rfl⟩
     ·
      refine RV.m rfl rfl (RV.gw rfl (Step.fieldAddr rfl (F25_2 _ _)) rfl (RV.gw rfl (Step.load Tryz.underlying23 rfl rfl (fun w h => h.cell 0 rfl rfl)) rfl (RV.gw rfl (Step.move rfl) rfl ?_)))
      refine RV.gw rfl (Step.idx Tryz.underlying23 I48 (fun w h => (DR.keep h hd hI).t) rfl rfl (rfl) _ rfl (by omega)) rfl ?_
      refine RV.gw rfl (Step.fieldAddr rfl (F48_1 _ _)) rfl ?_
      refine RV.gw rfl (Step.load Tryz.underlying9 rfl rfl (fun w h => ((DR.keep h hd hI).t).cell (by omega) rfl)) rfl ?_
      refine RV.gw rfl (Step.lenStr Tryz.underlying9 rfl) rfl ?_
      refine RV.op (OV.split (gyes rfl) (Step.gtr rfl rfl) rfl (fun b2 => ?_) (fun b2 => ?_))
      ·
       refine RV.s (Step.pick_f rfl rfl) rfl ?_
       refine RV.nil (KV.then_n (KV.env [(1, _), (3, _), (45, _)] ⟨rfl, rfl, rfl, trivial⟩ (CV.cond_t rfl (CV.seq (CV.region ?_)))))
       refine RV.a rfl rfl ?_
       refine RV.nil (KV.then_n (KV.env [(2, _)] ⟨rfl, trivial⟩ (CV.ret (KV.block_ret (KV.then_ret ?_)))))
       refine KV.then_ret (KV.block_ret (KV.then_ret ?_))
       refine KV.sel [] [] rfl ?_
       exact KV.ret1 rfl rfl _ (fun _ h => h) ⟨by rw [lrg_t (d := d.d) (i := j) (show j < (d.hs.map (·.t)).length by rw [List.length_map]; omega) (by show 20 < (trA (d.hs.map (·.t)) j).ops.length ∨ 100 < (trA (d.hs.map (·.t)) j).ev.length; rw [trA_th]; omega)], rfl⟩
      ·
       refine RV.s (Step.pick_f rfl rfl) rfl ?_
       refine RV.nil (KV.then_n (KV.env [(1, _), (3, _), (45, _)] ⟨rfl, rfl, rfl, trivial⟩ (CV.cond_f rfl (CV.skip (KV.block_n ?_)))))
       refine KV.then_n (KV.env [(1, _), (3, _)] ⟨rfl, rfl, trivial⟩ (CV.region ?_))
       refine RV.m rfl rfl ?_
       (first | refine RV.op (OV.step gno (Step.add rfl rfl (wI64 (by omega) (by omega))) rfl ?_) | refine RV.op (OV.step gno (Step.add rfl rfl rfl) rfl ?_))
       refine RV.a rfl rfl ?_
       refine RV.nil (KV.then_n (KV.env [(1, _), (3, _)] ⟨rfl, rfl, trivial⟩ ?_))
       refine KV.sel [0] [_] rfl ?_
       exact KV.loopI (z := j) (j + 1) ⟨by omega, fun i hi => by by_cases e : i = j; (subst e; exact ⟨by omega, by omega⟩); exact hinv.2 i (by omega)⟩ (by omega) ⟨rfl, rfl, trivial⟩ (fun _ h => h)
    ·
     refine RV.nil (KV.then_n (KV.env [(1, _), (3, _), (25, _)] ⟨rfl, rfl, rfl, trivial⟩ (CV.cond_f rfl (CV.exit (KV.then_exit ?_)))))
     refine KV.then_exit (KV.block_hit (KV.then_n (KV.env [(1, _)] ⟨rfl, trivial⟩ (CV.seq (CV.seq ?_)))))
     have hT := hinv
     refine CV.region ?_
     refine RV.a rfl rfl ?_
     refine RV.nil (KV.then_n (KV.env [(1, _), (4, _)] ⟨rfl, rfl, trivial⟩ (CV.block ?_)))
     refine KV.sel [0] [_] rfl ?_
     refine CV.loopI (fun (m : Nat) => m ≤ d.ss.length ∧ ∀ i, i < m → (d.ss.getD i []).length ≤ 100) (fun (m : Nat) => d.ss.length - m) (fun (m : Nat) => [(1, .pointer (some ⟨p, 0, none⟩)), (4, .int .i64 m)]) (fun (m : Nat) => Hp I w [Blk p (.cells #[.string (bs d.name), .slice d.sA d.ss.length d.sc, .slice d.tA d.hs.length d.tc] 25 (0, 0))]) (0) ⟨Nat.zero_le _, fun i hi => by omega⟩ ⟨rfl, rfl, trivial⟩ (fun _ h => h) ?_
     intro m hinv
     refine CV.seq (CV.seq (CV.region ?_))
     refine RV.m rfl rfl (RV.s (Step.fieldAddr rfl (F25_1 _ _)) rfl (RV.s (Step.load Tryz.underlying22 rfl rfl (fun w h => h.cell 0 rfl rfl)) rfl (RV.s (Step.lenSl Tryz.underlying22 rfl) rfl ?_)))
     refine RV.op (OV.split gno (Step.lss rfl rfl) rfl (fun hk => ?_) (fun hk => ?_))
     ·
      refine RV.nil (KV.then_n (KV.env [(1, _), (4, _), (50, _)] ⟨rfl, rfl, rfl, trivial⟩ (CV.cond_t rfl (CV.skip (KV.then_n ?_)))))
      refine KV.env [(1, _), (4, _)] ⟨rfl, rfl, trivial⟩ (CV.seq (CV.block (CV.seq (CV.region ?_))))
      refine RV.s (Step.fieldAddr rfl (F25_1 _ _)) rfl (RV.s (Step.load Tryz.underlying22 rfl rfl (fun w h => h.cell 0 rfl rfl)) rfl (RV.m rfl rfl ?_))
      refine RV.s (Step.idx Tryz.underlying22 I9 (fun w h => (DR.keep h hd hI).s) rfl rfl (rfl) _ rfl (by omega)) rfl ?_
      refine RV.s (Step.load Tryz.underlying9 rfl rfl (fun w h => ((DR.keep h hd hI).s).cell0 (by omega) rfl)) rfl ?_
      refine RV.s (Step.lenStr Tryz.underlying9 rfl) rfl ?_
      refine RV.op (OV.split gno (Step.gtr rfl rfl) rfl (fun c1 => ?_) (fun c1 => ?_))
      ·
       refine RV.nil (KV.then_n (KV.env [(1, _), (4, _), (59, _)] ⟨rfl, rfl, rfl, trivial⟩ (CV.cond_t rfl (CV.seq (CV.region ?_)))))
       refine RV.a rfl rfl ?_
       refine RV.nil (KV.then_n (KV.env [(2, _)] ⟨rfl, trivial⟩ (CV.ret (KV.block_ret (KV.then_ret ?_)))))
       refine KV.then_ret (KV.block_ret (KV.then_ret ?_))
       refine KV.sel [] [] rfl ?_
       exact KV.ret1 rfl rfl _ (fun _ h => h) ⟨by rw [lrg_s (d := d.d) (i := m) (show m < d.ss.length by omega) (by show 100 < (d.ss.getD m strK.d).length; omega)], rfl⟩
      ·
       refine RV.nil (KV.then_n (KV.env [(1, _), (4, _), (59, _)] ⟨rfl, rfl, rfl, trivial⟩ (CV.cond_f rfl (CV.skip (KV.block_n ?_)))))
       refine KV.then_n (KV.env [(1, _), (4, _)] ⟨rfl, rfl, trivial⟩ (CV.region ?_))
       refine RV.m rfl rfl ?_
       (first | refine RV.op (OV.step gno (Step.add rfl rfl (wI64 (by omega) (by omega))) rfl ?_) | refine RV.op (OV.step gno (Step.add rfl rfl rfl) rfl ?_))
       refine RV.a rfl rfl ?_
       refine RV.nil (KV.then_n (KV.env [(1, _), (4, _)] ⟨rfl, rfl, trivial⟩ ?_))
       refine KV.sel [0] [_] rfl ?_
       exact KV.loopI (z := m) (m + 1) ⟨by omega, fun i hi => by by_cases e : i = m; (subst e; have : (d.ss.getD i strK.d).length = (d.ss.getD i []).length := rfl; omega); exact hinv.2 i (by omega)⟩ (by omega) ⟨rfl, rfl, trivial⟩ (fun _ h => h)
     ·
      refine RV.nil (KV.then_n (KV.env [(1, _), (4, _), (50, _)] ⟨rfl, rfl, rfl, trivial⟩ (CV.cond_f rfl (CV.exit (KV.then_exit ?_)))))
      refine KV.then_exit (KV.block_hit (KV.then_n (KV.env [] trivial (CV.seq (CV.region ?_)))))
      refine RV.a rfl rfl ?_
      refine RV.nil (KV.then_n (KV.env [(2, _)] ⟨rfl, trivial⟩ (CV.ret ?_)))
      refine KV.sel [] [] rfl ?_
      exact KV.ret1 rfl rfl _ (fun _ h => h) ⟨by rw [lrg_of (d := d.d) ⟨by show d.ss.length ≤ 40; omega, by show (d.hs.map (·.t)).length ≤ 40; rw [List.length_map]; omega, by show d.name.length ≤ 100; omega, fun i hi => by show (trA (d.hs.map (·.t)) i).ops.length ≤ 20 ∧ (trA (d.hs.map (·.t)) i).ev.length ≤ 100; rw [trA_th]; exact hT.2 i (by have h2 : i < (d.hs.map (·.t)).length := hi; rw [List.length_map] at h2; omega), fun i hi => hinv.2 i (by have h2 : i < d.ss.length := hi; omega)⟩], rfl⟩
end Go.Proofs.YtplmfekhdaefaaaGreatDoor
