/-
  Walks, part 33.
-/
import Derived.Test.YtplmfekhdaefaaaDoorTab33
import Derived.Test.YtplmfekhdaefaaaDoorW32
import Derived.Test.YtplmfekhdaefaaaDoorW17
set_option linter.unusedSimpArgs false
set_option linter.unusedVariables false
namespace Go.Proofs.YtplmfekhdaefaaaDoor
open Go.Sv Go.Drv
def pcL : List Bs := [[100, 114, 105, 118, 101, 114], [115, 116, 97, 116, 101], [111, 110], [105, 102], [119, 114, 105, 116, 101], [114, 101, 97, 100], [45, 62], [58], [59], [38], [61], [35], [10], [10], [10], [32], [97], [98], [95, 99], [48], [49], [52, 50], [48, 48, 55], [49, 56, 52, 52, 54, 55, 52, 52, 48, 55, 51, 55, 48, 57, 53, 53, 49, 54, 49, 53], [49, 56, 52, 52, 54, 55, 52, 52, 48, 55, 51, 55, 48, 57, 53, 53, 49, 54, 49, 54], [52, 120], [45], [9]]
def hdL : List Bs := [[], [100, 114, 105, 118, 101, 114, 32, 100, 10], [100, 114, 105, 118, 101, 114, 32, 100, 10, 115, 116, 97, 116, 101, 32, 97, 10], [100, 114, 105, 118, 101, 114, 32, 100, 10, 115, 116, 97, 116, 101, 32, 97, 10, 32, 111, 110, 32, 101, 32, 45, 62, 32, 97, 10, 115, 116, 97, 116, 101, 32, 98, 10], [100, 114, 105, 118, 101, 114, 32, 100, 10, 115, 116, 97, 116, 101, 32, 97, 10, 32, 111, 110, 32, 101, 32, 105, 102, 32, 49, 32, 38, 32, 50, 32, 61, 32, 51, 32, 45, 62, 32, 97, 58, 32, 119, 114, 105, 116, 101, 32, 49, 32, 50]]
theorem pc_le : ∀ q, q < 28 → (pcL.getD q []).length ≤ 20 := by decide
theorem hd_le : ∀ q, q < 5 → (hdL.getD q []).length ≤ 100 := by decide

set_option maxRecDepth 100000 in
set_option maxHeartbeats 4000000 in
theorem piece_fn (k : Int) {w : World} : Fx Tryd.prog 15 [.int .i64 k] w [] no (fun v L => ∃ p : Bs, p.length ≤ 20 ∧ v = .string (bs p) ∧ L = []) := by
  refine Sv.Fx.body Tryd.func15 rfl T15 rfl ?_
  intro I hro hI
  refine KV.env [(0, _)] ⟨rfl, trivial⟩ ?_
  obtain ⟨q, hq, hq6⟩ := modN k (n := 28) (by omega)
  refine CV.seq (CV.region ?_)
  refine RV.op (OV.step gno (Step.assign (v := .string (Sv.bs [])) rfl) rfl ?_)
  refine RV.nil (KV.then_n (KV.env [(0, _)] ⟨rfl, trivial⟩ (CV.seq (CV.region ?_))))
  refine RV.op (OV.step gno (Step.build (vs := [(0, .string (Sv.bs [100, 114, 105, 118, 101, 114])), (1, .string (Sv.bs [115, 116, 97, 116, 101])), (2, .string (Sv.bs [111, 110])), (3, .string (Sv.bs [105, 102])), (4, .string (Sv.bs [119, 114, 105, 116, 101])), (5, .string (Sv.bs [114, 101, 97, 100])), (6, .string (Sv.bs [45, 62])), (7, .string (Sv.bs [58])), (8, .string (Sv.bs [59])), (9, .string (Sv.bs [38])), (10, .string (Sv.bs [61])), (11, .string (Sv.bs [35])), (12, .string (Sv.bs [10])), (13, .string (Sv.bs [10])), (14, .string (Sv.bs [10])), (15, .string (Sv.bs [32])), (16, .string (Sv.bs [97])), (17, .string (Sv.bs [98])), (18, .string (Sv.bs [95, 99])), (19, .string (Sv.bs [48])), (20, .string (Sv.bs [49])), (21, .string (Sv.bs [52, 50])), (22, .string (Sv.bs [48, 48, 55])), (23, .string (Sv.bs [49, 56, 52, 52, 54, 55, 52, 52, 48, 55, 51, 55, 48, 57, 53, 53, 49, 54, 49, 53])), (24, .string (Sv.bs [49, 56, 52, 52, 54, 55, 52, 52, 48, 55, 51, 55, 48, 57, 53, 53, 49, 54, 49, 54])), (25, .string (Sv.bs [52, 120])), (26, .string (Sv.bs [45])), (27, .string (Sv.bs [9]))]) rfl (Ba101_28 _ _ _ _ _ _ _ _ _ _ _ _ _ _ _ _ _ _ _ _ _ _ _ _ _ _ _ _)) rfl ?_)
  refine RV.op (OV.alloc #[.string (Sv.bs []), .string (Sv.bs []), .string (Sv.bs []), .string (Sv.bs []), .string (Sv.bs []), .string (Sv.bs []), .string (Sv.bs []), .string (Sv.bs []), .string (Sv.bs []), .string (Sv.bs []), .string (Sv.bs []), .string (Sv.bs []), .string (Sv.bs []), .string (Sv.bs []), .string (Sv.bs []), .string (Sv.bs []), .string (Sv.bs []), .string (Sv.bs []), .string (Sv.bs []), .string (Sv.bs []), .string (Sv.bs []), .string (Sv.bs []), .string (Sv.bs []), .string (Sv.bs []), .string (Sv.bs []), .string (Sv.bs []), .string (Sv.bs []), .string (Sv.bs [])] I101 rfl gno rfl (fun l => ?_))
  refine RV.op (OV.store 0 [_, _, _, _, _, _, _, _, _, _, _, _, _, _, _, _, _, _, _, _, _, _, _, _, _, _, _, _] #[_, _, _, _, _, _, _, _, _, _, _, _, _, _, _, _, _, _, _, _, _, _, _, _, _, _, _, _] I101 rfl rfl rfl rfl rfl (Nat.le_of_ble_eq_true rfl) (by simp [Value.oneCell']) rfl gno ?_)
  refine RV.nil (KV.then_n (KV.env [(0, _), (3, _)] ⟨rfl, rfl, trivial⟩ (CV.seq (CV.region ?_))))
  refine RV.op (OV.step gno (Step.move rfl) rfl ?_)
  refine RV.op (OV.callP Tryd.func14 B14 N14 rfl (mod_fn k 28 (by omega) (by omega)) gno rfl ?_)
  rw [hq]
  refine RV.op (OV.step gno (Step.idxArr Tryd.underlying101 I9 rfl rfl _ rfl (by omega)) rfl ?_)
  refine RV.op (OV.step gno (Step.load Tryd.underlying9 rfl rfl (fun w h => h.cell 0 rfl (strs_get pcL hq6))) rfl ?_)
  refine RV.op (OV.step gno (Step.assign rfl) rfl ?_)
  refine RV.nil (KV.then_n (KV.env [(2, _)] ⟨rfl, trivial⟩ (CV.ret ?_)))
  refine KV.sel [] [] rfl ?_
  exact KV.ret1 rfl rfl _ (fun _ h => h) ⟨_, pc_le q hq6, rfl, rfl⟩

set_option maxRecDepth 100000 in
set_option maxHeartbeats 4000000 in
theorem parsePieces_fn {A : Option Addr} {c : Nat} (l : List Int) (bg : Int) {w : World} (hE : EvR w) (hl : RS w (intK .i64) A l) : Fx Tryd.prog 4 [.slice A l.length c, .int .i64 bg] w [] at4 (fun v L => v = .bool true ∧ L = []) := by
  refine Sv.Fx.body Tryd.func4 rfl T4 rfl ?_
  intro I hro hI
  refine KV.env [(0, _), (1, _)] ⟨rfl, rfl, trivial⟩ ?_
  obtain ⟨q, hq, hq5⟩ := modN bg (n := 5) (by omega)
  have hhd := hd_le q hq5
  refine CV.seq (CV.region ?_)
  refine RV.op (OV.step gno (Step.assign rfl) rfl ?_)
  refine RV.nil (KV.then_n (KV.env [(0, _), (1, _)] ⟨rfl, rfl, trivial⟩ (CV.seq (CV.seq (CV.region ?_)))))
  refine RV.op (OV.step gno (Step.move rfl) rfl ?_)
  refine RV.op (OV.step gno (Step.lenSl Tryd.underlying32 rfl) rfl ?_)
  refine RV.op (OV.split gno (Step.gtr rfl rfl) rfl (fun h4 => ?_) (fun h4 => ?_))
  · -- True
    refine RV.nil (KV.then_n (KV.env [(0, _), (1, _), (14, _)] ⟨rfl, rfl, rfl, trivial⟩ (CV.cond_t rfl (CV.seq (CV.region ?_)))))
    refine RV.op (OV.call [] (F := []) Tryd.func10 B10 N10 rfl rfl (fun w h => awake_fn (EvR.keep h hE (hro 4 rfl))) (fun b hb => roAt4 hE hro b hb) gno rfl (fun v L' hp => ?_))
    obtain ⟨rfl, rfl⟩ := hp
    simp only [List.append_nil]
    refine RV.op (OV.step gno (Step.assign rfl) rfl ?_)
    refine RV.nil (KV.then_n (KV.env [(4, _)] ⟨rfl, trivial⟩ (CV.ret (KV.then_ret ?_))))
    refine KV.sel [] [] rfl ?_
    exact KV.ret1 rfl rfl _ (fun _ h => h) ⟨rfl, rfl⟩
  · -- False
    refine RV.nil (KV.then_n (KV.env [(0, _), (1, _), (14, _)] ⟨rfl, rfl, rfl, trivial⟩ (CV.cond_f rfl (CV.skip (KV.then_n ?_)))))
    refine KV.env [(0, _), (1, _)] ⟨rfl, rfl, trivial⟩ (CV.seq (CV.region ?_))
    refine RV.op (OV.step gno (Step.build (vs := [(0, .string (Sv.bs [])), (1, .string (Sv.bs [100, 114, 105, 118, 101, 114, 32, 100, 10])), (2, .string (Sv.bs [100, 114, 105, 118, 101, 114, 32, 100, 10, 115, 116, 97, 116, 101, 32, 97, 10])), (3, .string (Sv.bs [100, 114, 105, 118, 101, 114, 32, 100, 10, 115, 116, 97, 116, 101, 32, 97, 10, 32, 111, 110, 32, 101, 32, 45, 62, 32, 97, 10, 115, 116, 97, 116, 101, 32, 98, 10])), (4, .string (Sv.bs [100, 114, 105, 118, 101, 114, 32, 100, 10, 115, 116, 97, 116, 101, 32, 97, 10, 32, 111, 110, 32, 101, 32, 105, 102, 32, 49, 32, 38, 32, 50, 32, 61, 32, 51, 32, 45, 62, 32, 97, 58, 32, 119, 114, 105, 116, 101, 32, 49, 32, 50]))]) rfl (Ba33_5 _ _ _ _ _)) rfl ?_)
    refine RV.op (OV.alloc #[.string (Sv.bs []), .string (Sv.bs []), .string (Sv.bs []), .string (Sv.bs []), .string (Sv.bs [])] I33 rfl gno rfl (fun hd => ?_))
    refine RV.op (OV.store 0 [_, _, _, _, _] #[_, _, _, _, _] I33 rfl rfl rfl rfl rfl (Nat.le_of_ble_eq_true rfl) (by simp [Value.oneCell']) rfl gno ?_)
    refine RV.nil (KV.then_n (KV.env [(0, _), (1, _), (5, _)] ⟨rfl, rfl, rfl, trivial⟩ (CV.seq (CV.region ?_))))
    refine RV.op (OV.step gno (Step.move rfl) rfl ?_)
    refine RV.op (OV.callP Tryd.func14 B14 N14 rfl (mod_fn bg 5 (by omega) (by omega)) gno rfl ?_)
    rw [hq]
    refine RV.op (OV.step gno (Step.idxArr Tryd.underlying33 I9 rfl rfl _ rfl (by omega)) rfl ?_)
    refine RV.op (OV.step gno (Step.load Tryd.underlying9 rfl rfl (fun w h => h.cell 0 rfl (strs_get hdL hq5))) rfl ?_)
    refine RV.op (OV.step gno (Step.assign rfl) rfl ?_)
    refine RV.nil (KV.then_n (KV.env [(0, _), (6, _)] ⟨rfl, rfl, trivial⟩ (CV.seq (CV.seq (CV.region ?_)))))
    refine RV.op (OV.step gno (Step.assign rfl) rfl ?_)
    refine RV.nil (KV.then_n (KV.env [(0, _), (6, _), (7, _)] ⟨rfl, rfl, rfl, trivial⟩ (CV.block ?_)))
    refine KV.sel [] [] rfl ?_
    refine CV.loop2 (fun (j : Nat) (s : Bs) => j ≤ l.length ∧ s.length ≤ 100 + 21 * j) (fun (j : Nat) (s : Bs) => l.length - j) (fun (j : Nat) (s : Bs) => [(0, .slice A l.length c), (6, .string (bs s)), (7, .int .i64 j)]) (fun (j : Nat) (s : Bs) => Hp I w []) (0) (hdL.getD q []) ⟨Nat.zero_le _, by omega⟩ ⟨rfl, rfl, rfl, trivial⟩ (fun _ h => h) ?_
    intro j s hinv
    refine CV.seq (CV.seq (CV.region ?_))
    refine RV.op (OV.step gno (Step.move rfl) rfl ?_)
    refine RV.op (OV.step gno (Step.move rfl) rfl ?_)
    refine RV.op (OV.step gno (Step.lenSl Tryd.underlying32 rfl) rfl ?_)
    refine RV.op (OV.split gno (Step.lss rfl rfl) rfl (fun hj => ?_) (fun hj => ?_))
    · -- True
      refine RV.nil (KV.then_n (KV.env [(0, _), (6, _), (7, _), (24, _)] ⟨rfl, rfl, rfl, rfl, trivial⟩ (CV.cond_t rfl (CV.skip (KV.then_n ?_)))))
      refine KV.env [(0, _), (6, _), (7, _)] ⟨rfl, rfl, rfl, trivial⟩ (CV.seq (CV.block (CV.seq (CV.region ?_))))
      refine RV.op (OV.step gno (Step.move rfl) rfl ?_)
      refine RV.op (OV.step gno (Step.move rfl) rfl ?_)
      refine RV.op (OV.step gno (Step.move rfl) rfl ?_)
      refine RV.op (OV.step gno (Step.idx Tryd.underlying32 I3 (fun w h => (h.rs hl fun _ => hI _)) rfl rfl (rfl) _ rfl (by omega)) rfl ?_)
      refine RV.op (OV.step gno (Step.load Tryd.underlying3 rfl rfl (fun w h => (h.rs hl fun _ => hI _).cell0 (by omega) rfl)) rfl ?_)
      refine RV.op (OV.call [] (F := []) Tryd.func15 B15 N15 rfl rfl (fun w h => piece_fn (l.getD j (intK .i64).d)) (fun _ hb => hb.elim) gno rfl (fun v L' hp => ?_))
      obtain ⟨pp, hpp, rfl, rfl⟩ := hp
      simp only [List.append_nil]
      refine RV.op (OV.step gno (Step.addStr rfl rfl (by omega)) rfl ?_)
      refine RV.op (OV.step gno (Step.assign rfl) rfl ?_)
      refine RV.nil (KV.then_n (KV.env [(0, _), (6, _), (7, _)] ⟨rfl, rfl, rfl, trivial⟩ (CV.seq (CV.region ?_))))
      refine RV.op (OV.step gno (Step.move rfl) rfl ?_)
      refine RV.op (OV.step gno (Step.move rfl) rfl ?_)
      refine RV.op (OV.step gno (Step.idx Tryd.underlying32 I3 (fun w h => (h.rs hl fun _ => hI _)) rfl rfl (rfl) _ rfl (by omega)) rfl ?_)
      refine RV.op (OV.step gno (Step.load Tryd.underlying3 rfl rfl (fun w h => (h.rs hl fun _ => hI _).cell0 (by omega) rfl)) rfl ?_)
      refine RV.op (OV.step gno (Step.rem rfl rfl (by omega) (rfl)) rfl ?_)
      refine RV.op (OV.split gno (Step.neq rfl rfl) rfl (fun hm => ?_) (fun hm => ?_))
      · -- True
        refine RV.nil (KV.then_n (KV.env [(0, _), (6, _), (7, _), (39, _)] ⟨rfl, rfl, rfl, rfl, trivial⟩ (CV.cond_t rfl (CV.region ?_))))
        refine RV.op (OV.step gno (Step.move rfl) rfl ?_)
        refine RV.op (OV.step gno (Step.addStr (l2 := [32]) rfl rfl (by simp only [List.length_append, List.length_cons, List.length_nil]; omega)) rfl ?_)
        refine RV.op (OV.step gno (Step.assign rfl) rfl ?_)
        refine RV.nil (KV.block_n (KV.then_n (KV.env [(0, _), (6, _), (7, _)] ⟨rfl, rfl, rfl, trivial⟩ (CV.region ?_))))
        refine RV.op (OV.step gno (Step.move rfl) rfl ?_)
        (first | refine RV.op (OV.step gno (Step.add rfl rfl (wI64 (by omega) (by omega))) rfl ?_) | refine RV.op (OV.step gno (Step.add rfl rfl rfl) rfl ?_))
        refine RV.op (OV.step gno (Step.assign rfl) rfl ?_)
        refine RV.nil (KV.then_n (KV.env [(0, _), (6, _), (7, _)] ⟨rfl, rfl, rfl, trivial⟩ ?_))
        refine KV.sel [] [] rfl ?_
        (first | exact KV.loop2 (x := j) (y := s) (j + 1) (s ++ pp ++ [32]) ⟨by omega, by simp only [List.length_append, List.length_cons, List.length_nil]; omega⟩ (by omega) ⟨rfl, rfl, rfl, trivial⟩ (fun _ h => h) | exact KV.loop2 (x := j) (y := s) (j + 1) (s ++ pp) ⟨by omega, by simp only [List.length_append]; omega⟩ (by omega) ⟨rfl, rfl, rfl, trivial⟩ (fun _ h => h))
      · -- False
        refine RV.nil (KV.then_n (KV.env [(0, _), (6, _), (7, _), (39, _)] ⟨rfl, rfl, rfl, rfl, trivial⟩ (CV.cond_f rfl (CV.skip (KV.block_n ?_)))))
        refine KV.then_n (KV.env [(0, _), (6, _), (7, _)] ⟨rfl, rfl, rfl, trivial⟩ (CV.region ?_))
        refine RV.op (OV.step gno (Step.move rfl) rfl ?_)
        (first | refine RV.op (OV.step gno (Step.add rfl rfl (wI64 (by omega) (by omega))) rfl ?_) | refine RV.op (OV.step gno (Step.add rfl rfl rfl) rfl ?_))
        refine RV.op (OV.step gno (Step.assign rfl) rfl ?_)
        refine RV.nil (KV.then_n (KV.env [(0, _), (6, _), (7, _)] ⟨rfl, rfl, rfl, trivial⟩ ?_))
        refine KV.sel [] [] rfl ?_
        (first | exact KV.loop2 (x := j) (y := s) (j + 1) (s ++ pp ++ [32]) ⟨by omega, by simp only [List.length_append, List.length_cons, List.length_nil]; omega⟩ (by omega) ⟨rfl, rfl, rfl, trivial⟩ (fun _ h => h) | exact KV.loop2 (x := j) (y := s) (j + 1) (s ++ pp) ⟨by omega, by simp only [List.length_append]; omega⟩ (by omega) ⟨rfl, rfl, rfl, trivial⟩ (fun _ h => h))
    · -- False
      refine RV.nil (KV.then_n (KV.env [(0, _), (6, _), (7, _), (24, _)] ⟨rfl, rfl, rfl, rfl, trivial⟩ (CV.cond_f rfl (CV.exit (KV.then_exit ?_)))))
      refine KV.then_exit (KV.block_hit (KV.then_n (KV.env [(6, _)] ⟨rfl, trivial⟩ (CV.seq (CV.region ?_)))))
      refine RV.op (OV.step gno (Step.move rfl) rfl ?_)
      refine RV.op (OV.call [] (F := []) Tryd.func11 B11 N11 rfl rfl (fun w h => parse_fn s (by omega) (EvR.keep h hE (hro 4 rfl))) (fun b hb => roAt4 hE hro b hb) gno rfl (fun v L' hp => ?_))
      obtain ⟨d1, rfl, hd1, rfl⟩ := hp
      unfold dL
      refine RV.op (OV.step gno (Step.move rfl) rfl ?_)
      refine RV.op (OV.step gno (Step.extract0 rfl rfl) rfl ?_)
      refine RV.op (OV.step gno (Step.extract0 rfl rfl) rfl ?_)
      refine RV.op (OV.alloc #[.string (Sv.bs []), .slice none 0 0, .slice none 0 0] I26 rfl gno rfl (fun x => ?_))
      refine RV.op (OV.store 3 [_, _, _] #[_, _, _] I26 rfl rfl rfl rfl rfl (Nat.le_of_ble_eq_true rfl) (by simp [Value.oneCell']) rfl gno ?_)
      refine RV.op (OV.step gno (Step.assign rfl) rfl ?_)
      refine RV.nil (KV.then_n (KV.env [(6, _), (8, _), (9, _)] ⟨rfl, rfl, rfl, trivial⟩ (CV.seq (CV.region ?_))))
      refine RV.op (OV.step gno (Step.move rfl) rfl ?_)
      refine RV.op (OV.call [] (F := [_, _, _, _]) Tryd.func12 B12 N12 rfl rfl (fun w h => rparse_fn s (by omega)) (fun _ hb => hb.elim) gno rfl (fun v L' hp => ?_))
      obtain ⟨d2, rfl, hd2, rfl⟩ := hp
      have hde : d1.d = d2.d := hd1.trans hd2.symm
      have hsm : SmH d1 := smH (by rw [hd1]; exact parse_small s)
      unfold dL
      refine RV.op (OV.step gno (Step.move rfl) rfl ?_)
      refine RV.op (OV.step gno (Step.extract0 rfl rfl) rfl ?_)
      refine RV.op (OV.step gno (Step.extract0 rfl rfl) rfl ?_)
      refine RV.op (OV.alloc #[.string (Sv.bs []), .slice none 0 0, .slice none 0 0] I26 rfl gno rfl (fun y => ?_))
      refine RV.op (OV.store 7 [_, _, _] #[_, _, _] I26 rfl rfl rfl rfl rfl (Nat.le_of_ble_eq_true rfl) (by simp [Value.oneCell']) rfl gno ?_)
      refine RV.op (OV.step gno (Step.assign rfl) rfl ?_)
      refine RV.nil (KV.then_n (KV.env [(8, _), (9, _), (10, _), (11, _)] ⟨rfl, rfl, rfl, rfl, trivial⟩ (CV.seq (CV.region ?_))))
      refine RV.op (OV.step gno (Step.move rfl) rfl ?_)
      refine RV.op (OV.step gno (Step.move rfl) rfl ?_)
      refine RV.op (OV.split gno (Step.eql rfl rfl) rfl (fun n1 => ?_) (fun n1 => ?_))
      · -- True
        refine RV.op (OV.step gno (Step.move rfl) rfl ?_)
        refine RV.op (OV.step (gyes rfl) (Step.loadN _ Tryd.underlying26 rfl I26 rfl rfl (fun w h => h.cells 3 rfl)) rfl ?_)
        refine RV.op (OV.step (gyes rfl) (Step.loadN _ Tryd.underlying26 rfl I26 rfl rfl (fun w h => h.cells 7 rfl)) rfl ?_)
        refine RV.op (OV.call [] (F := [_, _, _, _, _, _, _, _]) Tryd.func13 B13 N13 rfl rfl (fun w h => eqD_fn d1 d2 (DR.ofHp (k1 := 0) (k2 := 1) (k3 := 2) h rfl rfl rfl rfl) (DR.ofHp (k1 := 4) (k2 := 5) (k3 := 6) h rfl rfl rfl rfl) hde hsm) (fun _ hb => hb.elim) (gyes rfl) rfl (fun v L' hp => ?_))
        obtain ⟨rfl, rfl⟩ := hp
        simp only [List.append_nil]
        refine RV.op (OV.step gno (Step.pick_t rfl rfl) rfl ?_)
        refine RV.op (OV.step gno (Step.move rfl) rfl ?_)
        refine RV.op (OV.call [] (F := [_, _, _, _, _, _, _, _]) Tryd.func10 B10 N10 rfl rfl (fun w h => awake_fn (EvR.keep h hE (hro 4 rfl))) (fun b hb => roAt4 hE hro b hb) (gyes rfl) rfl (fun v L' hp => ?_))
        obtain ⟨rfl, rfl⟩ := hp
        simp only [List.append_nil]
        refine RV.op (OV.step gno (Step.pick_t rfl rfl) rfl ?_)
        refine RV.op (OV.step gno (Step.assign rfl) rfl ?_)
        refine RV.nil (KV.then_n (KV.env [(4, _)] ⟨rfl, trivial⟩ (CV.ret ?_)))
        refine KV.sel [] [] rfl ?_
        exact KV.ret1 rfl rfl _ (fun _ h => h) ⟨rfl, rfl⟩
      · -- False
        exact absurd rfl n1
end Go.Proofs.YtplmfekhdaefaaaDoor
