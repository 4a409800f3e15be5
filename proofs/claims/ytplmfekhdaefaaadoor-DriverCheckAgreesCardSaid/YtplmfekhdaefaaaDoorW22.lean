/-
  Walks, part 22.
-/
import Derived.Test.YtplmfekhdaefaaaDoorTab22
import Derived.Test.YtplmfekhdaefaaaDoorW18
import Derived.Test.YtplmfekhdaefaaaDoorDm18
set_option linter.unusedSimpArgs false
set_option linter.unusedVariables false
namespace Go.Proofs.YtplmfekhdaefaaaDoor
open Go.Sv Go.Drv
set_option maxRecDepth 100000 in
set_option maxHeartbeats 8000000 in
theorem reachable_fn (d : DH) {w : World} (hd : DR w d) : Fx Tryd.prog 29 [.agg #[.string (bs d.name), .slice d.sA d.ss.length d.sc, .slice d.tA d.hs.length d.tc]] w [] no (fun v L => (chkM d.d = 0 ∧ ∃ A c, v = .tuple #[.slice A (outR (rchM d.d) d.ss.length).length c, .int .i64 0] ∧ L = [OS 3 (intK .i64) A c (outR (rchM d.d) d.ss.length)]) ∨ (chkM d.d ≠ 0 ∧ v = .tuple #[.slice none 0 0, .int .i64 (chkM d.d)] ∧ L = [])) := by
  refine Sv.Fx.body Tryd.func29 rfl T29 rfl ?_
  intro I hro hI
  refine KV.env [(0, _)] ⟨rfl, trivial⟩ ?_
  refine CV.seq ?_
  -- region 0 driver.go:124
  refine CV.region ?_
  refine RV.op (OV.box (t := 26) #[_, _, _] rfl rfl gno rfl (fun b => ?_))
  refine RV.op (OV.step gno (Step.assign rfl) rfl ?_)
  refine RV.op (OV.step gno (Step.assign rfl) rfl ?_)
  refine RV.nil ?_
  refine KV.then_n ?_
  refine KV.env [(1, _)] ⟨rfl, trivial⟩ ?_
  refine CV.seq ?_
  refine CV.seq ?_
  -- region 1 driver.go:125
  refine CV.region ?_
  refine RV.op (OV.step gno (Step.loadN _ Tryd.underlying26 rfl I26 rfl rfl (fun w h => h.cells 0 rfl)) rfl ?_)
  refine RV.op (OV.call [] (F := [_]) Tryd.func32 B32 N32 rfl rfl (fun w h => check_fn d (DR.keep h hd hI)) (fun _ hb => hb.elim) gno rfl (fun v L' hp => ?_))
  obtain ⟨rfl, rfl⟩ := hp
  simp only [List.append_nil]
  refine RV.op (OV.step gno (Step.assign rfl) rfl ?_)
  refine RV.nil ?_
  refine KV.then_n ?_
  refine KV.env [(1, _), (4, _)] ⟨rfl, rfl, trivial⟩ ?_
  refine CV.seq ?_
  -- region 2 driver.go:125
  refine CV.region ?_
  refine RV.op (OV.step gno (Step.move rfl) rfl ?_)
  refine RV.op (OV.split gno (Step.neq rfl rfl) rfl (fun hck => ?_) (fun hck => ?_))
  · -- True
    refine RV.nil ?_
    refine KV.then_n ?_
    refine KV.env [(1, _), (4, _), (15, _)] ⟨rfl, rfl, rfl, trivial⟩ ?_
    refine CV.cond_t rfl ?_
    refine CV.seq ?_
    -- region 3 driver.go:126
    refine CV.region ?_
    refine RV.op (OV.step gno (Step.move rfl) rfl ?_)
    refine RV.op (OV.step gno (Step.assign rfl) rfl ?_)
    refine RV.op (OV.step gno (Step.assign rfl) rfl ?_)
    refine RV.nil ?_
    refine KV.then_n ?_
    refine KV.env [(2, _), (3, _)] ⟨rfl, rfl, trivial⟩ ?_
    refine CV.ret ?_
    refine KV.then_ret ?_
    -- return at r3
    refine KV.sel [] [] rfl ?_
    exact KV.ret2 rfl rfl rfl _ (fun _ h => h) (.inr ⟨hck, rfl, rfl⟩)
  · -- False
    have hck0 := Decidable.not_not.1 hck
    have hbd := chk_bnd hck0
    have hb1 := hbd.s
    have hb2 := hbd.t
    have hn0 : 0 < d.ss.length := (chk_s hck0).1
    have hrep : (List.replicate d.ss.length false).length = d.ss.length := List.length_replicate
    refine RV.nil ?_
    refine KV.then_n ?_
    refine KV.env [(1, _), (4, _), (15, _)] ⟨rfl, rfl, rfl, trivial⟩ ?_
    refine CV.cond_f rfl ?_
    refine CV.skip ?_
    refine KV.then_n ?_
    refine KV.env [(1, _)] ⟨rfl, trivial⟩ ?_
    refine CV.seq ?_
    -- region 4 driver.go:128
    refine CV.region ?_
    refine RV.op (OV.step gno (Step.fieldAddr rfl (F26_1 _ _)) rfl ?_)
    refine RV.op (OV.step gno (Step.load Tryd.underlying23 rfl rfl (fun w h => h.cell 0 rfl rfl)) rfl ?_)
    refine RV.op (OV.step gno (Step.lenSl Tryd.underlying23 rfl) rfl ?_)
    refine RV.op (OV.make (K := boolK) (d.ss.length) (d.ss.length) (false) Tryd.underlying109 I4 rfl rfl rfl rfl rfl (by omega) (by omega) (by omega) gno rfl (fun rb => ?_))
    refine RV.op (OV.step gno (Step.assign rfl) rfl ?_)
    refine RV.nil ?_
    refine KV.then_n ?_
    refine KV.env [(1, _), (5, _)] ⟨rfl, rfl, trivial⟩ ?_
    refine CV.seq ?_
    -- region 5 driver.go:129
    refine CV.region ?_
    refine RV.op (OV.step gno (Step.move rfl) rfl ?_)
    refine RV.op (OV.step gno (Step.idx Tryd.underlying109 I4 (fun w h => h.os 1 rfl) rfl rfl (by first | rfl | omega) _ (show (0 : Int) = ((0 : Nat) : Int) from rfl) (by omega)) rfl ?_)
    refine RV.op (OV.storeE 1 (0) (true) (j := 0) [_] I4 rfl rfl rfl rfl rfl rfl (by omega) rfl (Nat.le_of_ble_eq_true rfl) gno ?_)
    refine RV.nil ?_
    refine KV.then_n ?_
    refine KV.env [(1, _), (5, _)] ⟨rfl, rfl, trivial⟩ ?_
    refine CV.seq ?_
    refine CV.seq ?_
    -- region 6 driver.go:130
    refine CV.region ?_
    refine RV.op (OV.step gno (Step.assign rfl) rfl ?_)
    refine RV.nil ?_
    refine KV.then_n ?_
    refine KV.env [(1, _), (5, _), (6, _)] ⟨rfl, rfl, rfl, trivial⟩ ?_
    refine CV.block ?_
    -- loop L7; live [1, 5, 6]
    refine KV.sel [0, 0] [_, _] rfl ?_
    refine CV.loop2 (fun (k : Nat) (b_ : Bool) => b_ = false → rndR (d.hs.map (fun x : TH => x.t)) (itR (d.hs.map (fun x : TH => x.t)) (r0 d.ss.length) k) = (itR (d.hs.map (fun x : TH => x.t)) (r0 d.ss.length) k)) (fun (k : Nat) (b_ : Bool) => d.ss.length - cntR (itR (d.hs.map (fun x : TH => x.t)) (r0 d.ss.length) k) + bN b_) (fun (k : Nat) (b_ : Bool) => [(1, .pointer (some ⟨b, 0, none⟩)), (5, .slice rb d.ss.length d.ss.length), (6, .bool b_)]) (fun (k : Nat) (b_ : Bool) => Hp I w [Blk b (.cells #[.string (bs d.name), .slice d.sA d.ss.length d.sc, .slice d.tA d.hs.length d.tc] 26 (0, 0)), OS 4 boolK rb d.ss.length (itR (d.hs.map (fun x : TH => x.t)) (r0 d.ss.length) k)]) (0) (true) (fun h => by cases h) ⟨rfl, rfl, rfl, trivial⟩ (fun _ h => h) ?_
    intro k b_ hinv
    refine CV.seq ?_
    refine CV.seq ?_
    -- region 7 driver.go:130
    refine CV.region ?_
    refine RV.op (OV.step gno (Step.move rfl) rfl ?_)
    refine RV.nil ?_
    refine KV.then_n ?_
    refine KV.env [(1, _), (5, _), (23, _)] ⟨rfl, rfl, rfl, trivial⟩ ?_
    refine KV.cases 23 rfl (fun cc1 => ?_) (fun cc1 => ?_)
    · -- True
      have hbt : b_ = true := cc1
      refine CV.cond_t rfl ?_
      refine CV.skip ?_
      refine KV.then_n ?_
      refine KV.env [(1, _), (5, _)] ⟨rfl, rfl, trivial⟩ ?_
      refine CV.block ?_
      refine CV.seq ?_
      -- region 8 driver.go:131
      refine CV.region ?_
      refine RV.op (OV.step gno (Step.assign rfl) rfl ?_)
      refine RV.nil ?_
      refine KV.then_n ?_
      refine KV.env [(1, _), (5, _), (6, _)] ⟨rfl, rfl, rfl, trivial⟩ ?_
      refine CV.seq ?_
      -- region 9 driver.go:132
      refine CV.region ?_
      refine RV.op (OV.step gno (Step.fieldAddr rfl (F26_2 _ _)) rfl ?_)
      refine RV.op (OV.step gno (Step.load Tryd.underlying24 rfl rfl (fun w h => h.cell 0 rfl rfl)) rfl ?_)
      refine RV.op (OV.step gno (Step.lenSl Tryd.underlying24 rfl) rfl ?_)
      refine RV.op (OV.step gno (Step.move rfl) rfl ?_)
      refine RV.nil ?_
      refine KV.then_n ?_
      refine KV.env [(1, _), (5, _), (6, _), (25, _), (26, _), (27, _)] ⟨rfl, rfl, rfl, rfl, rfl, rfl, trivial⟩ ?_
      refine CV.block ?_
      -- loop L10; live [1, 5, 6, 25, 26, 27]
      refine KV.sel [0, 0] [_, _] rfl ?_
      refine CV.loop2 (fun (i : Nat) (c_ : Bool) => i ≤ d.hs.length ∧ (c_ = false → (rndT d.hs (itR (d.hs.map (fun x : TH => x.t)) (r0 d.ss.length) k) i) = (itR (d.hs.map (fun x : TH => x.t)) (r0 d.ss.length) k)) ∧ (c_ = true → cntR (itR (d.hs.map (fun x : TH => x.t)) (r0 d.ss.length) k) < cntR (rndT d.hs (itR (d.hs.map (fun x : TH => x.t)) (r0 d.ss.length) k) i))) (fun (i : Nat) (c_ : Bool) => d.hs.length - i) (fun (i : Nat) (c_ : Bool) => [(1, .pointer (some ⟨b, 0, none⟩)), (5, .slice rb d.ss.length d.ss.length), (6, .bool c_), (25, .slice d.tA d.hs.length d.tc), (26, .int .i64 d.hs.length), (27, .int .i64 i)]) (fun (i : Nat) (c_ : Bool) => Hp I w [Blk b (.cells #[.string (bs d.name), .slice d.sA d.ss.length d.sc, .slice d.tA d.hs.length d.tc] 26 (0, 0)), OS 4 boolK rb d.ss.length (rndT d.hs (itR (d.hs.map (fun x : TH => x.t)) (r0 d.ss.length) k) i)]) (0) (false) ⟨Nat.zero_le _, fun _ => rfl, fun h => by cases h⟩ ⟨rfl, rfl, rfl, rfl, rfl, rfl, trivial⟩ (fun _ h => h) ?_
      intro i c_ hin
      refine CV.seq ?_
      -- region 10 driver.go:132
      refine CV.region ?_
      refine RV.op (OV.split gno (Step.lss rfl rfl) rfl (fun hi => ?_) (fun hi => ?_))
      · -- True
        refine RV.nil ?_
        refine KV.then_n ?_
        refine KV.env [(1, _), (5, _), (6, _), (25, _), (26, _), (27, _), (28, _)] ⟨rfl, rfl, rfl, rfl, rfl, rfl, rfl, trivial⟩ ?_
        refine CV.seq ?_
        refine CV.cond_t rfl ?_
        refine CV.skip ?_
        refine KV.then_n ?_
        refine KV.env [(1, _), (5, _), (6, _), (25, _), (26, _), (27, _)] ⟨rfl, rfl, rfl, rfl, rfl, rfl, trivial⟩ ?_
        refine CV.seq ?_
        refine CV.block ?_
        refine CV.seq ?_
        -- region 11 driver.go:132
        refine CV.region ?_
        refine RV.op (OV.step gno (Step.idx Tryd.underlying24 I61 (fun w h => (DR.keep h hd hI).t) rfl rfl (by first | rfl | omega) _ rfl (by omega)) rfl ?_)
        refine RV.op (OV.step gno (Step.loadN _ Tryd.underlying61 rfl I61 rfl rfl (fun w h => ((DR.keep h hd hI).t).cells (by omega))) rfl ?_)
        refine RV.op (OV.alloc #[.int .i64 0, .string (Sv.bs []), .bool false, .int .u64 0, .int .u64 0, .int .u64 0, .slice none 0 0, .int .i64 0] I61 rfl gno rfl (fun x => ?_))
        refine RV.op (OV.store 2 [_, _, _, _, _, _, _, _] #[_, _, _, _, _, _, _, _] I61 rfl rfl rfl rfl rfl (Nat.le_of_ble_eq_true rfl) (by simp [Value.oneCell']) rfl gno ?_)
        refine RV.nil ?_
        refine KV.then_n ?_
        refine KV.env [(1, _), (5, _), (6, _), (8, _), (25, _), (26, _), (27, _)] ⟨rfl, rfl, rfl, rfl, rfl, rfl, rfl, trivial⟩ ?_
        refine CV.seq ?_
        -- region 12 driver.go:133
        have hrg := chk_rng hck0 (i := i) (by omega)
        have hrt := rndT_len d.hs (itR (d.hs.map (fun x : TH => x.t)) (r0 d.ss.length) k) i
        rw [itR_len, r0_len] at hrt
        refine CV.region ?_
        refine RV.op (OV.step gno (Step.move rfl) rfl ?_)
        refine RV.op (OV.step gno (Step.fieldAddr rfl (F61_0 _ _)) rfl ?_)
        refine RV.op (OV.step gno (Step.load Tryd.underlying3 rfl rfl (fun w h => h.cell 2 rfl rfl)) rfl ?_)
        refine RV.op (OV.step gno (Step.idx Tryd.underlying109 I4 (fun w h => h.os 1 rfl) rfl rfl (by first | rfl | omega) _ (Int.toNat_of_nonneg hrg.1.1).symm (by omega)) rfl ?_)
        refine RV.op (OV.step gno (Step.load Tryd.underlying4 rfl rfl (fun w h => (h.os 1 rfl).cell0 (by omega) rfl)) rfl ?_)
        refine RV.op (OV.step gno (Step.move rfl) rfl ?_)
        refine KV.cases 36 rfl (fun cc2 => ?_) (fun cc2 => ?_)
        · -- True
          have hf1 := cc2
          refine RV.op (OV.step (gyes rfl) (Step.move rfl) rfl ?_)
          refine RV.op (OV.step (gyes rfl) (Step.fieldAddr rfl (F61_4 _ _)) rfl ?_)
          refine RV.op (OV.step (gyes rfl) (Step.load Tryd.underlying3 rfl rfl (fun w h => h.cell 2 rfl rfl)) rfl ?_)
          refine RV.op (OV.step (gyes rfl) (Step.idx Tryd.underlying109 I4 (fun w h => h.os 1 rfl) rfl rfl (by first | rfl | omega) _ (Int.toNat_of_nonneg hrg.2.1).symm (by omega)) rfl ?_)
          refine RV.op (OV.step (gyes rfl) (Step.load Tryd.underlying4 rfl rfl (fun w h => (h.os 1 rfl).cell0 (by omega) rfl)) rfl ?_)
          refine RV.op (OV.step (gyes rfl) (Step.not rfl) rfl ?_)
          refine RV.op (OV.step gno (Step.pick_t rfl rfl) rfl ?_)
          refine RV.nil ?_
          refine KV.then_n ?_
          refine KV.env [(1, _), (5, _), (6, _), (8, _), (25, _), (26, _), (27, _), (43, _)] ⟨rfl, rfl, rfl, rfl, rfl, rfl, rfl, rfl, trivial⟩ ?_
          refine KV.cases 43 rfl (fun cc3 => ?_) (fun cc3 => ?_)
          · -- True
            have ht0 := neg_t cc3
            refine CV.cond_t rfl ?_
            refine CV.seq ?_
            -- region 13 driver.go:134
            refine CV.region ?_
            refine RV.op (OV.step gno (Step.move rfl) rfl ?_)
            refine RV.op (OV.step gno (Step.fieldAddr rfl (F61_4 _ _)) rfl ?_)
            refine RV.op (OV.step gno (Step.load Tryd.underlying3 rfl rfl (fun w h => h.cell 2 rfl rfl)) rfl ?_)
            refine RV.op (OV.step gno (Step.idx Tryd.underlying109 I4 (fun w h => h.os 1 rfl) rfl rfl (by first | rfl | omega) _ (Int.toNat_of_nonneg hrg.2.1).symm (by omega)) rfl ?_)
            refine RV.op (OV.storeE 1 ((d.hs.getD i thK.d).t.to.toNat) (true) (j := 0) [_] I4 rfl rfl rfl rfl rfl rfl (by omega) rfl (Nat.le_of_ble_eq_true rfl) gno ?_)
            refine RV.nil ?_
            refine KV.then_n ?_
            refine KV.env [(1, _), (5, _), (25, _), (26, _), (27, _)] ⟨rfl, rfl, rfl, rfl, rfl, trivial⟩ ?_
            -- region 14 driver.go:135
            refine CV.region ?_
            refine RV.op (OV.step gno (Step.assign rfl) rfl ?_)
            refine RV.nil ?_
            refine KV.block_n ?_
            refine KV.then_n ?_
            refine KV.env [(1, _), (5, _), (6, _), (25, _), (26, _), (27, _)] ⟨rfl, rfl, rfl, rfl, rfl, rfl, trivial⟩ ?_
            -- region 15 driver.go:132
            refine CV.region ?_
            (first | refine RV.op (OV.step gno (Step.add rfl rfl (wI64 (by omega) (by omega))) rfl ?_) | refine RV.op (OV.step gno (Step.add rfl rfl rfl) rfl ?_))
            refine RV.op (OV.step gno (Step.move rfl) rfl ?_)
            refine RV.nil ?_
            refine KV.then_n ?_
            refine KV.env [(1, _), (5, _), (6, _), (25, _), (26, _), (27, _)] ⟨rfl, rfl, rfl, rfl, rfl, rfl, trivial⟩ ?_
            refine KV.sel [0, 0] [_, _] rfl ?_
            (first | exact KV.loop2 (x := i) (y := c_) (i + 1) (true) ⟨by omega, fun h => (by cases h), fun _ => rndT_cnt (by omega) hf1 ht0 (by omega)⟩ (by omega) ⟨rfl, rfl, rfl, rfl, rfl, rfl, trivial⟩ (fun _ h => by rw [rndT_set (by omega) hf1]; exact h) | exact KV.loop2 (x := i) (y := c_) (i + 1) (c_) ⟨by omega, by rw [rndT_f (by omega) hf0]; exact hin.2⟩ (by omega) ⟨rfl, rfl, rfl, rfl, rfl, rfl, trivial⟩ (fun _ h => by rw [rndT_f (by omega) hf0]; exact h) | exact KV.loop2 (x := i) (y := c_) (i + 1) (c_) ⟨by omega, by rw [rndT_tt (by omega) hf1 ht1]; exact hin.2⟩ (by omega) ⟨rfl, rfl, rfl, rfl, rfl, rfl, trivial⟩ (fun _ h => by rw [rndT_tt (by omega) hf1 ht1]; exact h))
          · -- False
            have ht1 := neg_f cc3
            refine CV.cond_f rfl ?_
            refine CV.skip ?_
            refine KV.block_n ?_
            refine KV.then_n ?_
            refine KV.env [(1, _), (5, _), (6, _), (25, _), (26, _), (27, _)] ⟨rfl, rfl, rfl, rfl, rfl, rfl, trivial⟩ ?_
            -- region 15 driver.go:132
            refine CV.region ?_
            (first | refine RV.op (OV.step gno (Step.add rfl rfl (wI64 (by omega) (by omega))) rfl ?_) | refine RV.op (OV.step gno (Step.add rfl rfl rfl) rfl ?_))
            refine RV.op (OV.step gno (Step.move rfl) rfl ?_)
            refine RV.nil ?_
            refine KV.then_n ?_
            refine KV.env [(1, _), (5, _), (6, _), (25, _), (26, _), (27, _)] ⟨rfl, rfl, rfl, rfl, rfl, rfl, trivial⟩ ?_
            refine KV.sel [0, 0] [_, _] rfl ?_
            (first | exact KV.loop2 (x := i) (y := c_) (i + 1) (true) ⟨by omega, fun h => (by cases h), fun _ => rndT_cnt (by omega) hf1 ht0 (by omega)⟩ (by omega) ⟨rfl, rfl, rfl, rfl, rfl, rfl, trivial⟩ (fun _ h => by rw [rndT_set (by omega) hf1]; exact h) | exact KV.loop2 (x := i) (y := c_) (i + 1) (c_) ⟨by omega, by rw [rndT_f (by omega) hf0]; exact hin.2⟩ (by omega) ⟨rfl, rfl, rfl, rfl, rfl, rfl, trivial⟩ (fun _ h => by rw [rndT_f (by omega) hf0]; exact h) | exact KV.loop2 (x := i) (y := c_) (i + 1) (c_) ⟨by omega, by rw [rndT_tt (by omega) hf1 ht1]; exact hin.2⟩ (by omega) ⟨rfl, rfl, rfl, rfl, rfl, rfl, trivial⟩ (fun _ h => by rw [rndT_tt (by omega) hf1 ht1]; exact h))
        · -- False
          have hf0 := cc2
          refine RV.op (OV.skip rfl rfl ?_)
          refine RV.op (OV.skip rfl rfl ?_)
          refine RV.op (OV.skip rfl rfl ?_)
          refine RV.op (OV.skip rfl rfl ?_)
          refine RV.op (OV.skip rfl rfl ?_)
          refine RV.op (OV.skip rfl rfl ?_)
          refine RV.op (OV.step gno (Step.pick_f rfl rfl) rfl ?_)
          refine RV.nil ?_
          refine KV.then_n ?_
          refine KV.env [(1, _), (5, _), (6, _), (8, _), (25, _), (26, _), (27, _), (43, _)] ⟨rfl, rfl, rfl, rfl, rfl, rfl, rfl, rfl, trivial⟩ ?_
          refine CV.cond_f rfl ?_
          refine CV.skip ?_
          refine KV.block_n ?_
          refine KV.then_n ?_
          refine KV.env [(1, _), (5, _), (6, _), (25, _), (26, _), (27, _)] ⟨rfl, rfl, rfl, rfl, rfl, rfl, trivial⟩ ?_
          -- region 15 driver.go:132
          refine CV.region ?_
          (first | refine RV.op (OV.step gno (Step.add rfl rfl (wI64 (by omega) (by omega))) rfl ?_) | refine RV.op (OV.step gno (Step.add rfl rfl rfl) rfl ?_))
          refine RV.op (OV.step gno (Step.move rfl) rfl ?_)
          refine RV.nil ?_
          refine KV.then_n ?_
          refine KV.env [(1, _), (5, _), (6, _), (25, _), (26, _), (27, _)] ⟨rfl, rfl, rfl, rfl, rfl, rfl, trivial⟩ ?_
          refine KV.sel [0, 0] [_, _] rfl ?_
          (first | exact KV.loop2 (x := i) (y := c_) (i + 1) (true) ⟨by omega, fun h => (by cases h), fun _ => rndT_cnt (by omega) hf1 ht0 (by omega)⟩ (by omega) ⟨rfl, rfl, rfl, rfl, rfl, rfl, trivial⟩ (fun _ h => by rw [rndT_set (by omega) hf1]; exact h) | exact KV.loop2 (x := i) (y := c_) (i + 1) (c_) ⟨by omega, by rw [rndT_f (by omega) hf0]; exact hin.2⟩ (by omega) ⟨rfl, rfl, rfl, rfl, rfl, rfl, trivial⟩ (fun _ h => by rw [rndT_f (by omega) hf0]; exact h) | exact KV.loop2 (x := i) (y := c_) (i + 1) (c_) ⟨by omega, by rw [rndT_tt (by omega) hf1 ht1]; exact hin.2⟩ (by omega) ⟨rfl, rfl, rfl, rfl, rfl, rfl, trivial⟩ (fun _ h => by rw [rndT_tt (by omega) hf1 ht1]; exact h))
      · -- False
        refine RV.nil ?_
        refine KV.then_n ?_
        refine KV.env [(1, _), (5, _), (6, _), (25, _), (26, _), (27, _), (28, _)] ⟨rfl, rfl, rfl, rfl, rfl, rfl, rfl, trivial⟩ ?_
        refine CV.seq ?_
        refine CV.cond_f rfl ?_
        refine CV.exit ?_
        refine KV.then_exit ?_
        refine KV.then_exit ?_
        refine KV.block_hit ?_
        refine KV.block_n ?_
        refine KV.then_n ?_
        refine KV.env [(1, _), (5, _), (6, _)] ⟨rfl, rfl, rfl, trivial⟩ ?_
        refine KV.sel [0, 0] [_, _] rfl ?_
        obtain rfl : i = d.hs.length := by omega
        exact KV.loop2 (x := k) (y := b_) (k + 1) (c_) (rch_inv hin.2.1) (rch_lt hbt hin.2 (by rw [itR_len, r0_len])) ⟨rfl, rfl, rfl, trivial⟩ (fun _ h => by rw [rndT_all] at h; exact h)
    · -- False
      have hbf : b_ = false := cc1
      refine CV.cond_f rfl ?_
      refine CV.exit ?_
      refine KV.then_exit ?_
      refine KV.then_exit ?_
      refine KV.block_hit ?_
      refine KV.then_n ?_
      refine KV.env [(5, _)] ⟨rfl, trivial⟩ ?_
      refine CV.seq ?_
      -- region 16 driver.go:139
      have hfin : itR (d.hs.map (fun x : TH => x.t)) (r0 d.ss.length) k = rchM d.d := rch_of (d := d.d) hn0 (hinv hbf)
      rw [hfin]
      have hrl := rch_len d.d
      have hdd : d.d.ss.length = d.ss.length := rfl
      refine KV.heap (fun w h => h.nilOS (e := 3) (K := intK .i64)) ?_
      refine CV.region ?_
      refine RV.op (OV.step gno (Step.assign rfl) rfl ?_)
      refine RV.nil ?_
      refine KV.then_n ?_
      refine KV.env [(5, _), (9, _)] ⟨rfl, rfl, trivial⟩ ?_
      refine CV.seq ?_
      refine CV.seq ?_
      -- region 17 driver.go:140
      refine CV.region ?_
      refine RV.op (OV.step gno (Step.move rfl) rfl ?_)
      refine RV.op (OV.step gno (Step.lenSl Tryd.underlying109 rfl) rfl ?_)
      refine RV.op (OV.step gno (Step.move rfl) rfl ?_)
      refine RV.nil ?_
      refine KV.then_n ?_
      refine KV.env [(9, _), (49, _), (50, _), (51, _)] ⟨rfl, rfl, rfl, rfl, trivial⟩ ?_
      refine CV.block ?_
      -- loop L18; live [9, 49, 50, 51]
      refine KV.sel [0, 0, 0] [_, _, _] rfl ?_
      refine CV.loop3 (fun (m : Nat) (A1 : Option Addr) (c1 : Nat) => m ≤ d.ss.length) (fun (m : Nat) (A1 : Option Addr) (c1 : Nat) => d.ss.length - m) (fun (m : Nat) (A1 : Option Addr) (c1 : Nat) => [(9, .slice A1 (outR (rchM d.d) m).length c1), (49, .slice rb d.ss.length d.ss.length), (50, .int .i64 d.ss.length), (51, .int .i64 m)]) (fun (m : Nat) (A1 : Option Addr) (c1 : Nat) => Hp I w [Blk b (.cells #[.string (bs d.name), .slice d.sA d.ss.length d.sc, .slice d.tA d.hs.length d.tc] 26 (0, 0)), OS 4 boolK rb d.ss.length (rchM d.d), OS 3 (intK .i64) A1 c1 (outR (rchM d.d) m)]) (0) (none) (0) (Nat.zero_le _) ⟨rfl, rfl, rfl, rfl, trivial⟩ (fun _ h => h) ?_
      intro m A1 c1 hml
      refine CV.seq ?_
      -- region 18 driver.go:140
      refine CV.region ?_
      refine RV.op (OV.split gno (Step.lss rfl rfl) rfl (fun hm => ?_) (fun hm => ?_))
      · -- True
        refine RV.nil ?_
        refine KV.then_n ?_
        refine KV.env [(9, _), (49, _), (50, _), (51, _), (52, _)] ⟨rfl, rfl, rfl, rfl, rfl, trivial⟩ ?_
        refine CV.seq ?_
        refine CV.cond_t rfl ?_
        refine CV.skip ?_
        refine KV.then_n ?_
        refine KV.env [(9, _), (49, _), (50, _), (51, _)] ⟨rfl, rfl, rfl, rfl, trivial⟩ ?_
        refine CV.seq ?_
        refine CV.block ?_
        refine CV.seq ?_
        -- region 19 driver.go:140
        refine CV.region ?_
        refine RV.op (OV.step gno (Step.move rfl) rfl ?_)
        refine RV.op (OV.step gno (Step.idx Tryd.underlying109 I4 (fun w h => h.os 1 rfl) rfl rfl (by first | rfl | omega) _ rfl (by omega)) rfl ?_)
        refine RV.op (OV.step gno (Step.load Tryd.underlying4 rfl rfl (fun w h => (h.os 1 rfl).cell0 (by omega) rfl)) rfl ?_)
        refine RV.op (OV.step gno (Step.assign rfl) rfl ?_)
        refine RV.op (OV.step gno (Step.assign rfl) rfl ?_)
        refine RV.nil ?_
        refine KV.then_n ?_
        refine KV.env [(9, _), (10, _), (11, _), (49, _), (50, _), (51, _)] ⟨rfl, rfl, rfl, rfl, rfl, rfl, trivial⟩ ?_
        refine CV.seq ?_
        -- region 20 driver.go:141
        refine CV.region ?_
        refine RV.op (OV.step gno (Step.move rfl) rfl ?_)
        refine RV.nil ?_
        refine KV.then_n ?_
        refine KV.env [(9, _), (10, _), (49, _), (50, _), (51, _), (56, _)] ⟨rfl, rfl, rfl, rfl, rfl, rfl, trivial⟩ ?_
        refine KV.cases 56 rfl (fun cc4 => ?_) (fun cc4 => ?_)
        · -- True
          have hm1 := cc4
          refine CV.cond_t rfl ?_
          -- region 21 driver.go:142
          refine CV.region ?_
          refine RV.op (OV.step gno (Step.move rfl) rfl ?_)
          refine RV.op (OV.step gno (Step.move rfl) rfl ?_)
          refine RV.op (OV.buildSlice (K := (intK .i64)) ([(m : Int)]) rfl (Bs32_1_0 _) rfl rfl (by omega) gno rfl (fun z => ?_))
          refine RV.op (OV.append 2 Tryd.underlying32 I3 rfl rfl rfl rfl rfl rfl (fun w h => h.os 3 rfl) (by have := outR_len (rchM d.d) m; simp only [List.length_cons, List.length_nil]; omega) (by have := outR_len (rchM d.d) m; simp only [List.length_cons, List.length_nil]; omega) gno rfl (fun A2 c2 => ?_))
          refine RV.op (OV.step gno (Step.assign rfl) rfl ?_)
          refine RV.nil ?_
          refine KV.block_n ?_
          refine KV.then_n ?_
          refine KV.env [(9, _), (49, _), (50, _), (51, _)] ⟨rfl, rfl, rfl, rfl, trivial⟩ ?_
          -- region 22 driver.go:140
          refine CV.region ?_
          (first | refine RV.op (OV.step gno (Step.add rfl rfl (wI64 (by omega) (by omega))) rfl ?_) | refine RV.op (OV.step gno (Step.add rfl rfl rfl) rfl ?_))
          refine RV.op (OV.step gno (Step.move rfl) rfl ?_)
          refine RV.nil ?_
          refine KV.then_n ?_
          refine KV.env [(9, _), (49, _), (50, _), (51, _)] ⟨rfl, rfl, rfl, rfl, trivial⟩ ?_
          refine KV.sel [0, 0, 0] [_, _, _] rfl ?_
          (first | exact KV.loop3 (x := m) (y := A1) (z := c1) (m + 1) (A2) (c2) (by omega) (by omega) ⟨(by rw [outR_t hm1]; rfl), rfl, rfl, rfl, trivial⟩ (fun _ h => by rw [outR_t hm1]; exact h) | exact KV.loop3 (x := m) (y := A1) (z := c1) (m + 1) (A1) (c1) (by omega) (by omega) ⟨(by rw [outR_f hm0]; rfl), rfl, rfl, rfl, trivial⟩ (fun _ h => by rw [outR_f hm0]; exact h))
        · -- False
          have hm0 := cc4
          refine CV.cond_f rfl ?_
          refine CV.skip ?_
          refine KV.block_n ?_
          refine KV.then_n ?_
          refine KV.env [(9, _), (49, _), (50, _), (51, _)] ⟨rfl, rfl, rfl, rfl, trivial⟩ ?_
          -- region 22 driver.go:140
          refine CV.region ?_
          (first | refine RV.op (OV.step gno (Step.add rfl rfl (wI64 (by omega) (by omega))) rfl ?_) | refine RV.op (OV.step gno (Step.add rfl rfl rfl) rfl ?_))
          refine RV.op (OV.step gno (Step.move rfl) rfl ?_)
          refine RV.nil ?_
          refine KV.then_n ?_
          refine KV.env [(9, _), (49, _), (50, _), (51, _)] ⟨rfl, rfl, rfl, rfl, trivial⟩ ?_
          refine KV.sel [0, 0, 0] [_, _, _] rfl ?_
          (first | exact KV.loop3 (x := m) (y := A1) (z := c1) (m + 1) (A2) (c2) (by omega) (by omega) ⟨(by rw [outR_t hm1]; rfl), rfl, rfl, rfl, trivial⟩ (fun _ h => by rw [outR_t hm1]; exact h) | exact KV.loop3 (x := m) (y := A1) (z := c1) (m + 1) (A1) (c1) (by omega) (by omega) ⟨(by rw [outR_f hm0]; rfl), rfl, rfl, rfl, trivial⟩ (fun _ h => by rw [outR_f hm0]; exact h))
      · -- False
        refine RV.nil ?_
        refine KV.then_n ?_
        refine KV.env [(9, _), (49, _), (50, _), (51, _), (52, _)] ⟨rfl, rfl, rfl, rfl, rfl, trivial⟩ ?_
        refine CV.seq ?_
        refine CV.cond_f rfl ?_
        refine CV.exit ?_
        refine KV.then_exit ?_
        refine KV.then_exit ?_
        refine KV.block_hit ?_
        refine KV.then_n ?_
        refine KV.env [(9, _)] ⟨rfl, trivial⟩ ?_
        refine CV.seq ?_
        -- region 23 driver.go:145
        refine CV.region ?_
        refine RV.op (OV.step gno (Step.move rfl) rfl ?_)
        refine RV.op (OV.step gno (Step.assign rfl) rfl ?_)
        refine RV.op (OV.step gno (Step.assign rfl) rfl ?_)
        refine RV.nil ?_
        refine KV.then_n ?_
        refine KV.env [(2, _), (3, _)] ⟨rfl, rfl, trivial⟩ ?_
        refine CV.ret ?_
        -- return at r23
        refine KV.sel [2] [_] rfl ?_
        obtain rfl : m = d.ss.length := by omega
        exact KV.ret2 rfl rfl rfl _ (fun _ h => h) (.inl ⟨hck0, A1, c1, rfl, rfl⟩)
end Go.Proofs.YtplmfekhdaefaaaDoor
