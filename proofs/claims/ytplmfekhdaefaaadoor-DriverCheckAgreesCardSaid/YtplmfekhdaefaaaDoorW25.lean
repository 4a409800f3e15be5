/-
  Walks, part 25.
-/
import Derived.Test.YtplmfekhdaefaaaDoorTab25
import Derived.Test.YtplmfekhdaefaaaDoorW22
import Derived.Test.YtplmfekhdaefaaaDoorDm21
set_option linter.unusedSimpArgs false
set_option linter.unusedVariables false
namespace Go.Proofs.YtplmfekhdaefaaaDoor
open Go.Sv Go.Drv
set_option maxRecDepth 100000 in
set_option maxHeartbeats 8000000 in
theorem rreachable_fn (d : DH) {w : World} (hd : DR w d) : Fx Tryd.prog 30 [.agg #[.string (bs d.name), .slice d.sA d.ss.length d.sc, .slice d.tA d.hs.length d.tc]] w [] no (fun v L => (chkM d.d = 0 ∧ ∃ A c, v = .tuple #[.slice A (outR (rchM d.d) d.ss.length).length c, .int .i64 0] ∧ L = [OS 3 (intK .i64) A c (outR (rchM d.d) d.ss.length)]) ∨ (chkM d.d ≠ 0 ∧ v = .tuple #[.slice none 0 0, .int .i64 (chkM d.d)] ∧ L = [])) := by
  refine Sv.Fx.body Tryd.func30 rfl T30 rfl ?_
  intro I hro hI
  refine KV.env [(0, _)] ⟨rfl, trivial⟩ ?_
  refine CV.seq ?_
  -- region 0 ref.go:120
  refine CV.region ?_
  refine RV.op (OV.box (t := 26) #[_, _, _] rfl rfl gno rfl (fun b => ?_))
  refine RV.op (OV.step gno (Step.assign rfl) rfl ?_)
  refine RV.op (OV.step gno (Step.assign rfl) rfl ?_)
  refine RV.nil ?_
  refine KV.then_n ?_
  refine KV.env [(1, _)] ⟨rfl, trivial⟩ ?_
  refine CV.seq ?_
  refine CV.seq ?_
  -- region 1 ref.go:121
  refine CV.region ?_
  refine RV.op (OV.step gno (Step.loadN _ Tryd.underlying26 rfl I26 rfl rfl (fun w h => h.cells 0 rfl)) rfl ?_)
  refine RV.op (OV.call [] (F := [_]) Tryd.func31 B31 N31 rfl rfl (fun w h => rcheck_fn d (DR.keep h hd hI)) (fun _ hb => hb.elim) gno rfl (fun v L' hp => ?_))
  obtain ⟨rfl, rfl⟩ := hp
  simp only [List.append_nil]
  refine RV.op (OV.step gno (Step.assign rfl) rfl ?_)
  refine RV.nil ?_
  refine KV.then_n ?_
  refine KV.env [(1, _), (4, _)] ⟨rfl, rfl, trivial⟩ ?_
  refine CV.seq ?_
  -- region 2 ref.go:121
  refine CV.region ?_
  refine RV.op (OV.step gno (Step.move rfl) rfl ?_)
  refine RV.op (OV.split gno (Step.neq rfl rfl) rfl (fun hck => ?_) (fun hck => ?_))
  · -- True
    refine RV.nil ?_
    refine KV.then_n ?_
    refine KV.env [(1, _), (4, _), (13, _)] ⟨rfl, rfl, rfl, trivial⟩ ?_
    refine CV.cond_t rfl ?_
    refine CV.seq ?_
    -- region 3 ref.go:122
    refine CV.region ?_
    refine RV.op (OV.step gno (Step.move rfl) rfl ?_)
    refine RV.op (OV.step gno (Step.assign rfl) rfl ?_)
    refine RV.op (OV.step gno (Step.assign rfl) rfl ?_)
    refine RV.nil ?_
    refine KV.then_n ?_
    refine KV.env [(2, _), (3, _)] ⟨rfl, rfl, trivial⟩ ?_
    refine CV.ret ?_
    refine KV.then_ret ?_
    -- return at r3
    refine KV.sel [] [] rfl ?_
    exact KV.ret2 rfl rfl rfl _ (fun _ h => h) (.inr ⟨hck, rfl, rfl⟩)
  · -- False
    have hck0 := Decidable.not_not.1 hck
    have hbd := chk_bnd hck0
    have hb1 := hbd.s
    have hb2 := hbd.t
    have hn0 : 0 < d.ss.length := (chk_s hck0).1
    have hrep : (List.replicate d.ss.length false).length = d.ss.length := List.length_replicate
    refine RV.nil ?_
    refine KV.then_n ?_
    refine KV.env [(1, _), (4, _), (13, _)] ⟨rfl, rfl, rfl, trivial⟩ ?_
    refine CV.cond_f rfl ?_
    refine CV.skip ?_
    refine KV.then_n ?_
    refine KV.env [(1, _)] ⟨rfl, trivial⟩ ?_
    refine CV.seq ?_
    -- region 4 ref.go:124
    refine CV.region ?_
    refine RV.op (OV.step gno (Step.fieldAddr rfl (F26_1 _ _)) rfl ?_)
    refine RV.op (OV.step gno (Step.load Tryd.underlying23 rfl rfl (fun w h => h.cell 0 rfl rfl)) rfl ?_)
    refine RV.op (OV.step gno (Step.lenSl Tryd.underlying23 rfl) rfl ?_)
    refine RV.op (OV.make (K := boolK) (d.ss.length) (d.ss.length) (false) Tryd.underlying109 I4 rfl rfl rfl rfl rfl (by omega) (by omega) (by omega) gno rfl (fun rb => ?_))
    refine RV.op (OV.step gno (Step.assign rfl) rfl ?_)
    refine RV.nil ?_
    refine KV.then_n ?_
    refine KV.env [(1, _), (5, _)] ⟨rfl, rfl, trivial⟩ ?_
    refine CV.seq ?_
    -- region 5 ref.go:125
    refine CV.region ?_
    refine RV.op (OV.step gno (Step.move rfl) rfl ?_)
    refine RV.op (OV.step gno (Step.idx Tryd.underlying109 I4 (fun w h => h.os 1 rfl) rfl rfl (by first | rfl | omega) _ (show (0 : Int) = ((0 : Nat) : Int) from rfl) (by omega)) rfl ?_)
    refine RV.op (OV.storeE 1 (0) (true) (j := 0) [_] I4 rfl rfl rfl rfl rfl rfl (by omega) rfl (Nat.le_of_ble_eq_true rfl) gno ?_)
    refine RV.nil ?_
    refine KV.then_n ?_
    refine KV.env [(1, _), (5, _)] ⟨rfl, rfl, trivial⟩ ?_
    refine CV.seq ?_
    refine CV.seq ?_
    -- region 6 ref.go:126
    refine CV.region ?_
    refine RV.op (OV.step gno (Step.assign rfl) rfl ?_)
    refine RV.nil ?_
    refine KV.then_n ?_
    refine KV.env [(1, _), (5, _), (6, _)] ⟨rfl, rfl, rfl, trivial⟩ ?_
    refine CV.block ?_
    -- loop L7; live [1, 5, 6]
    refine KV.sel [0, 0] [_, _] rfl ?_
    refine CV.loopI (fun (k : Nat) => k ≤ d.ss.length) (fun (k : Nat) => d.ss.length - k) (fun (k : Nat) => [(1, .pointer (some ⟨b, 0, none⟩)), (5, .slice rb d.ss.length d.ss.length), (6, .int .i64 k)]) (fun (k : Nat) => Hp I w [Blk b (.cells #[.string (bs d.name), .slice d.sA d.ss.length d.sc, .slice d.tA d.hs.length d.tc] 26 (0, 0)), OS 4 boolK rb d.ss.length (itR (d.hs.map (fun x : TH => x.t)) (r0 d.ss.length) k)]) (0) (Nat.zero_le _) ⟨rfl, rfl, rfl, trivial⟩ (fun _ h => h) ?_
    intro k hkl
    refine CV.seq ?_
    refine CV.seq ?_
    -- region 7 ref.go:126
    refine CV.region ?_
    refine RV.op (OV.step gno (Step.move rfl) rfl ?_)
    refine RV.op (OV.step gno (Step.fieldAddr rfl (F26_1 _ _)) rfl ?_)
    refine RV.op (OV.step gno (Step.load Tryd.underlying23 rfl rfl (fun w h => h.cell 0 rfl rfl)) rfl ?_)
    refine RV.op (OV.step gno (Step.lenSl Tryd.underlying23 rfl) rfl ?_)
    refine RV.op (OV.split gno (Step.lss rfl rfl) rfl (fun hk => ?_) (fun hk => ?_))
    · -- True
      refine RV.nil ?_
      refine KV.then_n ?_
      refine KV.env [(1, _), (5, _), (6, _), (25, _)] ⟨rfl, rfl, rfl, rfl, trivial⟩ ?_
      refine CV.cond_t rfl ?_
      refine CV.skip ?_
      refine KV.then_n ?_
      refine KV.env [(1, _), (5, _), (6, _)] ⟨rfl, rfl, rfl, trivial⟩ ?_
      refine CV.seq ?_
      refine CV.block ?_
      refine CV.seq ?_
      -- region 9 ref.go:127
      refine CV.region ?_
      refine RV.op (OV.step gno (Step.assign rfl) rfl ?_)
      refine RV.nil ?_
      refine KV.then_n ?_
      refine KV.env [(1, _), (5, _), (6, _), (7, _)] ⟨rfl, rfl, rfl, rfl, trivial⟩ ?_
      refine CV.block ?_
      -- loop L10; live [1, 5, 6, 7]
      refine KV.sel [0, 0] [_, _] rfl ?_
      refine CV.loopI (fun (i : Nat) => i ≤ d.hs.length) (fun (i : Nat) => d.hs.length - i) (fun (i : Nat) => [(1, .pointer (some ⟨b, 0, none⟩)), (5, .slice rb d.ss.length d.ss.length), (6, .int .i64 k), (7, .int .i64 i)]) (fun (i : Nat) => Hp I w [Blk b (.cells #[.string (bs d.name), .slice d.sA d.ss.length d.sc, .slice d.tA d.hs.length d.tc] 26 (0, 0)), OS 4 boolK rb d.ss.length (rndT d.hs (itR (d.hs.map (fun x : TH => x.t)) (r0 d.ss.length) k) i)]) (0) (Nat.zero_le _) ⟨rfl, rfl, rfl, rfl, trivial⟩ (fun _ h => h) ?_
      intro i hin
      refine CV.seq ?_
      refine CV.seq ?_
      -- region 10 ref.go:127
      refine CV.region ?_
      refine RV.op (OV.step gno (Step.move rfl) rfl ?_)
      refine RV.op (OV.step gno (Step.fieldAddr rfl (F26_2 _ _)) rfl ?_)
      refine RV.op (OV.step gno (Step.load Tryd.underlying24 rfl rfl (fun w h => h.cell 0 rfl rfl)) rfl ?_)
      refine RV.op (OV.step gno (Step.lenSl Tryd.underlying24 rfl) rfl ?_)
      refine RV.op (OV.split gno (Step.lss rfl rfl) rfl (fun hi => ?_) (fun hi => ?_))
      · -- True
        refine RV.nil ?_
        refine KV.then_n ?_
        refine KV.env [(1, _), (5, _), (6, _), (7, _), (32, _)] ⟨rfl, rfl, rfl, rfl, rfl, trivial⟩ ?_
        refine CV.cond_t rfl ?_
        refine CV.skip ?_
        refine KV.then_n ?_
        refine KV.env [(1, _), (5, _), (6, _), (7, _)] ⟨rfl, rfl, rfl, rfl, trivial⟩ ?_
        refine CV.seq ?_
        refine CV.block ?_
        refine CV.seq ?_
        -- region 12 ref.go:128
        have hrg := chk_rng hck0 (i := i) (by omega)
        have hrt := rndT_len d.hs (itR (d.hs.map (fun x : TH => x.t)) (r0 d.ss.length) k) i
        rw [itR_len, r0_len] at hrt
        refine CV.region ?_
        refine RV.op (OV.step gno (Step.move rfl) rfl ?_)
        refine RV.op (OV.step gno (Step.fieldAddr rfl (F26_2 _ _)) rfl ?_)
        refine RV.op (OV.step gno (Step.load Tryd.underlying24 rfl rfl (fun w h => h.cell 0 rfl rfl)) rfl ?_)
        refine RV.op (OV.step gno (Step.move rfl) rfl ?_)
        refine RV.op (OV.step gno (Step.idx Tryd.underlying24 I61 (fun w h => (DR.keep h hd hI).t) rfl rfl (by first | rfl | omega) _ rfl (by omega)) rfl ?_)
        refine RV.op (OV.step gno (Step.fieldAddr rfl (F61_0 _ _)) rfl ?_)
        refine RV.op (OV.step gno (Step.load Tryd.underlying3 rfl rfl (fun w h => ((DR.keep h hd hI).t).cell0 (by omega) rfl)) rfl ?_)
        refine RV.op (OV.step gno (Step.idx Tryd.underlying109 I4 (fun w h => h.os 1 rfl) rfl rfl (by first | rfl | omega) _ (Int.toNat_of_nonneg hrg.1.1).symm (by omega)) rfl ?_)
        refine RV.op (OV.step gno (Step.load Tryd.underlying4 rfl rfl (fun w h => (h.os 1 rfl).cell0 (by omega) rfl)) rfl ?_)
        refine RV.nil ?_
        refine KV.then_n ?_
        refine KV.env [(1, _), (5, _), (6, _), (7, _), (43, _)] ⟨rfl, rfl, rfl, rfl, rfl, trivial⟩ ?_
        refine KV.cases 43 rfl (fun cc1 => ?_) (fun cc1 => ?_)
        · -- True
          have hf1 := cc1
          refine CV.cond_t rfl ?_
          -- region 13 ref.go:129
          refine CV.region ?_
          refine RV.op (OV.step gno (Step.move rfl) rfl ?_)
          refine RV.op (OV.step gno (Step.fieldAddr rfl (F26_2 _ _)) rfl ?_)
          refine RV.op (OV.step gno (Step.load Tryd.underlying24 rfl rfl (fun w h => h.cell 0 rfl rfl)) rfl ?_)
          refine RV.op (OV.step gno (Step.move rfl) rfl ?_)
          refine RV.op (OV.step gno (Step.idx Tryd.underlying24 I61 (fun w h => (DR.keep h hd hI).t) rfl rfl (by first | rfl | omega) _ rfl (by omega)) rfl ?_)
          refine RV.op (OV.step gno (Step.fieldAddr rfl (F61_4 _ _)) rfl ?_)
          refine RV.op (OV.step gno (Step.load Tryd.underlying3 rfl rfl (fun w h => ((DR.keep h hd hI).t).cell (by omega) rfl)) rfl ?_)
          refine RV.op (OV.step gno (Step.idx Tryd.underlying109 I4 (fun w h => h.os 1 rfl) rfl rfl (by first | rfl | omega) _ (Int.toNat_of_nonneg hrg.2.1).symm (by omega)) rfl ?_)
          refine RV.op (OV.storeE 1 ((d.hs.getD i thK.d).t.to.toNat) (true) (j := 0) [_] I4 rfl rfl rfl rfl rfl rfl (by omega) rfl (Nat.le_of_ble_eq_true rfl) gno ?_)
          refine RV.nil ?_
          refine KV.block_n ?_
          refine KV.then_n ?_
          refine KV.env [(1, _), (5, _), (6, _), (7, _)] ⟨rfl, rfl, rfl, rfl, trivial⟩ ?_
          -- region 11 ref.go:127
          refine CV.region ?_
          refine RV.op (OV.step gno (Step.move rfl) rfl ?_)
          (first | refine RV.op (OV.step gno (Step.add rfl rfl (wI64 (by omega) (by omega))) rfl ?_) | refine RV.op (OV.step gno (Step.add rfl rfl rfl) rfl ?_))
          refine RV.op (OV.step gno (Step.assign rfl) rfl ?_)
          refine RV.nil ?_
          refine KV.then_n ?_
          refine KV.env [(1, _), (5, _), (6, _), (7, _)] ⟨rfl, rfl, rfl, rfl, trivial⟩ ?_
          refine KV.sel [0, 0] [_, _] rfl ?_
          (first | exact KV.loopI (z := i) (i + 1) (by omega) (by omega) ⟨rfl, rfl, rfl, rfl, trivial⟩ (fun _ h => by rw [rndT_set (by omega) hf1]; exact h) | exact KV.loopI (z := i) (i + 1) (by omega) (by omega) ⟨rfl, rfl, rfl, rfl, trivial⟩ (fun _ h => by rw [rndT_f (by omega) hf0]; exact h))
        · -- False
          have hf0 := cc1
          refine CV.cond_f rfl ?_
          refine CV.skip ?_
          refine KV.block_n ?_
          refine KV.then_n ?_
          refine KV.env [(1, _), (5, _), (6, _), (7, _)] ⟨rfl, rfl, rfl, rfl, trivial⟩ ?_
          -- region 11 ref.go:127
          refine CV.region ?_
          refine RV.op (OV.step gno (Step.move rfl) rfl ?_)
          (first | refine RV.op (OV.step gno (Step.add rfl rfl (wI64 (by omega) (by omega))) rfl ?_) | refine RV.op (OV.step gno (Step.add rfl rfl rfl) rfl ?_))
          refine RV.op (OV.step gno (Step.assign rfl) rfl ?_)
          refine RV.nil ?_
          refine KV.then_n ?_
          refine KV.env [(1, _), (5, _), (6, _), (7, _)] ⟨rfl, rfl, rfl, rfl, trivial⟩ ?_
          refine KV.sel [0, 0] [_, _] rfl ?_
          (first | exact KV.loopI (z := i) (i + 1) (by omega) (by omega) ⟨rfl, rfl, rfl, rfl, trivial⟩ (fun _ h => by rw [rndT_set (by omega) hf1]; exact h) | exact KV.loopI (z := i) (i + 1) (by omega) (by omega) ⟨rfl, rfl, rfl, rfl, trivial⟩ (fun _ h => by rw [rndT_f (by omega) hf0]; exact h))
      · -- False
        refine RV.nil ?_
        refine KV.then_n ?_
        refine KV.env [(1, _), (5, _), (6, _), (7, _), (32, _)] ⟨rfl, rfl, rfl, rfl, rfl, trivial⟩ ?_
        refine CV.cond_f rfl ?_
        refine CV.exit ?_
        refine KV.then_exit ?_
        refine KV.then_exit ?_
        refine KV.block_hit ?_
        refine KV.block_n ?_
        refine KV.then_n ?_
        refine KV.env [(1, _), (5, _), (6, _)] ⟨rfl, rfl, rfl, trivial⟩ ?_
        -- region 8 ref.go:126
        refine CV.region ?_
        refine RV.op (OV.step gno (Step.move rfl) rfl ?_)
        (first | refine RV.op (OV.step gno (Step.add rfl rfl (wI64 (by omega) (by omega))) rfl ?_) | refine RV.op (OV.step gno (Step.add rfl rfl rfl) rfl ?_))
        refine RV.op (OV.step gno (Step.assign rfl) rfl ?_)
        refine RV.nil ?_
        refine KV.then_n ?_
        refine KV.env [(1, _), (5, _), (6, _)] ⟨rfl, rfl, rfl, trivial⟩ ?_
        refine KV.sel [0, 0] [_, _] rfl ?_
        obtain rfl : i = d.hs.length := by omega
        exact KV.loopI (z := k) (k + 1) (by omega) (by omega) ⟨rfl, rfl, rfl, trivial⟩ (fun _ h => by rw [rndT_all] at h; exact h)
    · -- False
      refine RV.nil ?_
      refine KV.then_n ?_
      refine KV.env [(1, _), (5, _), (6, _), (25, _)] ⟨rfl, rfl, rfl, rfl, trivial⟩ ?_
      refine CV.cond_f rfl ?_
      refine CV.exit ?_
      refine KV.then_exit ?_
      refine KV.then_exit ?_
      refine KV.block_hit ?_
      refine KV.then_n ?_
      refine KV.env [(5, _)] ⟨rfl, trivial⟩ ?_
      refine CV.seq ?_
      -- region 14 ref.go:133
      obtain rfl : k = d.ss.length := by omega
      have hfin : itR (d.hs.map (fun x : TH => x.t)) (r0 d.ss.length) d.ss.length = rchM d.d := rfl
      rw [hfin]
      have hrl := rch_len d.d
      have hdd : d.d.ss.length = d.ss.length := rfl
      refine KV.heap (fun w h => h.nilOS (e := 3) (K := intK .i64)) ?_
      refine CV.region ?_
      refine RV.op (OV.step gno (Step.assign rfl) rfl ?_)
      refine RV.nil ?_
      refine KV.then_n ?_
      refine KV.env [(5, _), (8, _)] ⟨rfl, rfl, trivial⟩ ?_
      refine CV.seq ?_
      refine CV.seq ?_
      -- region 15 ref.go:134
      refine CV.region ?_
      refine RV.op (OV.step gno (Step.assign rfl) rfl ?_)
      refine RV.nil ?_
      refine KV.then_n ?_
      refine KV.env [(5, _), (8, _), (9, _)] ⟨rfl, rfl, rfl, trivial⟩ ?_
      refine CV.block ?_
      -- loop L16; live [5, 8, 9]
      refine KV.sel [0, 0, 0] [_, _, _] rfl ?_
      refine CV.loop3 (fun (m : Nat) (A1 : Option Addr) (c1 : Nat) => m ≤ d.ss.length) (fun (m : Nat) (A1 : Option Addr) (c1 : Nat) => d.ss.length - m) (fun (m : Nat) (A1 : Option Addr) (c1 : Nat) => [(5, .slice rb d.ss.length d.ss.length), (8, .slice A1 (outR (rchM d.d) m).length c1), (9, .int .i64 m)]) (fun (m : Nat) (A1 : Option Addr) (c1 : Nat) => Hp I w [Blk b (.cells #[.string (bs d.name), .slice d.sA d.ss.length d.sc, .slice d.tA d.hs.length d.tc] 26 (0, 0)), OS 4 boolK rb d.ss.length (rchM d.d), OS 3 (intK .i64) A1 c1 (outR (rchM d.d) m)]) (0) (none) (0) (Nat.zero_le _) ⟨rfl, rfl, rfl, trivial⟩ (fun _ h => h) ?_
      intro m A1 c1 hml
      refine CV.seq ?_
      refine CV.seq ?_
      -- region 16 ref.go:134
      refine CV.region ?_
      refine RV.op (OV.step gno (Step.move rfl) rfl ?_)
      refine RV.op (OV.step gno (Step.move rfl) rfl ?_)
      refine RV.op (OV.step gno (Step.lenSl Tryd.underlying109 rfl) rfl ?_)
      refine RV.op (OV.split gno (Step.lss rfl rfl) rfl (fun hm => ?_) (fun hm => ?_))
      · -- True
        refine RV.nil ?_
        refine KV.then_n ?_
        refine KV.env [(5, _), (8, _), (9, _), (55, _)] ⟨rfl, rfl, rfl, rfl, trivial⟩ ?_
        refine CV.cond_t rfl ?_
        refine CV.skip ?_
        refine KV.then_n ?_
        refine KV.env [(5, _), (8, _), (9, _)] ⟨rfl, rfl, rfl, trivial⟩ ?_
        refine CV.seq ?_
        refine CV.block ?_
        refine CV.seq ?_
        -- region 18 ref.go:135
        refine CV.region ?_
        refine RV.op (OV.step gno (Step.move rfl) rfl ?_)
        refine RV.op (OV.step gno (Step.move rfl) rfl ?_)
        refine RV.op (OV.step gno (Step.idx Tryd.underlying109 I4 (fun w h => h.os 1 rfl) rfl rfl (by first | rfl | omega) _ rfl (by omega)) rfl ?_)
        refine RV.op (OV.step gno (Step.load Tryd.underlying4 rfl rfl (fun w h => (h.os 1 rfl).cell0 (by omega) rfl)) rfl ?_)
        refine RV.nil ?_
        refine KV.then_n ?_
        refine KV.env [(5, _), (8, _), (9, _), (61, _)] ⟨rfl, rfl, rfl, rfl, trivial⟩ ?_
        refine KV.cases 61 rfl (fun cc2 => ?_) (fun cc2 => ?_)
        · -- True
          have hm1 := cc2
          refine CV.cond_t rfl ?_
          -- region 19 ref.go:136
          refine CV.region ?_
          refine RV.op (OV.step gno (Step.move rfl) rfl ?_)
          refine RV.op (OV.step gno (Step.move rfl) rfl ?_)
          refine RV.op (OV.buildSlice (K := (intK .i64)) ([(m : Int)]) rfl (Bs32_1_0 _) rfl rfl (by omega) gno rfl (fun z => ?_))
          refine RV.op (OV.append 2 Tryd.underlying32 I3 rfl rfl rfl rfl rfl rfl (fun w h => h.os 3 rfl) (by have := outR_len (rchM d.d) m; simp only [List.length_cons, List.length_nil]; omega) (by have := outR_len (rchM d.d) m; simp only [List.length_cons, List.length_nil]; omega) gno rfl (fun A2 c2 => ?_))
          refine RV.op (OV.step gno (Step.assign rfl) rfl ?_)
          refine RV.nil ?_
          refine KV.block_n ?_
          refine KV.then_n ?_
          refine KV.env [(5, _), (8, _), (9, _)] ⟨rfl, rfl, rfl, trivial⟩ ?_
          -- region 17 ref.go:134
          refine CV.region ?_
          refine RV.op (OV.step gno (Step.move rfl) rfl ?_)
          (first | refine RV.op (OV.step gno (Step.add rfl rfl (wI64 (by omega) (by omega))) rfl ?_) | refine RV.op (OV.step gno (Step.add rfl rfl rfl) rfl ?_))
          refine RV.op (OV.step gno (Step.assign rfl) rfl ?_)
          refine RV.nil ?_
          refine KV.then_n ?_
          refine KV.env [(5, _), (8, _), (9, _)] ⟨rfl, rfl, rfl, trivial⟩ ?_
          refine KV.sel [0, 0, 0] [_, _, _] rfl ?_
          (first | exact KV.loop3 (x := m) (y := A1) (z := c1) (m + 1) (A2) (c2) (by omega) (by omega) ⟨rfl, (by rw [outR_t hm1]; rfl), rfl, trivial⟩ (fun _ h => by rw [outR_t hm1]; exact h) | exact KV.loop3 (x := m) (y := A1) (z := c1) (m + 1) (A1) (c1) (by omega) (by omega) ⟨rfl, (by rw [outR_f hm0]; rfl), rfl, trivial⟩ (fun _ h => by rw [outR_f hm0]; exact h))
        · -- False
          have hm0 := cc2
          refine CV.cond_f rfl ?_
          refine CV.skip ?_
          refine KV.block_n ?_
          refine KV.then_n ?_
          refine KV.env [(5, _), (8, _), (9, _)] ⟨rfl, rfl, rfl, trivial⟩ ?_
          -- region 17 ref.go:134
          refine CV.region ?_
          refine RV.op (OV.step gno (Step.move rfl) rfl ?_)
          (first | refine RV.op (OV.step gno (Step.add rfl rfl (wI64 (by omega) (by omega))) rfl ?_) | refine RV.op (OV.step gno (Step.add rfl rfl rfl) rfl ?_))
          refine RV.op (OV.step gno (Step.assign rfl) rfl ?_)
          refine RV.nil ?_
          refine KV.then_n ?_
          refine KV.env [(5, _), (8, _), (9, _)] ⟨rfl, rfl, rfl, trivial⟩ ?_
          refine KV.sel [0, 0, 0] [_, _, _] rfl ?_
          (first | exact KV.loop3 (x := m) (y := A1) (z := c1) (m + 1) (A2) (c2) (by omega) (by omega) ⟨rfl, (by rw [outR_t hm1]; rfl), rfl, trivial⟩ (fun _ h => by rw [outR_t hm1]; exact h) | exact KV.loop3 (x := m) (y := A1) (z := c1) (m + 1) (A1) (c1) (by omega) (by omega) ⟨rfl, (by rw [outR_f hm0]; rfl), rfl, trivial⟩ (fun _ h => by rw [outR_f hm0]; exact h))
      · -- False
        refine RV.nil ?_
        refine KV.then_n ?_
        refine KV.env [(5, _), (8, _), (9, _), (55, _)] ⟨rfl, rfl, rfl, rfl, trivial⟩ ?_
        refine CV.cond_f rfl ?_
        refine CV.exit ?_
        refine KV.then_exit ?_
        refine KV.then_exit ?_
        refine KV.block_hit ?_
        refine KV.then_n ?_
        refine KV.env [(8, _)] ⟨rfl, trivial⟩ ?_
        refine CV.seq ?_
        -- region 20 ref.go:139
        refine CV.region ?_
        refine RV.op (OV.step gno (Step.move rfl) rfl ?_)
        refine RV.op (OV.step gno (Step.assign rfl) rfl ?_)
        refine RV.op (OV.step gno (Step.assign rfl) rfl ?_)
        refine RV.nil ?_
        refine KV.then_n ?_
        refine KV.env [(2, _), (3, _)] ⟨rfl, rfl, trivial⟩ ?_
        refine CV.ret ?_
        -- return at r20
        refine KV.sel [2] [_] rfl ?_
        obtain rfl : m = d.ss.length := by omega
        exact KV.ret2 rfl rfl rfl _ (fun _ h => h) (.inl ⟨hck0, A1, c1, rfl, rfl⟩)

theorem reach2_fn (d : DH) {w : World} (hd : DR w d) : Fx Tryd.prog 29 [.agg #[.string (bs d.name), .slice d.sA d.ss.length d.sc, .slice d.tA d.hs.length d.tc]] w [] no (fun v L => ∃ A c, v = .tuple #[.slice A (rcl d.d).length c, .int .i64 (chkM d.d)] ∧ L = [OS 3 (intK .i64) A c (rcl d.d)]) := by
  refine Fx.monoH (reachable_fn d hd) fun I v L w' hp hh => ?_
  rcases hp with ⟨hc, A, c, rfl, rfl⟩ | ⟨hc, rfl, rfl⟩
  · exact ⟨_, ⟨A, c, by rw [rcl_t hc, hc] <;> rfl, rfl⟩, by rw [rcl_t hc]; exact hh⟩
  · exact ⟨_, ⟨none, 0, by rw [rcl_f hc] <;> rfl, rfl⟩, by rw [rcl_f hc]; exact hh.nilOS⟩

theorem rreach2_fn (d : DH) {w : World} (hd : DR w d) : Fx Tryd.prog 30 [.agg #[.string (bs d.name), .slice d.sA d.ss.length d.sc, .slice d.tA d.hs.length d.tc]] w [] no (fun v L => ∃ A c, v = .tuple #[.slice A (rcl d.d).length c, .int .i64 (chkM d.d)] ∧ L = [OS 3 (intK .i64) A c (rcl d.d)]) := by
  refine Fx.monoH (rreachable_fn d hd) fun I v L w' hp hh => ?_
  rcases hp with ⟨hc, A, c, rfl, rfl⟩ | ⟨hc, rfl, rfl⟩
  · exact ⟨_, ⟨A, c, by rw [rcl_t hc, hc] <;> rfl, rfl⟩, by rw [rcl_t hc]; exact hh⟩
  · exact ⟨_, ⟨none, 0, by rw [rcl_f hc] <;> rfl, rfl⟩, by rw [rcl_f hc]; exact hh.nilOS⟩

theorem new2_fn (d : DH) {w : World} (hd : DR w d) : Fx Tryd.prog 18 [.agg #[.string (bs d.name), .slice d.sA d.ss.length d.sc, .slice d.tA d.hs.length d.tc]] w [] no (fun v L => ∃ p : Option Addr, v = .tuple #[.pointer p, .int .i64 (chkM d.d)] ∧ (p = none ↔ ¬ chkM d.d = 0) ∧ L = []) := by
  refine Fx.monoH (new_fn d hd) fun I v L w' hp hh => ?_
  rcases hp with ⟨hc, q, d2, _, rfl, rfl⟩ | ⟨hc, rfl, rfl⟩
  · exact ⟨_, ⟨_, by rw [hc], ⟨fun h => (by cases h), fun h => absurd hc h⟩, rfl⟩, Hp.sub (L := []) hh⟩
  · exact ⟨_, ⟨none, rfl, ⟨fun _ => hc, fun _ => rfl⟩, rfl⟩, hh⟩

set_option maxRecDepth 100000 in
set_option maxHeartbeats 16000000 in
theorem spoil_fn (d : DH) (how n : Int) (text : Bs) {w : World} (h0 : 0 < d.ss.length) (hl1 : d.ss.length ≤ 1000) (hl2 : d.hs.length ≤ 1000) (hl3 : ∀ i, i < d.hs.length → (d.hs.getD i thK.d).t.ops.length ≤ 1000) : Fx Tryd.prog 28 [.agg #[.string (bs d.name), .slice d.sA d.ss.length d.sc, .slice d.tA d.hs.length d.tc], .int .i64 how, .int .i64 n, .string (bs text)] w (dL d) no (fun v L => ∃ d3 : DH, v = .agg #[.string (bs d3.name), .slice d3.sA d3.ss.length d3.sc, .slice d3.tA d3.hs.length d3.tc] ∧ L = dL d3) := by
  refine Sv.Fx.body Tryd.func28 rfl T28 rfl ?_
  intro I hro hI
  refine KV.env [(0, _), (1, _), (2, _), (3, _)] ⟨rfl, rfl, rfl, rfl, trivial⟩ ?_
  unfold dL
  obtain ⟨q, hq, hql⟩ := modN n h0
  refine CV.seq ?_
  -- region 0 law.go:88
  refine CV.region ?_
  refine RV.op (OV.box (t := 26) #[_, _, _] rfl rfl gno rfl (fun b => ?_))
  refine RV.op (OV.alloc #[.string (Sv.bs []), .slice none 0 0, .slice none 0 0] I26 rfl gno rfl (fun p => ?_))
  refine RV.nil ?_
  refine KV.then_n ?_
  refine KV.env [(1, _), (2, _), (3, _), (4, _), (8, _)] ⟨rfl, rfl, rfl, rfl, rfl, trivial⟩ ?_
  refine CV.seq ?_
  -- region 1 law.go:89
  refine CV.region ?_
  refine RV.op (OV.step gno (Step.move rfl) rfl ?_)
  refine RV.op (OV.step gno (Step.fieldAddr rfl (F26_1 _ _)) rfl ?_)
  refine RV.op (OV.step gno (Step.load Tryd.underlying23 rfl rfl (fun w h => h.cell 3 rfl rfl)) rfl ?_)
  refine RV.op (OV.step gno (Step.lenSl Tryd.underlying23 rfl) rfl ?_)
  refine RV.op (OV.callP Tryd.func14 B14 N14 rfl (mod_fn n d.ss.length h0 (by omega)) gno rfl ?_)
  rw [hq]
  refine RV.op (OV.step gno (Step.assign rfl) rfl ?_)
  refine RV.nil ?_
  refine KV.then_n ?_
  refine KV.env [(1, _), (2, _), (3, _), (4, _), (8, _), (9, _)] ⟨rfl, rfl, rfl, rfl, rfl, rfl, trivial⟩ ?_
  -- join; live [1, 2, 3, 4, 8]
  refine CV.join4 (fun (nm : Bs) (sA : Option Addr) (sc : Nat) (ss : List Bs) => [(1, .int .i64 how), (2, .int .i64 n), (3, .string (bs text)), (4, .pointer (some ⟨b, 0, none⟩)), (8, .pointer (some ⟨p, 0, none⟩))]) (fun (nm : Bs) (sA : Option Addr) (sc : Nat) (ss : List Bs) => Hp I w [Blk b (.cells #[.string (bs nm), .slice sA ss.length sc, .slice d.tA d.hs.length d.tc] 26 (0, 0)), Blk p (.cells #[.string (bs []), .slice none 0 0, .slice none 0 0] 26 (0, 0)), OS 9 strK sA sc ss, OS 61 thK d.tA d.tc d.hs, Big opA d.hs]) ?_ ?_
  · skip
    refine CV.seq ?_
    -- region 2 law.go:90
    refine CV.region ?_
    refine RV.op (OV.step gno (Step.move rfl) rfl ?_)
    refine RV.op (OV.callP Tryd.func14 B14 N14 rfl (mod_fn how 9 (by omega) (by omega)) gno rfl ?_)
    refine RV.nil ?_
    refine KV.then_n ?_
    refine KV.env [(1, _), (2, _), (3, _), (4, _), (8, _), (9, _), (17, _)] ⟨rfl, rfl, rfl, rfl, rfl, rfl, rfl, trivial⟩ ?_
    refine CV.block ?_
    refine CV.seq ?_
    -- region 3 law.go:91
    refine CV.region ?_
    refine RV.op (OV.split gno (Step.eql rfl rfl) rfl (fun x3_0 => ?_) (fun x3_0 => ?_))
    · -- True
      refine RV.op (OV.step gno (Step.assign rfl) rfl ?_)
      refine RV.nil ?_
      refine KV.then_n ?_
      refine KV.env [(1, _), (2, _), (3, _), (4, _), (8, _), (9, _), (17, _), (18, _)] ⟨rfl, rfl, rfl, rfl, rfl, rfl, rfl, rfl, trivial⟩ ?_
      refine CV.cond_t rfl ?_
      -- region 4 law.go:92
      refine CV.region ?_
      refine RV.op (OV.step gno (Step.move rfl) rfl ?_)
      refine RV.op (OV.step gno (Step.fieldAddr rfl (F26_0 _ _)) rfl ?_)
      refine RV.op (OV.store 3 [_] #[_, _, _] I9 rfl rfl rfl rfl rfl (Nat.le_of_ble_eq_true rfl) (by simp [Value.oneCell']) rfl gno ?_)
      refine RV.nil ?_
      refine KV.block_n ?_
      refine KV.then_n ?_
      refine KV.env [(1, _), (2, _), (3, _), (4, _), (8, _)] ⟨rfl, rfl, rfl, rfl, rfl, trivial⟩ ?_
      refine KV.sel [3, 3, 0, 0, 0] [_, _, _, _, _] rfl ?_
      (first | exact KV.join4 (text) (d.sA) (d.sc) (d.ss) ⟨rfl, rfl, rfl, rfl, rfl, trivial⟩ (fun _ h => by first | exact h | (rw [List.length_set]; exact h)) | exact KV.join4 (d.name) (d.sA) (d.sc) (d.ss.set q text) ⟨rfl, rfl, rfl, rfl, rfl, trivial⟩ (fun _ h => by first | exact h | (rw [List.length_set]; exact h)) | exact KV.join4 (d.name) (A2) (c2) (d.ss ++ [d.ss.getD q strK.d]) ⟨rfl, rfl, rfl, rfl, rfl, trivial⟩ (fun _ h => by first | exact h | (rw [List.length_set]; exact h)) | exact KV.join4 (d.name) (d.sA) (d.sc) (d.ss) ⟨rfl, rfl, rfl, rfl, rfl, trivial⟩ (fun _ h => by first | exact h | (rw [List.length_set]; exact h)))
    · -- False
      refine RV.op (OV.step gno (Step.assign rfl) rfl ?_)
      refine RV.nil ?_
      refine KV.then_n ?_
      refine KV.env [(1, _), (2, _), (3, _), (4, _), (8, _), (9, _), (17, _), (18, _)] ⟨rfl, rfl, rfl, rfl, rfl, rfl, rfl, rfl, trivial⟩ ?_
      refine CV.cond_f rfl ?_
      refine CV.seq ?_
      -- region 5 law.go:93
      refine CV.region ?_
      refine RV.op (OV.split gno (Step.eql rfl rfl) rfl (fun x5_0 => ?_) (fun x5_0 => ?_))
      · -- True
        refine RV.op (OV.step gno (Step.assign rfl) rfl ?_)
        refine RV.nil ?_
        refine KV.then_n ?_
        refine KV.env [(1, _), (2, _), (3, _), (4, _), (8, _), (9, _), (17, _), (22, _)] ⟨rfl, rfl, rfl, rfl, rfl, rfl, rfl, rfl, trivial⟩ ?_
        refine CV.cond_t rfl ?_
        -- region 6 law.go:94
        refine CV.region ?_
        refine RV.op (OV.step gno (Step.fieldAddr rfl (F26_1 _ _)) rfl ?_)
        refine RV.op (OV.step gno (Step.load Tryd.underlying23 rfl rfl (fun w h => h.cell 3 rfl rfl)) rfl ?_)
        refine RV.op (OV.step gno (Step.move rfl) rfl ?_)
        refine RV.op (OV.step gno (Step.move rfl) rfl ?_)
        refine RV.op (OV.step gno (Step.idx Tryd.underlying23 I9 (fun w h => h.os 0 rfl) rfl rfl (rfl) _ rfl (by omega)) rfl ?_)
        refine RV.op (OV.storeE 0 (q) (text) (j := 0) [_] I9 rfl rfl rfl rfl rfl rfl (by omega) rfl (Nat.le_of_ble_eq_true rfl) gno ?_)
        refine RV.nil ?_
        refine KV.block_n ?_
        refine KV.then_n ?_
        refine KV.env [(1, _), (2, _), (3, _), (4, _), (8, _)] ⟨rfl, rfl, rfl, rfl, rfl, trivial⟩ ?_
        refine KV.sel [3, 3, 0, 0, 0] [_, _, _, _, _] rfl ?_
        (first | exact KV.join4 (text) (d.sA) (d.sc) (d.ss) ⟨rfl, rfl, rfl, rfl, rfl, trivial⟩ (fun _ h => by first | exact h | (rw [List.length_set]; exact h)) | exact KV.join4 (d.name) (d.sA) (d.sc) (d.ss.set q text) ⟨rfl, rfl, rfl, rfl, rfl, trivial⟩ (fun _ h => by first | exact h | (rw [List.length_set]; exact h)) | exact KV.join4 (d.name) (A2) (c2) (d.ss ++ [d.ss.getD q strK.d]) ⟨rfl, rfl, rfl, rfl, rfl, trivial⟩ (fun _ h => by first | exact h | (rw [List.length_set]; exact h)) | exact KV.join4 (d.name) (d.sA) (d.sc) (d.ss) ⟨rfl, rfl, rfl, rfl, rfl, trivial⟩ (fun _ h => by first | exact h | (rw [List.length_set]; exact h)))
      · -- False
        refine RV.op (OV.step gno (Step.assign rfl) rfl ?_)
        refine RV.nil ?_
        refine KV.then_n ?_
        refine KV.env [(1, _), (2, _), (3, _), (4, _), (8, _), (9, _), (17, _), (22, _)] ⟨rfl, rfl, rfl, rfl, rfl, rfl, rfl, rfl, trivial⟩ ?_
        refine CV.cond_f rfl ?_
        refine CV.seq ?_
        -- region 7 law.go:95
        refine CV.region ?_
        refine RV.op (OV.split gno (Step.eql rfl rfl) rfl (fun x7_0 => ?_) (fun x7_0 => ?_))
        · -- True
          refine RV.op (OV.step gno (Step.assign rfl) rfl ?_)
          refine RV.nil ?_
          refine KV.then_n ?_
          refine KV.env [(1, _), (2, _), (3, _), (4, _), (8, _), (9, _), (29, _)] ⟨rfl, rfl, rfl, rfl, rfl, rfl, rfl, trivial⟩ ?_
          refine CV.cond_t rfl ?_
          -- region 8 law.go:96
          refine CV.any (Hp I w []) (by kernel_rfl) (fun _ h => h.drew) 11 rfl ?_
          refine AV.take 0 #[true, false, false, false, false, false, false, false, false, false, false] rfl (by kernel_rfl) (by kernel_rfl) (by kernel_rfl) (fun _ _ _ h => h) gno (Step.fieldAddr rfl (F26_1 _ _)) rfl (fun _ h => h.sel [] rfl) (by kernel_rfl) ?_
          refine AV.take 2 #[true, false, true, false, false, false, false, false, false, false, false] rfl (by kernel_rfl) (by kernel_rfl) (by kernel_rfl) (fun _ _ _ h => h) gno (Step.fieldAddr rfl (F26_1 _ _)) rfl (fun _ h => h.sel [] rfl) (by kernel_rfl) ?_
          refine AV.take 4 #[true, false, true, false, true, false, false, false, false, false, false] rfl (by kernel_rfl) (by kernel_rfl) (by kernel_rfl) (fun _ _ _ h => h) gno (Step.move rfl) rfl (fun _ h => h.sel [] rfl) (by kernel_rfl) ?_
          refine AV.all [1, 3] (by kernel_rfl) (by decide) ?_
          refine ⟨⟨_, rfl, ?_⟩, ⟨⟨_, rfl, ?_⟩, trivial⟩⟩
          · -- 1 comes up
            refine OV.step gno (Step.load Tryd.underlying23 rfl rfl (fun w h => h.cell 3 rfl rfl)) rfl ?_
            refine AV.next #[true, true, true, false, true, false, false, false, false, false, false] (by kernel_rfl) (fun _ h => h.sel [] rfl) ?_
            refine AV.all [3] (by kernel_rfl) (by decide) ?_
            refine ⟨⟨_, rfl, ?_⟩, trivial⟩
            · -- 3 comes up
              refine OV.step gno (Step.load Tryd.underlying23 rfl rfl (fun w h => h.cell 3 rfl rfl)) rfl ?_
              refine AV.next #[true, true, true, true, true, false, false, false, false, false, false] (by kernel_rfl) (fun _ h => h.sel [] rfl) ?_
              refine AV.all [5] (by kernel_rfl) (by decide) ?_
              refine ⟨⟨_, rfl, ?_⟩, trivial⟩
              · -- 5 comes up
                refine OV.step gno (Step.idx Tryd.underlying23 I9 (fun w h => h.os 0 rfl) rfl rfl (rfl) _ rfl (by omega)) rfl ?_
                refine AV.next #[true, true, true, true, true, true, false, false, false, false, false] (by kernel_rfl) (fun _ h => h.sel [] rfl) ?_
                refine AV.all [6] (by kernel_rfl) (by decide) ?_
                refine ⟨⟨_, rfl, ?_⟩, trivial⟩
                · -- 6 comes up
                  refine OV.step gno (Step.load Tryd.underlying9 rfl rfl (fun w h => (h.os 0 rfl).cell0 (by omega) rfl)) rfl ?_
                  refine AV.next #[true, true, true, true, true, true, true, false, false, false, false] (by kernel_rfl) (fun _ h => h.sel [] rfl) ?_
                  refine AV.all [7] (by kernel_rfl) (by decide) ?_
                  refine ⟨⟨_, rfl, ?_⟩, trivial⟩
                  · -- 7 comes up
                    refine OV.buildSlice (K := strK) ([d.ss.getD q strK.d]) rfl (Bs23_1_0 _) rfl rfl (by omega) gno rfl (fun z => ?_)
                    refine AV.next #[true, true, true, true, true, true, true, true, false, false, false] (by kernel_rfl) (fun _ h => h.sel [] rfl) ?_
                    refine AV.all [8] (by kernel_rfl) (by decide) ?_
                    refine ⟨⟨_, rfl, ?_⟩, trivial⟩
                    · -- 8 comes up
                      refine OV.append 0 Tryd.underlying23 I9 rfl rfl rfl rfl rfl rfl (fun w h => h.os 5 rfl) (by simp only [List.length_cons, List.length_nil]; omega) (by simp only [List.length_cons, List.length_nil]; omega) gno rfl (fun A2 c2 => ?_)
                      refine AV.next #[true, true, true, true, true, true, true, true, true, false, false] (by kernel_rfl) (fun _ h => h.sel [] rfl) ?_
                      refine AV.take 9 #[true, true, true, true, true, true, true, true, true, true, false] rfl (by kernel_rfl) (by kernel_rfl) (by kernel_rfl) (fun _ _ _ h => h) gno (Step.fieldAddr rfl (F26_1 _ _)) rfl (fun _ h => h.sel [] rfl) (by kernel_rfl) ?_
                      refine AV.all [10] (by kernel_rfl) (by decide) ?_
                      refine ⟨⟨_, rfl, ?_⟩, trivial⟩
                      · -- 10 comes up
                        refine OV.store 3 [_] #[_, _, _] I23 rfl rfl rfl rfl rfl (Nat.le_of_ble_eq_true rfl) (by simp [Value.oneCell']) rfl gno ?_
                        refine AV.next #[true, true, true, true, true, true, true, true, true, true, true] (by kernel_rfl) (fun _ h => h.sel [] rfl) ?_
                        refine AV.done (by kernel_rfl) ?_
                        refine KV.block_n ?_
                        refine KV.then_n ?_
                        refine KV.env [(1, _), (2, _), (3, _), (4, _), (8, _)] ⟨rfl, rfl, rfl, rfl, rfl, trivial⟩ ?_
                        refine KV.sel [3, 3, 0, 0, 0] [_, _, _, _, _] rfl ?_
                        (first | exact KV.join4 (text) (d.sA) (d.sc) (d.ss) ⟨rfl, rfl, rfl, rfl, rfl, trivial⟩ (fun _ h => by first | exact h | (rw [List.length_set]; exact h)) | exact KV.join4 (d.name) (d.sA) (d.sc) (d.ss.set q text) ⟨rfl, rfl, rfl, rfl, rfl, trivial⟩ (fun _ h => by first | exact h | (rw [List.length_set]; exact h)) | exact KV.join4 (d.name) (A2) (c2) (d.ss ++ [d.ss.getD q strK.d]) ⟨rfl, rfl, rfl, rfl, rfl, trivial⟩ (fun _ h => by first | exact h | (rw [List.length_set]; exact h)) | exact KV.join4 (d.name) (d.sA) (d.sc) (d.ss) ⟨rfl, rfl, rfl, rfl, rfl, trivial⟩ (fun _ h => by first | exact h | (rw [List.length_set]; exact h)))
          · -- 3 comes up
            refine OV.step gno (Step.load Tryd.underlying23 rfl rfl (fun w h => h.cell 3 rfl rfl)) rfl ?_
            refine AV.next #[true, false, true, true, true, false, false, false, false, false, false] (by kernel_rfl) (fun _ h => h.sel [] rfl) ?_
            refine AV.all [1, 5] (by kernel_rfl) (by decide) ?_
            refine ⟨⟨_, rfl, ?_⟩, ⟨⟨_, rfl, ?_⟩, trivial⟩⟩
            · -- 1 comes up
              refine OV.step gno (Step.load Tryd.underlying23 rfl rfl (fun w h => h.cell 3 rfl rfl)) rfl ?_
              refine AV.next #[true, true, true, true, true, false, false, false, false, false, false] (by kernel_rfl) (fun _ h => h.sel [] rfl) ?_
              refine AV.all [5] (by kernel_rfl) (by decide) ?_
              refine ⟨⟨_, rfl, ?_⟩, trivial⟩
              · -- 5 comes up
                refine OV.step gno (Step.idx Tryd.underlying23 I9 (fun w h => h.os 0 rfl) rfl rfl (rfl) _ rfl (by omega)) rfl ?_
                refine AV.next #[true, true, true, true, true, true, false, false, false, false, false] (by kernel_rfl) (fun _ h => h.sel [] rfl) ?_
                refine AV.all [6] (by kernel_rfl) (by decide) ?_
                refine ⟨⟨_, rfl, ?_⟩, trivial⟩
                · -- 6 comes up
                  refine OV.step gno (Step.load Tryd.underlying9 rfl rfl (fun w h => (h.os 0 rfl).cell0 (by omega) rfl)) rfl ?_
                  refine AV.next #[true, true, true, true, true, true, true, false, false, false, false] (by kernel_rfl) (fun _ h => h.sel [] rfl) ?_
                  refine AV.all [7] (by kernel_rfl) (by decide) ?_
                  refine ⟨⟨_, rfl, ?_⟩, trivial⟩
                  · -- 7 comes up
                    refine OV.buildSlice (K := strK) ([d.ss.getD q strK.d]) rfl (Bs23_1_0 _) rfl rfl (by omega) gno rfl (fun z => ?_)
                    refine AV.next #[true, true, true, true, true, true, true, true, false, false, false] (by kernel_rfl) (fun _ h => h.sel [] rfl) ?_
                    refine AV.all [8] (by kernel_rfl) (by decide) ?_
                    refine ⟨⟨_, rfl, ?_⟩, trivial⟩
                    · -- 8 comes up
                      refine OV.append 0 Tryd.underlying23 I9 rfl rfl rfl rfl rfl rfl (fun w h => h.os 5 rfl) (by simp only [List.length_cons, List.length_nil]; omega) (by simp only [List.length_cons, List.length_nil]; omega) gno rfl (fun A2 c2 => ?_)
                      refine AV.next #[true, true, true, true, true, true, true, true, true, false, false] (by kernel_rfl) (fun _ h => h.sel [] rfl) ?_
                      refine AV.take 9 #[true, true, true, true, true, true, true, true, true, true, false] rfl (by kernel_rfl) (by kernel_rfl) (by kernel_rfl) (fun _ _ _ h => h) gno (Step.fieldAddr rfl (F26_1 _ _)) rfl (fun _ h => h.sel [] rfl) (by kernel_rfl) ?_
                      refine AV.all [10] (by kernel_rfl) (by decide) ?_
                      refine ⟨⟨_, rfl, ?_⟩, trivial⟩
                      · -- 10 comes up
                        refine OV.store 3 [_] #[_, _, _] I23 rfl rfl rfl rfl rfl (Nat.le_of_ble_eq_true rfl) (by simp [Value.oneCell']) rfl gno ?_
                        refine AV.next #[true, true, true, true, true, true, true, true, true, true, true] (by kernel_rfl) (fun _ h => h.sel [] rfl) ?_
                        refine AV.done (by kernel_rfl) ?_
                        refine KV.block_n ?_
                        refine KV.then_n ?_
                        refine KV.env [(1, _), (2, _), (3, _), (4, _), (8, _)] ⟨rfl, rfl, rfl, rfl, rfl, trivial⟩ ?_
                        refine KV.sel [3, 3, 0, 0, 0] [_, _, _, _, _] rfl ?_
                        (first | exact KV.join4 (text) (d.sA) (d.sc) (d.ss) ⟨rfl, rfl, rfl, rfl, rfl, trivial⟩ (fun _ h => by first | exact h | (rw [List.length_set]; exact h)) | exact KV.join4 (d.name) (d.sA) (d.sc) (d.ss.set q text) ⟨rfl, rfl, rfl, rfl, rfl, trivial⟩ (fun _ h => by first | exact h | (rw [List.length_set]; exact h)) | exact KV.join4 (d.name) (A2) (c2) (d.ss ++ [d.ss.getD q strK.d]) ⟨rfl, rfl, rfl, rfl, rfl, trivial⟩ (fun _ h => by first | exact h | (rw [List.length_set]; exact h)) | exact KV.join4 (d.name) (d.sA) (d.sc) (d.ss) ⟨rfl, rfl, rfl, rfl, rfl, trivial⟩ (fun _ h => by first | exact h | (rw [List.length_set]; exact h)))
            · -- 5 comes up
              refine OV.step gno (Step.idx Tryd.underlying23 I9 (fun w h => h.os 0 rfl) rfl rfl (rfl) _ rfl (by omega)) rfl ?_
              refine AV.next #[true, false, true, true, true, true, false, false, false, false, false] (by kernel_rfl) (fun _ h => h.sel [] rfl) ?_
              refine AV.all [1, 6] (by kernel_rfl) (by decide) ?_
              refine ⟨⟨_, rfl, ?_⟩, ⟨⟨_, rfl, ?_⟩, trivial⟩⟩
              · -- 1 comes up
                refine OV.step gno (Step.load Tryd.underlying23 rfl rfl (fun w h => h.cell 3 rfl rfl)) rfl ?_
                refine AV.next #[true, true, true, true, true, true, false, false, false, false, false] (by kernel_rfl) (fun _ h => h.sel [] rfl) ?_
                refine AV.all [6] (by kernel_rfl) (by decide) ?_
                refine ⟨⟨_, rfl, ?_⟩, trivial⟩
                · -- 6 comes up
                  refine OV.step gno (Step.load Tryd.underlying9 rfl rfl (fun w h => (h.os 0 rfl).cell0 (by omega) rfl)) rfl ?_
                  refine AV.next #[true, true, true, true, true, true, true, false, false, false, false] (by kernel_rfl) (fun _ h => h.sel [] rfl) ?_
                  refine AV.all [7] (by kernel_rfl) (by decide) ?_
                  refine ⟨⟨_, rfl, ?_⟩, trivial⟩
                  · -- 7 comes up
                    refine OV.buildSlice (K := strK) ([d.ss.getD q strK.d]) rfl (Bs23_1_0 _) rfl rfl (by omega) gno rfl (fun z => ?_)
                    refine AV.next #[true, true, true, true, true, true, true, true, false, false, false] (by kernel_rfl) (fun _ h => h.sel [] rfl) ?_
                    refine AV.all [8] (by kernel_rfl) (by decide) ?_
                    refine ⟨⟨_, rfl, ?_⟩, trivial⟩
                    · -- 8 comes up
                      refine OV.append 0 Tryd.underlying23 I9 rfl rfl rfl rfl rfl rfl (fun w h => h.os 5 rfl) (by simp only [List.length_cons, List.length_nil]; omega) (by simp only [List.length_cons, List.length_nil]; omega) gno rfl (fun A2 c2 => ?_)
                      refine AV.next #[true, true, true, true, true, true, true, true, true, false, false] (by kernel_rfl) (fun _ h => h.sel [] rfl) ?_
                      refine AV.take 9 #[true, true, true, true, true, true, true, true, true, true, false] rfl (by kernel_rfl) (by kernel_rfl) (by kernel_rfl) (fun _ _ _ h => h) gno (Step.fieldAddr rfl (F26_1 _ _)) rfl (fun _ h => h.sel [] rfl) (by kernel_rfl) ?_
                      refine AV.all [10] (by kernel_rfl) (by decide) ?_
                      refine ⟨⟨_, rfl, ?_⟩, trivial⟩
                      · -- 10 comes up
                        refine OV.store 3 [_] #[_, _, _] I23 rfl rfl rfl rfl rfl (Nat.le_of_ble_eq_true rfl) (by simp [Value.oneCell']) rfl gno ?_
                        refine AV.next #[true, true, true, true, true, true, true, true, true, true, true] (by kernel_rfl) (fun _ h => h.sel [] rfl) ?_
                        refine AV.done (by kernel_rfl) ?_
                        refine KV.block_n ?_
                        refine KV.then_n ?_
                        refine KV.env [(1, _), (2, _), (3, _), (4, _), (8, _)] ⟨rfl, rfl, rfl, rfl, rfl, trivial⟩ ?_
                        refine KV.sel [3, 3, 0, 0, 0] [_, _, _, _, _] rfl ?_
                        (first | exact KV.join4 (text) (d.sA) (d.sc) (d.ss) ⟨rfl, rfl, rfl, rfl, rfl, trivial⟩ (fun _ h => by first | exact h | (rw [List.length_set]; exact h)) | exact KV.join4 (d.name) (d.sA) (d.sc) (d.ss.set q text) ⟨rfl, rfl, rfl, rfl, rfl, trivial⟩ (fun _ h => by first | exact h | (rw [List.length_set]; exact h)) | exact KV.join4 (d.name) (A2) (c2) (d.ss ++ [d.ss.getD q strK.d]) ⟨rfl, rfl, rfl, rfl, rfl, trivial⟩ (fun _ h => by first | exact h | (rw [List.length_set]; exact h)) | exact KV.join4 (d.name) (d.sA) (d.sc) (d.ss) ⟨rfl, rfl, rfl, rfl, rfl, trivial⟩ (fun _ h => by first | exact h | (rw [List.length_set]; exact h)))
              · -- 6 comes up
                refine OV.step gno (Step.load Tryd.underlying9 rfl rfl (fun w h => (h.os 0 rfl).cell0 (by omega) rfl)) rfl ?_
                refine AV.next #[true, false, true, true, true, true, true, false, false, false, false] (by kernel_rfl) (fun _ h => h.sel [] rfl) ?_
                refine AV.all [1, 7] (by kernel_rfl) (by decide) ?_
                refine ⟨⟨_, rfl, ?_⟩, ⟨⟨_, rfl, ?_⟩, trivial⟩⟩
                · -- 1 comes up
                  refine OV.step gno (Step.load Tryd.underlying23 rfl rfl (fun w h => h.cell 3 rfl rfl)) rfl ?_
                  refine AV.next #[true, true, true, true, true, true, true, false, false, false, false] (by kernel_rfl) (fun _ h => h.sel [] rfl) ?_
                  refine AV.all [7] (by kernel_rfl) (by decide) ?_
                  refine ⟨⟨_, rfl, ?_⟩, trivial⟩
                  · -- 7 comes up
                    refine OV.buildSlice (K := strK) ([d.ss.getD q strK.d]) rfl (Bs23_1_0 _) rfl rfl (by omega) gno rfl (fun z => ?_)
                    refine AV.next #[true, true, true, true, true, true, true, true, false, false, false] (by kernel_rfl) (fun _ h => h.sel [] rfl) ?_
                    refine AV.all [8] (by kernel_rfl) (by decide) ?_
                    refine ⟨⟨_, rfl, ?_⟩, trivial⟩
                    · -- 8 comes up
                      refine OV.append 0 Tryd.underlying23 I9 rfl rfl rfl rfl rfl rfl (fun w h => h.os 5 rfl) (by simp only [List.length_cons, List.length_nil]; omega) (by simp only [List.length_cons, List.length_nil]; omega) gno rfl (fun A2 c2 => ?_)
                      refine AV.next #[true, true, true, true, true, true, true, true, true, false, false] (by kernel_rfl) (fun _ h => h.sel [] rfl) ?_
                      refine AV.take 9 #[true, true, true, true, true, true, true, true, true, true, false] rfl (by kernel_rfl) (by kernel_rfl) (by kernel_rfl) (fun _ _ _ h => h) gno (Step.fieldAddr rfl (F26_1 _ _)) rfl (fun _ h => h.sel [] rfl) (by kernel_rfl) ?_
                      refine AV.all [10] (by kernel_rfl) (by decide) ?_
                      refine ⟨⟨_, rfl, ?_⟩, trivial⟩
                      · -- 10 comes up
                        refine OV.store 3 [_] #[_, _, _] I23 rfl rfl rfl rfl rfl (Nat.le_of_ble_eq_true rfl) (by simp [Value.oneCell']) rfl gno ?_
                        refine AV.next #[true, true, true, true, true, true, true, true, true, true, true] (by kernel_rfl) (fun _ h => h.sel [] rfl) ?_
                        refine AV.done (by kernel_rfl) ?_
                        refine KV.block_n ?_
                        refine KV.then_n ?_
                        refine KV.env [(1, _), (2, _), (3, _), (4, _), (8, _)] ⟨rfl, rfl, rfl, rfl, rfl, trivial⟩ ?_
                        refine KV.sel [3, 3, 0, 0, 0] [_, _, _, _, _] rfl ?_
                        (first | exact KV.join4 (text) (d.sA) (d.sc) (d.ss) ⟨rfl, rfl, rfl, rfl, rfl, trivial⟩ (fun _ h => by first | exact h | (rw [List.length_set]; exact h)) | exact KV.join4 (d.name) (d.sA) (d.sc) (d.ss.set q text) ⟨rfl, rfl, rfl, rfl, rfl, trivial⟩ (fun _ h => by first | exact h | (rw [List.length_set]; exact h)) | exact KV.join4 (d.name) (A2) (c2) (d.ss ++ [d.ss.getD q strK.d]) ⟨rfl, rfl, rfl, rfl, rfl, trivial⟩ (fun _ h => by first | exact h | (rw [List.length_set]; exact h)) | exact KV.join4 (d.name) (d.sA) (d.sc) (d.ss) ⟨rfl, rfl, rfl, rfl, rfl, trivial⟩ (fun _ h => by first | exact h | (rw [List.length_set]; exact h)))
                · -- 7 comes up
                  refine OV.buildSlice (K := strK) ([d.ss.getD q strK.d]) rfl (Bs23_1_0 _) rfl rfl (by omega) gno rfl (fun z => ?_)
                  refine AV.next #[true, false, true, true, true, true, true, true, false, false, false] (by kernel_rfl) (fun _ h => h.sel [] rfl) ?_
                  refine AV.all [1] (by kernel_rfl) (by decide) ?_
                  refine ⟨⟨_, rfl, ?_⟩, trivial⟩
                  · -- 1 comes up
                    refine OV.step gno (Step.load Tryd.underlying23 rfl rfl (fun w h => h.cell 3 rfl rfl)) rfl ?_
                    refine AV.next #[true, true, true, true, true, true, true, true, false, false, false] (by kernel_rfl) (fun _ h => h.sel [] rfl) ?_
                    refine AV.all [8] (by kernel_rfl) (by decide) ?_
                    refine ⟨⟨_, rfl, ?_⟩, trivial⟩
                    · -- 8 comes up
                      refine OV.append 0 Tryd.underlying23 I9 rfl rfl rfl rfl rfl rfl (fun w h => h.os 5 rfl) (by simp only [List.length_cons, List.length_nil]; omega) (by simp only [List.length_cons, List.length_nil]; omega) gno rfl (fun A2 c2 => ?_)
                      refine AV.next #[true, true, true, true, true, true, true, true, true, false, false] (by kernel_rfl) (fun _ h => h.sel [] rfl) ?_
                      refine AV.take 9 #[true, true, true, true, true, true, true, true, true, true, false] rfl (by kernel_rfl) (by kernel_rfl) (by kernel_rfl) (fun _ _ _ h => h) gno (Step.fieldAddr rfl (F26_1 _ _)) rfl (fun _ h => h.sel [] rfl) (by kernel_rfl) ?_
                      refine AV.all [10] (by kernel_rfl) (by decide) ?_
                      refine ⟨⟨_, rfl, ?_⟩, trivial⟩
                      · -- 10 comes up
                        refine OV.store 3 [_] #[_, _, _] I23 rfl rfl rfl rfl rfl (Nat.le_of_ble_eq_true rfl) (by simp [Value.oneCell']) rfl gno ?_
                        refine AV.next #[true, true, true, true, true, true, true, true, true, true, true] (by kernel_rfl) (fun _ h => h.sel [] rfl) ?_
                        refine AV.done (by kernel_rfl) ?_
                        refine KV.block_n ?_
                        refine KV.then_n ?_
                        refine KV.env [(1, _), (2, _), (3, _), (4, _), (8, _)] ⟨rfl, rfl, rfl, rfl, rfl, trivial⟩ ?_
                        refine KV.sel [3, 3, 0, 0, 0] [_, _, _, _, _] rfl ?_
                        (first | exact KV.join4 (text) (d.sA) (d.sc) (d.ss) ⟨rfl, rfl, rfl, rfl, rfl, trivial⟩ (fun _ h => by first | exact h | (rw [List.length_set]; exact h)) | exact KV.join4 (d.name) (d.sA) (d.sc) (d.ss.set q text) ⟨rfl, rfl, rfl, rfl, rfl, trivial⟩ (fun _ h => by first | exact h | (rw [List.length_set]; exact h)) | exact KV.join4 (d.name) (A2) (c2) (d.ss ++ [d.ss.getD q strK.d]) ⟨rfl, rfl, rfl, rfl, rfl, trivial⟩ (fun _ h => by first | exact h | (rw [List.length_set]; exact h)) | exact KV.join4 (d.name) (d.sA) (d.sc) (d.ss) ⟨rfl, rfl, rfl, rfl, rfl, trivial⟩ (fun _ h => by first | exact h | (rw [List.length_set]; exact h)))
        · -- False
          refine RV.op (OV.step gno (Step.assign rfl) rfl ?_)
          refine RV.nil ?_
          refine KV.then_n ?_
          refine KV.env [(1, _), (2, _), (3, _), (4, _), (8, _), (9, _), (29, _)] ⟨rfl, rfl, rfl, rfl, rfl, rfl, rfl, trivial⟩ ?_
          refine CV.cond_f rfl ?_
          refine CV.skip ?_
          refine KV.block_n ?_
          refine KV.then_n ?_
          refine KV.env [(1, _), (2, _), (3, _), (4, _), (8, _)] ⟨rfl, rfl, rfl, rfl, rfl, trivial⟩ ?_
          refine KV.sel [3, 3, 0, 0, 0] [_, _, _, _, _] rfl ?_
          (first | exact KV.join4 (text) (d.sA) (d.sc) (d.ss) ⟨rfl, rfl, rfl, rfl, rfl, trivial⟩ (fun _ h => by first | exact h | (rw [List.length_set]; exact h)) | exact KV.join4 (d.name) (d.sA) (d.sc) (d.ss.set q text) ⟨rfl, rfl, rfl, rfl, rfl, trivial⟩ (fun _ h => by first | exact h | (rw [List.length_set]; exact h)) | exact KV.join4 (d.name) (A2) (c2) (d.ss ++ [d.ss.getD q strK.d]) ⟨rfl, rfl, rfl, rfl, rfl, trivial⟩ (fun _ h => by first | exact h | (rw [List.length_set]; exact h)) | exact KV.join4 (d.name) (d.sA) (d.sc) (d.ss) ⟨rfl, rfl, rfl, rfl, rfl, trivial⟩ (fun _ h => by first | exact h | (rw [List.length_set]; exact h)))
  · intro nm sA sc ss
    refine CV.seq ?_
    refine CV.seq ?_
    -- region 9 law.go:98
    refine CV.region ?_
    refine RV.op (OV.step gno (Step.fieldAddr rfl (F26_2 _ _)) rfl ?_)
    refine RV.op (OV.step gno (Step.load Tryd.underlying24 rfl rfl (fun w h => h.cell 0 rfl rfl)) rfl ?_)
    refine RV.op (OV.step gno (Step.lenSl Tryd.underlying24 rfl) rfl ?_)
    refine RV.op (OV.split gno (Step.eql rfl rfl) rfl (fun x9_3 => ?_) (fun x9_3 => ?_))
    · -- True
      refine RV.nil ?_
      refine KV.then_n ?_
      refine KV.env [(1, _), (2, _), (3, _), (4, _), (8, _), (44, _)] ⟨rfl, rfl, rfl, rfl, rfl, rfl, trivial⟩ ?_
      refine CV.cond_t rfl ?_
      refine CV.seq ?_
      -- region 10 law.go:99
      refine CV.region ?_
      refine RV.op (OV.step gno (Step.loadN _ Tryd.underlying26 rfl I26 rfl rfl (fun w h => h.cells 0 rfl)) rfl ?_)
      refine RV.op (OV.store 1 [_, _, _] #[_, _, _] I26 rfl rfl rfl rfl rfl (Nat.le_of_ble_eq_true rfl) (by simp [Value.oneCell']) rfl gno ?_)
      refine RV.nil ?_
      refine KV.then_n ?_
      refine KV.env [(8, _)] ⟨rfl, trivial⟩ ?_
      refine CV.ret ?_
      refine KV.then_ret ?_
      -- return at r10
      refine KV.sel [1, 1, 1, 1] [_, _, _, _] rfl ?_
      exact KV.retC1 [_, _, _] rfl rfl Tryd.underlying26 rfl I26 rfl (fun w h => h.cells 0 rfl) _ (fun _ h => h.sel [1, 1, 1] rfl) ⟨⟨nm, sA, sc, ss, d.tA, d.tc, d.hs⟩, rfl, rfl⟩
    · -- False
      refine RV.nil ?_
      refine KV.then_n ?_
      refine KV.env [(1, _), (2, _), (3, _), (4, _), (8, _), (44, _)] ⟨rfl, rfl, rfl, rfl, rfl, rfl, trivial⟩ ?_
      refine CV.cond_f rfl ?_
      refine CV.skip ?_
      refine KV.then_n ?_
      refine KV.env [(1, _), (2, _), (3, _), (4, _), (8, _)] ⟨rfl, rfl, rfl, rfl, rfl, trivial⟩ ?_
      refine CV.seq ?_
      -- region 11 law.go:101
      obtain ⟨k, hkq, hk⟩ := modN n (n := d.hs.length) (by omega)
      refine CV.region ?_
      refine RV.op (OV.step gno (Step.move rfl) rfl ?_)
      refine RV.op (OV.step gno (Step.fieldAddr rfl (F26_2 _ _)) rfl ?_)
      refine RV.op (OV.step gno (Step.load Tryd.underlying24 rfl rfl (fun w h => h.cell 0 rfl rfl)) rfl ?_)
      refine RV.op (OV.step gno (Step.lenSl Tryd.underlying24 rfl) rfl ?_)
      refine RV.op (OV.callP Tryd.func14 B14 N14 rfl (mod_fn n d.hs.length (by omega) (by omega)) gno rfl ?_)
      rw [hkq]
      refine RV.op (OV.step gno (Step.assign rfl) rfl ?_)
      refine RV.nil ?_
      refine KV.then_n ?_
      refine KV.env [(1, _), (2, _), (3, _), (4, _), (8, _), (10, _)] ⟨rfl, rfl, rfl, rfl, rfl, rfl, trivial⟩ ?_
      -- join; live [4, 8]
      refine CV.join (fun (H : List TH) => [(4, .pointer (some ⟨b, 0, none⟩)), (8, .pointer (some ⟨p, 0, none⟩))]) (fun (H : List TH) => Hp I w [Blk b (.cells #[.string (bs nm), .slice sA ss.length sc, .slice d.tA H.length d.tc] 26 (0, 0)), Blk p (.cells #[.string (bs []), .slice none 0 0, .slice none 0 0] 26 (0, 0)), OS 9 strK sA sc ss, OS 61 thK d.tA d.tc H, Big opA H]) ?_ ?_
      · skip
        refine CV.seq ?_
        -- region 12 law.go:102
        refine CV.region ?_
        refine RV.op (OV.step gno (Step.move rfl) rfl ?_)
        refine RV.op (OV.callP Tryd.func14 B14 N14 rfl (mod_fn how 9 (by omega) (by omega)) gno rfl ?_)
        refine RV.nil ?_
        refine KV.then_n ?_
        refine KV.env [(2, _), (3, _), (4, _), (8, _), (10, _), (52, _)] ⟨rfl, rfl, rfl, rfl, rfl, rfl, trivial⟩ ?_
        refine CV.block ?_
        refine CV.seq ?_
        -- region 13 law.go:103
        refine CV.region ?_
        refine RV.op (OV.split gno (Step.eql rfl rfl) rfl (fun x13_0 => ?_) (fun x13_0 => ?_))
        · -- True
          refine RV.op (OV.step gno (Step.assign rfl) rfl ?_)
          refine RV.nil ?_
          refine KV.then_n ?_
          refine KV.env [(2, _), (3, _), (4, _), (8, _), (10, _), (52, _), (53, _)] ⟨rfl, rfl, rfl, rfl, rfl, rfl, rfl, trivial⟩ ?_
          refine CV.cond_t rfl ?_
          -- region 14 law.go:104
          refine CV.region ?_
          refine RV.op (OV.step gno (Step.fieldAddr rfl (F26_2 _ _)) rfl ?_)
          refine RV.op (OV.step gno (Step.load Tryd.underlying24 rfl rfl (fun w h => h.cell 0 rfl rfl)) rfl ?_)
          refine RV.op (OV.step gno (Step.move rfl) rfl ?_)
          refine RV.op (OV.step gno (Step.move rfl) rfl ?_)
          refine RV.op (OV.step gno (Step.idx Tryd.underlying24 I61 (fun w h => h.os 3 rfl) rfl rfl (rfl) _ rfl (by omega)) rfl ?_)
          refine RV.op (OV.step gno (Step.fieldAddr rfl (F61_0 _ _)) rfl ?_)
          refine RV.op (OV.storeE 3 (k) ((spF (d.hs.getD k thK.d) n)) (j := 0) [_] I3 rfl rfl rfl rfl rfl rfl (by omega) rfl (Nat.le_of_ble_eq_true rfl) gno ?_)
          refine RV.nil ?_
          refine KV.block_n ?_
          refine KV.then_n ?_
          refine KV.env [(4, _), (8, _)] ⟨rfl, rfl, trivial⟩ ?_
          refine KV.sel [0, 0, 0, 0, 0] [_, _, _, _, _] rfl ?_
          (first | exact KV.join (d.hs.set k (spF (d.hs.getD k thK.d) n)) ⟨rfl, rfl, trivial⟩ (fun _ h => by first | exact h | (rw [List.length_set]; exact Hp.spl h rfl) | (rw [List.length_set]; exact h)) | exact KV.join (d.hs.set k (spT (d.hs.getD k thK.d) n)) ⟨rfl, rfl, trivial⟩ (fun _ h => by first | exact h | (rw [List.length_set]; exact Hp.spl h rfl) | (rw [List.length_set]; exact h)) | exact KV.join (d.hs.set k (spE (d.hs.getD k thK.d) text)) ⟨rfl, rfl, trivial⟩ (fun _ h => by first | exact h | (rw [List.length_set]; exact Hp.spl h rfl) | (rw [List.length_set]; exact h)) | exact KV.join (d.hs.set k (spG (d.hs.getD k thK.d))) ⟨rfl, rfl, trivial⟩ (fun _ h => by first | exact h | (rw [List.length_set]; exact Hp.spl h rfl) | (rw [List.length_set]; exact h)) | exact KV.join (d.hs.set k (spO (d.hs.getD k thK.d) n A2 c2)) ⟨rfl, rfl, trivial⟩ (fun _ h => by first | exact h | (rw [List.length_set]; exact Hp.spl h rfl) | (rw [List.length_set]; exact h)) | exact KV.join (d.hs) ⟨rfl, rfl, trivial⟩ (fun _ h => by first | exact h | (rw [List.length_set]; exact Hp.spl h rfl) | (rw [List.length_set]; exact h)))
        · -- False
          refine RV.op (OV.step gno (Step.assign rfl) rfl ?_)
          refine RV.nil ?_
          refine KV.then_n ?_
          refine KV.env [(2, _), (3, _), (4, _), (8, _), (10, _), (52, _), (53, _)] ⟨rfl, rfl, rfl, rfl, rfl, rfl, rfl, trivial⟩ ?_
          refine CV.cond_f rfl ?_
          refine CV.seq ?_
          -- region 15 law.go:105
          refine CV.region ?_
          refine RV.op (OV.split gno (Step.eql rfl rfl) rfl (fun x15_0 => ?_) (fun x15_0 => ?_))
          · -- True
            refine RV.op (OV.step gno (Step.assign rfl) rfl ?_)
            refine RV.nil ?_
            refine KV.then_n ?_
            refine KV.env [(2, _), (3, _), (4, _), (8, _), (10, _), (52, _), (61, _)] ⟨rfl, rfl, rfl, rfl, rfl, rfl, rfl, trivial⟩ ?_
            refine CV.cond_t rfl ?_
            -- region 16 law.go:106
            refine CV.region ?_
            refine RV.op (OV.step gno (Step.fieldAddr rfl (F26_2 _ _)) rfl ?_)
            refine RV.op (OV.step gno (Step.load Tryd.underlying24 rfl rfl (fun w h => h.cell 0 rfl rfl)) rfl ?_)
            refine RV.op (OV.step gno (Step.move rfl) rfl ?_)
            refine RV.op (OV.step gno (Step.move rfl) rfl ?_)
            refine RV.op (OV.step gno (Step.idx Tryd.underlying24 I61 (fun w h => h.os 3 rfl) rfl rfl (rfl) _ rfl (by omega)) rfl ?_)
            refine RV.op (OV.step gno (Step.fieldAddr rfl (F61_4 _ _)) rfl ?_)
            refine RV.op (OV.storeE 3 (k) ((spT (d.hs.getD k thK.d) n)) (j := 7) [_] I3 rfl rfl rfl rfl rfl rfl (by omega) rfl (Nat.le_of_ble_eq_true rfl) gno ?_)
            refine RV.nil ?_
            refine KV.block_n ?_
            refine KV.then_n ?_
            refine KV.env [(4, _), (8, _)] ⟨rfl, rfl, trivial⟩ ?_
            refine KV.sel [0, 0, 0, 0, 0] [_, _, _, _, _] rfl ?_
            (first | exact KV.join (d.hs.set k (spF (d.hs.getD k thK.d) n)) ⟨rfl, rfl, trivial⟩ (fun _ h => by first | exact h | (rw [List.length_set]; exact Hp.spl h rfl) | (rw [List.length_set]; exact h)) | exact KV.join (d.hs.set k (spT (d.hs.getD k thK.d) n)) ⟨rfl, rfl, trivial⟩ (fun _ h => by first | exact h | (rw [List.length_set]; exact Hp.spl h rfl) | (rw [List.length_set]; exact h)) | exact KV.join (d.hs.set k (spE (d.hs.getD k thK.d) text)) ⟨rfl, rfl, trivial⟩ (fun _ h => by first | exact h | (rw [List.length_set]; exact Hp.spl h rfl) | (rw [List.length_set]; exact h)) | exact KV.join (d.hs.set k (spG (d.hs.getD k thK.d))) ⟨rfl, rfl, trivial⟩ (fun _ h => by first | exact h | (rw [List.length_set]; exact Hp.spl h rfl) | (rw [List.length_set]; exact h)) | exact KV.join (d.hs.set k (spO (d.hs.getD k thK.d) n A2 c2)) ⟨rfl, rfl, trivial⟩ (fun _ h => by first | exact h | (rw [List.length_set]; exact Hp.spl h rfl) | (rw [List.length_set]; exact h)) | exact KV.join (d.hs) ⟨rfl, rfl, trivial⟩ (fun _ h => by first | exact h | (rw [List.length_set]; exact Hp.spl h rfl) | (rw [List.length_set]; exact h)))
          · -- False
            refine RV.op (OV.step gno (Step.assign rfl) rfl ?_)
            refine RV.nil ?_
            refine KV.then_n ?_
            refine KV.env [(2, _), (3, _), (4, _), (8, _), (10, _), (52, _), (61, _)] ⟨rfl, rfl, rfl, rfl, rfl, rfl, rfl, trivial⟩ ?_
            refine CV.cond_f rfl ?_
            refine CV.seq ?_
            -- region 17 law.go:107
            refine CV.region ?_
            refine RV.op (OV.split gno (Step.eql rfl rfl) rfl (fun x17_0 => ?_) (fun x17_0 => ?_))
            · -- True
              refine RV.op (OV.step gno (Step.assign rfl) rfl ?_)
              refine RV.nil ?_
              refine KV.then_n ?_
              refine KV.env [(2, _), (3, _), (4, _), (8, _), (10, _), (52, _), (69, _)] ⟨rfl, rfl, rfl, rfl, rfl, rfl, rfl, trivial⟩ ?_
              refine CV.cond_t rfl ?_
              -- region 18 law.go:108
              refine CV.region ?_
              refine RV.op (OV.step gno (Step.fieldAddr rfl (F26_2 _ _)) rfl ?_)
              refine RV.op (OV.step gno (Step.load Tryd.underlying24 rfl rfl (fun w h => h.cell 0 rfl rfl)) rfl ?_)
              refine RV.op (OV.step gno (Step.move rfl) rfl ?_)
              refine RV.op (OV.step gno (Step.move rfl) rfl ?_)
              refine RV.op (OV.step gno (Step.idx Tryd.underlying24 I61 (fun w h => h.os 3 rfl) rfl rfl (rfl) _ rfl (by omega)) rfl ?_)
              refine RV.op (OV.step gno (Step.fieldAddr rfl (F61_1 _ _)) rfl ?_)
              refine RV.op (OV.storeE 3 (k) ((spE (d.hs.getD k thK.d) text)) (j := 1) [_] I9 rfl rfl rfl rfl rfl rfl (by omega) rfl (Nat.le_of_ble_eq_true rfl) gno ?_)
              refine RV.nil ?_
              refine KV.block_n ?_
              refine KV.then_n ?_
              refine KV.env [(4, _), (8, _)] ⟨rfl, rfl, trivial⟩ ?_
              refine KV.sel [0, 0, 0, 0, 0] [_, _, _, _, _] rfl ?_
              (first | exact KV.join (d.hs.set k (spF (d.hs.getD k thK.d) n)) ⟨rfl, rfl, trivial⟩ (fun _ h => by first | exact h | (rw [List.length_set]; exact Hp.spl h rfl) | (rw [List.length_set]; exact h)) | exact KV.join (d.hs.set k (spT (d.hs.getD k thK.d) n)) ⟨rfl, rfl, trivial⟩ (fun _ h => by first | exact h | (rw [List.length_set]; exact Hp.spl h rfl) | (rw [List.length_set]; exact h)) | exact KV.join (d.hs.set k (spE (d.hs.getD k thK.d) text)) ⟨rfl, rfl, trivial⟩ (fun _ h => by first | exact h | (rw [List.length_set]; exact Hp.spl h rfl) | (rw [List.length_set]; exact h)) | exact KV.join (d.hs.set k (spG (d.hs.getD k thK.d))) ⟨rfl, rfl, trivial⟩ (fun _ h => by first | exact h | (rw [List.length_set]; exact Hp.spl h rfl) | (rw [List.length_set]; exact h)) | exact KV.join (d.hs.set k (spO (d.hs.getD k thK.d) n A2 c2)) ⟨rfl, rfl, trivial⟩ (fun _ h => by first | exact h | (rw [List.length_set]; exact Hp.spl h rfl) | (rw [List.length_set]; exact h)) | exact KV.join (d.hs) ⟨rfl, rfl, trivial⟩ (fun _ h => by first | exact h | (rw [List.length_set]; exact Hp.spl h rfl) | (rw [List.length_set]; exact h)))
            · -- False
              refine RV.op (OV.step gno (Step.assign rfl) rfl ?_)
              refine RV.nil ?_
              refine KV.then_n ?_
              refine KV.env [(2, _), (3, _), (4, _), (8, _), (10, _), (52, _), (69, _)] ⟨rfl, rfl, rfl, rfl, rfl, rfl, rfl, trivial⟩ ?_
              refine CV.cond_f rfl ?_
              refine CV.seq ?_
              -- region 19 law.go:109
              refine CV.region ?_
              refine RV.op (OV.split gno (Step.eql rfl rfl) rfl (fun x19_0 => ?_) (fun x19_0 => ?_))
              · -- True
                refine RV.op (OV.step gno (Step.assign rfl) rfl ?_)
                refine RV.nil ?_
                refine KV.then_n ?_
                refine KV.env [(2, _), (4, _), (8, _), (10, _), (52, _), (77, _)] ⟨rfl, rfl, rfl, rfl, rfl, rfl, trivial⟩ ?_
                refine CV.cond_t rfl ?_
                -- region 20 law.go:110
                refine CV.region ?_
                refine RV.op (OV.step gno (Step.fieldAddr rfl (F26_2 _ _)) rfl ?_)
                refine RV.op (OV.step gno (Step.load Tryd.underlying24 rfl rfl (fun w h => h.cell 0 rfl rfl)) rfl ?_)
                refine RV.op (OV.step gno (Step.move rfl) rfl ?_)
                refine RV.op (OV.step gno (Step.idx Tryd.underlying24 I61 (fun w h => h.os 3 rfl) rfl rfl (rfl) _ rfl (by omega)) rfl ?_)
                refine RV.op (OV.step gno (Step.fieldAddr rfl (F61_2 _ _)) rfl ?_)
                refine RV.op (OV.step gno (Step.fieldAddr rfl (F59_0 _ _)) rfl ?_)
                refine RV.op (OV.storeE 3 (k) ((spG (d.hs.getD k thK.d))) (j := 2) [_] I4 rfl rfl rfl rfl rfl rfl (by omega) rfl (Nat.le_of_ble_eq_true rfl) gno ?_)
                refine RV.nil ?_
                refine KV.block_n ?_
                refine KV.then_n ?_
                refine KV.env [(4, _), (8, _)] ⟨rfl, rfl, trivial⟩ ?_
                refine KV.sel [0, 0, 0, 0, 0] [_, _, _, _, _] rfl ?_
                (first | exact KV.join (d.hs.set k (spF (d.hs.getD k thK.d) n)) ⟨rfl, rfl, trivial⟩ (fun _ h => by first | exact h | (rw [List.length_set]; exact Hp.spl h rfl) | (rw [List.length_set]; exact h)) | exact KV.join (d.hs.set k (spT (d.hs.getD k thK.d) n)) ⟨rfl, rfl, trivial⟩ (fun _ h => by first | exact h | (rw [List.length_set]; exact Hp.spl h rfl) | (rw [List.length_set]; exact h)) | exact KV.join (d.hs.set k (spE (d.hs.getD k thK.d) text)) ⟨rfl, rfl, trivial⟩ (fun _ h => by first | exact h | (rw [List.length_set]; exact Hp.spl h rfl) | (rw [List.length_set]; exact h)) | exact KV.join (d.hs.set k (spG (d.hs.getD k thK.d))) ⟨rfl, rfl, trivial⟩ (fun _ h => by first | exact h | (rw [List.length_set]; exact Hp.spl h rfl) | (rw [List.length_set]; exact h)) | exact KV.join (d.hs.set k (spO (d.hs.getD k thK.d) n A2 c2)) ⟨rfl, rfl, trivial⟩ (fun _ h => by first | exact h | (rw [List.length_set]; exact Hp.spl h rfl) | (rw [List.length_set]; exact h)) | exact KV.join (d.hs) ⟨rfl, rfl, trivial⟩ (fun _ h => by first | exact h | (rw [List.length_set]; exact Hp.spl h rfl) | (rw [List.length_set]; exact h)))
              · -- False
                refine RV.op (OV.step gno (Step.assign rfl) rfl ?_)
                refine RV.nil ?_
                refine KV.then_n ?_
                refine KV.env [(2, _), (4, _), (8, _), (10, _), (52, _), (77, _)] ⟨rfl, rfl, rfl, rfl, rfl, rfl, trivial⟩ ?_
                refine CV.cond_f rfl ?_
                refine CV.seq ?_
                -- region 21 law.go:111
                refine CV.region ?_
                refine RV.op (OV.split gno (Step.eql rfl rfl) rfl (fun x21_0 => ?_) (fun x21_0 => ?_))
                · -- True
                  refine RV.op (OV.step gno (Step.assign rfl) rfl ?_)
                  refine RV.nil ?_
                  refine KV.then_n ?_
                  refine KV.env [(2, _), (4, _), (8, _), (10, _), (85, _)] ⟨rfl, rfl, rfl, rfl, rfl, trivial⟩ ?_
                  refine CV.cond_t rfl ?_
                  -- region 22 law.go:112
                  refine KV.heap (fun w h => h.focus (k := 4) thD rfl hk) ?_
                  refine CV.any (Hp I w [Blk b (.cells #[.string (bs nm), .slice sA ss.length sc, .slice d.tA d.hs.length d.tc] 26 (0, 0))]) (by kernel_rfl) (fun _ h => h.drew) 18 rfl ?_
                  refine AV.take 0 #[true, false, false, false, false, false, false, false, false, false, false, false, false, false, false, false, false, false] rfl (by kernel_rfl) (by kernel_rfl) (by kernel_rfl) (fun _ _ _ h => h) gno (Step.fieldAddr rfl (F26_2 _ _)) rfl (fun _ h => h.sel [0] rfl) (by kernel_rfl) ?_
                  refine AV.take 1 #[true, true, false, false, false, false, false, false, false, false, false, false, false, false, false, false, false, false] rfl (by kernel_rfl) (by kernel_rfl) (by kernel_rfl) (fun _ _ _ h => h) gno (Step.load Tryd.underlying24 rfl rfl (fun w h => h.cell 0 rfl rfl)) rfl (fun _ h => h.sel [0] rfl) (by kernel_rfl) ?_
                  refine AV.take 2 #[true, true, true, false, false, false, false, false, false, false, false, false, false, false, false, false, false, false] rfl (by kernel_rfl) (by kernel_rfl) (by kernel_rfl) (fun _ _ _ h => h) gno (Step.move rfl) rfl (fun _ h => h.sel [0] rfl) (by kernel_rfl) ?_
                  refine AV.take 3 #[true, true, true, true, false, false, false, false, false, false, false, false, false, false, false, false, false, false] rfl (by kernel_rfl) (by kernel_rfl) (by kernel_rfl) (fun _ _ _ h => h) gno (Step.fieldAddr rfl (F26_2 _ _)) rfl (fun _ h => h.sel [0] rfl) (by kernel_rfl) ?_
                  refine AV.take 4 #[true, true, true, true, true, false, false, false, false, false, false, false, false, false, false, false, false, false] rfl (by kernel_rfl) (by kernel_rfl) (by kernel_rfl) (fun _ _ _ h => h) gno (Step.load Tryd.underlying24 rfl rfl (fun w h => h.cell 0 rfl rfl)) rfl (fun _ h => h.sel [0] rfl) (by kernel_rfl) ?_
                  refine AV.take 5 #[true, true, true, true, true, true, false, false, false, false, false, false, false, false, false, false, false, false] rfl (by kernel_rfl) (by kernel_rfl) (by kernel_rfl) (fun _ _ _ h => h) gno (Step.move rfl) rfl (fun _ h => h.sel [0] rfl) (by kernel_rfl) ?_
                  refine AV.take 9 #[true, true, true, true, true, true, false, false, false, true, false, false, false, false, false, false, false, false] rfl (by kernel_rfl) (by kernel_rfl) (by kernel_rfl) (fun _ _ _ h => h) gno (Step.move rfl) rfl (fun _ h => h.sel [0] rfl) (by kernel_rfl) ?_
                  refine AV.all [6, 10] (by kernel_rfl) (by decide) ?_
                  refine ⟨⟨_, rfl, ?_⟩, ⟨⟨_, rfl, ?_⟩, trivial⟩⟩
                  · -- 6 comes up
                    refine OV.step gno (Step.idx Tryd.underlying24 I61 (fun w h => h.os 3 rfl) rfl rfl (rfl) _ rfl (by omega)) rfl ?_
                    refine AV.next #[true, true, true, true, true, true, true, false, false, true, false, false, false, false, false, false, false, false] (by kernel_rfl) (fun _ h => h.sel [0] rfl) ?_
                    refine AV.take 7 #[true, true, true, true, true, true, true, true, false, true, false, false, false, false, false, false, false, false] rfl (by kernel_rfl) (by kernel_rfl) (by kernel_rfl) (fun _ _ _ h => h) gno (Step.fieldAddr rfl (F61_3 _ _)) rfl (fun _ h => h.sel [0] rfl) (by kernel_rfl) ?_
                    refine AV.all [8, 10] (by kernel_rfl) (by decide) ?_
                    refine ⟨⟨_, rfl, ?_⟩, ⟨⟨_, rfl, ?_⟩, trivial⟩⟩
                    · -- 8 comes up
                      refine OV.step gno (Step.load Tryd.underlying46 rfl rfl (fun w h => (h.os 3 rfl).cell (by omega) rfl)) rfl ?_
                      refine AV.next #[true, true, true, true, true, true, true, true, true, true, false, false, false, false, false, false, false, false] (by kernel_rfl) (fun _ h => h.sel [0] rfl) ?_
                      refine AV.all [10] (by kernel_rfl) (by decide) ?_
                      refine ⟨⟨_, rfl, ?_⟩, trivial⟩
                      · -- 10 comes up
                        refine OV.callP Tryd.func14 B14 N14 rfl (mod_fn n 3 (by omega) (by omega)) gno rfl ?_
                        refine AV.next #[true, true, true, true, true, true, true, true, true, true, true, false, false, false, false, false, false, false] (by kernel_rfl) (fun _ h => h.sel [0] rfl) ?_
                        refine AV.take 11 #[true, true, true, true, true, true, true, true, true, true, true, true, false, false, false, false, false, false] rfl (by kernel_rfl) (by kernel_rfl) (by kernel_rfl) (fun _ _ _ h => h) gno (Step.convI Tryd.underlying3 Tryd.underlying51 rfl (wU64 (by have := modM_lt n (n := 3) (by decide); omega) (by have := modM_lt n (n := 3) (by decide); omega))) rfl (fun _ h => h.sel [0] rfl) (by kernel_rfl) ?_
                        refine AV.take 12 #[true, true, true, true, true, true, true, true, true, true, true, true, true, false, false, false, false, false] rfl (by kernel_rfl) (by kernel_rfl) (by kernel_rfl) (fun _ _ _ h => h) gno (Step.build rfl (Bd71_2 _)) rfl (fun _ h => h.sel [0] rfl) (by kernel_rfl) ?_
                        refine AV.all [13] (by kernel_rfl) (by decide) ?_
                        refine ⟨⟨_, rfl, ?_⟩, trivial⟩
                        · -- 13 comes up
                          refine OV.buildSlice (K := roK) ([(⟨false, 0, modM n 3⟩ : Ro)]) rfl (Bs46_1_0 _ _ _) rfl rfl (by omega) gno rfl (fun z => ?_)
                          refine AV.next #[true, true, true, true, true, true, true, true, true, true, true, true, true, true, false, false, false, false] (by kernel_rfl) (fun _ h => h.sel [0] rfl) ?_
                          refine AV.all [14] (by kernel_rfl) (by decide) ?_
                          refine ⟨⟨_, rfl, ?_⟩, trivial⟩
                          · -- 14 comes up
                            refine OV.append 4 Tryd.underlying46 I71 rfl rfl rfl rfl rfl rfl (fun w h => h.os 6 rfl) (by have := hl3 k hk; simp only [List.length_cons, List.length_nil]; omega) (by have := hl3 k hk; simp only [List.length_cons, List.length_nil]; omega) gno rfl (fun A2 c2 => ?_)
                            refine AV.next #[true, true, true, true, true, true, true, true, true, true, true, true, true, true, true, false, false, false] (by kernel_rfl) (fun _ h => h.sel [0] rfl) ?_
                            refine AV.all [15] (by kernel_rfl) (by decide) ?_
                            refine ⟨⟨_, rfl, ?_⟩, trivial⟩
                            · -- 15 comes up
                              refine OV.step gno (Step.idx Tryd.underlying24 I61 (fun w h => h.os 3 rfl) rfl rfl (rfl) _ rfl (by omega)) rfl ?_
                              refine AV.next #[true, true, true, true, true, true, true, true, true, true, true, true, true, true, true, true, false, false] (by kernel_rfl) (fun _ h => h.sel [0] rfl) ?_
                              refine AV.take 16 #[true, true, true, true, true, true, true, true, true, true, true, true, true, true, true, true, true, false] rfl (by kernel_rfl) (by kernel_rfl) (by kernel_rfl) (fun _ _ _ h => h) gno (Step.fieldAddr rfl (F61_3 _ _)) rfl (fun _ h => h.sel [0] rfl) (by kernel_rfl) ?_
                              refine AV.all [17] (by kernel_rfl) (by decide) ?_
                              refine ⟨⟨_, rfl, ?_⟩, trivial⟩
                              · -- 17 comes up
                                refine OV.storeE 3 (k) ((spO (d.hs.getD k thK.d) n A2 c2)) (j := 6) [_] I46 rfl rfl rfl rfl rfl rfl (by omega) rfl (Nat.le_of_ble_eq_true rfl) gno ?_
                                refine KV.sel [0, 0, 0, 0, 0, 0] [_, _, _, _, _, _] rfl ?_
                                refine KV.heap (fun w h => Hp.unfocus (L := [_, _, _, _, _]) (k := 4) (h' := (spO (d.hs.getD k thK.d) n A2 c2)) h rfl hk) ?_
                                refine AV.next #[true, true, true, true, true, true, true, true, true, true, true, true, true, true, true, true, true, true] (by kernel_rfl) (fun _ h => h.sel [0] rfl) ?_
                                refine AV.done (by kernel_rfl) ?_
                                refine KV.block_n ?_
                                refine KV.then_n ?_
                                refine KV.env [(4, _), (8, _)] ⟨rfl, rfl, trivial⟩ ?_
                                refine KV.sel [0, 0, 0, 0, 0] [_, _, _, _, _] rfl ?_
                                (first | exact KV.join (d.hs.set k (spF (d.hs.getD k thK.d) n)) ⟨rfl, rfl, trivial⟩ (fun _ h => by first | exact h | (rw [List.length_set]; exact Hp.spl h rfl) | (rw [List.length_set]; exact h)) | exact KV.join (d.hs.set k (spT (d.hs.getD k thK.d) n)) ⟨rfl, rfl, trivial⟩ (fun _ h => by first | exact h | (rw [List.length_set]; exact Hp.spl h rfl) | (rw [List.length_set]; exact h)) | exact KV.join (d.hs.set k (spE (d.hs.getD k thK.d) text)) ⟨rfl, rfl, trivial⟩ (fun _ h => by first | exact h | (rw [List.length_set]; exact Hp.spl h rfl) | (rw [List.length_set]; exact h)) | exact KV.join (d.hs.set k (spG (d.hs.getD k thK.d))) ⟨rfl, rfl, trivial⟩ (fun _ h => by first | exact h | (rw [List.length_set]; exact Hp.spl h rfl) | (rw [List.length_set]; exact h)) | exact KV.join (d.hs.set k (spO (d.hs.getD k thK.d) n A2 c2)) ⟨rfl, rfl, trivial⟩ (fun _ h => by first | exact h | (rw [List.length_set]; exact Hp.spl h rfl) | (rw [List.length_set]; exact h)) | exact KV.join (d.hs) ⟨rfl, rfl, trivial⟩ (fun _ h => by first | exact h | (rw [List.length_set]; exact Hp.spl h rfl) | (rw [List.length_set]; exact h)))
                    · -- 10 comes up
                      refine OV.callP Tryd.func14 B14 N14 rfl (mod_fn n 3 (by omega) (by omega)) gno rfl ?_
                      refine AV.next #[true, true, true, true, true, true, true, true, false, true, true, false, false, false, false, false, false, false] (by kernel_rfl) (fun _ h => h.sel [0] rfl) ?_
                      refine AV.take 11 #[true, true, true, true, true, true, true, true, false, true, true, true, false, false, false, false, false, false] rfl (by kernel_rfl) (by kernel_rfl) (by kernel_rfl) (fun _ _ _ h => h) gno (Step.convI Tryd.underlying3 Tryd.underlying51 rfl (wU64 (by have := modM_lt n (n := 3) (by decide); omega) (by have := modM_lt n (n := 3) (by decide); omega))) rfl (fun _ h => h.sel [0] rfl) (by kernel_rfl) ?_
                      refine AV.take 12 #[true, true, true, true, true, true, true, true, false, true, true, true, true, false, false, false, false, false] rfl (by kernel_rfl) (by kernel_rfl) (by kernel_rfl) (fun _ _ _ h => h) gno (Step.build rfl (Bd71_2 _)) rfl (fun _ h => h.sel [0] rfl) (by kernel_rfl) ?_
                      refine AV.all [8, 13] (by kernel_rfl) (by decide) ?_
                      refine ⟨⟨_, rfl, ?_⟩, ⟨⟨_, rfl, ?_⟩, trivial⟩⟩
                      · -- 8 comes up
                        refine OV.step gno (Step.load Tryd.underlying46 rfl rfl (fun w h => (h.os 3 rfl).cell (by omega) rfl)) rfl ?_
                        refine AV.next #[true, true, true, true, true, true, true, true, true, true, true, true, true, false, false, false, false, false] (by kernel_rfl) (fun _ h => h.sel [0] rfl) ?_
                        refine AV.all [13] (by kernel_rfl) (by decide) ?_
                        refine ⟨⟨_, rfl, ?_⟩, trivial⟩
                        · -- 13 comes up
                          refine OV.buildSlice (K := roK) ([(⟨false, 0, modM n 3⟩ : Ro)]) rfl (Bs46_1_0 _ _ _) rfl rfl (by omega) gno rfl (fun z => ?_)
                          refine AV.next #[true, true, true, true, true, true, true, true, true, true, true, true, true, true, false, false, false, false] (by kernel_rfl) (fun _ h => h.sel [0] rfl) ?_
                          refine AV.all [14] (by kernel_rfl) (by decide) ?_
                          refine ⟨⟨_, rfl, ?_⟩, trivial⟩
                          · -- 14 comes up
                            refine OV.append 4 Tryd.underlying46 I71 rfl rfl rfl rfl rfl rfl (fun w h => h.os 6 rfl) (by have := hl3 k hk; simp only [List.length_cons, List.length_nil]; omega) (by have := hl3 k hk; simp only [List.length_cons, List.length_nil]; omega) gno rfl (fun A2 c2 => ?_)
                            refine AV.next #[true, true, true, true, true, true, true, true, true, true, true, true, true, true, true, false, false, false] (by kernel_rfl) (fun _ h => h.sel [0] rfl) ?_
                            refine AV.all [15] (by kernel_rfl) (by decide) ?_
                            refine ⟨⟨_, rfl, ?_⟩, trivial⟩
                            · -- 15 comes up
                              refine OV.step gno (Step.idx Tryd.underlying24 I61 (fun w h => h.os 3 rfl) rfl rfl (rfl) _ rfl (by omega)) rfl ?_
                              refine AV.next #[true, true, true, true, true, true, true, true, true, true, true, true, true, true, true, true, false, false] (by kernel_rfl) (fun _ h => h.sel [0] rfl) ?_
                              refine AV.take 16 #[true, true, true, true, true, true, true, true, true, true, true, true, true, true, true, true, true, false] rfl (by kernel_rfl) (by kernel_rfl) (by kernel_rfl) (fun _ _ _ h => h) gno (Step.fieldAddr rfl (F61_3 _ _)) rfl (fun _ h => h.sel [0] rfl) (by kernel_rfl) ?_
                              refine AV.all [17] (by kernel_rfl) (by decide) ?_
                              refine ⟨⟨_, rfl, ?_⟩, trivial⟩
                              · -- 17 comes up
                                refine OV.storeE 3 (k) ((spO (d.hs.getD k thK.d) n A2 c2)) (j := 6) [_] I46 rfl rfl rfl rfl rfl rfl (by omega) rfl (Nat.le_of_ble_eq_true rfl) gno ?_
                                refine KV.sel [0, 0, 0, 0, 0, 0] [_, _, _, _, _, _] rfl ?_
                                refine KV.heap (fun w h => Hp.unfocus (L := [_, _, _, _, _]) (k := 4) (h' := (spO (d.hs.getD k thK.d) n A2 c2)) h rfl hk) ?_
                                refine AV.next #[true, true, true, true, true, true, true, true, true, true, true, true, true, true, true, true, true, true] (by kernel_rfl) (fun _ h => h.sel [0] rfl) ?_
                                refine AV.done (by kernel_rfl) ?_
                                refine KV.block_n ?_
                                refine KV.then_n ?_
                                refine KV.env [(4, _), (8, _)] ⟨rfl, rfl, trivial⟩ ?_
                                refine KV.sel [0, 0, 0, 0, 0] [_, _, _, _, _] rfl ?_
                                (first | exact KV.join (d.hs.set k (spF (d.hs.getD k thK.d) n)) ⟨rfl, rfl, trivial⟩ (fun _ h => by first | exact h | (rw [List.length_set]; exact Hp.spl h rfl) | (rw [List.length_set]; exact h)) | exact KV.join (d.hs.set k (spT (d.hs.getD k thK.d) n)) ⟨rfl, rfl, trivial⟩ (fun _ h => by first | exact h | (rw [List.length_set]; exact Hp.spl h rfl) | (rw [List.length_set]; exact h)) | exact KV.join (d.hs.set k (spE (d.hs.getD k thK.d) text)) ⟨rfl, rfl, trivial⟩ (fun _ h => by first | exact h | (rw [List.length_set]; exact Hp.spl h rfl) | (rw [List.length_set]; exact h)) | exact KV.join (d.hs.set k (spG (d.hs.getD k thK.d))) ⟨rfl, rfl, trivial⟩ (fun _ h => by first | exact h | (rw [List.length_set]; exact Hp.spl h rfl) | (rw [List.length_set]; exact h)) | exact KV.join (d.hs.set k (spO (d.hs.getD k thK.d) n A2 c2)) ⟨rfl, rfl, trivial⟩ (fun _ h => by first | exact h | (rw [List.length_set]; exact Hp.spl h rfl) | (rw [List.length_set]; exact h)) | exact KV.join (d.hs) ⟨rfl, rfl, trivial⟩ (fun _ h => by first | exact h | (rw [List.length_set]; exact Hp.spl h rfl) | (rw [List.length_set]; exact h)))
                      · -- 13 comes up
                        refine OV.buildSlice (K := roK) ([(⟨false, 0, modM n 3⟩ : Ro)]) rfl (Bs46_1_0 _ _ _) rfl rfl (by omega) gno rfl (fun z => ?_)
                        refine AV.next #[true, true, true, true, true, true, true, true, false, true, true, true, true, true, false, false, false, false] (by kernel_rfl) (fun _ h => h.sel [0] rfl) ?_
                        refine AV.all [8] (by kernel_rfl) (by decide) ?_
                        refine ⟨⟨_, rfl, ?_⟩, trivial⟩
                        · -- 8 comes up
                          refine OV.step gno (Step.load Tryd.underlying46 rfl rfl (fun w h => (h.os 3 rfl).cell (by omega) rfl)) rfl ?_
                          refine AV.next #[true, true, true, true, true, true, true, true, true, true, true, true, true, true, false, false, false, false] (by kernel_rfl) (fun _ h => h.sel [0] rfl) ?_
                          refine AV.all [14] (by kernel_rfl) (by decide) ?_
                          refine ⟨⟨_, rfl, ?_⟩, trivial⟩
                          · -- 14 comes up
                            refine OV.append 4 Tryd.underlying46 I71 rfl rfl rfl rfl rfl rfl (fun w h => h.os 6 rfl) (by have := hl3 k hk; simp only [List.length_cons, List.length_nil]; omega) (by have := hl3 k hk; simp only [List.length_cons, List.length_nil]; omega) gno rfl (fun A2 c2 => ?_)
                            refine AV.next #[true, true, true, true, true, true, true, true, true, true, true, true, true, true, true, false, false, false] (by kernel_rfl) (fun _ h => h.sel [0] rfl) ?_
                            refine AV.all [15] (by kernel_rfl) (by decide) ?_
                            refine ⟨⟨_, rfl, ?_⟩, trivial⟩
                            · -- 15 comes up
                              refine OV.step gno (Step.idx Tryd.underlying24 I61 (fun w h => h.os 3 rfl) rfl rfl (rfl) _ rfl (by omega)) rfl ?_
                              refine AV.next #[true, true, true, true, true, true, true, true, true, true, true, true, true, true, true, true, false, false] (by kernel_rfl) (fun _ h => h.sel [0] rfl) ?_
                              refine AV.take 16 #[true, true, true, true, true, true, true, true, true, true, true, true, true, true, true, true, true, false] rfl (by kernel_rfl) (by kernel_rfl) (by kernel_rfl) (fun _ _ _ h => h) gno (Step.fieldAddr rfl (F61_3 _ _)) rfl (fun _ h => h.sel [0] rfl) (by kernel_rfl) ?_
                              refine AV.all [17] (by kernel_rfl) (by decide) ?_
                              refine ⟨⟨_, rfl, ?_⟩, trivial⟩
                              · -- 17 comes up
                                refine OV.storeE 3 (k) ((spO (d.hs.getD k thK.d) n A2 c2)) (j := 6) [_] I46 rfl rfl rfl rfl rfl rfl (by omega) rfl (Nat.le_of_ble_eq_true rfl) gno ?_
                                refine KV.sel [0, 0, 0, 0, 0, 0] [_, _, _, _, _, _] rfl ?_
                                refine KV.heap (fun w h => Hp.unfocus (L := [_, _, _, _, _]) (k := 4) (h' := (spO (d.hs.getD k thK.d) n A2 c2)) h rfl hk) ?_
                                refine AV.next #[true, true, true, true, true, true, true, true, true, true, true, true, true, true, true, true, true, true] (by kernel_rfl) (fun _ h => h.sel [0] rfl) ?_
                                refine AV.done (by kernel_rfl) ?_
                                refine KV.block_n ?_
                                refine KV.then_n ?_
                                refine KV.env [(4, _), (8, _)] ⟨rfl, rfl, trivial⟩ ?_
                                refine KV.sel [0, 0, 0, 0, 0] [_, _, _, _, _] rfl ?_
                                (first | exact KV.join (d.hs.set k (spF (d.hs.getD k thK.d) n)) ⟨rfl, rfl, trivial⟩ (fun _ h => by first | exact h | (rw [List.length_set]; exact Hp.spl h rfl) | (rw [List.length_set]; exact h)) | exact KV.join (d.hs.set k (spT (d.hs.getD k thK.d) n)) ⟨rfl, rfl, trivial⟩ (fun _ h => by first | exact h | (rw [List.length_set]; exact Hp.spl h rfl) | (rw [List.length_set]; exact h)) | exact KV.join (d.hs.set k (spE (d.hs.getD k thK.d) text)) ⟨rfl, rfl, trivial⟩ (fun _ h => by first | exact h | (rw [List.length_set]; exact Hp.spl h rfl) | (rw [List.length_set]; exact h)) | exact KV.join (d.hs.set k (spG (d.hs.getD k thK.d))) ⟨rfl, rfl, trivial⟩ (fun _ h => by first | exact h | (rw [List.length_set]; exact Hp.spl h rfl) | (rw [List.length_set]; exact h)) | exact KV.join (d.hs.set k (spO (d.hs.getD k thK.d) n A2 c2)) ⟨rfl, rfl, trivial⟩ (fun _ h => by first | exact h | (rw [List.length_set]; exact Hp.spl h rfl) | (rw [List.length_set]; exact h)) | exact KV.join (d.hs) ⟨rfl, rfl, trivial⟩ (fun _ h => by first | exact h | (rw [List.length_set]; exact Hp.spl h rfl) | (rw [List.length_set]; exact h)))
                  · -- 10 comes up
                    refine OV.callP Tryd.func14 B14 N14 rfl (mod_fn n 3 (by omega) (by omega)) gno rfl ?_
                    refine AV.next #[true, true, true, true, true, true, false, false, false, true, true, false, false, false, false, false, false, false] (by kernel_rfl) (fun _ h => h.sel [0] rfl) ?_
                    refine AV.take 11 #[true, true, true, true, true, true, false, false, false, true, true, true, false, false, false, false, false, false] rfl (by kernel_rfl) (by kernel_rfl) (by kernel_rfl) (fun _ _ _ h => h) gno (Step.convI Tryd.underlying3 Tryd.underlying51 rfl (wU64 (by have := modM_lt n (n := 3) (by decide); omega) (by have := modM_lt n (n := 3) (by decide); omega))) rfl (fun _ h => h.sel [0] rfl) (by kernel_rfl) ?_
                    refine AV.take 12 #[true, true, true, true, true, true, false, false, false, true, true, true, true, false, false, false, false, false] rfl (by kernel_rfl) (by kernel_rfl) (by kernel_rfl) (fun _ _ _ h => h) gno (Step.build rfl (Bd71_2 _)) rfl (fun _ h => h.sel [0] rfl) (by kernel_rfl) ?_
                    refine AV.all [6, 13] (by kernel_rfl) (by decide) ?_
                    refine ⟨⟨_, rfl, ?_⟩, ⟨⟨_, rfl, ?_⟩, trivial⟩⟩
                    · -- 6 comes up
                      refine OV.step gno (Step.idx Tryd.underlying24 I61 (fun w h => h.os 3 rfl) rfl rfl (rfl) _ rfl (by omega)) rfl ?_
                      refine AV.next #[true, true, true, true, true, true, true, false, false, true, true, true, true, false, false, false, false, false] (by kernel_rfl) (fun _ h => h.sel [0] rfl) ?_
                      refine AV.take 7 #[true, true, true, true, true, true, true, true, false, true, true, true, true, false, false, false, false, false] rfl (by kernel_rfl) (by kernel_rfl) (by kernel_rfl) (fun _ _ _ h => h) gno (Step.fieldAddr rfl (F61_3 _ _)) rfl (fun _ h => h.sel [0] rfl) (by kernel_rfl) ?_
                      refine AV.all [8, 13] (by kernel_rfl) (by decide) ?_
                      refine ⟨⟨_, rfl, ?_⟩, ⟨⟨_, rfl, ?_⟩, trivial⟩⟩
                      · -- 8 comes up
                        refine OV.step gno (Step.load Tryd.underlying46 rfl rfl (fun w h => (h.os 3 rfl).cell (by omega) rfl)) rfl ?_
                        refine AV.next #[true, true, true, true, true, true, true, true, true, true, true, true, true, false, false, false, false, false] (by kernel_rfl) (fun _ h => h.sel [0] rfl) ?_
                        refine AV.all [13] (by kernel_rfl) (by decide) ?_
                        refine ⟨⟨_, rfl, ?_⟩, trivial⟩
                        · -- 13 comes up
                          refine OV.buildSlice (K := roK) ([(⟨false, 0, modM n 3⟩ : Ro)]) rfl (Bs46_1_0 _ _ _) rfl rfl (by omega) gno rfl (fun z => ?_)
                          refine AV.next #[true, true, true, true, true, true, true, true, true, true, true, true, true, true, false, false, false, false] (by kernel_rfl) (fun _ h => h.sel [0] rfl) ?_
                          refine AV.all [14] (by kernel_rfl) (by decide) ?_
                          refine ⟨⟨_, rfl, ?_⟩, trivial⟩
                          · -- 14 comes up
                            refine OV.append 4 Tryd.underlying46 I71 rfl rfl rfl rfl rfl rfl (fun w h => h.os 6 rfl) (by have := hl3 k hk; simp only [List.length_cons, List.length_nil]; omega) (by have := hl3 k hk; simp only [List.length_cons, List.length_nil]; omega) gno rfl (fun A2 c2 => ?_)
                            refine AV.next #[true, true, true, true, true, true, true, true, true, true, true, true, true, true, true, false, false, false] (by kernel_rfl) (fun _ h => h.sel [0] rfl) ?_
                            refine AV.all [15] (by kernel_rfl) (by decide) ?_
                            refine ⟨⟨_, rfl, ?_⟩, trivial⟩
                            · -- 15 comes up
                              refine OV.step gno (Step.idx Tryd.underlying24 I61 (fun w h => h.os 3 rfl) rfl rfl (rfl) _ rfl (by omega)) rfl ?_
                              refine AV.next #[true, true, true, true, true, true, true, true, true, true, true, true, true, true, true, true, false, false] (by kernel_rfl) (fun _ h => h.sel [0] rfl) ?_
                              refine AV.take 16 #[true, true, true, true, true, true, true, true, true, true, true, true, true, true, true, true, true, false] rfl (by kernel_rfl) (by kernel_rfl) (by kernel_rfl) (fun _ _ _ h => h) gno (Step.fieldAddr rfl (F61_3 _ _)) rfl (fun _ h => h.sel [0] rfl) (by kernel_rfl) ?_
                              refine AV.all [17] (by kernel_rfl) (by decide) ?_
                              refine ⟨⟨_, rfl, ?_⟩, trivial⟩
                              · -- 17 comes up
                                refine OV.storeE 3 (k) ((spO (d.hs.getD k thK.d) n A2 c2)) (j := 6) [_] I46 rfl rfl rfl rfl rfl rfl (by omega) rfl (Nat.le_of_ble_eq_true rfl) gno ?_
                                refine KV.sel [0, 0, 0, 0, 0, 0] [_, _, _, _, _, _] rfl ?_
                                refine KV.heap (fun w h => Hp.unfocus (L := [_, _, _, _, _]) (k := 4) (h' := (spO (d.hs.getD k thK.d) n A2 c2)) h rfl hk) ?_
                                refine AV.next #[true, true, true, true, true, true, true, true, true, true, true, true, true, true, true, true, true, true] (by kernel_rfl) (fun _ h => h.sel [0] rfl) ?_
                                refine AV.done (by kernel_rfl) ?_
                                refine KV.block_n ?_
                                refine KV.then_n ?_
                                refine KV.env [(4, _), (8, _)] ⟨rfl, rfl, trivial⟩ ?_
                                refine KV.sel [0, 0, 0, 0, 0] [_, _, _, _, _] rfl ?_
                                (first | exact KV.join (d.hs.set k (spF (d.hs.getD k thK.d) n)) ⟨rfl, rfl, trivial⟩ (fun _ h => by first | exact h | (rw [List.length_set]; exact Hp.spl h rfl) | (rw [List.length_set]; exact h)) | exact KV.join (d.hs.set k (spT (d.hs.getD k thK.d) n)) ⟨rfl, rfl, trivial⟩ (fun _ h => by first | exact h | (rw [List.length_set]; exact Hp.spl h rfl) | (rw [List.length_set]; exact h)) | exact KV.join (d.hs.set k (spE (d.hs.getD k thK.d) text)) ⟨rfl, rfl, trivial⟩ (fun _ h => by first | exact h | (rw [List.length_set]; exact Hp.spl h rfl) | (rw [List.length_set]; exact h)) | exact KV.join (d.hs.set k (spG (d.hs.getD k thK.d))) ⟨rfl, rfl, trivial⟩ (fun _ h => by first | exact h | (rw [List.length_set]; exact Hp.spl h rfl) | (rw [List.length_set]; exact h)) | exact KV.join (d.hs.set k (spO (d.hs.getD k thK.d) n A2 c2)) ⟨rfl, rfl, trivial⟩ (fun _ h => by first | exact h | (rw [List.length_set]; exact Hp.spl h rfl) | (rw [List.length_set]; exact h)) | exact KV.join (d.hs) ⟨rfl, rfl, trivial⟩ (fun _ h => by first | exact h | (rw [List.length_set]; exact Hp.spl h rfl) | (rw [List.length_set]; exact h)))
                      · -- 13 comes up
                        refine OV.buildSlice (K := roK) ([(⟨false, 0, modM n 3⟩ : Ro)]) rfl (Bs46_1_0 _ _ _) rfl rfl (by omega) gno rfl (fun z => ?_)
                        refine AV.next #[true, true, true, true, true, true, true, true, false, true, true, true, true, true, false, false, false, false] (by kernel_rfl) (fun _ h => h.sel [0] rfl) ?_
                        refine AV.all [8] (by kernel_rfl) (by decide) ?_
                        refine ⟨⟨_, rfl, ?_⟩, trivial⟩
                        · -- 8 comes up
                          refine OV.step gno (Step.load Tryd.underlying46 rfl rfl (fun w h => (h.os 3 rfl).cell (by omega) rfl)) rfl ?_
                          refine AV.next #[true, true, true, true, true, true, true, true, true, true, true, true, true, true, false, false, false, false] (by kernel_rfl) (fun _ h => h.sel [0] rfl) ?_
                          refine AV.all [14] (by kernel_rfl) (by decide) ?_
                          refine ⟨⟨_, rfl, ?_⟩, trivial⟩
                          · -- 14 comes up
                            refine OV.append 4 Tryd.underlying46 I71 rfl rfl rfl rfl rfl rfl (fun w h => h.os 6 rfl) (by have := hl3 k hk; simp only [List.length_cons, List.length_nil]; omega) (by have := hl3 k hk; simp only [List.length_cons, List.length_nil]; omega) gno rfl (fun A2 c2 => ?_)
                            refine AV.next #[true, true, true, true, true, true, true, true, true, true, true, true, true, true, true, false, false, false] (by kernel_rfl) (fun _ h => h.sel [0] rfl) ?_
                            refine AV.all [15] (by kernel_rfl) (by decide) ?_
                            refine ⟨⟨_, rfl, ?_⟩, trivial⟩
                            · -- 15 comes up
                              refine OV.step gno (Step.idx Tryd.underlying24 I61 (fun w h => h.os 3 rfl) rfl rfl (rfl) _ rfl (by omega)) rfl ?_
                              refine AV.next #[true, true, true, true, true, true, true, true, true, true, true, true, true, true, true, true, false, false] (by kernel_rfl) (fun _ h => h.sel [0] rfl) ?_
                              refine AV.take 16 #[true, true, true, true, true, true, true, true, true, true, true, true, true, true, true, true, true, false] rfl (by kernel_rfl) (by kernel_rfl) (by kernel_rfl) (fun _ _ _ h => h) gno (Step.fieldAddr rfl (F61_3 _ _)) rfl (fun _ h => h.sel [0] rfl) (by kernel_rfl) ?_
                              refine AV.all [17] (by kernel_rfl) (by decide) ?_
                              refine ⟨⟨_, rfl, ?_⟩, trivial⟩
                              · -- 17 comes up
                                refine OV.storeE 3 (k) ((spO (d.hs.getD k thK.d) n A2 c2)) (j := 6) [_] I46 rfl rfl rfl rfl rfl rfl (by omega) rfl (Nat.le_of_ble_eq_true rfl) gno ?_
                                refine KV.sel [0, 0, 0, 0, 0, 0] [_, _, _, _, _, _] rfl ?_
                                refine KV.heap (fun w h => Hp.unfocus (L := [_, _, _, _, _]) (k := 4) (h' := (spO (d.hs.getD k thK.d) n A2 c2)) h rfl hk) ?_
                                refine AV.next #[true, true, true, true, true, true, true, true, true, true, true, true, true, true, true, true, true, true] (by kernel_rfl) (fun _ h => h.sel [0] rfl) ?_
                                refine AV.done (by kernel_rfl) ?_
                                refine KV.block_n ?_
                                refine KV.then_n ?_
                                refine KV.env [(4, _), (8, _)] ⟨rfl, rfl, trivial⟩ ?_
                                refine KV.sel [0, 0, 0, 0, 0] [_, _, _, _, _] rfl ?_
                                (first | exact KV.join (d.hs.set k (spF (d.hs.getD k thK.d) n)) ⟨rfl, rfl, trivial⟩ (fun _ h => by first | exact h | (rw [List.length_set]; exact Hp.spl h rfl) | (rw [List.length_set]; exact h)) | exact KV.join (d.hs.set k (spT (d.hs.getD k thK.d) n)) ⟨rfl, rfl, trivial⟩ (fun _ h => by first | exact h | (rw [List.length_set]; exact Hp.spl h rfl) | (rw [List.length_set]; exact h)) | exact KV.join (d.hs.set k (spE (d.hs.getD k thK.d) text)) ⟨rfl, rfl, trivial⟩ (fun _ h => by first | exact h | (rw [List.length_set]; exact Hp.spl h rfl) | (rw [List.length_set]; exact h)) | exact KV.join (d.hs.set k (spG (d.hs.getD k thK.d))) ⟨rfl, rfl, trivial⟩ (fun _ h => by first | exact h | (rw [List.length_set]; exact Hp.spl h rfl) | (rw [List.length_set]; exact h)) | exact KV.join (d.hs.set k (spO (d.hs.getD k thK.d) n A2 c2)) ⟨rfl, rfl, trivial⟩ (fun _ h => by first | exact h | (rw [List.length_set]; exact Hp.spl h rfl) | (rw [List.length_set]; exact h)) | exact KV.join (d.hs) ⟨rfl, rfl, trivial⟩ (fun _ h => by first | exact h | (rw [List.length_set]; exact Hp.spl h rfl) | (rw [List.length_set]; exact h)))
                    · -- 13 comes up
                      refine OV.buildSlice (K := roK) ([(⟨false, 0, modM n 3⟩ : Ro)]) rfl (Bs46_1_0 _ _ _) rfl rfl (by omega) gno rfl (fun z => ?_)
                      refine AV.next #[true, true, true, true, true, true, false, false, false, true, true, true, true, true, false, false, false, false] (by kernel_rfl) (fun _ h => h.sel [0] rfl) ?_
                      refine AV.all [6] (by kernel_rfl) (by decide) ?_
                      refine ⟨⟨_, rfl, ?_⟩, trivial⟩
                      · -- 6 comes up
                        refine OV.step gno (Step.idx Tryd.underlying24 I61 (fun w h => h.os 3 rfl) rfl rfl (rfl) _ rfl (by omega)) rfl ?_
                        refine AV.next #[true, true, true, true, true, true, true, false, false, true, true, true, true, true, false, false, false, false] (by kernel_rfl) (fun _ h => h.sel [0] rfl) ?_
                        refine AV.take 7 #[true, true, true, true, true, true, true, true, false, true, true, true, true, true, false, false, false, false] rfl (by kernel_rfl) (by kernel_rfl) (by kernel_rfl) (fun _ _ _ h => h) gno (Step.fieldAddr rfl (F61_3 _ _)) rfl (fun _ h => h.sel [0] rfl) (by kernel_rfl) ?_
                        refine AV.all [8] (by kernel_rfl) (by decide) ?_
                        refine ⟨⟨_, rfl, ?_⟩, trivial⟩
                        · -- 8 comes up
                          refine OV.step gno (Step.load Tryd.underlying46 rfl rfl (fun w h => (h.os 3 rfl).cell (by omega) rfl)) rfl ?_
                          refine AV.next #[true, true, true, true, true, true, true, true, true, true, true, true, true, true, false, false, false, false] (by kernel_rfl) (fun _ h => h.sel [0] rfl) ?_
                          refine AV.all [14] (by kernel_rfl) (by decide) ?_
                          refine ⟨⟨_, rfl, ?_⟩, trivial⟩
                          · -- 14 comes up
                            refine OV.append 4 Tryd.underlying46 I71 rfl rfl rfl rfl rfl rfl (fun w h => h.os 6 rfl) (by have := hl3 k hk; simp only [List.length_cons, List.length_nil]; omega) (by have := hl3 k hk; simp only [List.length_cons, List.length_nil]; omega) gno rfl (fun A2 c2 => ?_)
                            refine AV.next #[true, true, true, true, true, true, true, true, true, true, true, true, true, true, true, false, false, false] (by kernel_rfl) (fun _ h => h.sel [0] rfl) ?_
                            refine AV.all [15] (by kernel_rfl) (by decide) ?_
                            refine ⟨⟨_, rfl, ?_⟩, trivial⟩
                            · -- 15 comes up
                              refine OV.step gno (Step.idx Tryd.underlying24 I61 (fun w h => h.os 3 rfl) rfl rfl (rfl) _ rfl (by omega)) rfl ?_
                              refine AV.next #[true, true, true, true, true, true, true, true, true, true, true, true, true, true, true, true, false, false] (by kernel_rfl) (fun _ h => h.sel [0] rfl) ?_
                              refine AV.take 16 #[true, true, true, true, true, true, true, true, true, true, true, true, true, true, true, true, true, false] rfl (by kernel_rfl) (by kernel_rfl) (by kernel_rfl) (fun _ _ _ h => h) gno (Step.fieldAddr rfl (F61_3 _ _)) rfl (fun _ h => h.sel [0] rfl) (by kernel_rfl) ?_
                              refine AV.all [17] (by kernel_rfl) (by decide) ?_
                              refine ⟨⟨_, rfl, ?_⟩, trivial⟩
                              · -- 17 comes up
                                refine OV.storeE 3 (k) ((spO (d.hs.getD k thK.d) n A2 c2)) (j := 6) [_] I46 rfl rfl rfl rfl rfl rfl (by omega) rfl (Nat.le_of_ble_eq_true rfl) gno ?_
                                refine KV.sel [0, 0, 0, 0, 0, 0] [_, _, _, _, _, _] rfl ?_
                                refine KV.heap (fun w h => Hp.unfocus (L := [_, _, _, _, _]) (k := 4) (h' := (spO (d.hs.getD k thK.d) n A2 c2)) h rfl hk) ?_
                                refine AV.next #[true, true, true, true, true, true, true, true, true, true, true, true, true, true, true, true, true, true] (by kernel_rfl) (fun _ h => h.sel [0] rfl) ?_
                                refine AV.done (by kernel_rfl) ?_
                                refine KV.block_n ?_
                                refine KV.then_n ?_
                                refine KV.env [(4, _), (8, _)] ⟨rfl, rfl, trivial⟩ ?_
                                refine KV.sel [0, 0, 0, 0, 0] [_, _, _, _, _] rfl ?_
                                (first | exact KV.join (d.hs.set k (spF (d.hs.getD k thK.d) n)) ⟨rfl, rfl, trivial⟩ (fun _ h => by first | exact h | (rw [List.length_set]; exact Hp.spl h rfl) | (rw [List.length_set]; exact h)) | exact KV.join (d.hs.set k (spT (d.hs.getD k thK.d) n)) ⟨rfl, rfl, trivial⟩ (fun _ h => by first | exact h | (rw [List.length_set]; exact Hp.spl h rfl) | (rw [List.length_set]; exact h)) | exact KV.join (d.hs.set k (spE (d.hs.getD k thK.d) text)) ⟨rfl, rfl, trivial⟩ (fun _ h => by first | exact h | (rw [List.length_set]; exact Hp.spl h rfl) | (rw [List.length_set]; exact h)) | exact KV.join (d.hs.set k (spG (d.hs.getD k thK.d))) ⟨rfl, rfl, trivial⟩ (fun _ h => by first | exact h | (rw [List.length_set]; exact Hp.spl h rfl) | (rw [List.length_set]; exact h)) | exact KV.join (d.hs.set k (spO (d.hs.getD k thK.d) n A2 c2)) ⟨rfl, rfl, trivial⟩ (fun _ h => by first | exact h | (rw [List.length_set]; exact Hp.spl h rfl) | (rw [List.length_set]; exact h)) | exact KV.join (d.hs) ⟨rfl, rfl, trivial⟩ (fun _ h => by first | exact h | (rw [List.length_set]; exact Hp.spl h rfl) | (rw [List.length_set]; exact h)))
                · -- False
                  refine RV.op (OV.step gno (Step.assign rfl) rfl ?_)
                  refine RV.nil ?_
                  refine KV.then_n ?_
                  refine KV.env [(2, _), (4, _), (8, _), (10, _), (85, _)] ⟨rfl, rfl, rfl, rfl, rfl, trivial⟩ ?_
                  refine CV.cond_f rfl ?_
                  refine CV.skip ?_
                  refine KV.block_n ?_
                  refine KV.then_n ?_
                  refine KV.env [(4, _), (8, _)] ⟨rfl, rfl, trivial⟩ ?_
                  refine KV.sel [0, 0, 0, 0, 0] [_, _, _, _, _] rfl ?_
                  (first | exact KV.join (d.hs.set k (spF (d.hs.getD k thK.d) n)) ⟨rfl, rfl, trivial⟩ (fun _ h => by first | exact h | (rw [List.length_set]; exact Hp.spl h rfl) | (rw [List.length_set]; exact h)) | exact KV.join (d.hs.set k (spT (d.hs.getD k thK.d) n)) ⟨rfl, rfl, trivial⟩ (fun _ h => by first | exact h | (rw [List.length_set]; exact Hp.spl h rfl) | (rw [List.length_set]; exact h)) | exact KV.join (d.hs.set k (spE (d.hs.getD k thK.d) text)) ⟨rfl, rfl, trivial⟩ (fun _ h => by first | exact h | (rw [List.length_set]; exact Hp.spl h rfl) | (rw [List.length_set]; exact h)) | exact KV.join (d.hs.set k (spG (d.hs.getD k thK.d))) ⟨rfl, rfl, trivial⟩ (fun _ h => by first | exact h | (rw [List.length_set]; exact Hp.spl h rfl) | (rw [List.length_set]; exact h)) | exact KV.join (d.hs.set k (spO (d.hs.getD k thK.d) n A2 c2)) ⟨rfl, rfl, trivial⟩ (fun _ h => by first | exact h | (rw [List.length_set]; exact Hp.spl h rfl) | (rw [List.length_set]; exact h)) | exact KV.join (d.hs) ⟨rfl, rfl, trivial⟩ (fun _ h => by first | exact h | (rw [List.length_set]; exact Hp.spl h rfl) | (rw [List.length_set]; exact h)))
      · intro H
        refine CV.seq ?_
        -- region 23 law.go:114
        refine CV.region ?_
        refine RV.op (OV.step gno (Step.loadN _ Tryd.underlying26 rfl I26 rfl rfl (fun w h => h.cells 0 rfl)) rfl ?_)
        refine RV.op (OV.store 1 [_, _, _] #[_, _, _] I26 rfl rfl rfl rfl rfl (Nat.le_of_ble_eq_true rfl) (by simp [Value.oneCell']) rfl gno ?_)
        refine RV.nil ?_
        refine KV.then_n ?_
        refine KV.env [(8, _)] ⟨rfl, trivial⟩ ?_
        refine CV.ret ?_
        -- return at r23
        refine KV.sel [1, 1, 1, 1] [_, _, _, _] rfl ?_
        exact KV.retC1 [_, _, _] rfl rfl Tryd.underlying26 rfl I26 rfl (fun w h => h.cells 0 rfl) _ (fun _ h => h.sel [1, 1, 1] rfl) ⟨⟨nm, sA, sc, ss, d.tA, d.tc, H⟩, rfl, rfl⟩
end Go.Proofs.YtplmfekhdaefaaaDoor
