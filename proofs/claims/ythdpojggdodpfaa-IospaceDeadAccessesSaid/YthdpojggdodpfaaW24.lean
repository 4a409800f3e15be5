/-
  Walks, part 24.
-/
import Derived.Test.YthdpojggdodpfaaTabs
import Derived.Test.YthdpojggdodpfaaW22
import Derived.Test.YthdpojggdodpfaaPlB
set_option linter.unusedSimpArgs false
set_option linter.unusedVariables false
namespace Go.Proofs.Ythdpojggdodpfaa
open Go.Sv Go.Ios
theorem Bd56y (w : World) : (Instr.build 56 [].toArray).run Try.prog w = .ok (.agg (rbC rb0).toArray) w := by kernel_rfl
set_option maxRecDepth 100000 in
set_option maxHeartbeats 8000000 in
theorem dead_fn {B : Option Addr} {m d : Nat} {l : List Ios.Op} {w : World} (hb : RS w opK B l) (hm : m = l.length) (hy : ∀ i, okO (l.getD i opK.d)) (o : Ios.Op) (ho : okO o) : Fx Try.prog 7 [.slice B m d, .agg #[.int .i64 o.kind, .int .i64 o.space, .int .u64 o.addr, .int .u64 o.len, .int .i64 o.width, .int .i64 o.own, .bool o.wr, .int .u64 o.val, .bool o.raw]] w [] no (fun v L => v = .bool true ∧ L = []) := by
  subst hm
  refine Sv.Fx.body Try.func7 rfl T7 rfl ?_
  intro I hro hI
  refine KV.env [(0, _), (1, _)] ⟨rfl, rfl, trivial⟩ ?_
  refine CV.seq ?_
  -- region 0 law.go:104
  refine CV.region ?_
  refine RV.op (OV.box (t := 43) #[_, _, _, _, _, _, _, _, _] rfl rfl gno rfl (fun bo => ?_))
  refine RV.op (OV.step gno (Step.assign rfl) rfl ?_)
  refine RV.nil ?_
  refine KV.then_n ?_
  refine KV.env [(0, _), (3, _)] ⟨rfl, rfl, trivial⟩ ?_
  refine CV.seq ?_
  -- region 1 law.go:105
  refine CV.region ?_
  refine RV.op (OV.call [] (F := [_]) Try.func8 B8 N8 rfl rfl (fun w h => new_fn) (fun _ hb => hb.elim) gno rfl (fun v L' hp => ?_))
  obtain ⟨b, rfl, rfl⟩ := hp
  refine RV.op (OV.step gno (Step.build rfl Bd56y) rfl ?_)
  refine RV.op (OV.box (t := 56) (rbC rb0).toArray rfl rfl gno rfl (fun c => ?_))
  refine KV.heap (fun w h => (((h.nilOS (e := 94) (K := rhK)).newBig 0 rhK.d (F := rhA) OS.emp).nilOS (e := 97) (K := fltK)).nilOS (e := 63) (K := trcK)) ?_
  refine RV.op (OV.step gno (Step.build rfl (Bd58_0_1 _ _)) rfl ?_)
  refine RV.op (OV.alloc #[.pointer none, .pointer none] I58 rfl gno rfl (fun bp => ?_))
  refine RV.op (OV.store 10 [_, _] #[_, _] I58 rfl rfl rfl rfl rfl (Nat.le_of_ble_eq_true rfl) (by simp [Value.oneCell']) rfl gno ?_)
  refine RV.nil ?_
  refine KV.then_n ?_
  refine KV.env [(0, _), (3, _), (5, _)] ⟨rfl, rfl, rfl, trivial⟩ ?_
  refine CV.seq ?_
  refine CV.seq ?_
  -- region 2 law.go:106
  refine CV.region ?_
  refine RV.op (OV.call [] (F := [_, _, _, _, _, _, _, _, _, _, _]) Try.func9 B9 N9 rfl rfl (fun w h => awake_fn) (fun _ hb => hb.elim) gno rfl (fun v L' hp => ?_))
  obtain ⟨rfl, rfl⟩ := hp
  simp only [List.append_nil]
  refine RV.op (OV.step gno (Step.not rfl) rfl ?_)
  refine RV.nil ?_
  refine KV.then_n ?_
  refine KV.env [(0, _), (3, _), (5, _), (24, _)] ⟨rfl, rfl, rfl, rfl, trivial⟩ ?_
  refine CV.cond_f rfl ?_
  refine CV.skip ?_
  refine KV.then_n ?_
  refine KV.env [(0, _), (3, _), (5, _)] ⟨rfl, rfl, rfl, trivial⟩ ?_
  refine CV.seq ?_
  refine CV.seq ?_
  -- region 4 law.go:109
  refine CV.region ?_
  refine RV.op (OV.step gno (Step.assign rfl) rfl ?_)
  refine RV.nil ?_
  refine KV.then_n ?_
  refine KV.env [(0, _), (3, _), (5, _), (6, _)] ⟨rfl, rfl, rfl, rfl, trivial⟩ ?_
  refine CV.block ?_
  -- loop L5; live [0, 3, 5, 6]
  refine KV.sel [0, 0, 0, 0, 0, 0, 0, 0, 0, 0, 0] [_, _, _, _, _, _, _, _, _, _, _] rfl ?_
  refine CV.loop3 (fun (j : Nat) (s : BS) (r : RB) => (j ≤ l.length ∧ j ≤ 40) ∧ Rel s r j) (fun (j : Nat) (s : BS) (r : RB) => 40 - j) (fun (j : Nat) (s : BS) (r : RB) => [(0, .slice B l.length d), (3, .pointer (some ⟨bo, 0, none⟩)), (5, .pointer (some ⟨bp, 0, none⟩)), (6, .int .i64 j)]) (fun (j : Nat) (s : BS) (r : RB) => Hp I w (Blk bo (.cells #[.int .i64 o.kind, .int .i64 o.space, .int .u64 o.addr, .int .u64 o.len, .int .i64 o.width, .int .i64 o.own, .bool o.wr, .int .u64 o.val, .bool o.raw] 43 (0, 0)) :: (busL b s ++ (rbL c r ++ [Blk bp (.cells #[.pointer (some ⟨b, 0, none⟩), .pointer (some ⟨c, 0, none⟩)] 58 (0, 0))])))) (0) (bs0) (rb0) ⟨⟨Nat.zero_le _, Nat.zero_le _⟩, Rel.start⟩ ⟨rfl, rfl, rfl, rfl, trivial⟩ (fun _ h => h) ?_
  intro j s r hinv
  refine CV.seq ?_
  refine CV.seq ?_
  -- region 5 law.go:109
  refine CV.region ?_
  refine RV.op (OV.step gno (Step.move rfl) rfl ?_)
  refine RV.op (OV.step gno (Step.move rfl) rfl ?_)
  refine RV.op (OV.step gno (Step.lenSl Try.underlying40 rfl) rfl ?_)
  refine RV.op (OV.split gno (Step.lss rfl rfl) rfl (fun hj1 => ?_) (fun hj1 => ?_))
  · -- True
    refine RV.op (OV.step gno (Step.move rfl) rfl ?_)
    refine RV.op (OV.step (gyes rfl) (Step.move rfl) rfl ?_)
    refine RV.op (OV.split (gyes rfl) (Step.lss rfl rfl) rfl (fun hj2 => ?_) (fun hj2 => ?_))
    · -- True
      refine RV.op (OV.step gno (Step.pick_t rfl rfl) rfl ?_)
      refine RV.nil ?_
      refine KV.then_n ?_
      refine KV.env [(0, _), (3, _), (5, _), (6, _), (32, _)] ⟨rfl, rfl, rfl, rfl, rfl, trivial⟩ ?_
      refine CV.cond_t rfl ?_
      refine CV.skip ?_
      refine KV.then_n ?_
      refine KV.env [(0, _), (3, _), (5, _), (6, _)] ⟨rfl, rfl, rfl, rfl, trivial⟩ ?_
      refine CV.seq ?_
      refine CV.block ?_
      refine CV.seq ?_
      -- region 7 law.go:110
      refine CV.region ?_
      refine RV.op (OV.step gno (Step.move rfl) rfl ?_)
      refine RV.op (OV.step gno (Step.move rfl) rfl ?_)
      refine RV.op (OV.step gno (Step.idx Try.underlying40 I43 (fun w h => h.rs hb (fun _ => hI _)) rfl rfl (rfl) _ rfl (by first | omega | (show q < 4; omega) | (show 0 < 1; omega))) rfl ?_)
      refine RV.op (OV.step gno (Step.loadN _ Try.underlying43 rfl I43 rfl rfl (fun w h => (h.rs hb (fun _ => hI _)).cells (by omega))) rfl ?_)
      refine RV.op (OV.call [] (F := [_, _, _, _, _, _, _, _, _, _, _]) Try.func19 B19 N19 rfl rfl (fun w h => some_fn (l.getD j opK.d) (hy j)) (fun _ hb => hb.elim) gno rfl (fun v L' hp => ?_))
      obtain ⟨o2, ho2, rfl, rfl⟩ := hp
      simp only [List.append_nil]
      refine RV.op (OV.alloc #[.int .i64 0, .int .i64 0, .int .u64 0, .int .u64 0, .int .i64 0, .int .i64 0, .bool false, .int .u64 0, .bool false] I43 rfl gno rfl (fun bx => ?_))
      refine RV.op (OV.store 11 [_, _, _, _, _, _, _, _, _] #[_, _, _, _, _, _, _, _, _] I43 rfl rfl rfl rfl rfl (Nat.le_of_ble_eq_true rfl) (by simp [Value.oneCell']) rfl gno ?_)
      refine RV.nil ?_
      refine KV.then_n ?_
      refine KV.env [(0, _), (3, _), (5, _), (6, _), (7, _)] ⟨rfl, rfl, rfl, rfl, rfl, trivial⟩ ?_
      -- region 8 law.go:111
      refine CV.region ?_
      refine RV.op (OV.step gno (Step.loadN _ Try.underlying58 rfl I58 rfl rfl (fun w h => h.cells 10 rfl)) rfl ?_)
      refine RV.op (OV.step gno (Step.loadN _ Try.underlying43 rfl I43 rfl rfl (fun w h => h.cells 11 rfl)) rfl ?_)
      refine RV.op (OV.call [1, 1, 1, 1, 1, 1, 1, 1, 1] (F := [_, _, _]) Try.func18 B18 N18 rfl rfl (fun w h => apply_fn b c s r j hinv.2 (by omega) o2 ho2) (fun _ hb => hb.elim) gno rfl (fun v L' hp => ?_))
      obtain ⟨rfl, s2, r2, R2, rfl⟩ := hp
      refine RV.nil ?_
      refine KV.block_n ?_
      refine KV.then_n ?_
      refine KV.env [(0, _), (3, _), (5, _), (6, _)] ⟨rfl, rfl, rfl, rfl, trivial⟩ ?_
      -- region 6 law.go:109
      refine CV.region ?_
      refine RV.op (OV.step gno (Step.move rfl) rfl ?_)
      (first | refine RV.op (OV.step gno (Step.add rfl rfl (wI64 (by omega) (by omega))) rfl ?_) | refine RV.op (OV.step gno (Step.add rfl rfl rfl) rfl ?_))
      refine RV.op (OV.step gno (Step.assign rfl) rfl ?_)
      refine RV.nil ?_
      refine KV.then_n ?_
      refine KV.env [(0, _), (3, _), (5, _), (6, _)] ⟨rfl, rfl, rfl, rfl, trivial⟩ ?_
      refine KV.sel [0, 2, 2, 2, 2, 2, 2, 2, 2, 2, 0] [_, _, _, _, _, _, _, _, _, _, _] rfl ?_
      exact KV.loop3 (x := j) (y := s) (z := r) (j + 1) (s2) (r2) ⟨by omega, R2⟩ (by omega) ⟨rfl, rfl, rfl, rfl, trivial⟩ (fun _ h => h)
    · -- False
      refine RV.op (OV.step gno (Step.pick_t rfl rfl) rfl ?_)
      refine RV.nil ?_
      refine KV.then_n ?_
      refine KV.env [(0, _), (3, _), (5, _), (6, _), (32, _)] ⟨rfl, rfl, rfl, rfl, rfl, trivial⟩ ?_
      refine CV.cond_f rfl ?_
      refine CV.exit ?_
      refine KV.then_exit ?_
      refine KV.then_exit ?_
      refine KV.block_hit ?_
      refine KV.then_n ?_
      refine KV.env [(3, _), (5, _)] ⟨rfl, rfl, trivial⟩ ?_
      refine CV.seq ?_
      -- region 9 law.go:113
      refine CV.region ?_
      refine RV.op (OV.step gno (Step.loadN _ Try.underlying43 rfl I43 rfl rfl (fun w h => h.cells 0 rfl)) rfl ?_)
      refine RV.op (OV.call [] (F := [_, _, _, _, _, _, _, _, _, _, _]) Try.func19 B19 N19 rfl rfl (fun w h => some_fn o ho) (fun _ hb => hb.elim) gno rfl (fun v L' hp => ?_))
      obtain ⟨o3, ho3, rfl, rfl⟩ := hp
      simp only [List.append_nil]
      refine RV.op (OV.store 0 [_, _, _, _, _, _, _, _, _] #[_, _, _, _, _, _, _, _, _] I43 rfl rfl rfl rfl rfl (Nat.le_of_ble_eq_true rfl) (by simp [Value.oneCell']) rfl gno ?_)
      refine RV.nil ?_
      refine KV.then_n ?_
      refine KV.env [(3, _), (5, _)] ⟨rfl, rfl, trivial⟩ ?_
      -- join; live [5, 8]
      refine CV.join2 (fun (ba : Nat) (wd : {k : Nat // isW (k : Int) ∧ 1 ≤ k ∧ k ≤ 8}) => [(5, .pointer (some ⟨bp, 0, none⟩)), (8, .pointer (some ⟨ba, 0, none⟩))]) (fun (ba : Nat) (wd : {k : Nat // isW (k : Int) ∧ 1 ≤ k ∧ k ≤ 8}) => Hp I w (busL b s ++ [Blk bp (.cells #[.pointer (some ⟨b, 0, none⟩), .pointer (some ⟨c, 0, none⟩)] 58 (0, 0)), Blk ba (.cells #[.int .i64 (modM o3.space 3), .int .u64 (o3.addr), .int .i64 (wd.1 : Int), .bool o3.wr, .int .u64 o3.val] 37 (0, 0))])) ?_ ?_
      · skip
        -- region 10 law.go:114
        refine CV.any (Hp I w [Blk bo (.cells #[.int .i64 o3.kind, .int .i64 o3.space, .int .u64 o3.addr, .int .u64 o3.len, .int .i64 o3.width, .int .i64 o3.own, .bool o3.wr, .int .u64 o3.val, .bool o3.raw] 43 (0, 0))]) (by kernel_rfl) (fun _ h => h.drew) 18 rfl ?_
        refine AV.take 0 #[true, false, false, false, false, false, false, false, false, false, false, false, false, false, false, false, false, false] rfl (by kernel_rfl) (by kernel_rfl) (by kernel_rfl) (fun _ _ _ h => h) gno (Step.fieldAddr rfl (F43_1 _ _)) rfl (fun _ h => h.sel [0] rfl) (by kernel_rfl) ?_
        refine AV.take 1 #[true, true, false, false, false, false, false, false, false, false, false, false, false, false, false, false, false, false] rfl (by kernel_rfl) (by kernel_rfl) (by kernel_rfl) (fun _ _ _ h => h) gno (Step.load Try.underlying3 rfl rfl (fun w h => h.cell 0 rfl rfl)) rfl (fun _ h => h.sel [0] rfl) (by kernel_rfl) ?_
        refine AV.take 3 #[true, true, false, true, false, false, false, false, false, false, false, false, false, false, false, false, false, false] rfl (by kernel_rfl) (by kernel_rfl) (by kernel_rfl) (fun _ _ _ h => h) gno (Step.fieldAddr rfl (F43_2 _ _)) rfl (fun _ h => h.sel [0] rfl) (by kernel_rfl) ?_
        refine AV.take 4 #[true, true, false, true, true, false, false, false, false, false, false, false, false, false, false, false, false, false] rfl (by kernel_rfl) (by kernel_rfl) (by kernel_rfl) (fun _ _ _ h => h) gno (Step.load Try.underlying22 rfl rfl (fun w h => h.cell 0 rfl rfl)) rfl (fun _ h => h.sel [0] rfl) (by kernel_rfl) ?_
        refine AV.take 6 #[true, true, false, true, true, false, true, false, false, false, false, false, false, false, false, false, false, false] rfl (by kernel_rfl) (by kernel_rfl) (by kernel_rfl) (fun _ _ _ h => h) gno (Step.fieldAddr rfl (F43_4 _ _)) rfl (fun _ h => h.sel [0] rfl) (by kernel_rfl) ?_
        refine AV.take 7 #[true, true, false, true, true, false, true, true, false, false, false, false, false, false, false, false, false, false] rfl (by kernel_rfl) (by kernel_rfl) (by kernel_rfl) (fun _ _ _ h => h) gno (Step.load Try.underlying3 rfl rfl (fun w h => h.cell 0 rfl rfl)) rfl (fun _ h => h.sel [0] rfl) (by kernel_rfl) ?_
        refine AV.take 11 #[true, true, false, true, true, false, true, true, false, false, false, true, false, false, false, false, false, false] rfl (by kernel_rfl) (by kernel_rfl) (by kernel_rfl) (fun _ _ _ h => h) gno (Step.fieldAddr rfl (F43_6 _ _)) rfl (fun _ h => h.sel [0] rfl) (by kernel_rfl) ?_
        refine AV.take 12 #[true, true, false, true, true, false, true, true, false, false, false, true, true, false, false, false, false, false] rfl (by kernel_rfl) (by kernel_rfl) (by kernel_rfl) (fun _ _ _ h => h) gno (Step.load Try.underlying4 rfl rfl (fun w h => h.cell 0 rfl rfl)) rfl (fun _ h => h.sel [0] rfl) (by kernel_rfl) ?_
        refine AV.take 13 #[true, true, false, true, true, false, true, true, false, false, false, true, true, true, false, false, false, false] rfl (by kernel_rfl) (by kernel_rfl) (by kernel_rfl) (fun _ _ _ h => h) gno (Step.fieldAddr rfl (F43_7 _ _)) rfl (fun _ h => h.sel [0] rfl) (by kernel_rfl) ?_
        refine AV.take 14 #[true, true, false, true, true, false, true, true, false, false, false, true, true, true, true, false, false, false] rfl (by kernel_rfl) (by kernel_rfl) (by kernel_rfl) (fun _ _ _ h => h) gno (Step.load Try.underlying22 rfl rfl (fun w h => h.cell 0 rfl rfl)) rfl (fun _ h => h.sel [0] rfl) (by kernel_rfl) ?_
        refine AV.all [2, 5, 16] (by kernel_rfl) (by decide) ?_
        refine ⟨⟨_, rfl, ?_⟩, ⟨⟨_, rfl, ?_⟩, ⟨⟨_, rfl, ?_⟩, trivial⟩⟩⟩
        · -- 2 comes up
          refine OV.call [] Try.func10 B10 N10 rfl rfl (fun w h => (mod_fn o3.space 3 (by omega) (by omega)).fn w) (fun _ hb => hb.elim) gno rfl (fun v L' hp => ?_)
          obtain ⟨rfl, rfl⟩ := hp
          simp only [List.append_nil]
          refine AV.next #[true, true, true, true, true, false, true, true, false, false, false, true, true, true, true, false, false, false] (by kernel_rfl) (fun _ h => h.sel [0] rfl) ?_
          refine AV.all [5, 8, 16] (by kernel_rfl) (by decide) ?_
          refine ⟨⟨_, rfl, ?_⟩, ⟨⟨_, rfl, ?_⟩, ⟨⟨_, rfl, ?_⟩, trivial⟩⟩⟩
          · -- 5 comes up
            refine OV.buildSlice (K := (intK .i64)) (wds) rfl (Bs27_4_0_1_2_3 _ _ _ _) rfl rfl (by omega) gno rfl (fun b10_5 => ?_)
            refine AV.next #[true, true, true, true, true, true, true, true, false, false, false, true, true, true, true, false, false, false] (by kernel_rfl) (fun _ h => h.sel [0] rfl) ?_
            refine AV.all [8, 16] (by kernel_rfl) (by decide) ?_
            refine ⟨⟨_, rfl, ?_⟩, ⟨⟨_, rfl, ?_⟩, trivial⟩⟩
            · -- 8 comes up
              refine OV.call [] Try.func10 B10 N10 rfl rfl (fun w h => (mod_fn o3.width 4 (by omega) (by omega)).fn w) (fun _ hb => hb.elim) gno rfl (fun v L' hp => ?_)
              obtain ⟨rfl, rfl⟩ := hp
              simp only [List.append_nil]
              obtain ⟨q, hq, hq4⟩ := modN o3.width (n := 4) (by omega)
              rw [hq]
              refine AV.next #[true, true, true, true, true, true, true, true, true, false, false, true, true, true, true, false, false, false] (by kernel_rfl) (fun _ h => h.sel [0] rfl) ?_
              refine AV.all [9, 16] (by kernel_rfl) (by decide) ?_
              refine ⟨⟨_, rfl, ?_⟩, ⟨⟨_, rfl, ?_⟩, trivial⟩⟩
              · -- 9 comes up
                refine OV.step gno (Step.idx Try.underlying27 I3 (fun w h => h.os 11 rfl) rfl rfl (rfl) _ rfl (by first | omega | (show q < 4; omega) | (show 0 < 1; omega))) rfl ?_
                refine AV.next #[true, true, true, true, true, true, true, true, true, true, false, true, true, true, true, false, false, false] (by kernel_rfl) (fun _ h => h.sel [0] rfl) ?_
                refine AV.all [10, 16] (by kernel_rfl) (by decide) ?_
                refine ⟨⟨_, rfl, ?_⟩, ⟨⟨_, rfl, ?_⟩, trivial⟩⟩
                · -- 10 comes up
                  refine OV.step gno (Step.load Try.underlying3 rfl rfl (fun w h => (h.os 11 rfl).cell0 (by show q < 4; omega) rfl)) rfl ?_
                  obtain ⟨wd, hw0, hw1, hw2, hw3⟩ := wds_at hq4
                  rw [show wds.getD q (intK .i64).d = (wd : Int) from hw0]
                  refine AV.next #[true, true, true, true, true, true, true, true, true, true, true, true, true, true, true, false, false, false] (by kernel_rfl) (fun _ h => h.sel [0] rfl) ?_
                  refine AV.take 15 #[true, true, true, true, true, true, true, true, true, true, true, true, true, true, true, true, false, false] rfl (by kernel_rfl) (by kernel_rfl) (by kernel_rfl) (fun _ _ _ h => h) gno (Step.build rfl (Bd37_0_1_2_3_4 _ _ _ _ _)) rfl (fun _ h => h.sel [0] rfl) (by kernel_rfl) ?_
                  refine AV.all [16] (by kernel_rfl) (by decide) ?_
                  refine ⟨⟨_, rfl, ?_⟩, trivial⟩
                  · -- 16 comes up
                    refine OV.alloc #[.int .i64 0, .int .u64 0, .int .i64 0, .bool false, .int .u64 0] I37 rfl gno rfl (fun ba => ?_)
                    refine AV.next #[true, true, true, true, true, true, true, true, true, true, true, true, true, true, true, true, true, false] (by kernel_rfl) (fun _ h => h.sel [0] rfl) ?_
                    refine AV.all [17] (by kernel_rfl) (by decide) ?_
                    refine ⟨⟨_, rfl, ?_⟩, trivial⟩
                    · -- 17 comes up
                      refine OV.store 12 [_, _, _, _, _] #[_, _, _, _, _] I37 rfl rfl rfl rfl rfl (Nat.le_of_ble_eq_true rfl) (by simp [Value.oneCell']) rfl gno ?_
                      refine AV.next #[true, true, true, true, true, true, true, true, true, true, true, true, true, true, true, true, true, true] (by kernel_rfl) (fun _ h => h.sel [0] rfl) ?_
                      refine AV.done (by kernel_rfl) ?_
                      refine KV.then_n ?_
                      refine KV.env [(5, _), (8, _)] ⟨rfl, rfl, trivial⟩ ?_
                      refine KV.sel [1, 1, 1, 1, 6, 7] [_, _, _, _, _, _] rfl ?_
                      exact KV.join2 (ba) (⟨wd, hw1, hw2, hw3⟩) ⟨rfl, rfl, trivial⟩ (fun _ h => h)
                · -- 16 comes up
                  refine OV.alloc #[.int .i64 0, .int .u64 0, .int .i64 0, .bool false, .int .u64 0] I37 rfl gno rfl (fun ba => ?_)
                  refine AV.next #[true, true, true, true, true, true, true, true, true, true, false, true, true, true, true, false, true, false] (by kernel_rfl) (fun _ h => h.sel [0] rfl) ?_
                  refine AV.all [10] (by kernel_rfl) (by decide) ?_
                  refine ⟨⟨_, rfl, ?_⟩, trivial⟩
                  · -- 10 comes up
                    refine OV.step gno (Step.load Try.underlying3 rfl rfl (fun w h => (h.os 11 rfl).cell0 (by show q < 4; omega) rfl)) rfl ?_
                    obtain ⟨wd, hw0, hw1, hw2, hw3⟩ := wds_at hq4
                    rw [show wds.getD q (intK .i64).d = (wd : Int) from hw0]
                    refine AV.next #[true, true, true, true, true, true, true, true, true, true, true, true, true, true, true, false, true, false] (by kernel_rfl) (fun _ h => h.sel [0] rfl) ?_
                    refine AV.take 15 #[true, true, true, true, true, true, true, true, true, true, true, true, true, true, true, true, true, false] rfl (by kernel_rfl) (by kernel_rfl) (by kernel_rfl) (fun _ _ _ h => h) gno (Step.build rfl (Bd37_0_1_2_3_4 _ _ _ _ _)) rfl (fun _ h => h.sel [0] rfl) (by kernel_rfl) ?_
                    refine AV.all [17] (by kernel_rfl) (by decide) ?_
                    refine ⟨⟨_, rfl, ?_⟩, trivial⟩
                    · -- 17 comes up
                      refine OV.store 12 [_, _, _, _, _] #[_, _, _, _, _] I37 rfl rfl rfl rfl rfl (Nat.le_of_ble_eq_true rfl) (by simp [Value.oneCell']) rfl gno ?_
                      refine AV.next #[true, true, true, true, true, true, true, true, true, true, true, true, true, true, true, true, true, true] (by kernel_rfl) (fun _ h => h.sel [0] rfl) ?_
                      refine AV.done (by kernel_rfl) ?_
                      refine KV.then_n ?_
                      refine KV.env [(5, _), (8, _)] ⟨rfl, rfl, trivial⟩ ?_
                      refine KV.sel [1, 1, 1, 1, 6, 7] [_, _, _, _, _, _] rfl ?_
                      exact KV.join2 (ba) (⟨wd, hw1, hw2, hw3⟩) ⟨rfl, rfl, trivial⟩ (fun _ h => h)
              · -- 16 comes up
                refine OV.alloc #[.int .i64 0, .int .u64 0, .int .i64 0, .bool false, .int .u64 0] I37 rfl gno rfl (fun ba => ?_)
                refine AV.next #[true, true, true, true, true, true, true, true, true, false, false, true, true, true, true, false, true, false] (by kernel_rfl) (fun _ h => h.sel [0] rfl) ?_
                refine AV.all [9] (by kernel_rfl) (by decide) ?_
                refine ⟨⟨_, rfl, ?_⟩, trivial⟩
                · -- 9 comes up
                  refine OV.step gno (Step.idx Try.underlying27 I3 (fun w h => h.os 11 rfl) rfl rfl (rfl) _ rfl (by first | omega | (show q < 4; omega) | (show 0 < 1; omega))) rfl ?_
                  refine AV.next #[true, true, true, true, true, true, true, true, true, true, false, true, true, true, true, false, true, false] (by kernel_rfl) (fun _ h => h.sel [0] rfl) ?_
                  refine AV.all [10] (by kernel_rfl) (by decide) ?_
                  refine ⟨⟨_, rfl, ?_⟩, trivial⟩
                  · -- 10 comes up
                    refine OV.step gno (Step.load Try.underlying3 rfl rfl (fun w h => (h.os 11 rfl).cell0 (by show q < 4; omega) rfl)) rfl ?_
                    obtain ⟨wd, hw0, hw1, hw2, hw3⟩ := wds_at hq4
                    rw [show wds.getD q (intK .i64).d = (wd : Int) from hw0]
                    refine AV.next #[true, true, true, true, true, true, true, true, true, true, true, true, true, true, true, false, true, false] (by kernel_rfl) (fun _ h => h.sel [0] rfl) ?_
                    refine AV.take 15 #[true, true, true, true, true, true, true, true, true, true, true, true, true, true, true, true, true, false] rfl (by kernel_rfl) (by kernel_rfl) (by kernel_rfl) (fun _ _ _ h => h) gno (Step.build rfl (Bd37_0_1_2_3_4 _ _ _ _ _)) rfl (fun _ h => h.sel [0] rfl) (by kernel_rfl) ?_
                    refine AV.all [17] (by kernel_rfl) (by decide) ?_
                    refine ⟨⟨_, rfl, ?_⟩, trivial⟩
                    · -- 17 comes up
                      refine OV.store 12 [_, _, _, _, _] #[_, _, _, _, _] I37 rfl rfl rfl rfl rfl (Nat.le_of_ble_eq_true rfl) (by simp [Value.oneCell']) rfl gno ?_
                      refine AV.next #[true, true, true, true, true, true, true, true, true, true, true, true, true, true, true, true, true, true] (by kernel_rfl) (fun _ h => h.sel [0] rfl) ?_
                      refine AV.done (by kernel_rfl) ?_
                      refine KV.then_n ?_
                      refine KV.env [(5, _), (8, _)] ⟨rfl, rfl, trivial⟩ ?_
                      refine KV.sel [1, 1, 1, 1, 6, 7] [_, _, _, _, _, _] rfl ?_
                      exact KV.join2 (ba) (⟨wd, hw1, hw2, hw3⟩) ⟨rfl, rfl, trivial⟩ (fun _ h => h)
            · -- 16 comes up
              refine OV.alloc #[.int .i64 0, .int .u64 0, .int .i64 0, .bool false, .int .u64 0] I37 rfl gno rfl (fun ba => ?_)
              refine AV.next #[true, true, true, true, true, true, true, true, false, false, false, true, true, true, true, false, true, false] (by kernel_rfl) (fun _ h => h.sel [0] rfl) ?_
              refine AV.all [8] (by kernel_rfl) (by decide) ?_
              refine ⟨⟨_, rfl, ?_⟩, trivial⟩
              · -- 8 comes up
                refine OV.call [] Try.func10 B10 N10 rfl rfl (fun w h => (mod_fn o3.width 4 (by omega) (by omega)).fn w) (fun _ hb => hb.elim) gno rfl (fun v L' hp => ?_)
                obtain ⟨rfl, rfl⟩ := hp
                simp only [List.append_nil]
                obtain ⟨q, hq, hq4⟩ := modN o3.width (n := 4) (by omega)
                rw [hq]
                refine AV.next #[true, true, true, true, true, true, true, true, true, false, false, true, true, true, true, false, true, false] (by kernel_rfl) (fun _ h => h.sel [0] rfl) ?_
                refine AV.all [9] (by kernel_rfl) (by decide) ?_
                refine ⟨⟨_, rfl, ?_⟩, trivial⟩
                · -- 9 comes up
                  refine OV.step gno (Step.idx Try.underlying27 I3 (fun w h => h.os 11 rfl) rfl rfl (rfl) _ rfl (by first | omega | (show q < 4; omega) | (show 0 < 1; omega))) rfl ?_
                  refine AV.next #[true, true, true, true, true, true, true, true, true, true, false, true, true, true, true, false, true, false] (by kernel_rfl) (fun _ h => h.sel [0] rfl) ?_
                  refine AV.all [10] (by kernel_rfl) (by decide) ?_
                  refine ⟨⟨_, rfl, ?_⟩, trivial⟩
                  · -- 10 comes up
                    refine OV.step gno (Step.load Try.underlying3 rfl rfl (fun w h => (h.os 11 rfl).cell0 (by show q < 4; omega) rfl)) rfl ?_
                    obtain ⟨wd, hw0, hw1, hw2, hw3⟩ := wds_at hq4
                    rw [show wds.getD q (intK .i64).d = (wd : Int) from hw0]
                    refine AV.next #[true, true, true, true, true, true, true, true, true, true, true, true, true, true, true, false, true, false] (by kernel_rfl) (fun _ h => h.sel [0] rfl) ?_
                    refine AV.take 15 #[true, true, true, true, true, true, true, true, true, true, true, true, true, true, true, true, true, false] rfl (by kernel_rfl) (by kernel_rfl) (by kernel_rfl) (fun _ _ _ h => h) gno (Step.build rfl (Bd37_0_1_2_3_4 _ _ _ _ _)) rfl (fun _ h => h.sel [0] rfl) (by kernel_rfl) ?_
                    refine AV.all [17] (by kernel_rfl) (by decide) ?_
                    refine ⟨⟨_, rfl, ?_⟩, trivial⟩
                    · -- 17 comes up
                      refine OV.store 12 [_, _, _, _, _] #[_, _, _, _, _] I37 rfl rfl rfl rfl rfl (Nat.le_of_ble_eq_true rfl) (by simp [Value.oneCell']) rfl gno ?_
                      refine AV.next #[true, true, true, true, true, true, true, true, true, true, true, true, true, true, true, true, true, true] (by kernel_rfl) (fun _ h => h.sel [0] rfl) ?_
                      refine AV.done (by kernel_rfl) ?_
                      refine KV.then_n ?_
                      refine KV.env [(5, _), (8, _)] ⟨rfl, rfl, trivial⟩ ?_
                      refine KV.sel [1, 1, 1, 1, 6, 7] [_, _, _, _, _, _] rfl ?_
                      exact KV.join2 (ba) (⟨wd, hw1, hw2, hw3⟩) ⟨rfl, rfl, trivial⟩ (fun _ h => h)
          · -- 8 comes up
            refine OV.call [] Try.func10 B10 N10 rfl rfl (fun w h => (mod_fn o3.width 4 (by omega) (by omega)).fn w) (fun _ hb => hb.elim) gno rfl (fun v L' hp => ?_)
            obtain ⟨rfl, rfl⟩ := hp
            simp only [List.append_nil]
            obtain ⟨q, hq, hq4⟩ := modN o3.width (n := 4) (by omega)
            rw [hq]
            refine AV.next #[true, true, true, true, true, false, true, true, true, false, false, true, true, true, true, false, false, false] (by kernel_rfl) (fun _ h => h.sel [0] rfl) ?_
            refine AV.all [5, 16] (by kernel_rfl) (by decide) ?_
            refine ⟨⟨_, rfl, ?_⟩, ⟨⟨_, rfl, ?_⟩, trivial⟩⟩
            · -- 5 comes up
              refine OV.buildSlice (K := (intK .i64)) (wds) rfl (Bs27_4_0_1_2_3 _ _ _ _) rfl rfl (by omega) gno rfl (fun b10_5 => ?_)
              refine AV.next #[true, true, true, true, true, true, true, true, true, false, false, true, true, true, true, false, false, false] (by kernel_rfl) (fun _ h => h.sel [0] rfl) ?_
              refine AV.all [9, 16] (by kernel_rfl) (by decide) ?_
              refine ⟨⟨_, rfl, ?_⟩, ⟨⟨_, rfl, ?_⟩, trivial⟩⟩
              · -- 9 comes up
                refine OV.step gno (Step.idx Try.underlying27 I3 (fun w h => h.os 11 rfl) rfl rfl (rfl) _ rfl (by first | omega | (show q < 4; omega) | (show 0 < 1; omega))) rfl ?_
                refine AV.next #[true, true, true, true, true, true, true, true, true, true, false, true, true, true, true, false, false, false] (by kernel_rfl) (fun _ h => h.sel [0] rfl) ?_
                refine AV.all [10, 16] (by kernel_rfl) (by decide) ?_
                refine ⟨⟨_, rfl, ?_⟩, ⟨⟨_, rfl, ?_⟩, trivial⟩⟩
                · -- 10 comes up
                  refine OV.step gno (Step.load Try.underlying3 rfl rfl (fun w h => (h.os 11 rfl).cell0 (by show q < 4; omega) rfl)) rfl ?_
                  obtain ⟨wd, hw0, hw1, hw2, hw3⟩ := wds_at hq4
                  rw [show wds.getD q (intK .i64).d = (wd : Int) from hw0]
                  refine AV.next #[true, true, true, true, true, true, true, true, true, true, true, true, true, true, true, false, false, false] (by kernel_rfl) (fun _ h => h.sel [0] rfl) ?_
                  refine AV.take 15 #[true, true, true, true, true, true, true, true, true, true, true, true, true, true, true, true, false, false] rfl (by kernel_rfl) (by kernel_rfl) (by kernel_rfl) (fun _ _ _ h => h) gno (Step.build rfl (Bd37_0_1_2_3_4 _ _ _ _ _)) rfl (fun _ h => h.sel [0] rfl) (by kernel_rfl) ?_
                  refine AV.all [16] (by kernel_rfl) (by decide) ?_
                  refine ⟨⟨_, rfl, ?_⟩, trivial⟩
                  · -- 16 comes up
                    refine OV.alloc #[.int .i64 0, .int .u64 0, .int .i64 0, .bool false, .int .u64 0] I37 rfl gno rfl (fun ba => ?_)
                    refine AV.next #[true, true, true, true, true, true, true, true, true, true, true, true, true, true, true, true, true, false] (by kernel_rfl) (fun _ h => h.sel [0] rfl) ?_
                    refine AV.all [17] (by kernel_rfl) (by decide) ?_
                    refine ⟨⟨_, rfl, ?_⟩, trivial⟩
                    · -- 17 comes up
                      refine OV.store 12 [_, _, _, _, _] #[_, _, _, _, _] I37 rfl rfl rfl rfl rfl (Nat.le_of_ble_eq_true rfl) (by simp [Value.oneCell']) rfl gno ?_
                      refine AV.next #[true, true, true, true, true, true, true, true, true, true, true, true, true, true, true, true, true, true] (by kernel_rfl) (fun _ h => h.sel [0] rfl) ?_
                      refine AV.done (by kernel_rfl) ?_
                      refine KV.then_n ?_
                      refine KV.env [(5, _), (8, _)] ⟨rfl, rfl, trivial⟩ ?_
                      refine KV.sel [1, 1, 1, 1, 6, 7] [_, _, _, _, _, _] rfl ?_
                      exact KV.join2 (ba) (⟨wd, hw1, hw2, hw3⟩) ⟨rfl, rfl, trivial⟩ (fun _ h => h)
                · -- 16 comes up
                  refine OV.alloc #[.int .i64 0, .int .u64 0, .int .i64 0, .bool false, .int .u64 0] I37 rfl gno rfl (fun ba => ?_)
                  refine AV.next #[true, true, true, true, true, true, true, true, true, true, false, true, true, true, true, false, true, false] (by kernel_rfl) (fun _ h => h.sel [0] rfl) ?_
                  refine AV.all [10] (by kernel_rfl) (by decide) ?_
                  refine ⟨⟨_, rfl, ?_⟩, trivial⟩
                  · -- 10 comes up
                    refine OV.step gno (Step.load Try.underlying3 rfl rfl (fun w h => (h.os 11 rfl).cell0 (by show q < 4; omega) rfl)) rfl ?_
                    obtain ⟨wd, hw0, hw1, hw2, hw3⟩ := wds_at hq4
                    rw [show wds.getD q (intK .i64).d = (wd : Int) from hw0]
                    refine AV.next #[true, true, true, true, true, true, true, true, true, true, true, true, true, true, true, false, true, false] (by kernel_rfl) (fun _ h => h.sel [0] rfl) ?_
                    refine AV.take 15 #[true, true, true, true, true, true, true, true, true, true, true, true, true, true, true, true, true, false] rfl (by kernel_rfl) (by kernel_rfl) (by kernel_rfl) (fun _ _ _ h => h) gno (Step.build rfl (Bd37_0_1_2_3_4 _ _ _ _ _)) rfl (fun _ h => h.sel [0] rfl) (by kernel_rfl) ?_
                    refine AV.all [17] (by kernel_rfl) (by decide) ?_
                    refine ⟨⟨_, rfl, ?_⟩, trivial⟩
                    · -- 17 comes up
                      refine OV.store 12 [_, _, _, _, _] #[_, _, _, _, _] I37 rfl rfl rfl rfl rfl (Nat.le_of_ble_eq_true rfl) (by simp [Value.oneCell']) rfl gno ?_
                      refine AV.next #[true, true, true, true, true, true, true, true, true, true, true, true, true, true, true, true, true, true] (by kernel_rfl) (fun _ h => h.sel [0] rfl) ?_
                      refine AV.done (by kernel_rfl) ?_
                      refine KV.then_n ?_
                      refine KV.env [(5, _), (8, _)] ⟨rfl, rfl, trivial⟩ ?_
                      refine KV.sel [1, 1, 1, 1, 6, 7] [_, _, _, _, _, _] rfl ?_
                      exact KV.join2 (ba) (⟨wd, hw1, hw2, hw3⟩) ⟨rfl, rfl, trivial⟩ (fun _ h => h)
              · -- 16 comes up
                refine OV.alloc #[.int .i64 0, .int .u64 0, .int .i64 0, .bool false, .int .u64 0] I37 rfl gno rfl (fun ba => ?_)
                refine AV.next #[true, true, true, true, true, true, true, true, true, false, false, true, true, true, true, false, true, false] (by kernel_rfl) (fun _ h => h.sel [0] rfl) ?_
                refine AV.all [9] (by kernel_rfl) (by decide) ?_
                refine ⟨⟨_, rfl, ?_⟩, trivial⟩
                · -- 9 comes up
                  refine OV.step gno (Step.idx Try.underlying27 I3 (fun w h => h.os 11 rfl) rfl rfl (rfl) _ rfl (by first | omega | (show q < 4; omega) | (show 0 < 1; omega))) rfl ?_
                  refine AV.next #[true, true, true, true, true, true, true, true, true, true, false, true, true, true, true, false, true, false] (by kernel_rfl) (fun _ h => h.sel [0] rfl) ?_
                  refine AV.all [10] (by kernel_rfl) (by decide) ?_
                  refine ⟨⟨_, rfl, ?_⟩, trivial⟩
                  · -- 10 comes up
                    refine OV.step gno (Step.load Try.underlying3 rfl rfl (fun w h => (h.os 11 rfl).cell0 (by show q < 4; omega) rfl)) rfl ?_
                    obtain ⟨wd, hw0, hw1, hw2, hw3⟩ := wds_at hq4
                    rw [show wds.getD q (intK .i64).d = (wd : Int) from hw0]
                    refine AV.next #[true, true, true, true, true, true, true, true, true, true, true, true, true, true, true, false, true, false] (by kernel_rfl) (fun _ h => h.sel [0] rfl) ?_
                    refine AV.take 15 #[true, true, true, true, true, true, true, true, true, true, true, true, true, true, true, true, true, false] rfl (by kernel_rfl) (by kernel_rfl) (by kernel_rfl) (fun _ _ _ h => h) gno (Step.build rfl (Bd37_0_1_2_3_4 _ _ _ _ _)) rfl (fun _ h => h.sel [0] rfl) (by kernel_rfl) ?_
                    refine AV.all [17] (by kernel_rfl) (by decide) ?_
                    refine ⟨⟨_, rfl, ?_⟩, trivial⟩
                    · -- 17 comes up
                      refine OV.store 12 [_, _, _, _, _] #[_, _, _, _, _] I37 rfl rfl rfl rfl rfl (Nat.le_of_ble_eq_true rfl) (by simp [Value.oneCell']) rfl gno ?_
                      refine AV.next #[true, true, true, true, true, true, true, true, true, true, true, true, true, true, true, true, true, true] (by kernel_rfl) (fun _ h => h.sel [0] rfl) ?_
                      refine AV.done (by kernel_rfl) ?_
                      refine KV.then_n ?_
                      refine KV.env [(5, _), (8, _)] ⟨rfl, rfl, trivial⟩ ?_
                      refine KV.sel [1, 1, 1, 1, 6, 7] [_, _, _, _, _, _] rfl ?_
                      exact KV.join2 (ba) (⟨wd, hw1, hw2, hw3⟩) ⟨rfl, rfl, trivial⟩ (fun _ h => h)
            · -- 16 comes up
              refine OV.alloc #[.int .i64 0, .int .u64 0, .int .i64 0, .bool false, .int .u64 0] I37 rfl gno rfl (fun ba => ?_)
              refine AV.next #[true, true, true, true, true, false, true, true, true, false, false, true, true, true, true, false, true, false] (by kernel_rfl) (fun _ h => h.sel [0] rfl) ?_
              refine AV.all [5] (by kernel_rfl) (by decide) ?_
              refine ⟨⟨_, rfl, ?_⟩, trivial⟩
              · -- 5 comes up
                refine OV.buildSlice (K := (intK .i64)) (wds) rfl (Bs27_4_0_1_2_3 _ _ _ _) rfl rfl (by omega) gno rfl (fun b10_5 => ?_)
                refine AV.next #[true, true, true, true, true, true, true, true, true, false, false, true, true, true, true, false, true, false] (by kernel_rfl) (fun _ h => h.sel [0] rfl) ?_
                refine AV.all [9] (by kernel_rfl) (by decide) ?_
                refine ⟨⟨_, rfl, ?_⟩, trivial⟩
                · -- 9 comes up
                  refine OV.step gno (Step.idx Try.underlying27 I3 (fun w h => h.os 12 rfl) rfl rfl (rfl) _ rfl (by first | omega | (show q < 4; omega) | (show 0 < 1; omega))) rfl ?_
                  refine AV.next #[true, true, true, true, true, true, true, true, true, true, false, true, true, true, true, false, true, false] (by kernel_rfl) (fun _ h => h.sel [0] rfl) ?_
                  refine AV.all [10] (by kernel_rfl) (by decide) ?_
                  refine ⟨⟨_, rfl, ?_⟩, trivial⟩
                  · -- 10 comes up
                    refine OV.step gno (Step.load Try.underlying3 rfl rfl (fun w h => (h.os 12 rfl).cell0 (by show q < 4; omega) rfl)) rfl ?_
                    obtain ⟨wd, hw0, hw1, hw2, hw3⟩ := wds_at hq4
                    rw [show wds.getD q (intK .i64).d = (wd : Int) from hw0]
                    refine AV.next #[true, true, true, true, true, true, true, true, true, true, true, true, true, true, true, false, true, false] (by kernel_rfl) (fun _ h => h.sel [0] rfl) ?_
                    refine AV.take 15 #[true, true, true, true, true, true, true, true, true, true, true, true, true, true, true, true, true, false] rfl (by kernel_rfl) (by kernel_rfl) (by kernel_rfl) (fun _ _ _ h => h) gno (Step.build rfl (Bd37_0_1_2_3_4 _ _ _ _ _)) rfl (fun _ h => h.sel [0] rfl) (by kernel_rfl) ?_
                    refine AV.all [17] (by kernel_rfl) (by decide) ?_
                    refine ⟨⟨_, rfl, ?_⟩, trivial⟩
                    · -- 17 comes up
                      refine OV.store 11 [_, _, _, _, _] #[_, _, _, _, _] I37 rfl rfl rfl rfl rfl (Nat.le_of_ble_eq_true rfl) (by simp [Value.oneCell']) rfl gno ?_
                      refine AV.next #[true, true, true, true, true, true, true, true, true, true, true, true, true, true, true, true, true, true] (by kernel_rfl) (fun _ h => h.sel [0] rfl) ?_
                      refine AV.done (by kernel_rfl) ?_
                      refine KV.then_n ?_
                      refine KV.env [(5, _), (8, _)] ⟨rfl, rfl, trivial⟩ ?_
                      refine KV.sel [1, 1, 1, 1, 6, 6] [_, _, _, _, _, _] rfl ?_
                      exact KV.join2 (ba) (⟨wd, hw1, hw2, hw3⟩) ⟨rfl, rfl, trivial⟩ (fun _ h => h)
          · -- 16 comes up
            refine OV.alloc #[.int .i64 0, .int .u64 0, .int .i64 0, .bool false, .int .u64 0] I37 rfl gno rfl (fun ba => ?_)
            refine AV.next #[true, true, true, true, true, false, true, true, false, false, false, true, true, true, true, false, true, false] (by kernel_rfl) (fun _ h => h.sel [0] rfl) ?_
            refine AV.all [5, 8] (by kernel_rfl) (by decide) ?_
            refine ⟨⟨_, rfl, ?_⟩, ⟨⟨_, rfl, ?_⟩, trivial⟩⟩
            · -- 5 comes up
              refine OV.buildSlice (K := (intK .i64)) (wds) rfl (Bs27_4_0_1_2_3 _ _ _ _) rfl rfl (by omega) gno rfl (fun b10_5 => ?_)
              refine AV.next #[true, true, true, true, true, true, true, true, false, false, false, true, true, true, true, false, true, false] (by kernel_rfl) (fun _ h => h.sel [0] rfl) ?_
              refine AV.all [8] (by kernel_rfl) (by decide) ?_
              refine ⟨⟨_, rfl, ?_⟩, trivial⟩
              · -- 8 comes up
                refine OV.call [] Try.func10 B10 N10 rfl rfl (fun w h => (mod_fn o3.width 4 (by omega) (by omega)).fn w) (fun _ hb => hb.elim) gno rfl (fun v L' hp => ?_)
                obtain ⟨rfl, rfl⟩ := hp
                simp only [List.append_nil]
                obtain ⟨q, hq, hq4⟩ := modN o3.width (n := 4) (by omega)
                rw [hq]
                refine AV.next #[true, true, true, true, true, true, true, true, true, false, false, true, true, true, true, false, true, false] (by kernel_rfl) (fun _ h => h.sel [0] rfl) ?_
                refine AV.all [9] (by kernel_rfl) (by decide) ?_
                refine ⟨⟨_, rfl, ?_⟩, trivial⟩
                · -- 9 comes up
                  refine OV.step gno (Step.idx Try.underlying27 I3 (fun w h => h.os 12 rfl) rfl rfl (rfl) _ rfl (by first | omega | (show q < 4; omega) | (show 0 < 1; omega))) rfl ?_
                  refine AV.next #[true, true, true, true, true, true, true, true, true, true, false, true, true, true, true, false, true, false] (by kernel_rfl) (fun _ h => h.sel [0] rfl) ?_
                  refine AV.all [10] (by kernel_rfl) (by decide) ?_
                  refine ⟨⟨_, rfl, ?_⟩, trivial⟩
                  · -- 10 comes up
                    refine OV.step gno (Step.load Try.underlying3 rfl rfl (fun w h => (h.os 12 rfl).cell0 (by show q < 4; omega) rfl)) rfl ?_
                    obtain ⟨wd, hw0, hw1, hw2, hw3⟩ := wds_at hq4
                    rw [show wds.getD q (intK .i64).d = (wd : Int) from hw0]
                    refine AV.next #[true, true, true, true, true, true, true, true, true, true, true, true, true, true, true, false, true, false] (by kernel_rfl) (fun _ h => h.sel [0] rfl) ?_
                    refine AV.take 15 #[true, true, true, true, true, true, true, true, true, true, true, true, true, true, true, true, true, false] rfl (by kernel_rfl) (by kernel_rfl) (by kernel_rfl) (fun _ _ _ h => h) gno (Step.build rfl (Bd37_0_1_2_3_4 _ _ _ _ _)) rfl (fun _ h => h.sel [0] rfl) (by kernel_rfl) ?_
                    refine AV.all [17] (by kernel_rfl) (by decide) ?_
                    refine ⟨⟨_, rfl, ?_⟩, trivial⟩
                    · -- 17 comes up
                      refine OV.store 11 [_, _, _, _, _] #[_, _, _, _, _] I37 rfl rfl rfl rfl rfl (Nat.le_of_ble_eq_true rfl) (by simp [Value.oneCell']) rfl gno ?_
                      refine AV.next #[true, true, true, true, true, true, true, true, true, true, true, true, true, true, true, true, true, true] (by kernel_rfl) (fun _ h => h.sel [0] rfl) ?_
                      refine AV.done (by kernel_rfl) ?_
                      refine KV.then_n ?_
                      refine KV.env [(5, _), (8, _)] ⟨rfl, rfl, trivial⟩ ?_
                      refine KV.sel [1, 1, 1, 1, 6, 6] [_, _, _, _, _, _] rfl ?_
                      exact KV.join2 (ba) (⟨wd, hw1, hw2, hw3⟩) ⟨rfl, rfl, trivial⟩ (fun _ h => h)
            · -- 8 comes up
              refine OV.call [] Try.func10 B10 N10 rfl rfl (fun w h => (mod_fn o3.width 4 (by omega) (by omega)).fn w) (fun _ hb => hb.elim) gno rfl (fun v L' hp => ?_)
              obtain ⟨rfl, rfl⟩ := hp
              simp only [List.append_nil]
              obtain ⟨q, hq, hq4⟩ := modN o3.width (n := 4) (by omega)
              rw [hq]
              refine AV.next #[true, true, true, true, true, false, true, true, true, false, false, true, true, true, true, false, true, false] (by kernel_rfl) (fun _ h => h.sel [0] rfl) ?_
              refine AV.all [5] (by kernel_rfl) (by decide) ?_
              refine ⟨⟨_, rfl, ?_⟩, trivial⟩
              · -- 5 comes up
                refine OV.buildSlice (K := (intK .i64)) (wds) rfl (Bs27_4_0_1_2_3 _ _ _ _) rfl rfl (by omega) gno rfl (fun b10_5 => ?_)
                refine AV.next #[true, true, true, true, true, true, true, true, true, false, false, true, true, true, true, false, true, false] (by kernel_rfl) (fun _ h => h.sel [0] rfl) ?_
                refine AV.all [9] (by kernel_rfl) (by decide) ?_
                refine ⟨⟨_, rfl, ?_⟩, trivial⟩
                · -- 9 comes up
                  refine OV.step gno (Step.idx Try.underlying27 I3 (fun w h => h.os 12 rfl) rfl rfl (rfl) _ rfl (by first | omega | (show q < 4; omega) | (show 0 < 1; omega))) rfl ?_
                  refine AV.next #[true, true, true, true, true, true, true, true, true, true, false, true, true, true, true, false, true, false] (by kernel_rfl) (fun _ h => h.sel [0] rfl) ?_
                  refine AV.all [10] (by kernel_rfl) (by decide) ?_
                  refine ⟨⟨_, rfl, ?_⟩, trivial⟩
                  · -- 10 comes up
                    refine OV.step gno (Step.load Try.underlying3 rfl rfl (fun w h => (h.os 12 rfl).cell0 (by show q < 4; omega) rfl)) rfl ?_
                    obtain ⟨wd, hw0, hw1, hw2, hw3⟩ := wds_at hq4
                    rw [show wds.getD q (intK .i64).d = (wd : Int) from hw0]
                    refine AV.next #[true, true, true, true, true, true, true, true, true, true, true, true, true, true, true, false, true, false] (by kernel_rfl) (fun _ h => h.sel [0] rfl) ?_
                    refine AV.take 15 #[true, true, true, true, true, true, true, true, true, true, true, true, true, true, true, true, true, false] rfl (by kernel_rfl) (by kernel_rfl) (by kernel_rfl) (fun _ _ _ h => h) gno (Step.build rfl (Bd37_0_1_2_3_4 _ _ _ _ _)) rfl (fun _ h => h.sel [0] rfl) (by kernel_rfl) ?_
                    refine AV.all [17] (by kernel_rfl) (by decide) ?_
                    refine ⟨⟨_, rfl, ?_⟩, trivial⟩
                    · -- 17 comes up
                      refine OV.store 11 [_, _, _, _, _] #[_, _, _, _, _] I37 rfl rfl rfl rfl rfl (Nat.le_of_ble_eq_true rfl) (by simp [Value.oneCell']) rfl gno ?_
                      refine AV.next #[true, true, true, true, true, true, true, true, true, true, true, true, true, true, true, true, true, true] (by kernel_rfl) (fun _ h => h.sel [0] rfl) ?_
                      refine AV.done (by kernel_rfl) ?_
                      refine KV.then_n ?_
                      refine KV.env [(5, _), (8, _)] ⟨rfl, rfl, trivial⟩ ?_
                      refine KV.sel [1, 1, 1, 1, 6, 6] [_, _, _, _, _, _] rfl ?_
                      exact KV.join2 (ba) (⟨wd, hw1, hw2, hw3⟩) ⟨rfl, rfl, trivial⟩ (fun _ h => h)
        · -- 5 comes up
          refine OV.buildSlice (K := (intK .i64)) (wds) rfl (Bs27_4_0_1_2_3 _ _ _ _) rfl rfl (by omega) gno rfl (fun b10_5 => ?_)
          refine AV.next #[true, true, false, true, true, true, true, true, false, false, false, true, true, true, true, false, false, false] (by kernel_rfl) (fun _ h => h.sel [0] rfl) ?_
          refine AV.all [2, 16] (by kernel_rfl) (by decide) ?_
          refine ⟨⟨_, rfl, ?_⟩, ⟨⟨_, rfl, ?_⟩, trivial⟩⟩
          · -- 2 comes up
            refine OV.call [] Try.func10 B10 N10 rfl rfl (fun w h => (mod_fn o3.space 3 (by omega) (by omega)).fn w) (fun _ hb => hb.elim) gno rfl (fun v L' hp => ?_)
            obtain ⟨rfl, rfl⟩ := hp
            simp only [List.append_nil]
            refine AV.next #[true, true, true, true, true, true, true, true, false, false, false, true, true, true, true, false, false, false] (by kernel_rfl) (fun _ h => h.sel [0] rfl) ?_
            refine AV.all [8, 16] (by kernel_rfl) (by decide) ?_
            refine ⟨⟨_, rfl, ?_⟩, ⟨⟨_, rfl, ?_⟩, trivial⟩⟩
            · -- 8 comes up
              refine OV.call [] Try.func10 B10 N10 rfl rfl (fun w h => (mod_fn o3.width 4 (by omega) (by omega)).fn w) (fun _ hb => hb.elim) gno rfl (fun v L' hp => ?_)
              obtain ⟨rfl, rfl⟩ := hp
              simp only [List.append_nil]
              obtain ⟨q, hq, hq4⟩ := modN o3.width (n := 4) (by omega)
              rw [hq]
              refine AV.next #[true, true, true, true, true, true, true, true, true, false, false, true, true, true, true, false, false, false] (by kernel_rfl) (fun _ h => h.sel [0] rfl) ?_
              refine AV.all [9, 16] (by kernel_rfl) (by decide) ?_
              refine ⟨⟨_, rfl, ?_⟩, ⟨⟨_, rfl, ?_⟩, trivial⟩⟩
              · -- 9 comes up
                refine OV.step gno (Step.idx Try.underlying27 I3 (fun w h => h.os 11 rfl) rfl rfl (rfl) _ rfl (by first | omega | (show q < 4; omega) | (show 0 < 1; omega))) rfl ?_
                refine AV.next #[true, true, true, true, true, true, true, true, true, true, false, true, true, true, true, false, false, false] (by kernel_rfl) (fun _ h => h.sel [0] rfl) ?_
                refine AV.all [10, 16] (by kernel_rfl) (by decide) ?_
                refine ⟨⟨_, rfl, ?_⟩, ⟨⟨_, rfl, ?_⟩, trivial⟩⟩
                · -- 10 comes up
                  refine OV.step gno (Step.load Try.underlying3 rfl rfl (fun w h => (h.os 11 rfl).cell0 (by show q < 4; omega) rfl)) rfl ?_
                  obtain ⟨wd, hw0, hw1, hw2, hw3⟩ := wds_at hq4
                  rw [show wds.getD q (intK .i64).d = (wd : Int) from hw0]
                  refine AV.next #[true, true, true, true, true, true, true, true, true, true, true, true, true, true, true, false, false, false] (by kernel_rfl) (fun _ h => h.sel [0] rfl) ?_
                  refine AV.take 15 #[true, true, true, true, true, true, true, true, true, true, true, true, true, true, true, true, false, false] rfl (by kernel_rfl) (by kernel_rfl) (by kernel_rfl) (fun _ _ _ h => h) gno (Step.build rfl (Bd37_0_1_2_3_4 _ _ _ _ _)) rfl (fun _ h => h.sel [0] rfl) (by kernel_rfl) ?_
                  refine AV.all [16] (by kernel_rfl) (by decide) ?_
                  refine ⟨⟨_, rfl, ?_⟩, trivial⟩
                  · -- 16 comes up
                    refine OV.alloc #[.int .i64 0, .int .u64 0, .int .i64 0, .bool false, .int .u64 0] I37 rfl gno rfl (fun ba => ?_)
                    refine AV.next #[true, true, true, true, true, true, true, true, true, true, true, true, true, true, true, true, true, false] (by kernel_rfl) (fun _ h => h.sel [0] rfl) ?_
                    refine AV.all [17] (by kernel_rfl) (by decide) ?_
                    refine ⟨⟨_, rfl, ?_⟩, trivial⟩
                    · -- 17 comes up
                      refine OV.store 12 [_, _, _, _, _] #[_, _, _, _, _] I37 rfl rfl rfl rfl rfl (Nat.le_of_ble_eq_true rfl) (by simp [Value.oneCell']) rfl gno ?_
                      refine AV.next #[true, true, true, true, true, true, true, true, true, true, true, true, true, true, true, true, true, true] (by kernel_rfl) (fun _ h => h.sel [0] rfl) ?_
                      refine AV.done (by kernel_rfl) ?_
                      refine KV.then_n ?_
                      refine KV.env [(5, _), (8, _)] ⟨rfl, rfl, trivial⟩ ?_
                      refine KV.sel [1, 1, 1, 1, 6, 7] [_, _, _, _, _, _] rfl ?_
                      exact KV.join2 (ba) (⟨wd, hw1, hw2, hw3⟩) ⟨rfl, rfl, trivial⟩ (fun _ h => h)
                · -- 16 comes up
                  refine OV.alloc #[.int .i64 0, .int .u64 0, .int .i64 0, .bool false, .int .u64 0] I37 rfl gno rfl (fun ba => ?_)
                  refine AV.next #[true, true, true, true, true, true, true, true, true, true, false, true, true, true, true, false, true, false] (by kernel_rfl) (fun _ h => h.sel [0] rfl) ?_
                  refine AV.all [10] (by kernel_rfl) (by decide) ?_
                  refine ⟨⟨_, rfl, ?_⟩, trivial⟩
                  · -- 10 comes up
                    refine OV.step gno (Step.load Try.underlying3 rfl rfl (fun w h => (h.os 11 rfl).cell0 (by show q < 4; omega) rfl)) rfl ?_
                    obtain ⟨wd, hw0, hw1, hw2, hw3⟩ := wds_at hq4
                    rw [show wds.getD q (intK .i64).d = (wd : Int) from hw0]
                    refine AV.next #[true, true, true, true, true, true, true, true, true, true, true, true, true, true, true, false, true, false] (by kernel_rfl) (fun _ h => h.sel [0] rfl) ?_
                    refine AV.take 15 #[true, true, true, true, true, true, true, true, true, true, true, true, true, true, true, true, true, false] rfl (by kernel_rfl) (by kernel_rfl) (by kernel_rfl) (fun _ _ _ h => h) gno (Step.build rfl (Bd37_0_1_2_3_4 _ _ _ _ _)) rfl (fun _ h => h.sel [0] rfl) (by kernel_rfl) ?_
                    refine AV.all [17] (by kernel_rfl) (by decide) ?_
                    refine ⟨⟨_, rfl, ?_⟩, trivial⟩
                    · -- 17 comes up
                      refine OV.store 12 [_, _, _, _, _] #[_, _, _, _, _] I37 rfl rfl rfl rfl rfl (Nat.le_of_ble_eq_true rfl) (by simp [Value.oneCell']) rfl gno ?_
                      refine AV.next #[true, true, true, true, true, true, true, true, true, true, true, true, true, true, true, true, true, true] (by kernel_rfl) (fun _ h => h.sel [0] rfl) ?_
                      refine AV.done (by kernel_rfl) ?_
                      refine KV.then_n ?_
                      refine KV.env [(5, _), (8, _)] ⟨rfl, rfl, trivial⟩ ?_
                      refine KV.sel [1, 1, 1, 1, 6, 7] [_, _, _, _, _, _] rfl ?_
                      exact KV.join2 (ba) (⟨wd, hw1, hw2, hw3⟩) ⟨rfl, rfl, trivial⟩ (fun _ h => h)
              · -- 16 comes up
                refine OV.alloc #[.int .i64 0, .int .u64 0, .int .i64 0, .bool false, .int .u64 0] I37 rfl gno rfl (fun ba => ?_)
                refine AV.next #[true, true, true, true, true, true, true, true, true, false, false, true, true, true, true, false, true, false] (by kernel_rfl) (fun _ h => h.sel [0] rfl) ?_
                refine AV.all [9] (by kernel_rfl) (by decide) ?_
                refine ⟨⟨_, rfl, ?_⟩, trivial⟩
                · -- 9 comes up
                  refine OV.step gno (Step.idx Try.underlying27 I3 (fun w h => h.os 11 rfl) rfl rfl (rfl) _ rfl (by first | omega | (show q < 4; omega) | (show 0 < 1; omega))) rfl ?_
                  refine AV.next #[true, true, true, true, true, true, true, true, true, true, false, true, true, true, true, false, true, false] (by kernel_rfl) (fun _ h => h.sel [0] rfl) ?_
                  refine AV.all [10] (by kernel_rfl) (by decide) ?_
                  refine ⟨⟨_, rfl, ?_⟩, trivial⟩
                  · -- 10 comes up
                    refine OV.step gno (Step.load Try.underlying3 rfl rfl (fun w h => (h.os 11 rfl).cell0 (by show q < 4; omega) rfl)) rfl ?_
                    obtain ⟨wd, hw0, hw1, hw2, hw3⟩ := wds_at hq4
                    rw [show wds.getD q (intK .i64).d = (wd : Int) from hw0]
                    refine AV.next #[true, true, true, true, true, true, true, true, true, true, true, true, true, true, true, false, true, false] (by kernel_rfl) (fun _ h => h.sel [0] rfl) ?_
                    refine AV.take 15 #[true, true, true, true, true, true, true, true, true, true, true, true, true, true, true, true, true, false] rfl (by kernel_rfl) (by kernel_rfl) (by kernel_rfl) (fun _ _ _ h => h) gno (Step.build rfl (Bd37_0_1_2_3_4 _ _ _ _ _)) rfl (fun _ h => h.sel [0] rfl) (by kernel_rfl) ?_
                    refine AV.all [17] (by kernel_rfl) (by decide) ?_
                    refine ⟨⟨_, rfl, ?_⟩, trivial⟩
                    · -- 17 comes up
                      refine OV.store 12 [_, _, _, _, _] #[_, _, _, _, _] I37 rfl rfl rfl rfl rfl (Nat.le_of_ble_eq_true rfl) (by simp [Value.oneCell']) rfl gno ?_
                      refine AV.next #[true, true, true, true, true, true, true, true, true, true, true, true, true, true, true, true, true, true] (by kernel_rfl) (fun _ h => h.sel [0] rfl) ?_
                      refine AV.done (by kernel_rfl) ?_
                      refine KV.then_n ?_
                      refine KV.env [(5, _), (8, _)] ⟨rfl, rfl, trivial⟩ ?_
                      refine KV.sel [1, 1, 1, 1, 6, 7] [_, _, _, _, _, _] rfl ?_
                      exact KV.join2 (ba) (⟨wd, hw1, hw2, hw3⟩) ⟨rfl, rfl, trivial⟩ (fun _ h => h)
            · -- 16 comes up
              refine OV.alloc #[.int .i64 0, .int .u64 0, .int .i64 0, .bool false, .int .u64 0] I37 rfl gno rfl (fun ba => ?_)
              refine AV.next #[true, true, true, true, true, true, true, true, false, false, false, true, true, true, true, false, true, false] (by kernel_rfl) (fun _ h => h.sel [0] rfl) ?_
              refine AV.all [8] (by kernel_rfl) (by decide) ?_
              refine ⟨⟨_, rfl, ?_⟩, trivial⟩
              · -- 8 comes up
                refine OV.call [] Try.func10 B10 N10 rfl rfl (fun w h => (mod_fn o3.width 4 (by omega) (by omega)).fn w) (fun _ hb => hb.elim) gno rfl (fun v L' hp => ?_)
                obtain ⟨rfl, rfl⟩ := hp
                simp only [List.append_nil]
                obtain ⟨q, hq, hq4⟩ := modN o3.width (n := 4) (by omega)
                rw [hq]
                refine AV.next #[true, true, true, true, true, true, true, true, true, false, false, true, true, true, true, false, true, false] (by kernel_rfl) (fun _ h => h.sel [0] rfl) ?_
                refine AV.all [9] (by kernel_rfl) (by decide) ?_
                refine ⟨⟨_, rfl, ?_⟩, trivial⟩
                · -- 9 comes up
                  refine OV.step gno (Step.idx Try.underlying27 I3 (fun w h => h.os 11 rfl) rfl rfl (rfl) _ rfl (by first | omega | (show q < 4; omega) | (show 0 < 1; omega))) rfl ?_
                  refine AV.next #[true, true, true, true, true, true, true, true, true, true, false, true, true, true, true, false, true, false] (by kernel_rfl) (fun _ h => h.sel [0] rfl) ?_
                  refine AV.all [10] (by kernel_rfl) (by decide) ?_
                  refine ⟨⟨_, rfl, ?_⟩, trivial⟩
                  · -- 10 comes up
                    refine OV.step gno (Step.load Try.underlying3 rfl rfl (fun w h => (h.os 11 rfl).cell0 (by show q < 4; omega) rfl)) rfl ?_
                    obtain ⟨wd, hw0, hw1, hw2, hw3⟩ := wds_at hq4
                    rw [show wds.getD q (intK .i64).d = (wd : Int) from hw0]
                    refine AV.next #[true, true, true, true, true, true, true, true, true, true, true, true, true, true, true, false, true, false] (by kernel_rfl) (fun _ h => h.sel [0] rfl) ?_
                    refine AV.take 15 #[true, true, true, true, true, true, true, true, true, true, true, true, true, true, true, true, true, false] rfl (by kernel_rfl) (by kernel_rfl) (by kernel_rfl) (fun _ _ _ h => h) gno (Step.build rfl (Bd37_0_1_2_3_4 _ _ _ _ _)) rfl (fun _ h => h.sel [0] rfl) (by kernel_rfl) ?_
                    refine AV.all [17] (by kernel_rfl) (by decide) ?_
                    refine ⟨⟨_, rfl, ?_⟩, trivial⟩
                    · -- 17 comes up
                      refine OV.store 12 [_, _, _, _, _] #[_, _, _, _, _] I37 rfl rfl rfl rfl rfl (Nat.le_of_ble_eq_true rfl) (by simp [Value.oneCell']) rfl gno ?_
                      refine AV.next #[true, true, true, true, true, true, true, true, true, true, true, true, true, true, true, true, true, true] (by kernel_rfl) (fun _ h => h.sel [0] rfl) ?_
                      refine AV.done (by kernel_rfl) ?_
                      refine KV.then_n ?_
                      refine KV.env [(5, _), (8, _)] ⟨rfl, rfl, trivial⟩ ?_
                      refine KV.sel [1, 1, 1, 1, 6, 7] [_, _, _, _, _, _] rfl ?_
                      exact KV.join2 (ba) (⟨wd, hw1, hw2, hw3⟩) ⟨rfl, rfl, trivial⟩ (fun _ h => h)
          · -- 16 comes up
            refine OV.alloc #[.int .i64 0, .int .u64 0, .int .i64 0, .bool false, .int .u64 0] I37 rfl gno rfl (fun ba => ?_)
            refine AV.next #[true, true, false, true, true, true, true, true, false, false, false, true, true, true, true, false, true, false] (by kernel_rfl) (fun _ h => h.sel [0] rfl) ?_
            refine AV.all [2] (by kernel_rfl) (by decide) ?_
            refine ⟨⟨_, rfl, ?_⟩, trivial⟩
            · -- 2 comes up
              refine OV.call [] Try.func10 B10 N10 rfl rfl (fun w h => (mod_fn o3.space 3 (by omega) (by omega)).fn w) (fun _ hb => hb.elim) gno rfl (fun v L' hp => ?_)
              obtain ⟨rfl, rfl⟩ := hp
              simp only [List.append_nil]
              refine AV.next #[true, true, true, true, true, true, true, true, false, false, false, true, true, true, true, false, true, false] (by kernel_rfl) (fun _ h => h.sel [0] rfl) ?_
              refine AV.all [8] (by kernel_rfl) (by decide) ?_
              refine ⟨⟨_, rfl, ?_⟩, trivial⟩
              · -- 8 comes up
                refine OV.call [] Try.func10 B10 N10 rfl rfl (fun w h => (mod_fn o3.width 4 (by omega) (by omega)).fn w) (fun _ hb => hb.elim) gno rfl (fun v L' hp => ?_)
                obtain ⟨rfl, rfl⟩ := hp
                simp only [List.append_nil]
                obtain ⟨q, hq, hq4⟩ := modN o3.width (n := 4) (by omega)
                rw [hq]
                refine AV.next #[true, true, true, true, true, true, true, true, true, false, false, true, true, true, true, false, true, false] (by kernel_rfl) (fun _ h => h.sel [0] rfl) ?_
                refine AV.all [9] (by kernel_rfl) (by decide) ?_
                refine ⟨⟨_, rfl, ?_⟩, trivial⟩
                · -- 9 comes up
                  refine OV.step gno (Step.idx Try.underlying27 I3 (fun w h => h.os 11 rfl) rfl rfl (rfl) _ rfl (by first | omega | (show q < 4; omega) | (show 0 < 1; omega))) rfl ?_
                  refine AV.next #[true, true, true, true, true, true, true, true, true, true, false, true, true, true, true, false, true, false] (by kernel_rfl) (fun _ h => h.sel [0] rfl) ?_
                  refine AV.all [10] (by kernel_rfl) (by decide) ?_
                  refine ⟨⟨_, rfl, ?_⟩, trivial⟩
                  · -- 10 comes up
                    refine OV.step gno (Step.load Try.underlying3 rfl rfl (fun w h => (h.os 11 rfl).cell0 (by show q < 4; omega) rfl)) rfl ?_
                    obtain ⟨wd, hw0, hw1, hw2, hw3⟩ := wds_at hq4
                    rw [show wds.getD q (intK .i64).d = (wd : Int) from hw0]
                    refine AV.next #[true, true, true, true, true, true, true, true, true, true, true, true, true, true, true, false, true, false] (by kernel_rfl) (fun _ h => h.sel [0] rfl) ?_
                    refine AV.take 15 #[true, true, true, true, true, true, true, true, true, true, true, true, true, true, true, true, true, false] rfl (by kernel_rfl) (by kernel_rfl) (by kernel_rfl) (fun _ _ _ h => h) gno (Step.build rfl (Bd37_0_1_2_3_4 _ _ _ _ _)) rfl (fun _ h => h.sel [0] rfl) (by kernel_rfl) ?_
                    refine AV.all [17] (by kernel_rfl) (by decide) ?_
                    refine ⟨⟨_, rfl, ?_⟩, trivial⟩
                    · -- 17 comes up
                      refine OV.store 12 [_, _, _, _, _] #[_, _, _, _, _] I37 rfl rfl rfl rfl rfl (Nat.le_of_ble_eq_true rfl) (by simp [Value.oneCell']) rfl gno ?_
                      refine AV.next #[true, true, true, true, true, true, true, true, true, true, true, true, true, true, true, true, true, true] (by kernel_rfl) (fun _ h => h.sel [0] rfl) ?_
                      refine AV.done (by kernel_rfl) ?_
                      refine KV.then_n ?_
                      refine KV.env [(5, _), (8, _)] ⟨rfl, rfl, trivial⟩ ?_
                      refine KV.sel [1, 1, 1, 1, 6, 7] [_, _, _, _, _, _] rfl ?_
                      exact KV.join2 (ba) (⟨wd, hw1, hw2, hw3⟩) ⟨rfl, rfl, trivial⟩ (fun _ h => h)
        · -- 16 comes up
          refine OV.alloc #[.int .i64 0, .int .u64 0, .int .i64 0, .bool false, .int .u64 0] I37 rfl gno rfl (fun ba => ?_)
          refine AV.next #[true, true, false, true, true, false, true, true, false, false, false, true, true, true, true, false, true, false] (by kernel_rfl) (fun _ h => h.sel [0] rfl) ?_
          refine AV.all [2, 5] (by kernel_rfl) (by decide) ?_
          refine ⟨⟨_, rfl, ?_⟩, ⟨⟨_, rfl, ?_⟩, trivial⟩⟩
          · -- 2 comes up
            refine OV.call [] Try.func10 B10 N10 rfl rfl (fun w h => (mod_fn o3.space 3 (by omega) (by omega)).fn w) (fun _ hb => hb.elim) gno rfl (fun v L' hp => ?_)
            obtain ⟨rfl, rfl⟩ := hp
            simp only [List.append_nil]
            refine AV.next #[true, true, true, true, true, false, true, true, false, false, false, true, true, true, true, false, true, false] (by kernel_rfl) (fun _ h => h.sel [0] rfl) ?_
            refine AV.all [5, 8] (by kernel_rfl) (by decide) ?_
            refine ⟨⟨_, rfl, ?_⟩, ⟨⟨_, rfl, ?_⟩, trivial⟩⟩
            · -- 5 comes up
              refine OV.buildSlice (K := (intK .i64)) (wds) rfl (Bs27_4_0_1_2_3 _ _ _ _) rfl rfl (by omega) gno rfl (fun b10_5 => ?_)
              refine AV.next #[true, true, true, true, true, true, true, true, false, false, false, true, true, true, true, false, true, false] (by kernel_rfl) (fun _ h => h.sel [0] rfl) ?_
              refine AV.all [8] (by kernel_rfl) (by decide) ?_
              refine ⟨⟨_, rfl, ?_⟩, trivial⟩
              · -- 8 comes up
                refine OV.call [] Try.func10 B10 N10 rfl rfl (fun w h => (mod_fn o3.width 4 (by omega) (by omega)).fn w) (fun _ hb => hb.elim) gno rfl (fun v L' hp => ?_)
                obtain ⟨rfl, rfl⟩ := hp
                simp only [List.append_nil]
                obtain ⟨q, hq, hq4⟩ := modN o3.width (n := 4) (by omega)
                rw [hq]
                refine AV.next #[true, true, true, true, true, true, true, true, true, false, false, true, true, true, true, false, true, false] (by kernel_rfl) (fun _ h => h.sel [0] rfl) ?_
                refine AV.all [9] (by kernel_rfl) (by decide) ?_
                refine ⟨⟨_, rfl, ?_⟩, trivial⟩
                · -- 9 comes up
                  refine OV.step gno (Step.idx Try.underlying27 I3 (fun w h => h.os 12 rfl) rfl rfl (rfl) _ rfl (by first | omega | (show q < 4; omega) | (show 0 < 1; omega))) rfl ?_
                  refine AV.next #[true, true, true, true, true, true, true, true, true, true, false, true, true, true, true, false, true, false] (by kernel_rfl) (fun _ h => h.sel [0] rfl) ?_
                  refine AV.all [10] (by kernel_rfl) (by decide) ?_
                  refine ⟨⟨_, rfl, ?_⟩, trivial⟩
                  · -- 10 comes up
                    refine OV.step gno (Step.load Try.underlying3 rfl rfl (fun w h => (h.os 12 rfl).cell0 (by show q < 4; omega) rfl)) rfl ?_
                    obtain ⟨wd, hw0, hw1, hw2, hw3⟩ := wds_at hq4
                    rw [show wds.getD q (intK .i64).d = (wd : Int) from hw0]
                    refine AV.next #[true, true, true, true, true, true, true, true, true, true, true, true, true, true, true, false, true, false] (by kernel_rfl) (fun _ h => h.sel [0] rfl) ?_
                    refine AV.take 15 #[true, true, true, true, true, true, true, true, true, true, true, true, true, true, true, true, true, false] rfl (by kernel_rfl) (by kernel_rfl) (by kernel_rfl) (fun _ _ _ h => h) gno (Step.build rfl (Bd37_0_1_2_3_4 _ _ _ _ _)) rfl (fun _ h => h.sel [0] rfl) (by kernel_rfl) ?_
                    refine AV.all [17] (by kernel_rfl) (by decide) ?_
                    refine ⟨⟨_, rfl, ?_⟩, trivial⟩
                    · -- 17 comes up
                      refine OV.store 11 [_, _, _, _, _] #[_, _, _, _, _] I37 rfl rfl rfl rfl rfl (Nat.le_of_ble_eq_true rfl) (by simp [Value.oneCell']) rfl gno ?_
                      refine AV.next #[true, true, true, true, true, true, true, true, true, true, true, true, true, true, true, true, true, true] (by kernel_rfl) (fun _ h => h.sel [0] rfl) ?_
                      refine AV.done (by kernel_rfl) ?_
                      refine KV.then_n ?_
                      refine KV.env [(5, _), (8, _)] ⟨rfl, rfl, trivial⟩ ?_
                      refine KV.sel [1, 1, 1, 1, 6, 6] [_, _, _, _, _, _] rfl ?_
                      exact KV.join2 (ba) (⟨wd, hw1, hw2, hw3⟩) ⟨rfl, rfl, trivial⟩ (fun _ h => h)
            · -- 8 comes up
              refine OV.call [] Try.func10 B10 N10 rfl rfl (fun w h => (mod_fn o3.width 4 (by omega) (by omega)).fn w) (fun _ hb => hb.elim) gno rfl (fun v L' hp => ?_)
              obtain ⟨rfl, rfl⟩ := hp
              simp only [List.append_nil]
              obtain ⟨q, hq, hq4⟩ := modN o3.width (n := 4) (by omega)
              rw [hq]
              refine AV.next #[true, true, true, true, true, false, true, true, true, false, false, true, true, true, true, false, true, false] (by kernel_rfl) (fun _ h => h.sel [0] rfl) ?_
              refine AV.all [5] (by kernel_rfl) (by decide) ?_
              refine ⟨⟨_, rfl, ?_⟩, trivial⟩
              · -- 5 comes up
                refine OV.buildSlice (K := (intK .i64)) (wds) rfl (Bs27_4_0_1_2_3 _ _ _ _) rfl rfl (by omega) gno rfl (fun b10_5 => ?_)
                refine AV.next #[true, true, true, true, true, true, true, true, true, false, false, true, true, true, true, false, true, false] (by kernel_rfl) (fun _ h => h.sel [0] rfl) ?_
                refine AV.all [9] (by kernel_rfl) (by decide) ?_
                refine ⟨⟨_, rfl, ?_⟩, trivial⟩
                · -- 9 comes up
                  refine OV.step gno (Step.idx Try.underlying27 I3 (fun w h => h.os 12 rfl) rfl rfl (rfl) _ rfl (by first | omega | (show q < 4; omega) | (show 0 < 1; omega))) rfl ?_
                  refine AV.next #[true, true, true, true, true, true, true, true, true, true, false, true, true, true, true, false, true, false] (by kernel_rfl) (fun _ h => h.sel [0] rfl) ?_
                  refine AV.all [10] (by kernel_rfl) (by decide) ?_
                  refine ⟨⟨_, rfl, ?_⟩, trivial⟩
                  · -- 10 comes up
                    refine OV.step gno (Step.load Try.underlying3 rfl rfl (fun w h => (h.os 12 rfl).cell0 (by show q < 4; omega) rfl)) rfl ?_
                    obtain ⟨wd, hw0, hw1, hw2, hw3⟩ := wds_at hq4
                    rw [show wds.getD q (intK .i64).d = (wd : Int) from hw0]
                    refine AV.next #[true, true, true, true, true, true, true, true, true, true, true, true, true, true, true, false, true, false] (by kernel_rfl) (fun _ h => h.sel [0] rfl) ?_
                    refine AV.take 15 #[true, true, true, true, true, true, true, true, true, true, true, true, true, true, true, true, true, false] rfl (by kernel_rfl) (by kernel_rfl) (by kernel_rfl) (fun _ _ _ h => h) gno (Step.build rfl (Bd37_0_1_2_3_4 _ _ _ _ _)) rfl (fun _ h => h.sel [0] rfl) (by kernel_rfl) ?_
                    refine AV.all [17] (by kernel_rfl) (by decide) ?_
                    refine ⟨⟨_, rfl, ?_⟩, trivial⟩
                    · -- 17 comes up
                      refine OV.store 11 [_, _, _, _, _] #[_, _, _, _, _] I37 rfl rfl rfl rfl rfl (Nat.le_of_ble_eq_true rfl) (by simp [Value.oneCell']) rfl gno ?_
                      refine AV.next #[true, true, true, true, true, true, true, true, true, true, true, true, true, true, true, true, true, true] (by kernel_rfl) (fun _ h => h.sel [0] rfl) ?_
                      refine AV.done (by kernel_rfl) ?_
                      refine KV.then_n ?_
                      refine KV.env [(5, _), (8, _)] ⟨rfl, rfl, trivial⟩ ?_
                      refine KV.sel [1, 1, 1, 1, 6, 6] [_, _, _, _, _, _] rfl ?_
                      exact KV.join2 (ba) (⟨wd, hw1, hw2, hw3⟩) ⟨rfl, rfl, trivial⟩ (fun _ h => h)
          · -- 5 comes up
            refine OV.buildSlice (K := (intK .i64)) (wds) rfl (Bs27_4_0_1_2_3 _ _ _ _) rfl rfl (by omega) gno rfl (fun b10_5 => ?_)
            refine AV.next #[true, true, false, true, true, true, true, true, false, false, false, true, true, true, true, false, true, false] (by kernel_rfl) (fun _ h => h.sel [0] rfl) ?_
            refine AV.all [2] (by kernel_rfl) (by decide) ?_
            refine ⟨⟨_, rfl, ?_⟩, trivial⟩
            · -- 2 comes up
              refine OV.call [] Try.func10 B10 N10 rfl rfl (fun w h => (mod_fn o3.space 3 (by omega) (by omega)).fn w) (fun _ hb => hb.elim) gno rfl (fun v L' hp => ?_)
              obtain ⟨rfl, rfl⟩ := hp
              simp only [List.append_nil]
              refine AV.next #[true, true, true, true, true, true, true, true, false, false, false, true, true, true, true, false, true, false] (by kernel_rfl) (fun _ h => h.sel [0] rfl) ?_
              refine AV.all [8] (by kernel_rfl) (by decide) ?_
              refine ⟨⟨_, rfl, ?_⟩, trivial⟩
              · -- 8 comes up
                refine OV.call [] Try.func10 B10 N10 rfl rfl (fun w h => (mod_fn o3.width 4 (by omega) (by omega)).fn w) (fun _ hb => hb.elim) gno rfl (fun v L' hp => ?_)
                obtain ⟨rfl, rfl⟩ := hp
                simp only [List.append_nil]
                obtain ⟨q, hq, hq4⟩ := modN o3.width (n := 4) (by omega)
                rw [hq]
                refine AV.next #[true, true, true, true, true, true, true, true, true, false, false, true, true, true, true, false, true, false] (by kernel_rfl) (fun _ h => h.sel [0] rfl) ?_
                refine AV.all [9] (by kernel_rfl) (by decide) ?_
                refine ⟨⟨_, rfl, ?_⟩, trivial⟩
                · -- 9 comes up
                  refine OV.step gno (Step.idx Try.underlying27 I3 (fun w h => h.os 12 rfl) rfl rfl (rfl) _ rfl (by first | omega | (show q < 4; omega) | (show 0 < 1; omega))) rfl ?_
                  refine AV.next #[true, true, true, true, true, true, true, true, true, true, false, true, true, true, true, false, true, false] (by kernel_rfl) (fun _ h => h.sel [0] rfl) ?_
                  refine AV.all [10] (by kernel_rfl) (by decide) ?_
                  refine ⟨⟨_, rfl, ?_⟩, trivial⟩
                  · -- 10 comes up
                    refine OV.step gno (Step.load Try.underlying3 rfl rfl (fun w h => (h.os 12 rfl).cell0 (by show q < 4; omega) rfl)) rfl ?_
                    obtain ⟨wd, hw0, hw1, hw2, hw3⟩ := wds_at hq4
                    rw [show wds.getD q (intK .i64).d = (wd : Int) from hw0]
                    refine AV.next #[true, true, true, true, true, true, true, true, true, true, true, true, true, true, true, false, true, false] (by kernel_rfl) (fun _ h => h.sel [0] rfl) ?_
                    refine AV.take 15 #[true, true, true, true, true, true, true, true, true, true, true, true, true, true, true, true, true, false] rfl (by kernel_rfl) (by kernel_rfl) (by kernel_rfl) (fun _ _ _ h => h) gno (Step.build rfl (Bd37_0_1_2_3_4 _ _ _ _ _)) rfl (fun _ h => h.sel [0] rfl) (by kernel_rfl) ?_
                    refine AV.all [17] (by kernel_rfl) (by decide) ?_
                    refine ⟨⟨_, rfl, ?_⟩, trivial⟩
                    · -- 17 comes up
                      refine OV.store 11 [_, _, _, _, _] #[_, _, _, _, _] I37 rfl rfl rfl rfl rfl (Nat.le_of_ble_eq_true rfl) (by simp [Value.oneCell']) rfl gno ?_
                      refine AV.next #[true, true, true, true, true, true, true, true, true, true, true, true, true, true, true, true, true, true] (by kernel_rfl) (fun _ h => h.sel [0] rfl) ?_
                      refine AV.done (by kernel_rfl) ?_
                      refine KV.then_n ?_
                      refine KV.env [(5, _), (8, _)] ⟨rfl, rfl, trivial⟩ ?_
                      refine KV.sel [1, 1, 1, 1, 6, 6] [_, _, _, _, _, _] rfl ?_
                      exact KV.join2 (ba) (⟨wd, hw1, hw2, hw3⟩) ⟨rfl, rfl, trivial⟩ (fun _ h => h)
      · intro ba wd
        refine CV.seq ?_
        -- region 11 law.go:115
        have hwd1 := wd.2.2.1
        have hwd2 := wd.2.2.2
        refine CV.stillTail 10 (by kernel_rfl) (by kernel_rfl) (fun _ h => h.drew) ?_
        refine SV.step gno (Step.fieldAddr rfl (F37_1 _ _)) rfl ?_
        refine SV.step gno (Step.load Try.underlying22 rfl rfl (fun w h => h.cell 5 rfl rfl)) rfl ?_
        refine SV.step gno (Step.fieldAddr rfl (F37_1 _ _)) rfl ?_
        refine SV.step gno (Step.load Try.underlying22 rfl rfl (fun w h => h.cell 5 rfl rfl)) rfl ?_
        refine SV.step gno (Step.fieldAddr rfl (F37_2 _ _)) rfl ?_
        refine SV.step gno (Step.load Try.underlying3 rfl rfl (fun w h => h.cell 5 rfl rfl)) rfl ?_
        (first | refine SV.step gno (Step.convI Try.underlying3 Try.underlying22 rfl (wU64 (by omega) (by omega))) rfl ?_ | refine SV.step gno (Step.convI Try.underlying3 Try.underlying22 rfl rfl) rfl ?_)
        refine SV.step gno (Step.rem rfl rfl (by omega) (rfl)) rfl ?_
        have hrm := rem_le (y := (wd.1 : Int)) ho3.1.1
        have hy2 := ho3.1.2
        (first | refine SV.step gno (Step.sub rfl rfl (wU64 (by omega) (by omega))) rfl ?_ | refine SV.step gno (Step.sub rfl rfl rfl) rfl ?_)
        refine SV.step gno (Step.fieldAddr rfl (F37_1 _ _)) rfl ?_
        refine SV.nil ?_
        show KV _ (wpList _ _ _ _) _ _
        refine RV.op (OV.store 5 [_] #[_, _, _, _, _] I22 rfl rfl rfl rfl rfl (Nat.le_of_ble_eq_true rfl) (by simp [Value.oneCell']) rfl gno ?_)
        refine RV.nil ?_
        refine KV.then_n ?_
        refine KV.env [(5, _), (8, _)] ⟨rfl, rfl, trivial⟩ ?_
        refine CV.seq ?_
        refine CV.seq ?_
        -- region 12 law.go:116
        obtain ⟨X, hX⟩ : ∃ X, X = o3.addr - o3.addr.tmod wd.1 := ⟨_, rfl⟩
        rw [← hX]
        have hsp := modM_lt o3.space (n := 3) (by omega)
        have hA : wfA (⟨(modM o3.space 3), X, wd.1, o3.wr, o3.val⟩ : Acs) := ⟨wd.2.1, hsp, by rw [hX]; exact al0 ho3.1.1 wd.2.1⟩
        have hXU : isU X := by unfold isU; omega
        have hXr := wfA_rng hA hXU
        unfold okR at hXr
        simp only [] at hXr
        unfold isU at hXU
        refine CV.region ?_
        refine RV.op (OV.step gno (Step.assign rfl) rfl ?_)
        refine RV.nil ?_
        refine KV.then_n ?_
        refine KV.env [(5, _), (8, _), (9, _)] ⟨rfl, rfl, rfl, trivial⟩ ?_
        refine CV.block ?_
        -- loop L13; live [5, 8, 9]
        refine KV.sel [0, 0, 0, 0, 0, 0] [_, _, _, _, _, _] rfl ?_
        refine CV.loop2 (fun (i : Nat) (s : BS) => i ≤ 5 ∧ s.ok) (fun (i : Nat) (s : BS) => 5 - i) (fun (i : Nat) (s : BS) => [(5, .pointer (some ⟨bp, 0, none⟩)), (8, .pointer (some ⟨ba, 0, none⟩)), (9, .int .i64 ((i : Int) - 1))]) (fun (i : Nat) (s : BS) => Hp I w (busL b s ++ [Blk bp (.cells #[.pointer (some ⟨b, 0, none⟩), .pointer (some ⟨c, 0, none⟩)] 58 (0, 0)), Blk ba (.cells #[.int .i64 (modM o3.space 3), .int .u64 (X), .int .i64 (wd.1 : Int), .bool o3.wr, .int .u64 o3.val] 37 (0, 0))])) (0) (s) ⟨Nat.zero_le _, hinv.2.sk⟩ ⟨rfl, rfl, rfl, trivial⟩ (fun _ h => h) ?_
        intro i s hk1
        refine CV.seq ?_
        refine CV.seq ?_
        -- region 13 law.go:116
        refine CV.region ?_
        refine RV.op (OV.step gno (Step.move rfl) rfl ?_)
        refine RV.op (OV.split gno (Step.lss rfl rfl) rfl (fun hi1 => ?_) (fun hi1 => ?_))
        · -- True
          refine RV.nil ?_
          refine KV.then_n ?_
          refine KV.env [(5, _), (8, _), (9, _), (72, _)] ⟨rfl, rfl, rfl, rfl, trivial⟩ ?_
          refine CV.cond_t rfl ?_
          refine CV.skip ?_
          refine KV.then_n ?_
          refine KV.env [(5, _), (8, _), (9, _)] ⟨rfl, rfl, rfl, trivial⟩ ?_
          refine CV.seq ?_
          refine CV.block ?_
          -- region 15 law.go:117
          refine CV.region ?_
          refine RV.op (OV.step gno (Step.fieldAddr rfl (F58_0 _ _)) rfl ?_)
          refine RV.op (OV.step gno (Step.load Try.underlying24 rfl rfl (fun w h => h.cell 4 rfl rfl)) rfl ?_)
          refine RV.op (OV.step gno (Step.move rfl) rfl ?_)
          refine RV.op (OV.call [0, 0, 0, 0] (F := [_, _]) Try.func12 B12 N12 rfl rfl (fun w h => enO_fn b s hk1.2 ((i : Int) - 1) false) (fun _ hb => hb.elim) gno rfl (fun v L' hp => ?_))
          obtain ⟨e1, s3, rfl, rfl, h1⟩ := hp
          refine RV.nil ?_
          refine KV.block_n ?_
          refine KV.then_n ?_
          refine KV.env [(5, _), (8, _), (9, _)] ⟨rfl, rfl, rfl, trivial⟩ ?_
          -- region 14 law.go:116
          refine CV.region ?_
          refine RV.op (OV.step gno (Step.move rfl) rfl ?_)
          (first | refine RV.op (OV.step gno (Step.add rfl rfl (wI64 (by omega) (by omega))) rfl ?_) | refine RV.op (OV.step gno (Step.add rfl rfl rfl) rfl ?_))
          refine RV.op (OV.step gno (Step.assign rfl) rfl ?_)
          refine RV.nil ?_
          refine KV.then_n ?_
          refine KV.env [(5, _), (8, _), (9, _)] ⟨rfl, rfl, rfl, trivial⟩ ?_
          refine KV.sel [2, 2, 2, 2, 0, 0] [_, _, _, _, _, _] rfl ?_
          exact KV.loop2 (x := i) (y := s) (i + 1) (s3) ⟨by omega, h1.ok hk1.2⟩ (by omega) ⟨rfl, rfl, (congrArg (fun x => some (Value.int .i64 x)) (show (i : Int) - 1 + 1 = ((i + 1 : Nat) : Int) - 1 by omega)), trivial⟩ (fun _ h => h)
        · -- False
          refine RV.nil ?_
          refine KV.then_n ?_
          refine KV.env [(5, _), (8, _), (9, _), (72, _)] ⟨rfl, rfl, rfl, rfl, trivial⟩ ?_
          refine CV.cond_f rfl ?_
          refine CV.exit ?_
          refine KV.then_exit ?_
          refine KV.then_exit ?_
          refine KV.block_hit ?_
          refine KV.then_n ?_
          refine KV.env [(5, _), (8, _)] ⟨rfl, rfl, trivial⟩ ?_
          refine CV.seq ?_
          refine CV.seq ?_
          -- region 16 law.go:119
          refine CV.region ?_
          refine RV.op (OV.step gno (Step.assign rfl) rfl ?_)
          refine RV.nil ?_
          refine KV.then_n ?_
          refine KV.env [(5, _), (8, _), (10, _)] ⟨rfl, rfl, rfl, trivial⟩ ?_
          refine CV.block ?_
          -- loop L17; live [5, 8, 10]
          refine KV.sel [0, 0, 0, 0, 0, 0] [_, _, _, _, _, _] rfl ?_
          refine CV.loop2 (fun (i : Nat) (s : BS) => (i ≤ 256 ∧ s.ok) ∧ ∀ k, k < i → s.en.getD k false = false) (fun (i : Nat) (s : BS) => 256 - i) (fun (i : Nat) (s : BS) => [(5, .pointer (some ⟨bp, 0, none⟩)), (8, .pointer (some ⟨ba, 0, none⟩)), (10, .int .i64 i)]) (fun (i : Nat) (s : BS) => Hp I w (busL b s ++ [Blk bp (.cells #[.pointer (some ⟨b, 0, none⟩), .pointer (some ⟨c, 0, none⟩)] 58 (0, 0)), Blk ba (.cells #[.int .i64 (modM o3.space 3), .int .u64 (X), .int .i64 (wd.1 : Int), .bool o3.wr, .int .u64 o3.val] 37 (0, 0))])) (0) (s) ⟨⟨Nat.zero_le _, hk1.2⟩, fun k hk => by omega⟩ ⟨rfl, rfl, rfl, trivial⟩ (fun _ h => h) ?_
          intro i s hk2
          refine CV.seq ?_
          refine CV.seq ?_
          -- region 17 law.go:119
          refine CV.region ?_
          refine RV.op (OV.step gno (Step.move rfl) rfl ?_)
          refine RV.op (OV.split gno (Step.lss rfl rfl) rfl (fun hi1 => ?_) (fun hi1 => ?_))
          · -- True
            refine RV.nil ?_
            refine KV.then_n ?_
            refine KV.env [(5, _), (8, _), (10, _), (80, _)] ⟨rfl, rfl, rfl, rfl, trivial⟩ ?_
            refine CV.cond_t rfl ?_
            refine CV.skip ?_
            refine KV.then_n ?_
            refine KV.env [(5, _), (8, _), (10, _)] ⟨rfl, rfl, rfl, trivial⟩ ?_
            refine CV.seq ?_
            refine CV.block ?_
            -- region 19 law.go:120
            refine CV.region ?_
            refine RV.op (OV.step gno (Step.fieldAddr rfl (F58_0 _ _)) rfl ?_)
            refine RV.op (OV.step gno (Step.load Try.underlying24 rfl rfl (fun w h => h.cell 4 rfl rfl)) rfl ?_)
            refine RV.op (OV.step gno (Step.move rfl) rfl ?_)
            refine RV.op (OV.call [0, 0, 0, 0] (F := [_, _]) Try.func12 B12 N12 rfl rfl (fun w h => enO_fn b s hk2.1.2 (i : Int) false) (fun _ hb => hb.elim) gno rfl (fun v L' hp => ?_))
            obtain ⟨e1, s3, rfl, rfl, h1⟩ := hp
            obtain ⟨g1, g2⟩ := enO_step h1 hk2.1.2 (by omega) hk2.2
            refine RV.nil ?_
            refine KV.block_n ?_
            refine KV.then_n ?_
            refine KV.env [(5, _), (8, _), (10, _)] ⟨rfl, rfl, rfl, trivial⟩ ?_
            -- region 18 law.go:119
            refine CV.region ?_
            refine RV.op (OV.step gno (Step.move rfl) rfl ?_)
            (first | refine RV.op (OV.step gno (Step.add rfl rfl (wI64 (by omega) (by omega))) rfl ?_) | refine RV.op (OV.step gno (Step.add rfl rfl rfl) rfl ?_))
            refine RV.op (OV.step gno (Step.assign rfl) rfl ?_)
            refine RV.nil ?_
            refine KV.then_n ?_
            refine KV.env [(5, _), (8, _), (10, _)] ⟨rfl, rfl, rfl, trivial⟩ ?_
            refine KV.sel [2, 2, 2, 2, 0, 0] [_, _, _, _, _, _] rfl ?_
            exact KV.loop2 (x := i) (y := s) (i + 1) (s3) ⟨⟨by omega, g1⟩, g2⟩ (by omega) ⟨rfl, rfl, rfl, trivial⟩ (fun _ h => h)
          · -- False
            obtain rfl : i = 256 := by omega
            refine RV.nil ?_
            refine KV.then_n ?_
            refine KV.env [(5, _), (8, _), (10, _), (80, _)] ⟨rfl, rfl, rfl, rfl, trivial⟩ ?_
            refine CV.cond_f rfl ?_
            refine CV.exit ?_
            refine KV.then_exit ?_
            refine KV.then_exit ?_
            refine KV.block_hit ?_
            refine KV.then_n ?_
            refine KV.env [(5, _), (8, _)] ⟨rfl, rfl, trivial⟩ ?_
            refine CV.seq ?_
            -- region 20 law.go:122
            refine CV.region ?_
            refine RV.op (OV.step gno (Step.fieldAddr rfl (F58_0 _ _)) rfl ?_)
            refine RV.op (OV.step gno (Step.load Try.underlying24 rfl rfl (fun w h => h.cell 4 rfl rfl)) rfl ?_)
            refine RV.op (OV.call [0, 0, 0, 0] (F := [_, _]) Try.func21 B21 N21 rfl rfl (fun w h => takeTrace_fn b s hk2.1.2) (fun _ hb => hb.elim) gno rfl (fun v L' hp => ?_))
            obtain ⟨rfl, rfl⟩ := hp
            obtain ⟨s4, hs4⟩ : ∃ s9 : BS, ({ s with tA := none, tc := 0, tr := [] } : BS) = s9 := ⟨_, rfl⟩
            rw [hs4]
            have hk4 : s4.ok := hs4 ▸ hk2.1.2.noTr
            have ht4 : s4.tr = [] := by rw [← hs4]
            have he4 : ∀ k, k < 256 → s4.en.getD k false = false := by rw [← hs4]; exact fun k hk => hk2.2 k (by omega)
            refine RV.nil ?_
            refine KV.then_n ?_
            refine KV.env [(5, _), (8, _)] ⟨rfl, rfl, trivial⟩ ?_
            refine CV.seq ?_
            -- region 21 law.go:123
            refine CV.region ?_
            refine RV.op (OV.alloc #[.int .u8 0, .int .u8 0, .int .u8 0, .int .u8 0, .int .u8 0, .int .u8 0, .int .u8 0, .int .u8 0] I65 rfl gno rfl (fun ob => ?_))
            refine KV.heap (fun w h => h.last fun J hJ => OS.ofBlk (K := intK .u8) (ys := List.replicate 8 0) (c := 8) hJ (by rw [List.length_replicate]; omega) (by unfold maxLen; omega) rfl rfl) ?_
            refine RV.nil ?_
            refine KV.then_n ?_
            refine KV.env [(5, _), (8, _), (11, _)] ⟨rfl, rfl, rfl, trivial⟩ ?_
            refine CV.seq ?_
            refine CV.seq ?_
            -- region 22 law.go:124
            refine CV.region ?_
            refine RV.op (OV.step gno (Step.assign rfl) rfl ?_)
            refine RV.nil ?_
            refine KV.then_n ?_
            refine KV.env [(5, _), (8, _), (11, _), (12, _)] ⟨rfl, rfl, rfl, rfl, trivial⟩ ?_
            refine CV.block ?_
            -- loop L23; live [5, 8, 11, 12]
            refine KV.sel [2, 2, 2, 2, 0, 0, 1] [_, _, _, _, _, _, _] rfl ?_
            refine CV.loopI (fun (i : Nat) => i ≤ wd.1) (fun (i : Nat) => wd.1 - i) (fun (i : Nat) => [(5, .pointer (some ⟨bp, 0, none⟩)), (8, .pointer (some ⟨ba, 0, none⟩)), (11, .pointer (some ⟨ob, 0, none⟩)), (12, .int .i64 i)]) (fun (i : Nat) => Hp I w (busL b s4 ++ [Blk bp (.cells #[.pointer (some ⟨b, 0, none⟩), .pointer (some ⟨c, 0, none⟩)] 58 (0, 0)), Blk ba (.cells #[.int .i64 (modM o3.space 3), .int .u64 (X), .int .i64 (wd.1 : Int), .bool o3.wr, .int .u64 o3.val] 37 (0, 0)), OS 65 (intK .u8) (some ⟨ob, 0, none⟩) 8 (WL s4 (modM o3.space 3) X i)])) (0) (Nat.zero_le _) ⟨rfl, rfl, rfl, rfl, trivial⟩ (fun _ h => by rw [WL_0]; exact h) ?_
            intro i hk3
            refine CV.seq ?_
            refine CV.seq ?_
            -- region 23 law.go:124
            refine CV.region ?_
            refine RV.op (OV.step gno (Step.move rfl) rfl ?_)
            refine RV.op (OV.step gno (Step.fieldAddr rfl (F37_2 _ _)) rfl ?_)
            refine RV.op (OV.step gno (Step.load Try.underlying3 rfl rfl (fun w h => h.cell 5 rfl rfl)) rfl ?_)
            refine RV.op (OV.split gno (Step.lss rfl rfl) rfl (fun hi1 => ?_) (fun hi1 => ?_))
            · -- True
              refine RV.nil ?_
              refine KV.then_n ?_
              refine KV.env [(5, _), (8, _), (11, _), (12, _), (93, _)] ⟨rfl, rfl, rfl, rfl, rfl, trivial⟩ ?_
              refine CV.cond_t rfl ?_
              refine CV.skip ?_
              refine KV.then_n ?_
              refine KV.env [(5, _), (8, _), (11, _), (12, _)] ⟨rfl, rfl, rfl, rfl, trivial⟩ ?_
              refine CV.seq ?_
              refine CV.block ?_
              -- region 25 law.go:125
              refine CV.region ?_
              refine RV.op (OV.step gno (Step.move rfl) rfl ?_)
              refine RV.op (OV.step gno (Step.fieldAddr rfl (F58_0 _ _)) rfl ?_)
              refine RV.op (OV.step gno (Step.load Try.underlying24 rfl rfl (fun w h => h.cell 4 rfl rfl)) rfl ?_)
              refine RV.op (OV.step gno (Step.fieldAddr rfl (F37_0 _ _)) rfl ?_)
              refine RV.op (OV.step gno (Step.load Try.underlying3 rfl rfl (fun w h => h.cell 5 rfl rfl)) rfl ?_)
              refine RV.op (OV.step gno (Step.fieldAddr rfl (F37_1 _ _)) rfl ?_)
              refine RV.op (OV.step gno (Step.load Try.underlying22 rfl rfl (fun w h => h.cell 5 rfl rfl)) rfl ?_)
              refine RV.op (OV.step gno (Step.move rfl) rfl ?_)
              (first | refine RV.op (OV.step gno (Step.convI Try.underlying3 Try.underlying22 rfl (wU64 (by omega) (by omega))) rfl ?_) | refine RV.op (OV.step gno (Step.convI Try.underlying3 Try.underlying22 rfl rfl) rfl ?_))
              (first | refine RV.op (OV.step gno (Step.add rfl rfl (wU64 (by omega) (by omega))) rfl ?_) | refine RV.op (OV.step gno (Step.add rfl rfl rfl) rfl ?_))
              refine RV.op (OV.call [0, 0, 0, 0] (F := [_, _, _]) Try.func17 B17 N17 rfl rfl (fun w h => peek_fn b s4 hk4 (modM o3.space 3) (X + (i : Int)) (by unfold isU; omega)) (fun _ hb => hb.elim) gno rfl (fun v L' hp => ?_))
              obtain ⟨rfl, rfl⟩ := hp
              refine RV.op (OV.step gno (Step.move rfl) rfl ?_)
              refine RV.op (OV.step gno (Step.extract0 rfl rfl) rfl ?_)
              refine RV.op (OV.step gno (Step.extract0 rfl rfl) rfl ?_)
              refine RV.op (OV.step gno (Step.idxArr Try.underlying65 I5 rfl rfl _ rfl (by first | omega | (show q < 4; omega) | (show 0 < 1; omega))) rfl ?_)
              refine RV.op (OV.storeE 2 (i) (pkM s4 (modM o3.space 3) (X + (i : Int))) (j := 0) [_] I5 rfl rfl rfl rfl rfl rfl (by rw [WL_len]; omega) rfl (Nat.le_of_ble_eq_true rfl) gno ?_)
              refine RV.nil ?_
              refine KV.block_n ?_
              refine KV.then_n ?_
              refine KV.env [(5, _), (8, _), (11, _), (12, _)] ⟨rfl, rfl, rfl, rfl, trivial⟩ ?_
              -- region 24 law.go:124
              refine CV.region ?_
              refine RV.op (OV.step gno (Step.move rfl) rfl ?_)
              (first | refine RV.op (OV.step gno (Step.add rfl rfl (wI64 (by omega) (by omega))) rfl ?_) | refine RV.op (OV.step gno (Step.add rfl rfl rfl) rfl ?_))
              refine RV.op (OV.step gno (Step.assign rfl) rfl ?_)
              refine RV.nil ?_
              refine KV.then_n ?_
              refine KV.env [(5, _), (8, _), (11, _), (12, _)] ⟨rfl, rfl, rfl, rfl, trivial⟩ ?_
              refine KV.sel [3, 3, 3, 3, 0, 0, 0] [_, _, _, _, _, _, _] rfl ?_
              exact KV.loopI (z := i) (i + 1) (by omega) (by omega) ⟨rfl, rfl, rfl, rfl, trivial⟩ (fun _ h => by rw [WL_s (by omega)]; exact h)
            · -- False
              obtain rfl : i = wd.1 := by omega
              refine RV.nil ?_
              refine KV.then_n ?_
              refine KV.env [(5, _), (8, _), (11, _), (12, _), (93, _)] ⟨rfl, rfl, rfl, rfl, rfl, trivial⟩ ?_
              refine CV.cond_f rfl ?_
              refine CV.exit ?_
              refine KV.then_exit ?_
              refine KV.then_exit ?_
              refine KV.block_hit ?_
              refine KV.then_n ?_
              refine KV.env [(5, _), (8, _), (11, _)] ⟨rfl, rfl, rfl, trivial⟩ ?_
              refine CV.seq ?_
              -- region 26 law.go:127
              refine CV.region ?_
              refine RV.op (OV.step gno (Step.fieldAddr rfl (F58_0 _ _)) rfl ?_)
              refine RV.op (OV.step gno (Step.load Try.underlying24 rfl rfl (fun w h => h.cell 4 rfl rfl)) rfl ?_)
              refine RV.op (OV.step gno (Step.loadN _ Try.underlying37 rfl I37 rfl rfl (fun w h => h.cells 5 rfl)) rfl ?_)
              refine RV.op (OV.call [0, 0, 0, 0] (F := [_, _, _]) Try.func13 B13 N13 rfl rfl (fun w h => accZ_fn b s4 hk4 (⟨(modM o3.space 3), X, wd.1, o3.wr, o3.val⟩ : Acs) (show isU X by unfold isU; omega) ho3.2.2 hA (by rw [ht4]; decide)) (fun _ hb => hb.elim) gno rfl (fun v L' hp => ?_))
              obtain ⟨A5, c5, tA5, tc5, hA5, rfl, rfl⟩ := hp
              obtain ⟨dE, dV, dP, T0, dT, dl, df⟩ := dead_acc (A := A5) (c := c5) (tA := tA5) (tc := tc5) (dead_lv hk4 he4 (a := (⟨(modM o3.space 3), X, wd.1, o3.wr, o3.val⟩ : Acs)))
              have hk5 := accS_ok (c := c5) hk4 hA hA5 tA5 tc5 (by rw [ht4]; decide)
              obtain ⟨s5, hs5⟩ : ∃ s9 : BS, accS s4 (⟨(modM o3.space 3), X, wd.1, o3.wr, o3.val⟩ : Acs) A5 c5 tA5 tc5 = s9 := ⟨_, rfl⟩
              rw [hs5] at dP dT hk5 ⊢
              rw [dE, dV]
              rw [ht4, List.nil_append] at dT
              refine RV.op (OV.step gno (Step.move rfl) rfl ?_)
              refine RV.op (OV.step gno (Step.extract0 rfl rfl) rfl ?_)
              refine RV.op (OV.step gno (Step.extract0 rfl rfl) rfl ?_)
              refine RV.op (OV.step gno (Step.assign rfl) rfl ?_)
              refine RV.op (OV.step gno (Step.assign rfl) rfl ?_)
              refine RV.nil ?_
              refine KV.then_n ?_
              refine KV.env [(5, _), (8, _), (11, _), (13, _), (14, _)] ⟨rfl, rfl, rfl, rfl, rfl, trivial⟩ ?_
              refine CV.seq ?_
              -- region 27 law.go:128
              refine CV.region ?_
              refine RV.op (OV.step gno (Step.fieldAddr rfl (F58_0 _ _)) rfl ?_)
              refine RV.op (OV.step gno (Step.load Try.underlying24 rfl rfl (fun w h => h.cell 0 rfl rfl)) rfl ?_)
              refine RV.op (OV.call [3, 3, 3, 3] (F := [_, _, _]) Try.func21 B21 N21 rfl rfl (fun w h => takeTrace_fn b s5 hk5) (fun _ hb => hb.elim) gno rfl (fun v L' hp => ?_))
              obtain ⟨rfl, rfl⟩ := hp
              rw [dT]
              obtain ⟨s6, hs6⟩ : ∃ s9 : BS, ({ s5 with tA := none, tc := 0, tr := [] } : BS) = s9 := ⟨_, rfl⟩
              rw [hs6]
              have hk6 : s6.ok := hs6 ▸ hk5.noTr
              have dP6 : ∀ z x, pkM s6 z x = pkM s4 z x := fun z x => by rw [← hs6]; exact dP z x
              refine RV.op (OV.step gno (Step.assign rfl) rfl ?_)
              refine RV.nil ?_
              refine KV.then_n ?_
              refine KV.env [(5, _), (8, _), (11, _), (13, _), (14, _), (15, _)] ⟨rfl, rfl, rfl, rfl, rfl, rfl, trivial⟩ ?_
              refine CV.seq ?_
              refine CV.seq ?_
              -- region 28 law.go:129
              refine CV.region ?_
              refine RV.op (OV.step gno (Step.assign rfl) rfl ?_)
              refine RV.nil ?_
              refine KV.then_n ?_
              refine KV.env [(5, _), (8, _), (11, _), (13, _), (14, _), (15, _), (16, _)] ⟨rfl, rfl, rfl, rfl, rfl, rfl, rfl, trivial⟩ ?_
              refine CV.block ?_
              -- loop L29; live [5, 8, 11, 13, 14, 15, 16]
              refine KV.sel [3, 3, 3, 3, 0, 0, 0, 0] [_, _, _, _, _, _, _, _] rfl ?_
              refine CV.loopI (fun (i : Nat) => i ≤ wd.1) (fun (i : Nat) => wd.1 - i) (fun (i : Nat) => [(5, .pointer (some ⟨bp, 0, none⟩)), (8, .pointer (some ⟨ba, 0, none⟩)), (11, .pointer (some ⟨ob, 0, none⟩)), (13, .int .u64 (if o3.wr = true then 0 else onesM (wd.1 : Int))), (14, .int .i64 0), (15, .slice s5.tA ([T0] : List Trc).length s5.tc), (16, .int .i64 i)]) (fun (i : Nat) => Hp I w (busL b s6 ++ [Blk bp (.cells #[.pointer (some ⟨b, 0, none⟩), .pointer (some ⟨c, 0, none⟩)] 58 (0, 0)), Blk ba (.cells #[.int .i64 (modM o3.space 3), .int .u64 (X), .int .i64 (wd.1 : Int), .bool o3.wr, .int .u64 o3.val] 37 (0, 0)), OS 65 (intK .u8) (some ⟨ob, 0, none⟩) 8 (WL s4 (modM o3.space 3) X wd.1), OS 63 trcK s5.tA s5.tc [T0]])) (0) (Nat.zero_le _) ⟨rfl, rfl, rfl, rfl, rfl, rfl, rfl, trivial⟩ (fun _ h => h) ?_
              intro i hk3
              refine CV.seq ?_
              refine CV.seq ?_
              -- region 29 law.go:129
              refine CV.region ?_
              refine RV.op (OV.step gno (Step.move rfl) rfl ?_)
              refine RV.op (OV.step gno (Step.fieldAddr rfl (F37_2 _ _)) rfl ?_)
              refine RV.op (OV.step gno (Step.load Try.underlying3 rfl rfl (fun w h => h.cell 5 rfl rfl)) rfl ?_)
              refine RV.op (OV.split gno (Step.lss rfl rfl) rfl (fun hi1 => ?_) (fun hi1 => ?_))
              · -- True
                refine RV.nil ?_
                refine KV.then_n ?_
                refine KV.env [(5, _), (8, _), (11, _), (13, _), (14, _), (15, _), (16, _), (124, _)] ⟨rfl, rfl, rfl, rfl, rfl, rfl, rfl, rfl, trivial⟩ ?_
                refine CV.cond_t rfl ?_
                refine CV.skip ?_
                refine KV.then_n ?_
                refine KV.env [(5, _), (8, _), (11, _), (13, _), (14, _), (15, _), (16, _)] ⟨rfl, rfl, rfl, rfl, rfl, rfl, rfl, trivial⟩ ?_
                refine CV.seq ?_
                refine CV.block ?_
                refine CV.seq ?_
                -- region 31 law.go:130
                refine CV.region ?_
                refine RV.op (OV.step gno (Step.fieldAddr rfl (F58_0 _ _)) rfl ?_)
                refine RV.op (OV.step gno (Step.load Try.underlying24 rfl rfl (fun w h => h.cell 4 rfl rfl)) rfl ?_)
                refine RV.op (OV.step gno (Step.fieldAddr rfl (F37_0 _ _)) rfl ?_)
                refine RV.op (OV.step gno (Step.load Try.underlying3 rfl rfl (fun w h => h.cell 5 rfl rfl)) rfl ?_)
                refine RV.op (OV.step gno (Step.fieldAddr rfl (F37_1 _ _)) rfl ?_)
                refine RV.op (OV.step gno (Step.load Try.underlying22 rfl rfl (fun w h => h.cell 5 rfl rfl)) rfl ?_)
                refine RV.op (OV.step gno (Step.move rfl) rfl ?_)
                (first | refine RV.op (OV.step gno (Step.convI Try.underlying3 Try.underlying22 rfl (wU64 (by omega) (by omega))) rfl ?_) | refine RV.op (OV.step gno (Step.convI Try.underlying3 Try.underlying22 rfl rfl) rfl ?_))
                (first | refine RV.op (OV.step gno (Step.add rfl rfl (wU64 (by omega) (by omega))) rfl ?_) | refine RV.op (OV.step gno (Step.add rfl rfl rfl) rfl ?_))
                refine RV.op (OV.call [0, 0, 0, 0] (F := [_, _, _, _]) Try.func17 B17 N17 rfl rfl (fun w h => peek_fn b s6 hk6 (modM o3.space 3) (X + (i : Int)) (by unfold isU; omega)) (fun _ hb => hb.elim) gno rfl (fun v L' hp => ?_))
                obtain ⟨rfl, rfl⟩ := hp
                rw [dP6]
                refine RV.op (OV.step gno (Step.move rfl) rfl ?_)
                refine RV.op (OV.step gno (Step.extract0 rfl rfl) rfl ?_)
                refine RV.op (OV.step gno (Step.extract0 rfl rfl) rfl ?_)
                refine RV.op (OV.step gno (Step.assign rfl) rfl ?_)
                refine RV.op (OV.step gno (Step.assign rfl) rfl ?_)
                refine RV.nil ?_
                refine KV.then_n ?_
                refine KV.env [(5, _), (8, _), (11, _), (13, _), (14, _), (15, _), (16, _), (17, _)] ⟨rfl, rfl, rfl, rfl, rfl, rfl, rfl, rfl, trivial⟩ ?_
                refine CV.seq ?_
                -- region 32 law.go:130
                refine CV.region ?_
                refine RV.op (OV.step gno (Step.move rfl) rfl ?_)
                refine RV.op (OV.step gno (Step.move rfl) rfl ?_)
                refine RV.op (OV.step gno (Step.idxArr Try.underlying65 I5 rfl rfl _ rfl (by first | omega | (show q < 4; omega) | (show 0 < 1; omega))) rfl ?_)
                refine RV.op (OV.step gno (Step.load Try.underlying5 rfl rfl (fun w h => (h.os 2 rfl).cell0 (by rw [WL_len]; omega) rfl)) rfl ?_)
                rw [show (WL s4 (modM o3.space 3) X wd.1).getD i (intK .u8).d = pkM s4 (modM o3.space 3) (X + (i : Int)) from WL_get (by omega) (by omega)]
                refine RV.op (OV.split gno (Step.neq rfl rfl) rfl (fun cc1 => ?_) (fun cc1 => ?_))
                · -- True
                  exact absurd rfl (by assumption)
                · -- False
                  refine RV.nil ?_
                  refine KV.then_n ?_
                  refine KV.env [(5, _), (8, _), (11, _), (13, _), (14, _), (15, _), (16, _), (144, _)] ⟨rfl, rfl, rfl, rfl, rfl, rfl, rfl, rfl, trivial⟩ ?_
                  refine CV.cond_f rfl ?_
                  refine CV.skip ?_
                  refine KV.block_n ?_
                  refine KV.then_n ?_
                  refine KV.env [(5, _), (8, _), (11, _), (13, _), (14, _), (15, _), (16, _)] ⟨rfl, rfl, rfl, rfl, rfl, rfl, rfl, trivial⟩ ?_
                  -- region 30 law.go:129
                  refine CV.region ?_
                  refine RV.op (OV.step gno (Step.move rfl) rfl ?_)
                  (first | refine RV.op (OV.step gno (Step.add rfl rfl (wI64 (by omega) (by omega))) rfl ?_) | refine RV.op (OV.step gno (Step.add rfl rfl rfl) rfl ?_))
                  refine RV.op (OV.step gno (Step.assign rfl) rfl ?_)
                  refine RV.nil ?_
                  refine KV.then_n ?_
                  refine KV.env [(5, _), (8, _), (11, _), (13, _), (14, _), (15, _), (16, _)] ⟨rfl, rfl, rfl, rfl, rfl, rfl, rfl, trivial⟩ ?_
                  refine KV.sel [4, 4, 4, 4, 0, 0, 0, 0] [_, _, _, _, _, _, _, _] rfl ?_
                  exact KV.loopI (z := i) (i + 1) (by omega) (by omega) ⟨rfl, rfl, rfl, rfl, rfl, rfl, rfl, trivial⟩ (fun _ h => h)
              · -- False
                refine RV.nil ?_
                refine KV.then_n ?_
                refine KV.env [(5, _), (8, _), (11, _), (13, _), (14, _), (15, _), (16, _), (124, _)] ⟨rfl, rfl, rfl, rfl, rfl, rfl, rfl, rfl, trivial⟩ ?_
                refine CV.cond_f rfl ?_
                refine CV.exit ?_
                refine KV.then_exit ?_
                refine KV.then_exit ?_
                refine KV.block_hit ?_
                refine KV.then_n ?_
                refine KV.env [(8, _), (13, _), (14, _), (15, _)] ⟨rfl, rfl, rfl, rfl, trivial⟩ ?_
                refine CV.seq ?_
                -- region 34 law.go:134
                refine CV.region ?_
                refine RV.op (OV.step gno (Step.move rfl) rfl ?_)
                refine RV.op (OV.split gno (Step.eql rfl rfl) rfl (fun cc2 => ?_) (fun cc2 => ?_))
                · -- True
                  refine RV.op (OV.step gno (Step.move rfl) rfl ?_)
                  refine RV.op (OV.step (gyes rfl) (Step.fieldAddr rfl (F37_3 _ _)) rfl ?_)
                  refine RV.op (OV.step (gyes rfl) (Step.load Try.underlying4 rfl rfl (fun w h => h.cell 5 rfl rfl)) rfl ?_)
                  refine RV.op (OV.step (gyes rfl) (Step.move rfl) rfl ?_)
                  refine KV.cases 150 rfl (fun cc3 => ?_) (fun cc3 => ?_)
                  · -- True
                    have hwr : o3.wr = true := cc3
                    rw [if_pos hwr]
                    refine RV.op (OV.step (gyes rfl) (Step.move rfl) rfl ?_)
                    refine RV.op (OV.split (gyes rfl) (Step.eql rfl rfl) rfl (fun cc4 => ?_) (fun cc4 => ?_))
                    · -- True
                      refine RV.op (OV.step (gyes rfl) (Step.pick_t rfl rfl) rfl ?_)
                      refine RV.op (OV.step (gyes rfl) (Step.move rfl) rfl ?_)
                      refine RV.op (OV.skip rfl rfl ?_)
                      refine RV.op (OV.skip rfl rfl ?_)
                      refine RV.op (OV.skip rfl rfl ?_)
                      refine RV.op (OV.skip rfl rfl ?_)
                      refine RV.op (OV.skipU rfl rfl ?_)
                      refine RV.op (OV.skipU rfl rfl ?_)
                      refine RV.op (OV.skipU rfl rfl ?_)
                      refine RV.op (OV.skipU rfl rfl ?_)
                      refine RV.op (OV.skipU rfl rfl ?_)
                      refine RV.op (OV.skip rfl rfl ?_)
                      refine RV.op (OV.step (gyes rfl) (Step.pick_t rfl rfl) rfl ?_)
                      refine RV.op (OV.step gno (Step.pick_t rfl rfl) rfl ?_)
                      refine RV.op (OV.step gno (Step.move rfl) rfl ?_)
                      refine RV.op (OV.step (gyes rfl) (Step.move rfl) rfl ?_)
                      refine RV.op (OV.step (gyes rfl) (Step.lenSl Try.underlying54 rfl) rfl ?_)
                      refine RV.op (OV.split (gyes rfl) (Step.eql rfl rfl) rfl (fun cc5 => ?_) (fun cc5 => ?_))
                      · -- True
                        refine RV.op (OV.step gno (Step.pick_t rfl rfl) rfl ?_)
                        refine RV.op (OV.step gno (Step.move rfl) rfl ?_)
                        refine RV.op (OV.step (gyes rfl) (Step.move rfl) rfl ?_)
                        refine RV.op (OV.step (gyes rfl) (Step.idx Try.underlying54 I63 (fun w h => h.os 7 rfl) rfl rfl (rfl) _ rfl (by first | omega | (show q < 4; omega) | (show 0 < 1; omega))) rfl ?_)
                        refine RV.op (OV.step (gyes rfl) (Step.fieldAddr rfl (F63_2 _ _)) rfl ?_)
                        refine RV.op (OV.step (gyes rfl) (Step.load Try.underlying4 rfl rfl (fun w h => (h.os 7 rfl).cell (j := 6) (by show 0 < 1; omega) rfl)) rfl ?_)
                        rw [show ([T0].getD 0 trcK.d).live = false from dl]
                        refine RV.op (OV.step (gyes rfl) (Step.not rfl) rfl ?_)
                        refine RV.op (OV.step gno (Step.pick_t rfl rfl) rfl ?_)
                        refine RV.op (OV.step gno (Step.move rfl) rfl ?_)
                        refine RV.op (OV.step (gyes rfl) (Step.move rfl) rfl ?_)
                        refine RV.op (OV.step (gyes rfl) (Step.idx Try.underlying54 I63 (fun w h => h.os 7 rfl) rfl rfl (rfl) _ rfl (by first | omega | (show q < 4; omega) | (show 0 < 1; omega))) rfl ?_)
                        refine RV.op (OV.step (gyes rfl) (Step.fieldAddr rfl (F63_3 _ _)) rfl ?_)
                        refine RV.op (OV.step (gyes rfl) (Step.load Try.underlying4 rfl rfl (fun w h => (h.os 7 rfl).cell (j := 7) (by show 0 < 1; omega) rfl)) rfl ?_)
                        rw [show ([T0].getD 0 trcK.d).failed = false from df]
                        refine RV.op (OV.step (gyes rfl) (Step.not rfl) rfl ?_)
                        refine RV.op (OV.step gno (Step.pick_t rfl rfl) rfl ?_)
                        refine RV.op (OV.step gno (Step.assign rfl) rfl ?_)
                        refine RV.nil ?_
                        refine KV.then_n ?_
                        refine KV.env [(4, _)] ⟨rfl, trivial⟩ ?_
                        refine CV.ret ?_
                        -- return at r34
                        refine KV.sel [] [] rfl ?_
                        exact KV.ret1 rfl rfl _ (fun _ h => h) ⟨rfl, rfl⟩
                      · -- False
                        exact absurd rfl (by assumption)
                    · -- False
                      exact absurd rfl (by assumption)
                  · -- False
                    rw [cc3]
                    refine RV.op (OV.skip rfl rfl ?_)
                    refine RV.op (OV.skip rfl rfl ?_)
                    refine RV.op (OV.step (gyes rfl) (Step.pick_f rfl rfl) rfl ?_)
                    refine RV.op (OV.step (gyes rfl) (Step.move rfl) rfl ?_)
                    refine RV.op (OV.step (gyes rfl) (Step.fieldAddr rfl (F37_3 _ _)) rfl ?_)
                    refine RV.op (OV.step (gyes rfl) (Step.load Try.underlying4 rfl rfl (fun w h => h.cell 5 rfl rfl)) rfl ?_)
                    refine RV.op (OV.step (gyes rfl) (Step.not rfl) rfl ?_)
                    refine RV.op (OV.step (gyes rfl) (Step.move rfl) rfl ?_)
                    refine RV.op (OV.step (gyes rfl) (Step.move rfl) rfl ?_)
                    refine RV.op (OV.step (gyes rfl) (Step.fieldAddr rfl (F37_2 _ _)) rfl ?_)
                    refine RV.op (OV.step (gyes rfl) (Step.load Try.underlying3 rfl rfl (fun w h => h.cell 5 rfl rfl)) rfl ?_)
                    refine RV.op (OV.call [] Try.func14 B14 N14 rfl rfl (fun w h => (rones_fn wd.1 wd.2.1).fn w) (fun _ hb => hb.elim) (gyes rfl) rfl (fun v L' hp => ?_))
                    obtain ⟨rfl, rfl⟩ := hp
                    simp only [List.append_nil]
                    refine RV.op (OV.split (gyes rfl) (Step.eql rfl rfl) rfl (fun cc6 => ?_) (fun cc6 => ?_))
                    · -- True
                      refine RV.op (OV.step (gyes rfl) (Step.pick_t rfl rfl) rfl ?_)
                      refine RV.op (OV.step (gyes rfl) (Step.pick_f rfl rfl) rfl ?_)
                      refine RV.op (OV.step gno (Step.pick_t rfl rfl) rfl ?_)
                      refine RV.op (OV.step gno (Step.move rfl) rfl ?_)
                      refine RV.op (OV.step (gyes rfl) (Step.move rfl) rfl ?_)
                      refine RV.op (OV.step (gyes rfl) (Step.lenSl Try.underlying54 rfl) rfl ?_)
                      refine RV.op (OV.split (gyes rfl) (Step.eql rfl rfl) rfl (fun cc7 => ?_) (fun cc7 => ?_))
                      · -- True
                        refine RV.op (OV.step gno (Step.pick_t rfl rfl) rfl ?_)
                        refine RV.op (OV.step gno (Step.move rfl) rfl ?_)
                        refine RV.op (OV.step (gyes rfl) (Step.move rfl) rfl ?_)
                        refine RV.op (OV.step (gyes rfl) (Step.idx Try.underlying54 I63 (fun w h => h.os 7 rfl) rfl rfl (rfl) _ rfl (by first | omega | (show q < 4; omega) | (show 0 < 1; omega))) rfl ?_)
                        refine RV.op (OV.step (gyes rfl) (Step.fieldAddr rfl (F63_2 _ _)) rfl ?_)
                        refine RV.op (OV.step (gyes rfl) (Step.load Try.underlying4 rfl rfl (fun w h => (h.os 7 rfl).cell (j := 6) (by show 0 < 1; omega) rfl)) rfl ?_)
                        rw [show ([T0].getD 0 trcK.d).live = false from dl]
                        refine RV.op (OV.step (gyes rfl) (Step.not rfl) rfl ?_)
                        refine RV.op (OV.step gno (Step.pick_t rfl rfl) rfl ?_)
                        refine RV.op (OV.step gno (Step.move rfl) rfl ?_)
                        refine RV.op (OV.step (gyes rfl) (Step.move rfl) rfl ?_)
                        refine RV.op (OV.step (gyes rfl) (Step.idx Try.underlying54 I63 (fun w h => h.os 7 rfl) rfl rfl (rfl) _ rfl (by first | omega | (show q < 4; omega) | (show 0 < 1; omega))) rfl ?_)
                        refine RV.op (OV.step (gyes rfl) (Step.fieldAddr rfl (F63_3 _ _)) rfl ?_)
                        refine RV.op (OV.step (gyes rfl) (Step.load Try.underlying4 rfl rfl (fun w h => (h.os 7 rfl).cell (j := 7) (by show 0 < 1; omega) rfl)) rfl ?_)
                        rw [show ([T0].getD 0 trcK.d).failed = false from df]
                        refine RV.op (OV.step (gyes rfl) (Step.not rfl) rfl ?_)
                        refine RV.op (OV.step gno (Step.pick_t rfl rfl) rfl ?_)
                        refine RV.op (OV.step gno (Step.assign rfl) rfl ?_)
                        refine RV.nil ?_
                        refine KV.then_n ?_
                        refine KV.env [(4, _)] ⟨rfl, trivial⟩ ?_
                        refine CV.ret ?_
                        -- return at r34
                        refine KV.sel [] [] rfl ?_
                        exact KV.ret1 rfl rfl _ (fun _ h => h) ⟨rfl, rfl⟩
                      · -- False
                        exact absurd rfl (by assumption)
                    · -- False
                      exact absurd rfl (by assumption)
                · -- False
                  exact absurd rfl (by assumption)
  · -- False
    refine RV.op (OV.step gno (Step.move rfl) rfl ?_)
    refine RV.op (OV.skip rfl rfl ?_)
    refine RV.op (OV.skip rfl rfl ?_)
    refine RV.op (OV.step gno (Step.pick_f rfl rfl) rfl ?_)
    refine RV.nil ?_
    refine KV.then_n ?_
    refine KV.env [(0, _), (3, _), (5, _), (6, _), (32, _)] ⟨rfl, rfl, rfl, rfl, rfl, trivial⟩ ?_
    refine CV.cond_f rfl ?_
    refine CV.exit ?_
    refine KV.then_exit ?_
    refine KV.then_exit ?_
    refine KV.block_hit ?_
    refine KV.then_n ?_
    refine KV.env [(3, _), (5, _)] ⟨rfl, rfl, trivial⟩ ?_
    refine CV.seq ?_
    -- region 9 law.go:113
    refine CV.region ?_
    refine RV.op (OV.step gno (Step.loadN _ Try.underlying43 rfl I43 rfl rfl (fun w h => h.cells 0 rfl)) rfl ?_)
    refine RV.op (OV.call [] (F := [_, _, _, _, _, _, _, _, _, _, _]) Try.func19 B19 N19 rfl rfl (fun w h => some_fn o ho) (fun _ hb => hb.elim) gno rfl (fun v L' hp => ?_))
    obtain ⟨o3, ho3, rfl, rfl⟩ := hp
    simp only [List.append_nil]
    refine RV.op (OV.store 0 [_, _, _, _, _, _, _, _, _] #[_, _, _, _, _, _, _, _, _] I43 rfl rfl rfl rfl rfl (Nat.le_of_ble_eq_true rfl) (by simp [Value.oneCell']) rfl gno ?_)
    refine RV.nil ?_
    refine KV.then_n ?_
    refine KV.env [(3, _), (5, _)] ⟨rfl, rfl, trivial⟩ ?_
    -- join; live [5, 8]
    refine CV.join2 (fun (ba : Nat) (wd : {k : Nat // isW (k : Int) ∧ 1 ≤ k ∧ k ≤ 8}) => [(5, .pointer (some ⟨bp, 0, none⟩)), (8, .pointer (some ⟨ba, 0, none⟩))]) (fun (ba : Nat) (wd : {k : Nat // isW (k : Int) ∧ 1 ≤ k ∧ k ≤ 8}) => Hp I w (busL b s ++ [Blk bp (.cells #[.pointer (some ⟨b, 0, none⟩), .pointer (some ⟨c, 0, none⟩)] 58 (0, 0)), Blk ba (.cells #[.int .i64 (modM o3.space 3), .int .u64 (o3.addr), .int .i64 (wd.1 : Int), .bool o3.wr, .int .u64 o3.val] 37 (0, 0))])) ?_ ?_
    · skip
      -- region 10 law.go:114
      refine CV.any (Hp I w [Blk bo (.cells #[.int .i64 o3.kind, .int .i64 o3.space, .int .u64 o3.addr, .int .u64 o3.len, .int .i64 o3.width, .int .i64 o3.own, .bool o3.wr, .int .u64 o3.val, .bool o3.raw] 43 (0, 0))]) (by kernel_rfl) (fun _ h => h.drew) 18 rfl ?_
      refine AV.take 0 #[true, false, false, false, false, false, false, false, false, false, false, false, false, false, false, false, false, false] rfl (by kernel_rfl) (by kernel_rfl) (by kernel_rfl) (fun _ _ _ h => h) gno (Step.fieldAddr rfl (F43_1 _ _)) rfl (fun _ h => h.sel [0] rfl) (by kernel_rfl) ?_
      refine AV.take 1 #[true, true, false, false, false, false, false, false, false, false, false, false, false, false, false, false, false, false] rfl (by kernel_rfl) (by kernel_rfl) (by kernel_rfl) (fun _ _ _ h => h) gno (Step.load Try.underlying3 rfl rfl (fun w h => h.cell 0 rfl rfl)) rfl (fun _ h => h.sel [0] rfl) (by kernel_rfl) ?_
      refine AV.take 3 #[true, true, false, true, false, false, false, false, false, false, false, false, false, false, false, false, false, false] rfl (by kernel_rfl) (by kernel_rfl) (by kernel_rfl) (fun _ _ _ h => h) gno (Step.fieldAddr rfl (F43_2 _ _)) rfl (fun _ h => h.sel [0] rfl) (by kernel_rfl) ?_
      refine AV.take 4 #[true, true, false, true, true, false, false, false, false, false, false, false, false, false, false, false, false, false] rfl (by kernel_rfl) (by kernel_rfl) (by kernel_rfl) (fun _ _ _ h => h) gno (Step.load Try.underlying22 rfl rfl (fun w h => h.cell 0 rfl rfl)) rfl (fun _ h => h.sel [0] rfl) (by kernel_rfl) ?_
      refine AV.take 6 #[true, true, false, true, true, false, true, false, false, false, false, false, false, false, false, false, false, false] rfl (by kernel_rfl) (by kernel_rfl) (by kernel_rfl) (fun _ _ _ h => h) gno (Step.fieldAddr rfl (F43_4 _ _)) rfl (fun _ h => h.sel [0] rfl) (by kernel_rfl) ?_
      refine AV.take 7 #[true, true, false, true, true, false, true, true, false, false, false, false, false, false, false, false, false, false] rfl (by kernel_rfl) (by kernel_rfl) (by kernel_rfl) (fun _ _ _ h => h) gno (Step.load Try.underlying3 rfl rfl (fun w h => h.cell 0 rfl rfl)) rfl (fun _ h => h.sel [0] rfl) (by kernel_rfl) ?_
      refine AV.take 11 #[true, true, false, true, true, false, true, true, false, false, false, true, false, false, false, false, false, false] rfl (by kernel_rfl) (by kernel_rfl) (by kernel_rfl) (fun _ _ _ h => h) gno (Step.fieldAddr rfl (F43_6 _ _)) rfl (fun _ h => h.sel [0] rfl) (by kernel_rfl) ?_
      refine AV.take 12 #[true, true, false, true, true, false, true, true, false, false, false, true, true, false, false, false, false, false] rfl (by kernel_rfl) (by kernel_rfl) (by kernel_rfl) (fun _ _ _ h => h) gno (Step.load Try.underlying4 rfl rfl (fun w h => h.cell 0 rfl rfl)) rfl (fun _ h => h.sel [0] rfl) (by kernel_rfl) ?_
      refine AV.take 13 #[true, true, false, true, true, false, true, true, false, false, false, true, true, true, false, false, false, false] rfl (by kernel_rfl) (by kernel_rfl) (by kernel_rfl) (fun _ _ _ h => h) gno (Step.fieldAddr rfl (F43_7 _ _)) rfl (fun _ h => h.sel [0] rfl) (by kernel_rfl) ?_
      refine AV.take 14 #[true, true, false, true, true, false, true, true, false, false, false, true, true, true, true, false, false, false] rfl (by kernel_rfl) (by kernel_rfl) (by kernel_rfl) (fun _ _ _ h => h) gno (Step.load Try.underlying22 rfl rfl (fun w h => h.cell 0 rfl rfl)) rfl (fun _ h => h.sel [0] rfl) (by kernel_rfl) ?_
      refine AV.all [2, 5, 16] (by kernel_rfl) (by decide) ?_
      refine ⟨⟨_, rfl, ?_⟩, ⟨⟨_, rfl, ?_⟩, ⟨⟨_, rfl, ?_⟩, trivial⟩⟩⟩
      · -- 2 comes up
        refine OV.call [] Try.func10 B10 N10 rfl rfl (fun w h => (mod_fn o3.space 3 (by omega) (by omega)).fn w) (fun _ hb => hb.elim) gno rfl (fun v L' hp => ?_)
        obtain ⟨rfl, rfl⟩ := hp
        simp only [List.append_nil]
        refine AV.next #[true, true, true, true, true, false, true, true, false, false, false, true, true, true, true, false, false, false] (by kernel_rfl) (fun _ h => h.sel [0] rfl) ?_
        refine AV.all [5, 8, 16] (by kernel_rfl) (by decide) ?_
        refine ⟨⟨_, rfl, ?_⟩, ⟨⟨_, rfl, ?_⟩, ⟨⟨_, rfl, ?_⟩, trivial⟩⟩⟩
        · -- 5 comes up
          refine OV.buildSlice (K := (intK .i64)) (wds) rfl (Bs27_4_0_1_2_3 _ _ _ _) rfl rfl (by omega) gno rfl (fun b10_5 => ?_)
          refine AV.next #[true, true, true, true, true, true, true, true, false, false, false, true, true, true, true, false, false, false] (by kernel_rfl) (fun _ h => h.sel [0] rfl) ?_
          refine AV.all [8, 16] (by kernel_rfl) (by decide) ?_
          refine ⟨⟨_, rfl, ?_⟩, ⟨⟨_, rfl, ?_⟩, trivial⟩⟩
          · -- 8 comes up
            refine OV.call [] Try.func10 B10 N10 rfl rfl (fun w h => (mod_fn o3.width 4 (by omega) (by omega)).fn w) (fun _ hb => hb.elim) gno rfl (fun v L' hp => ?_)
            obtain ⟨rfl, rfl⟩ := hp
            simp only [List.append_nil]
            obtain ⟨q, hq, hq4⟩ := modN o3.width (n := 4) (by omega)
            rw [hq]
            refine AV.next #[true, true, true, true, true, true, true, true, true, false, false, true, true, true, true, false, false, false] (by kernel_rfl) (fun _ h => h.sel [0] rfl) ?_
            refine AV.all [9, 16] (by kernel_rfl) (by decide) ?_
            refine ⟨⟨_, rfl, ?_⟩, ⟨⟨_, rfl, ?_⟩, trivial⟩⟩
            · -- 9 comes up
              refine OV.step gno (Step.idx Try.underlying27 I3 (fun w h => h.os 11 rfl) rfl rfl (rfl) _ rfl (by first | omega | (show q < 4; omega) | (show 0 < 1; omega))) rfl ?_
              refine AV.next #[true, true, true, true, true, true, true, true, true, true, false, true, true, true, true, false, false, false] (by kernel_rfl) (fun _ h => h.sel [0] rfl) ?_
              refine AV.all [10, 16] (by kernel_rfl) (by decide) ?_
              refine ⟨⟨_, rfl, ?_⟩, ⟨⟨_, rfl, ?_⟩, trivial⟩⟩
              · -- 10 comes up
                refine OV.step gno (Step.load Try.underlying3 rfl rfl (fun w h => (h.os 11 rfl).cell0 (by show q < 4; omega) rfl)) rfl ?_
                obtain ⟨wd, hw0, hw1, hw2, hw3⟩ := wds_at hq4
                rw [show wds.getD q (intK .i64).d = (wd : Int) from hw0]
                refine AV.next #[true, true, true, true, true, true, true, true, true, true, true, true, true, true, true, false, false, false] (by kernel_rfl) (fun _ h => h.sel [0] rfl) ?_
                refine AV.take 15 #[true, true, true, true, true, true, true, true, true, true, true, true, true, true, true, true, false, false] rfl (by kernel_rfl) (by kernel_rfl) (by kernel_rfl) (fun _ _ _ h => h) gno (Step.build rfl (Bd37_0_1_2_3_4 _ _ _ _ _)) rfl (fun _ h => h.sel [0] rfl) (by kernel_rfl) ?_
                refine AV.all [16] (by kernel_rfl) (by decide) ?_
                refine ⟨⟨_, rfl, ?_⟩, trivial⟩
                · -- 16 comes up
                  refine OV.alloc #[.int .i64 0, .int .u64 0, .int .i64 0, .bool false, .int .u64 0] I37 rfl gno rfl (fun ba => ?_)
                  refine AV.next #[true, true, true, true, true, true, true, true, true, true, true, true, true, true, true, true, true, false] (by kernel_rfl) (fun _ h => h.sel [0] rfl) ?_
                  refine AV.all [17] (by kernel_rfl) (by decide) ?_
                  refine ⟨⟨_, rfl, ?_⟩, trivial⟩
                  · -- 17 comes up
                    refine OV.store 12 [_, _, _, _, _] #[_, _, _, _, _] I37 rfl rfl rfl rfl rfl (Nat.le_of_ble_eq_true rfl) (by simp [Value.oneCell']) rfl gno ?_
                    refine AV.next #[true, true, true, true, true, true, true, true, true, true, true, true, true, true, true, true, true, true] (by kernel_rfl) (fun _ h => h.sel [0] rfl) ?_
                    refine AV.done (by kernel_rfl) ?_
                    refine KV.then_n ?_
                    refine KV.env [(5, _), (8, _)] ⟨rfl, rfl, trivial⟩ ?_
                    refine KV.sel [1, 1, 1, 1, 6, 7] [_, _, _, _, _, _] rfl ?_
                    exact KV.join2 (ba) (⟨wd, hw1, hw2, hw3⟩) ⟨rfl, rfl, trivial⟩ (fun _ h => h)
              · -- 16 comes up
                refine OV.alloc #[.int .i64 0, .int .u64 0, .int .i64 0, .bool false, .int .u64 0] I37 rfl gno rfl (fun ba => ?_)
                refine AV.next #[true, true, true, true, true, true, true, true, true, true, false, true, true, true, true, false, true, false] (by kernel_rfl) (fun _ h => h.sel [0] rfl) ?_
                refine AV.all [10] (by kernel_rfl) (by decide) ?_
                refine ⟨⟨_, rfl, ?_⟩, trivial⟩
                · -- 10 comes up
                  refine OV.step gno (Step.load Try.underlying3 rfl rfl (fun w h => (h.os 11 rfl).cell0 (by show q < 4; omega) rfl)) rfl ?_
                  obtain ⟨wd, hw0, hw1, hw2, hw3⟩ := wds_at hq4
                  rw [show wds.getD q (intK .i64).d = (wd : Int) from hw0]
                  refine AV.next #[true, true, true, true, true, true, true, true, true, true, true, true, true, true, true, false, true, false] (by kernel_rfl) (fun _ h => h.sel [0] rfl) ?_
                  refine AV.take 15 #[true, true, true, true, true, true, true, true, true, true, true, true, true, true, true, true, true, false] rfl (by kernel_rfl) (by kernel_rfl) (by kernel_rfl) (fun _ _ _ h => h) gno (Step.build rfl (Bd37_0_1_2_3_4 _ _ _ _ _)) rfl (fun _ h => h.sel [0] rfl) (by kernel_rfl) ?_
                  refine AV.all [17] (by kernel_rfl) (by decide) ?_
                  refine ⟨⟨_, rfl, ?_⟩, trivial⟩
                  · -- 17 comes up
                    refine OV.store 12 [_, _, _, _, _] #[_, _, _, _, _] I37 rfl rfl rfl rfl rfl (Nat.le_of_ble_eq_true rfl) (by simp [Value.oneCell']) rfl gno ?_
                    refine AV.next #[true, true, true, true, true, true, true, true, true, true, true, true, true, true, true, true, true, true] (by kernel_rfl) (fun _ h => h.sel [0] rfl) ?_
                    refine AV.done (by kernel_rfl) ?_
                    refine KV.then_n ?_
                    refine KV.env [(5, _), (8, _)] ⟨rfl, rfl, trivial⟩ ?_
                    refine KV.sel [1, 1, 1, 1, 6, 7] [_, _, _, _, _, _] rfl ?_
                    exact KV.join2 (ba) (⟨wd, hw1, hw2, hw3⟩) ⟨rfl, rfl, trivial⟩ (fun _ h => h)
            · -- 16 comes up
              refine OV.alloc #[.int .i64 0, .int .u64 0, .int .i64 0, .bool false, .int .u64 0] I37 rfl gno rfl (fun ba => ?_)
              refine AV.next #[true, true, true, true, true, true, true, true, true, false, false, true, true, true, true, false, true, false] (by kernel_rfl) (fun _ h => h.sel [0] rfl) ?_
              refine AV.all [9] (by kernel_rfl) (by decide) ?_
              refine ⟨⟨_, rfl, ?_⟩, trivial⟩
              · -- 9 comes up
                refine OV.step gno (Step.idx Try.underlying27 I3 (fun w h => h.os 11 rfl) rfl rfl (rfl) _ rfl (by first | omega | (show q < 4; omega) | (show 0 < 1; omega))) rfl ?_
                refine AV.next #[true, true, true, true, true, true, true, true, true, true, false, true, true, true, true, false, true, false] (by kernel_rfl) (fun _ h => h.sel [0] rfl) ?_
                refine AV.all [10] (by kernel_rfl) (by decide) ?_
                refine ⟨⟨_, rfl, ?_⟩, trivial⟩
                · -- 10 comes up
                  refine OV.step gno (Step.load Try.underlying3 rfl rfl (fun w h => (h.os 11 rfl).cell0 (by show q < 4; omega) rfl)) rfl ?_
                  obtain ⟨wd, hw0, hw1, hw2, hw3⟩ := wds_at hq4
                  rw [show wds.getD q (intK .i64).d = (wd : Int) from hw0]
                  refine AV.next #[true, true, true, true, true, true, true, true, true, true, true, true, true, true, true, false, true, false] (by kernel_rfl) (fun _ h => h.sel [0] rfl) ?_
                  refine AV.take 15 #[true, true, true, true, true, true, true, true, true, true, true, true, true, true, true, true, true, false] rfl (by kernel_rfl) (by kernel_rfl) (by kernel_rfl) (fun _ _ _ h => h) gno (Step.build rfl (Bd37_0_1_2_3_4 _ _ _ _ _)) rfl (fun _ h => h.sel [0] rfl) (by kernel_rfl) ?_
                  refine AV.all [17] (by kernel_rfl) (by decide) ?_
                  refine ⟨⟨_, rfl, ?_⟩, trivial⟩
                  · -- 17 comes up
                    refine OV.store 12 [_, _, _, _, _] #[_, _, _, _, _] I37 rfl rfl rfl rfl rfl (Nat.le_of_ble_eq_true rfl) (by simp [Value.oneCell']) rfl gno ?_
                    refine AV.next #[true, true, true, true, true, true, true, true, true, true, true, true, true, true, true, true, true, true] (by kernel_rfl) (fun _ h => h.sel [0] rfl) ?_
                    refine AV.done (by kernel_rfl) ?_
                    refine KV.then_n ?_
                    refine KV.env [(5, _), (8, _)] ⟨rfl, rfl, trivial⟩ ?_
                    refine KV.sel [1, 1, 1, 1, 6, 7] [_, _, _, _, _, _] rfl ?_
                    exact KV.join2 (ba) (⟨wd, hw1, hw2, hw3⟩) ⟨rfl, rfl, trivial⟩ (fun _ h => h)
          · -- 16 comes up
            refine OV.alloc #[.int .i64 0, .int .u64 0, .int .i64 0, .bool false, .int .u64 0] I37 rfl gno rfl (fun ba => ?_)
            refine AV.next #[true, true, true, true, true, true, true, true, false, false, false, true, true, true, true, false, true, false] (by kernel_rfl) (fun _ h => h.sel [0] rfl) ?_
            refine AV.all [8] (by kernel_rfl) (by decide) ?_
            refine ⟨⟨_, rfl, ?_⟩, trivial⟩
            · -- 8 comes up
              refine OV.call [] Try.func10 B10 N10 rfl rfl (fun w h => (mod_fn o3.width 4 (by omega) (by omega)).fn w) (fun _ hb => hb.elim) gno rfl (fun v L' hp => ?_)
              obtain ⟨rfl, rfl⟩ := hp
              simp only [List.append_nil]
              obtain ⟨q, hq, hq4⟩ := modN o3.width (n := 4) (by omega)
              rw [hq]
              refine AV.next #[true, true, true, true, true, true, true, true, true, false, false, true, true, true, true, false, true, false] (by kernel_rfl) (fun _ h => h.sel [0] rfl) ?_
              refine AV.all [9] (by kernel_rfl) (by decide) ?_
              refine ⟨⟨_, rfl, ?_⟩, trivial⟩
              · -- 9 comes up
                refine OV.step gno (Step.idx Try.underlying27 I3 (fun w h => h.os 11 rfl) rfl rfl (rfl) _ rfl (by first | omega | (show q < 4; omega) | (show 0 < 1; omega))) rfl ?_
                refine AV.next #[true, true, true, true, true, true, true, true, true, true, false, true, true, true, true, false, true, false] (by kernel_rfl) (fun _ h => h.sel [0] rfl) ?_
                refine AV.all [10] (by kernel_rfl) (by decide) ?_
                refine ⟨⟨_, rfl, ?_⟩, trivial⟩
                · -- 10 comes up
                  refine OV.step gno (Step.load Try.underlying3 rfl rfl (fun w h => (h.os 11 rfl).cell0 (by show q < 4; omega) rfl)) rfl ?_
                  obtain ⟨wd, hw0, hw1, hw2, hw3⟩ := wds_at hq4
                  rw [show wds.getD q (intK .i64).d = (wd : Int) from hw0]
                  refine AV.next #[true, true, true, true, true, true, true, true, true, true, true, true, true, true, true, false, true, false] (by kernel_rfl) (fun _ h => h.sel [0] rfl) ?_
                  refine AV.take 15 #[true, true, true, true, true, true, true, true, true, true, true, true, true, true, true, true, true, false] rfl (by kernel_rfl) (by kernel_rfl) (by kernel_rfl) (fun _ _ _ h => h) gno (Step.build rfl (Bd37_0_1_2_3_4 _ _ _ _ _)) rfl (fun _ h => h.sel [0] rfl) (by kernel_rfl) ?_
                  refine AV.all [17] (by kernel_rfl) (by decide) ?_
                  refine ⟨⟨_, rfl, ?_⟩, trivial⟩
                  · -- 17 comes up
                    refine OV.store 12 [_, _, _, _, _] #[_, _, _, _, _] I37 rfl rfl rfl rfl rfl (Nat.le_of_ble_eq_true rfl) (by simp [Value.oneCell']) rfl gno ?_
                    refine AV.next #[true, true, true, true, true, true, true, true, true, true, true, true, true, true, true, true, true, true] (by kernel_rfl) (fun _ h => h.sel [0] rfl) ?_
                    refine AV.done (by kernel_rfl) ?_
                    refine KV.then_n ?_
                    refine KV.env [(5, _), (8, _)] ⟨rfl, rfl, trivial⟩ ?_
                    refine KV.sel [1, 1, 1, 1, 6, 7] [_, _, _, _, _, _] rfl ?_
                    exact KV.join2 (ba) (⟨wd, hw1, hw2, hw3⟩) ⟨rfl, rfl, trivial⟩ (fun _ h => h)
        · -- 8 comes up
          refine OV.call [] Try.func10 B10 N10 rfl rfl (fun w h => (mod_fn o3.width 4 (by omega) (by omega)).fn w) (fun _ hb => hb.elim) gno rfl (fun v L' hp => ?_)
          obtain ⟨rfl, rfl⟩ := hp
          simp only [List.append_nil]
          obtain ⟨q, hq, hq4⟩ := modN o3.width (n := 4) (by omega)
          rw [hq]
          refine AV.next #[true, true, true, true, true, false, true, true, true, false, false, true, true, true, true, false, false, false] (by kernel_rfl) (fun _ h => h.sel [0] rfl) ?_
          refine AV.all [5, 16] (by kernel_rfl) (by decide) ?_
          refine ⟨⟨_, rfl, ?_⟩, ⟨⟨_, rfl, ?_⟩, trivial⟩⟩
          · -- 5 comes up
            refine OV.buildSlice (K := (intK .i64)) (wds) rfl (Bs27_4_0_1_2_3 _ _ _ _) rfl rfl (by omega) gno rfl (fun b10_5 => ?_)
            refine AV.next #[true, true, true, true, true, true, true, true, true, false, false, true, true, true, true, false, false, false] (by kernel_rfl) (fun _ h => h.sel [0] rfl) ?_
            refine AV.all [9, 16] (by kernel_rfl) (by decide) ?_
            refine ⟨⟨_, rfl, ?_⟩, ⟨⟨_, rfl, ?_⟩, trivial⟩⟩
            · -- 9 comes up
              refine OV.step gno (Step.idx Try.underlying27 I3 (fun w h => h.os 11 rfl) rfl rfl (rfl) _ rfl (by first | omega | (show q < 4; omega) | (show 0 < 1; omega))) rfl ?_
              refine AV.next #[true, true, true, true, true, true, true, true, true, true, false, true, true, true, true, false, false, false] (by kernel_rfl) (fun _ h => h.sel [0] rfl) ?_
              refine AV.all [10, 16] (by kernel_rfl) (by decide) ?_
              refine ⟨⟨_, rfl, ?_⟩, ⟨⟨_, rfl, ?_⟩, trivial⟩⟩
              · -- 10 comes up
                refine OV.step gno (Step.load Try.underlying3 rfl rfl (fun w h => (h.os 11 rfl).cell0 (by show q < 4; omega) rfl)) rfl ?_
                obtain ⟨wd, hw0, hw1, hw2, hw3⟩ := wds_at hq4
                rw [show wds.getD q (intK .i64).d = (wd : Int) from hw0]
                refine AV.next #[true, true, true, true, true, true, true, true, true, true, true, true, true, true, true, false, false, false] (by kernel_rfl) (fun _ h => h.sel [0] rfl) ?_
                refine AV.take 15 #[true, true, true, true, true, true, true, true, true, true, true, true, true, true, true, true, false, false] rfl (by kernel_rfl) (by kernel_rfl) (by kernel_rfl) (fun _ _ _ h => h) gno (Step.build rfl (Bd37_0_1_2_3_4 _ _ _ _ _)) rfl (fun _ h => h.sel [0] rfl) (by kernel_rfl) ?_
                refine AV.all [16] (by kernel_rfl) (by decide) ?_
                refine ⟨⟨_, rfl, ?_⟩, trivial⟩
                · -- 16 comes up
                  refine OV.alloc #[.int .i64 0, .int .u64 0, .int .i64 0, .bool false, .int .u64 0] I37 rfl gno rfl (fun ba => ?_)
                  refine AV.next #[true, true, true, true, true, true, true, true, true, true, true, true, true, true, true, true, true, false] (by kernel_rfl) (fun _ h => h.sel [0] rfl) ?_
                  refine AV.all [17] (by kernel_rfl) (by decide) ?_
                  refine ⟨⟨_, rfl, ?_⟩, trivial⟩
                  · -- 17 comes up
                    refine OV.store 12 [_, _, _, _, _] #[_, _, _, _, _] I37 rfl rfl rfl rfl rfl (Nat.le_of_ble_eq_true rfl) (by simp [Value.oneCell']) rfl gno ?_
                    refine AV.next #[true, true, true, true, true, true, true, true, true, true, true, true, true, true, true, true, true, true] (by kernel_rfl) (fun _ h => h.sel [0] rfl) ?_
                    refine AV.done (by kernel_rfl) ?_
                    refine KV.then_n ?_
                    refine KV.env [(5, _), (8, _)] ⟨rfl, rfl, trivial⟩ ?_
                    refine KV.sel [1, 1, 1, 1, 6, 7] [_, _, _, _, _, _] rfl ?_
                    exact KV.join2 (ba) (⟨wd, hw1, hw2, hw3⟩) ⟨rfl, rfl, trivial⟩ (fun _ h => h)
              · -- 16 comes up
                refine OV.alloc #[.int .i64 0, .int .u64 0, .int .i64 0, .bool false, .int .u64 0] I37 rfl gno rfl (fun ba => ?_)
                refine AV.next #[true, true, true, true, true, true, true, true, true, true, false, true, true, true, true, false, true, false] (by kernel_rfl) (fun _ h => h.sel [0] rfl) ?_
                refine AV.all [10] (by kernel_rfl) (by decide) ?_
                refine ⟨⟨_, rfl, ?_⟩, trivial⟩
                · -- 10 comes up
                  refine OV.step gno (Step.load Try.underlying3 rfl rfl (fun w h => (h.os 11 rfl).cell0 (by show q < 4; omega) rfl)) rfl ?_
                  obtain ⟨wd, hw0, hw1, hw2, hw3⟩ := wds_at hq4
                  rw [show wds.getD q (intK .i64).d = (wd : Int) from hw0]
                  refine AV.next #[true, true, true, true, true, true, true, true, true, true, true, true, true, true, true, false, true, false] (by kernel_rfl) (fun _ h => h.sel [0] rfl) ?_
                  refine AV.take 15 #[true, true, true, true, true, true, true, true, true, true, true, true, true, true, true, true, true, false] rfl (by kernel_rfl) (by kernel_rfl) (by kernel_rfl) (fun _ _ _ h => h) gno (Step.build rfl (Bd37_0_1_2_3_4 _ _ _ _ _)) rfl (fun _ h => h.sel [0] rfl) (by kernel_rfl) ?_
                  refine AV.all [17] (by kernel_rfl) (by decide) ?_
                  refine ⟨⟨_, rfl, ?_⟩, trivial⟩
                  · -- 17 comes up
                    refine OV.store 12 [_, _, _, _, _] #[_, _, _, _, _] I37 rfl rfl rfl rfl rfl (Nat.le_of_ble_eq_true rfl) (by simp [Value.oneCell']) rfl gno ?_
                    refine AV.next #[true, true, true, true, true, true, true, true, true, true, true, true, true, true, true, true, true, true] (by kernel_rfl) (fun _ h => h.sel [0] rfl) ?_
                    refine AV.done (by kernel_rfl) ?_
                    refine KV.then_n ?_
                    refine KV.env [(5, _), (8, _)] ⟨rfl, rfl, trivial⟩ ?_
                    refine KV.sel [1, 1, 1, 1, 6, 7] [_, _, _, _, _, _] rfl ?_
                    exact KV.join2 (ba) (⟨wd, hw1, hw2, hw3⟩) ⟨rfl, rfl, trivial⟩ (fun _ h => h)
            · -- 16 comes up
              refine OV.alloc #[.int .i64 0, .int .u64 0, .int .i64 0, .bool false, .int .u64 0] I37 rfl gno rfl (fun ba => ?_)
              refine AV.next #[true, true, true, true, true, true, true, true, true, false, false, true, true, true, true, false, true, false] (by kernel_rfl) (fun _ h => h.sel [0] rfl) ?_
              refine AV.all [9] (by kernel_rfl) (by decide) ?_
              refine ⟨⟨_, rfl, ?_⟩, trivial⟩
              · -- 9 comes up
                refine OV.step gno (Step.idx Try.underlying27 I3 (fun w h => h.os 11 rfl) rfl rfl (rfl) _ rfl (by first | omega | (show q < 4; omega) | (show 0 < 1; omega))) rfl ?_
                refine AV.next #[true, true, true, true, true, true, true, true, true, true, false, true, true, true, true, false, true, false] (by kernel_rfl) (fun _ h => h.sel [0] rfl) ?_
                refine AV.all [10] (by kernel_rfl) (by decide) ?_
                refine ⟨⟨_, rfl, ?_⟩, trivial⟩
                · -- 10 comes up
                  refine OV.step gno (Step.load Try.underlying3 rfl rfl (fun w h => (h.os 11 rfl).cell0 (by show q < 4; omega) rfl)) rfl ?_
                  obtain ⟨wd, hw0, hw1, hw2, hw3⟩ := wds_at hq4
                  rw [show wds.getD q (intK .i64).d = (wd : Int) from hw0]
                  refine AV.next #[true, true, true, true, true, true, true, true, true, true, true, true, true, true, true, false, true, false] (by kernel_rfl) (fun _ h => h.sel [0] rfl) ?_
                  refine AV.take 15 #[true, true, true, true, true, true, true, true, true, true, true, true, true, true, true, true, true, false] rfl (by kernel_rfl) (by kernel_rfl) (by kernel_rfl) (fun _ _ _ h => h) gno (Step.build rfl (Bd37_0_1_2_3_4 _ _ _ _ _)) rfl (fun _ h => h.sel [0] rfl) (by kernel_rfl) ?_
                  refine AV.all [17] (by kernel_rfl) (by decide) ?_
                  refine ⟨⟨_, rfl, ?_⟩, trivial⟩
                  · -- 17 comes up
                    refine OV.store 12 [_, _, _, _, _] #[_, _, _, _, _] I37 rfl rfl rfl rfl rfl (Nat.le_of_ble_eq_true rfl) (by simp [Value.oneCell']) rfl gno ?_
                    refine AV.next #[true, true, true, true, true, true, true, true, true, true, true, true, true, true, true, true, true, true] (by kernel_rfl) (fun _ h => h.sel [0] rfl) ?_
                    refine AV.done (by kernel_rfl) ?_
                    refine KV.then_n ?_
                    refine KV.env [(5, _), (8, _)] ⟨rfl, rfl, trivial⟩ ?_
                    refine KV.sel [1, 1, 1, 1, 6, 7] [_, _, _, _, _, _] rfl ?_
                    exact KV.join2 (ba) (⟨wd, hw1, hw2, hw3⟩) ⟨rfl, rfl, trivial⟩ (fun _ h => h)
          · -- 16 comes up
            refine OV.alloc #[.int .i64 0, .int .u64 0, .int .i64 0, .bool false, .int .u64 0] I37 rfl gno rfl (fun ba => ?_)
            refine AV.next #[true, true, true, true, true, false, true, true, true, false, false, true, true, true, true, false, true, false] (by kernel_rfl) (fun _ h => h.sel [0] rfl) ?_
            refine AV.all [5] (by kernel_rfl) (by decide) ?_
            refine ⟨⟨_, rfl, ?_⟩, trivial⟩
            · -- 5 comes up
              refine OV.buildSlice (K := (intK .i64)) (wds) rfl (Bs27_4_0_1_2_3 _ _ _ _) rfl rfl (by omega) gno rfl (fun b10_5 => ?_)
              refine AV.next #[true, true, true, true, true, true, true, true, true, false, false, true, true, true, true, false, true, false] (by kernel_rfl) (fun _ h => h.sel [0] rfl) ?_
              refine AV.all [9] (by kernel_rfl) (by decide) ?_
              refine ⟨⟨_, rfl, ?_⟩, trivial⟩
              · -- 9 comes up
                refine OV.step gno (Step.idx Try.underlying27 I3 (fun w h => h.os 12 rfl) rfl rfl (rfl) _ rfl (by first | omega | (show q < 4; omega) | (show 0 < 1; omega))) rfl ?_
                refine AV.next #[true, true, true, true, true, true, true, true, true, true, false, true, true, true, true, false, true, false] (by kernel_rfl) (fun _ h => h.sel [0] rfl) ?_
                refine AV.all [10] (by kernel_rfl) (by decide) ?_
                refine ⟨⟨_, rfl, ?_⟩, trivial⟩
                · -- 10 comes up
                  refine OV.step gno (Step.load Try.underlying3 rfl rfl (fun w h => (h.os 12 rfl).cell0 (by show q < 4; omega) rfl)) rfl ?_
                  obtain ⟨wd, hw0, hw1, hw2, hw3⟩ := wds_at hq4
                  rw [show wds.getD q (intK .i64).d = (wd : Int) from hw0]
                  refine AV.next #[true, true, true, true, true, true, true, true, true, true, true, true, true, true, true, false, true, false] (by kernel_rfl) (fun _ h => h.sel [0] rfl) ?_
                  refine AV.take 15 #[true, true, true, true, true, true, true, true, true, true, true, true, true, true, true, true, true, false] rfl (by kernel_rfl) (by kernel_rfl) (by kernel_rfl) (fun _ _ _ h => h) gno (Step.build rfl (Bd37_0_1_2_3_4 _ _ _ _ _)) rfl (fun _ h => h.sel [0] rfl) (by kernel_rfl) ?_
                  refine AV.all [17] (by kernel_rfl) (by decide) ?_
                  refine ⟨⟨_, rfl, ?_⟩, trivial⟩
                  · -- 17 comes up
                    refine OV.store 11 [_, _, _, _, _] #[_, _, _, _, _] I37 rfl rfl rfl rfl rfl (Nat.le_of_ble_eq_true rfl) (by simp [Value.oneCell']) rfl gno ?_
                    refine AV.next #[true, true, true, true, true, true, true, true, true, true, true, true, true, true, true, true, true, true] (by kernel_rfl) (fun _ h => h.sel [0] rfl) ?_
                    refine AV.done (by kernel_rfl) ?_
                    refine KV.then_n ?_
                    refine KV.env [(5, _), (8, _)] ⟨rfl, rfl, trivial⟩ ?_
                    refine KV.sel [1, 1, 1, 1, 6, 6] [_, _, _, _, _, _] rfl ?_
                    exact KV.join2 (ba) (⟨wd, hw1, hw2, hw3⟩) ⟨rfl, rfl, trivial⟩ (fun _ h => h)
        · -- 16 comes up
          refine OV.alloc #[.int .i64 0, .int .u64 0, .int .i64 0, .bool false, .int .u64 0] I37 rfl gno rfl (fun ba => ?_)
          refine AV.next #[true, true, true, true, true, false, true, true, false, false, false, true, true, true, true, false, true, false] (by kernel_rfl) (fun _ h => h.sel [0] rfl) ?_
          refine AV.all [5, 8] (by kernel_rfl) (by decide) ?_
          refine ⟨⟨_, rfl, ?_⟩, ⟨⟨_, rfl, ?_⟩, trivial⟩⟩
          · -- 5 comes up
            refine OV.buildSlice (K := (intK .i64)) (wds) rfl (Bs27_4_0_1_2_3 _ _ _ _) rfl rfl (by omega) gno rfl (fun b10_5 => ?_)
            refine AV.next #[true, true, true, true, true, true, true, true, false, false, false, true, true, true, true, false, true, false] (by kernel_rfl) (fun _ h => h.sel [0] rfl) ?_
            refine AV.all [8] (by kernel_rfl) (by decide) ?_
            refine ⟨⟨_, rfl, ?_⟩, trivial⟩
            · -- 8 comes up
              refine OV.call [] Try.func10 B10 N10 rfl rfl (fun w h => (mod_fn o3.width 4 (by omega) (by omega)).fn w) (fun _ hb => hb.elim) gno rfl (fun v L' hp => ?_)
              obtain ⟨rfl, rfl⟩ := hp
              simp only [List.append_nil]
              obtain ⟨q, hq, hq4⟩ := modN o3.width (n := 4) (by omega)
              rw [hq]
              refine AV.next #[true, true, true, true, true, true, true, true, true, false, false, true, true, true, true, false, true, false] (by kernel_rfl) (fun _ h => h.sel [0] rfl) ?_
              refine AV.all [9] (by kernel_rfl) (by decide) ?_
              refine ⟨⟨_, rfl, ?_⟩, trivial⟩
              · -- 9 comes up
                refine OV.step gno (Step.idx Try.underlying27 I3 (fun w h => h.os 12 rfl) rfl rfl (rfl) _ rfl (by first | omega | (show q < 4; omega) | (show 0 < 1; omega))) rfl ?_
                refine AV.next #[true, true, true, true, true, true, true, true, true, true, false, true, true, true, true, false, true, false] (by kernel_rfl) (fun _ h => h.sel [0] rfl) ?_
                refine AV.all [10] (by kernel_rfl) (by decide) ?_
                refine ⟨⟨_, rfl, ?_⟩, trivial⟩
                · -- 10 comes up
                  refine OV.step gno (Step.load Try.underlying3 rfl rfl (fun w h => (h.os 12 rfl).cell0 (by show q < 4; omega) rfl)) rfl ?_
                  obtain ⟨wd, hw0, hw1, hw2, hw3⟩ := wds_at hq4
                  rw [show wds.getD q (intK .i64).d = (wd : Int) from hw0]
                  refine AV.next #[true, true, true, true, true, true, true, true, true, true, true, true, true, true, true, false, true, false] (by kernel_rfl) (fun _ h => h.sel [0] rfl) ?_
                  refine AV.take 15 #[true, true, true, true, true, true, true, true, true, true, true, true, true, true, true, true, true, false] rfl (by kernel_rfl) (by kernel_rfl) (by kernel_rfl) (fun _ _ _ h => h) gno (Step.build rfl (Bd37_0_1_2_3_4 _ _ _ _ _)) rfl (fun _ h => h.sel [0] rfl) (by kernel_rfl) ?_
                  refine AV.all [17] (by kernel_rfl) (by decide) ?_
                  refine ⟨⟨_, rfl, ?_⟩, trivial⟩
                  · -- 17 comes up
                    refine OV.store 11 [_, _, _, _, _] #[_, _, _, _, _] I37 rfl rfl rfl rfl rfl (Nat.le_of_ble_eq_true rfl) (by simp [Value.oneCell']) rfl gno ?_
                    refine AV.next #[true, true, true, true, true, true, true, true, true, true, true, true, true, true, true, true, true, true] (by kernel_rfl) (fun _ h => h.sel [0] rfl) ?_
                    refine AV.done (by kernel_rfl) ?_
                    refine KV.then_n ?_
                    refine KV.env [(5, _), (8, _)] ⟨rfl, rfl, trivial⟩ ?_
                    refine KV.sel [1, 1, 1, 1, 6, 6] [_, _, _, _, _, _] rfl ?_
                    exact KV.join2 (ba) (⟨wd, hw1, hw2, hw3⟩) ⟨rfl, rfl, trivial⟩ (fun _ h => h)
          · -- 8 comes up
            refine OV.call [] Try.func10 B10 N10 rfl rfl (fun w h => (mod_fn o3.width 4 (by omega) (by omega)).fn w) (fun _ hb => hb.elim) gno rfl (fun v L' hp => ?_)
            obtain ⟨rfl, rfl⟩ := hp
            simp only [List.append_nil]
            obtain ⟨q, hq, hq4⟩ := modN o3.width (n := 4) (by omega)
            rw [hq]
            refine AV.next #[true, true, true, true, true, false, true, true, true, false, false, true, true, true, true, false, true, false] (by kernel_rfl) (fun _ h => h.sel [0] rfl) ?_
            refine AV.all [5] (by kernel_rfl) (by decide) ?_
            refine ⟨⟨_, rfl, ?_⟩, trivial⟩
            · -- 5 comes up
              refine OV.buildSlice (K := (intK .i64)) (wds) rfl (Bs27_4_0_1_2_3 _ _ _ _) rfl rfl (by omega) gno rfl (fun b10_5 => ?_)
              refine AV.next #[true, true, true, true, true, true, true, true, true, false, false, true, true, true, true, false, true, false] (by kernel_rfl) (fun _ h => h.sel [0] rfl) ?_
              refine AV.all [9] (by kernel_rfl) (by decide) ?_
              refine ⟨⟨_, rfl, ?_⟩, trivial⟩
              · -- 9 comes up
                refine OV.step gno (Step.idx Try.underlying27 I3 (fun w h => h.os 12 rfl) rfl rfl (rfl) _ rfl (by first | omega | (show q < 4; omega) | (show 0 < 1; omega))) rfl ?_
                refine AV.next #[true, true, true, true, true, true, true, true, true, true, false, true, true, true, true, false, true, false] (by kernel_rfl) (fun _ h => h.sel [0] rfl) ?_
                refine AV.all [10] (by kernel_rfl) (by decide) ?_
                refine ⟨⟨_, rfl, ?_⟩, trivial⟩
                · -- 10 comes up
                  refine OV.step gno (Step.load Try.underlying3 rfl rfl (fun w h => (h.os 12 rfl).cell0 (by show q < 4; omega) rfl)) rfl ?_
                  obtain ⟨wd, hw0, hw1, hw2, hw3⟩ := wds_at hq4
                  rw [show wds.getD q (intK .i64).d = (wd : Int) from hw0]
                  refine AV.next #[true, true, true, true, true, true, true, true, true, true, true, true, true, true, true, false, true, false] (by kernel_rfl) (fun _ h => h.sel [0] rfl) ?_
                  refine AV.take 15 #[true, true, true, true, true, true, true, true, true, true, true, true, true, true, true, true, true, false] rfl (by kernel_rfl) (by kernel_rfl) (by kernel_rfl) (fun _ _ _ h => h) gno (Step.build rfl (Bd37_0_1_2_3_4 _ _ _ _ _)) rfl (fun _ h => h.sel [0] rfl) (by kernel_rfl) ?_
                  refine AV.all [17] (by kernel_rfl) (by decide) ?_
                  refine ⟨⟨_, rfl, ?_⟩, trivial⟩
                  · -- 17 comes up
                    refine OV.store 11 [_, _, _, _, _] #[_, _, _, _, _] I37 rfl rfl rfl rfl rfl (Nat.le_of_ble_eq_true rfl) (by simp [Value.oneCell']) rfl gno ?_
                    refine AV.next #[true, true, true, true, true, true, true, true, true, true, true, true, true, true, true, true, true, true] (by kernel_rfl) (fun _ h => h.sel [0] rfl) ?_
                    refine AV.done (by kernel_rfl) ?_
                    refine KV.then_n ?_
                    refine KV.env [(5, _), (8, _)] ⟨rfl, rfl, trivial⟩ ?_
                    refine KV.sel [1, 1, 1, 1, 6, 6] [_, _, _, _, _, _] rfl ?_
                    exact KV.join2 (ba) (⟨wd, hw1, hw2, hw3⟩) ⟨rfl, rfl, trivial⟩ (fun _ h => h)
      · -- 5 comes up
        refine OV.buildSlice (K := (intK .i64)) (wds) rfl (Bs27_4_0_1_2_3 _ _ _ _) rfl rfl (by omega) gno rfl (fun b10_5 => ?_)
        refine AV.next #[true, true, false, true, true, true, true, true, false, false, false, true, true, true, true, false, false, false] (by kernel_rfl) (fun _ h => h.sel [0] rfl) ?_
        refine AV.all [2, 16] (by kernel_rfl) (by decide) ?_
        refine ⟨⟨_, rfl, ?_⟩, ⟨⟨_, rfl, ?_⟩, trivial⟩⟩
        · -- 2 comes up
          refine OV.call [] Try.func10 B10 N10 rfl rfl (fun w h => (mod_fn o3.space 3 (by omega) (by omega)).fn w) (fun _ hb => hb.elim) gno rfl (fun v L' hp => ?_)
          obtain ⟨rfl, rfl⟩ := hp
          simp only [List.append_nil]
          refine AV.next #[true, true, true, true, true, true, true, true, false, false, false, true, true, true, true, false, false, false] (by kernel_rfl) (fun _ h => h.sel [0] rfl) ?_
          refine AV.all [8, 16] (by kernel_rfl) (by decide) ?_
          refine ⟨⟨_, rfl, ?_⟩, ⟨⟨_, rfl, ?_⟩, trivial⟩⟩
          · -- 8 comes up
            refine OV.call [] Try.func10 B10 N10 rfl rfl (fun w h => (mod_fn o3.width 4 (by omega) (by omega)).fn w) (fun _ hb => hb.elim) gno rfl (fun v L' hp => ?_)
            obtain ⟨rfl, rfl⟩ := hp
            simp only [List.append_nil]
            obtain ⟨q, hq, hq4⟩ := modN o3.width (n := 4) (by omega)
            rw [hq]
            refine AV.next #[true, true, true, true, true, true, true, true, true, false, false, true, true, true, true, false, false, false] (by kernel_rfl) (fun _ h => h.sel [0] rfl) ?_
            refine AV.all [9, 16] (by kernel_rfl) (by decide) ?_
            refine ⟨⟨_, rfl, ?_⟩, ⟨⟨_, rfl, ?_⟩, trivial⟩⟩
            · -- 9 comes up
              refine OV.step gno (Step.idx Try.underlying27 I3 (fun w h => h.os 11 rfl) rfl rfl (rfl) _ rfl (by first | omega | (show q < 4; omega) | (show 0 < 1; omega))) rfl ?_
              refine AV.next #[true, true, true, true, true, true, true, true, true, true, false, true, true, true, true, false, false, false] (by kernel_rfl) (fun _ h => h.sel [0] rfl) ?_
              refine AV.all [10, 16] (by kernel_rfl) (by decide) ?_
              refine ⟨⟨_, rfl, ?_⟩, ⟨⟨_, rfl, ?_⟩, trivial⟩⟩
              · -- 10 comes up
                refine OV.step gno (Step.load Try.underlying3 rfl rfl (fun w h => (h.os 11 rfl).cell0 (by show q < 4; omega) rfl)) rfl ?_
                obtain ⟨wd, hw0, hw1, hw2, hw3⟩ := wds_at hq4
                rw [show wds.getD q (intK .i64).d = (wd : Int) from hw0]
                refine AV.next #[true, true, true, true, true, true, true, true, true, true, true, true, true, true, true, false, false, false] (by kernel_rfl) (fun _ h => h.sel [0] rfl) ?_
                refine AV.take 15 #[true, true, true, true, true, true, true, true, true, true, true, true, true, true, true, true, false, false] rfl (by kernel_rfl) (by kernel_rfl) (by kernel_rfl) (fun _ _ _ h => h) gno (Step.build rfl (Bd37_0_1_2_3_4 _ _ _ _ _)) rfl (fun _ h => h.sel [0] rfl) (by kernel_rfl) ?_
                refine AV.all [16] (by kernel_rfl) (by decide) ?_
                refine ⟨⟨_, rfl, ?_⟩, trivial⟩
                · -- 16 comes up
                  refine OV.alloc #[.int .i64 0, .int .u64 0, .int .i64 0, .bool false, .int .u64 0] I37 rfl gno rfl (fun ba => ?_)
                  refine AV.next #[true, true, true, true, true, true, true, true, true, true, true, true, true, true, true, true, true, false] (by kernel_rfl) (fun _ h => h.sel [0] rfl) ?_
                  refine AV.all [17] (by kernel_rfl) (by decide) ?_
                  refine ⟨⟨_, rfl, ?_⟩, trivial⟩
                  · -- 17 comes up
                    refine OV.store 12 [_, _, _, _, _] #[_, _, _, _, _] I37 rfl rfl rfl rfl rfl (Nat.le_of_ble_eq_true rfl) (by simp [Value.oneCell']) rfl gno ?_
                    refine AV.next #[true, true, true, true, true, true, true, true, true, true, true, true, true, true, true, true, true, true] (by kernel_rfl) (fun _ h => h.sel [0] rfl) ?_
                    refine AV.done (by kernel_rfl) ?_
                    refine KV.then_n ?_
                    refine KV.env [(5, _), (8, _)] ⟨rfl, rfl, trivial⟩ ?_
                    refine KV.sel [1, 1, 1, 1, 6, 7] [_, _, _, _, _, _] rfl ?_
                    exact KV.join2 (ba) (⟨wd, hw1, hw2, hw3⟩) ⟨rfl, rfl, trivial⟩ (fun _ h => h)
              · -- 16 comes up
                refine OV.alloc #[.int .i64 0, .int .u64 0, .int .i64 0, .bool false, .int .u64 0] I37 rfl gno rfl (fun ba => ?_)
                refine AV.next #[true, true, true, true, true, true, true, true, true, true, false, true, true, true, true, false, true, false] (by kernel_rfl) (fun _ h => h.sel [0] rfl) ?_
                refine AV.all [10] (by kernel_rfl) (by decide) ?_
                refine ⟨⟨_, rfl, ?_⟩, trivial⟩
                · -- 10 comes up
                  refine OV.step gno (Step.load Try.underlying3 rfl rfl (fun w h => (h.os 11 rfl).cell0 (by show q < 4; omega) rfl)) rfl ?_
                  obtain ⟨wd, hw0, hw1, hw2, hw3⟩ := wds_at hq4
                  rw [show wds.getD q (intK .i64).d = (wd : Int) from hw0]
                  refine AV.next #[true, true, true, true, true, true, true, true, true, true, true, true, true, true, true, false, true, false] (by kernel_rfl) (fun _ h => h.sel [0] rfl) ?_
                  refine AV.take 15 #[true, true, true, true, true, true, true, true, true, true, true, true, true, true, true, true, true, false] rfl (by kernel_rfl) (by kernel_rfl) (by kernel_rfl) (fun _ _ _ h => h) gno (Step.build rfl (Bd37_0_1_2_3_4 _ _ _ _ _)) rfl (fun _ h => h.sel [0] rfl) (by kernel_rfl) ?_
                  refine AV.all [17] (by kernel_rfl) (by decide) ?_
                  refine ⟨⟨_, rfl, ?_⟩, trivial⟩
                  · -- 17 comes up
                    refine OV.store 12 [_, _, _, _, _] #[_, _, _, _, _] I37 rfl rfl rfl rfl rfl (Nat.le_of_ble_eq_true rfl) (by simp [Value.oneCell']) rfl gno ?_
                    refine AV.next #[true, true, true, true, true, true, true, true, true, true, true, true, true, true, true, true, true, true] (by kernel_rfl) (fun _ h => h.sel [0] rfl) ?_
                    refine AV.done (by kernel_rfl) ?_
                    refine KV.then_n ?_
                    refine KV.env [(5, _), (8, _)] ⟨rfl, rfl, trivial⟩ ?_
                    refine KV.sel [1, 1, 1, 1, 6, 7] [_, _, _, _, _, _] rfl ?_
                    exact KV.join2 (ba) (⟨wd, hw1, hw2, hw3⟩) ⟨rfl, rfl, trivial⟩ (fun _ h => h)
            · -- 16 comes up
              refine OV.alloc #[.int .i64 0, .int .u64 0, .int .i64 0, .bool false, .int .u64 0] I37 rfl gno rfl (fun ba => ?_)
              refine AV.next #[true, true, true, true, true, true, true, true, true, false, false, true, true, true, true, false, true, false] (by kernel_rfl) (fun _ h => h.sel [0] rfl) ?_
              refine AV.all [9] (by kernel_rfl) (by decide) ?_
              refine ⟨⟨_, rfl, ?_⟩, trivial⟩
              · -- 9 comes up
                refine OV.step gno (Step.idx Try.underlying27 I3 (fun w h => h.os 11 rfl) rfl rfl (rfl) _ rfl (by first | omega | (show q < 4; omega) | (show 0 < 1; omega))) rfl ?_
                refine AV.next #[true, true, true, true, true, true, true, true, true, true, false, true, true, true, true, false, true, false] (by kernel_rfl) (fun _ h => h.sel [0] rfl) ?_
                refine AV.all [10] (by kernel_rfl) (by decide) ?_
                refine ⟨⟨_, rfl, ?_⟩, trivial⟩
                · -- 10 comes up
                  refine OV.step gno (Step.load Try.underlying3 rfl rfl (fun w h => (h.os 11 rfl).cell0 (by show q < 4; omega) rfl)) rfl ?_
                  obtain ⟨wd, hw0, hw1, hw2, hw3⟩ := wds_at hq4
                  rw [show wds.getD q (intK .i64).d = (wd : Int) from hw0]
                  refine AV.next #[true, true, true, true, true, true, true, true, true, true, true, true, true, true, true, false, true, false] (by kernel_rfl) (fun _ h => h.sel [0] rfl) ?_
                  refine AV.take 15 #[true, true, true, true, true, true, true, true, true, true, true, true, true, true, true, true, true, false] rfl (by kernel_rfl) (by kernel_rfl) (by kernel_rfl) (fun _ _ _ h => h) gno (Step.build rfl (Bd37_0_1_2_3_4 _ _ _ _ _)) rfl (fun _ h => h.sel [0] rfl) (by kernel_rfl) ?_
                  refine AV.all [17] (by kernel_rfl) (by decide) ?_
                  refine ⟨⟨_, rfl, ?_⟩, trivial⟩
                  · -- 17 comes up
                    refine OV.store 12 [_, _, _, _, _] #[_, _, _, _, _] I37 rfl rfl rfl rfl rfl (Nat.le_of_ble_eq_true rfl) (by simp [Value.oneCell']) rfl gno ?_
                    refine AV.next #[true, true, true, true, true, true, true, true, true, true, true, true, true, true, true, true, true, true] (by kernel_rfl) (fun _ h => h.sel [0] rfl) ?_
                    refine AV.done (by kernel_rfl) ?_
                    refine KV.then_n ?_
                    refine KV.env [(5, _), (8, _)] ⟨rfl, rfl, trivial⟩ ?_
                    refine KV.sel [1, 1, 1, 1, 6, 7] [_, _, _, _, _, _] rfl ?_
                    exact KV.join2 (ba) (⟨wd, hw1, hw2, hw3⟩) ⟨rfl, rfl, trivial⟩ (fun _ h => h)
          · -- 16 comes up
            refine OV.alloc #[.int .i64 0, .int .u64 0, .int .i64 0, .bool false, .int .u64 0] I37 rfl gno rfl (fun ba => ?_)
            refine AV.next #[true, true, true, true, true, true, true, true, false, false, false, true, true, true, true, false, true, false] (by kernel_rfl) (fun _ h => h.sel [0] rfl) ?_
            refine AV.all [8] (by kernel_rfl) (by decide) ?_
            refine ⟨⟨_, rfl, ?_⟩, trivial⟩
            · -- 8 comes up
              refine OV.call [] Try.func10 B10 N10 rfl rfl (fun w h => (mod_fn o3.width 4 (by omega) (by omega)).fn w) (fun _ hb => hb.elim) gno rfl (fun v L' hp => ?_)
              obtain ⟨rfl, rfl⟩ := hp
              simp only [List.append_nil]
              obtain ⟨q, hq, hq4⟩ := modN o3.width (n := 4) (by omega)
              rw [hq]
              refine AV.next #[true, true, true, true, true, true, true, true, true, false, false, true, true, true, true, false, true, false] (by kernel_rfl) (fun _ h => h.sel [0] rfl) ?_
              refine AV.all [9] (by kernel_rfl) (by decide) ?_
              refine ⟨⟨_, rfl, ?_⟩, trivial⟩
              · -- 9 comes up
                refine OV.step gno (Step.idx Try.underlying27 I3 (fun w h => h.os 11 rfl) rfl rfl (rfl) _ rfl (by first | omega | (show q < 4; omega) | (show 0 < 1; omega))) rfl ?_
                refine AV.next #[true, true, true, true, true, true, true, true, true, true, false, true, true, true, true, false, true, false] (by kernel_rfl) (fun _ h => h.sel [0] rfl) ?_
                refine AV.all [10] (by kernel_rfl) (by decide) ?_
                refine ⟨⟨_, rfl, ?_⟩, trivial⟩
                · -- 10 comes up
                  refine OV.step gno (Step.load Try.underlying3 rfl rfl (fun w h => (h.os 11 rfl).cell0 (by show q < 4; omega) rfl)) rfl ?_
                  obtain ⟨wd, hw0, hw1, hw2, hw3⟩ := wds_at hq4
                  rw [show wds.getD q (intK .i64).d = (wd : Int) from hw0]
                  refine AV.next #[true, true, true, true, true, true, true, true, true, true, true, true, true, true, true, false, true, false] (by kernel_rfl) (fun _ h => h.sel [0] rfl) ?_
                  refine AV.take 15 #[true, true, true, true, true, true, true, true, true, true, true, true, true, true, true, true, true, false] rfl (by kernel_rfl) (by kernel_rfl) (by kernel_rfl) (fun _ _ _ h => h) gno (Step.build rfl (Bd37_0_1_2_3_4 _ _ _ _ _)) rfl (fun _ h => h.sel [0] rfl) (by kernel_rfl) ?_
                  refine AV.all [17] (by kernel_rfl) (by decide) ?_
                  refine ⟨⟨_, rfl, ?_⟩, trivial⟩
                  · -- 17 comes up
                    refine OV.store 12 [_, _, _, _, _] #[_, _, _, _, _] I37 rfl rfl rfl rfl rfl (Nat.le_of_ble_eq_true rfl) (by simp [Value.oneCell']) rfl gno ?_
                    refine AV.next #[true, true, true, true, true, true, true, true, true, true, true, true, true, true, true, true, true, true] (by kernel_rfl) (fun _ h => h.sel [0] rfl) ?_
                    refine AV.done (by kernel_rfl) ?_
                    refine KV.then_n ?_
                    refine KV.env [(5, _), (8, _)] ⟨rfl, rfl, trivial⟩ ?_
                    refine KV.sel [1, 1, 1, 1, 6, 7] [_, _, _, _, _, _] rfl ?_
                    exact KV.join2 (ba) (⟨wd, hw1, hw2, hw3⟩) ⟨rfl, rfl, trivial⟩ (fun _ h => h)
        · -- 16 comes up
          refine OV.alloc #[.int .i64 0, .int .u64 0, .int .i64 0, .bool false, .int .u64 0] I37 rfl gno rfl (fun ba => ?_)
          refine AV.next #[true, true, false, true, true, true, true, true, false, false, false, true, true, true, true, false, true, false] (by kernel_rfl) (fun _ h => h.sel [0] rfl) ?_
          refine AV.all [2] (by kernel_rfl) (by decide) ?_
          refine ⟨⟨_, rfl, ?_⟩, trivial⟩
          · -- 2 comes up
            refine OV.call [] Try.func10 B10 N10 rfl rfl (fun w h => (mod_fn o3.space 3 (by omega) (by omega)).fn w) (fun _ hb => hb.elim) gno rfl (fun v L' hp => ?_)
            obtain ⟨rfl, rfl⟩ := hp
            simp only [List.append_nil]
            refine AV.next #[true, true, true, true, true, true, true, true, false, false, false, true, true, true, true, false, true, false] (by kernel_rfl) (fun _ h => h.sel [0] rfl) ?_
            refine AV.all [8] (by kernel_rfl) (by decide) ?_
            refine ⟨⟨_, rfl, ?_⟩, trivial⟩
            · -- 8 comes up
              refine OV.call [] Try.func10 B10 N10 rfl rfl (fun w h => (mod_fn o3.width 4 (by omega) (by omega)).fn w) (fun _ hb => hb.elim) gno rfl (fun v L' hp => ?_)
              obtain ⟨rfl, rfl⟩ := hp
              simp only [List.append_nil]
              obtain ⟨q, hq, hq4⟩ := modN o3.width (n := 4) (by omega)
              rw [hq]
              refine AV.next #[true, true, true, true, true, true, true, true, true, false, false, true, true, true, true, false, true, false] (by kernel_rfl) (fun _ h => h.sel [0] rfl) ?_
              refine AV.all [9] (by kernel_rfl) (by decide) ?_
              refine ⟨⟨_, rfl, ?_⟩, trivial⟩
              · -- 9 comes up
                refine OV.step gno (Step.idx Try.underlying27 I3 (fun w h => h.os 11 rfl) rfl rfl (rfl) _ rfl (by first | omega | (show q < 4; omega) | (show 0 < 1; omega))) rfl ?_
                refine AV.next #[true, true, true, true, true, true, true, true, true, true, false, true, true, true, true, false, true, false] (by kernel_rfl) (fun _ h => h.sel [0] rfl) ?_
                refine AV.all [10] (by kernel_rfl) (by decide) ?_
                refine ⟨⟨_, rfl, ?_⟩, trivial⟩
                · -- 10 comes up
                  refine OV.step gno (Step.load Try.underlying3 rfl rfl (fun w h => (h.os 11 rfl).cell0 (by show q < 4; omega) rfl)) rfl ?_
                  obtain ⟨wd, hw0, hw1, hw2, hw3⟩ := wds_at hq4
                  rw [show wds.getD q (intK .i64).d = (wd : Int) from hw0]
                  refine AV.next #[true, true, true, true, true, true, true, true, true, true, true, true, true, true, true, false, true, false] (by kernel_rfl) (fun _ h => h.sel [0] rfl) ?_
                  refine AV.take 15 #[true, true, true, true, true, true, true, true, true, true, true, true, true, true, true, true, true, false] rfl (by kernel_rfl) (by kernel_rfl) (by kernel_rfl) (fun _ _ _ h => h) gno (Step.build rfl (Bd37_0_1_2_3_4 _ _ _ _ _)) rfl (fun _ h => h.sel [0] rfl) (by kernel_rfl) ?_
                  refine AV.all [17] (by kernel_rfl) (by decide) ?_
                  refine ⟨⟨_, rfl, ?_⟩, trivial⟩
                  · -- 17 comes up
                    refine OV.store 12 [_, _, _, _, _] #[_, _, _, _, _] I37 rfl rfl rfl rfl rfl (Nat.le_of_ble_eq_true rfl) (by simp [Value.oneCell']) rfl gno ?_
                    refine AV.next #[true, true, true, true, true, true, true, true, true, true, true, true, true, true, true, true, true, true] (by kernel_rfl) (fun _ h => h.sel [0] rfl) ?_
                    refine AV.done (by kernel_rfl) ?_
                    refine KV.then_n ?_
                    refine KV.env [(5, _), (8, _)] ⟨rfl, rfl, trivial⟩ ?_
                    refine KV.sel [1, 1, 1, 1, 6, 7] [_, _, _, _, _, _] rfl ?_
                    exact KV.join2 (ba) (⟨wd, hw1, hw2, hw3⟩) ⟨rfl, rfl, trivial⟩ (fun _ h => h)
      · -- 16 comes up
        refine OV.alloc #[.int .i64 0, .int .u64 0, .int .i64 0, .bool false, .int .u64 0] I37 rfl gno rfl (fun ba => ?_)
        refine AV.next #[true, true, false, true, true, false, true, true, false, false, false, true, true, true, true, false, true, false] (by kernel_rfl) (fun _ h => h.sel [0] rfl) ?_
        refine AV.all [2, 5] (by kernel_rfl) (by decide) ?_
        refine ⟨⟨_, rfl, ?_⟩, ⟨⟨_, rfl, ?_⟩, trivial⟩⟩
        · -- 2 comes up
          refine OV.call [] Try.func10 B10 N10 rfl rfl (fun w h => (mod_fn o3.space 3 (by omega) (by omega)).fn w) (fun _ hb => hb.elim) gno rfl (fun v L' hp => ?_)
          obtain ⟨rfl, rfl⟩ := hp
          simp only [List.append_nil]
          refine AV.next #[true, true, true, true, true, false, true, true, false, false, false, true, true, true, true, false, true, false] (by kernel_rfl) (fun _ h => h.sel [0] rfl) ?_
          refine AV.all [5, 8] (by kernel_rfl) (by decide) ?_
          refine ⟨⟨_, rfl, ?_⟩, ⟨⟨_, rfl, ?_⟩, trivial⟩⟩
          · -- 5 comes up
            refine OV.buildSlice (K := (intK .i64)) (wds) rfl (Bs27_4_0_1_2_3 _ _ _ _) rfl rfl (by omega) gno rfl (fun b10_5 => ?_)
            refine AV.next #[true, true, true, true, true, true, true, true, false, false, false, true, true, true, true, false, true, false] (by kernel_rfl) (fun _ h => h.sel [0] rfl) ?_
            refine AV.all [8] (by kernel_rfl) (by decide) ?_
            refine ⟨⟨_, rfl, ?_⟩, trivial⟩
            · -- 8 comes up
              refine OV.call [] Try.func10 B10 N10 rfl rfl (fun w h => (mod_fn o3.width 4 (by omega) (by omega)).fn w) (fun _ hb => hb.elim) gno rfl (fun v L' hp => ?_)
              obtain ⟨rfl, rfl⟩ := hp
              simp only [List.append_nil]
              obtain ⟨q, hq, hq4⟩ := modN o3.width (n := 4) (by omega)
              rw [hq]
              refine AV.next #[true, true, true, true, true, true, true, true, true, false, false, true, true, true, true, false, true, false] (by kernel_rfl) (fun _ h => h.sel [0] rfl) ?_
              refine AV.all [9] (by kernel_rfl) (by decide) ?_
              refine ⟨⟨_, rfl, ?_⟩, trivial⟩
              · -- 9 comes up
                refine OV.step gno (Step.idx Try.underlying27 I3 (fun w h => h.os 12 rfl) rfl rfl (rfl) _ rfl (by first | omega | (show q < 4; omega) | (show 0 < 1; omega))) rfl ?_
                refine AV.next #[true, true, true, true, true, true, true, true, true, true, false, true, true, true, true, false, true, false] (by kernel_rfl) (fun _ h => h.sel [0] rfl) ?_
                refine AV.all [10] (by kernel_rfl) (by decide) ?_
                refine ⟨⟨_, rfl, ?_⟩, trivial⟩
                · -- 10 comes up
                  refine OV.step gno (Step.load Try.underlying3 rfl rfl (fun w h => (h.os 12 rfl).cell0 (by show q < 4; omega) rfl)) rfl ?_
                  obtain ⟨wd, hw0, hw1, hw2, hw3⟩ := wds_at hq4
                  rw [show wds.getD q (intK .i64).d = (wd : Int) from hw0]
                  refine AV.next #[true, true, true, true, true, true, true, true, true, true, true, true, true, true, true, false, true, false] (by kernel_rfl) (fun _ h => h.sel [0] rfl) ?_
                  refine AV.take 15 #[true, true, true, true, true, true, true, true, true, true, true, true, true, true, true, true, true, false] rfl (by kernel_rfl) (by kernel_rfl) (by kernel_rfl) (fun _ _ _ h => h) gno (Step.build rfl (Bd37_0_1_2_3_4 _ _ _ _ _)) rfl (fun _ h => h.sel [0] rfl) (by kernel_rfl) ?_
                  refine AV.all [17] (by kernel_rfl) (by decide) ?_
                  refine ⟨⟨_, rfl, ?_⟩, trivial⟩
                  · -- 17 comes up
                    refine OV.store 11 [_, _, _, _, _] #[_, _, _, _, _] I37 rfl rfl rfl rfl rfl (Nat.le_of_ble_eq_true rfl) (by simp [Value.oneCell']) rfl gno ?_
                    refine AV.next #[true, true, true, true, true, true, true, true, true, true, true, true, true, true, true, true, true, true] (by kernel_rfl) (fun _ h => h.sel [0] rfl) ?_
                    refine AV.done (by kernel_rfl) ?_
                    refine KV.then_n ?_
                    refine KV.env [(5, _), (8, _)] ⟨rfl, rfl, trivial⟩ ?_
                    refine KV.sel [1, 1, 1, 1, 6, 6] [_, _, _, _, _, _] rfl ?_
                    exact KV.join2 (ba) (⟨wd, hw1, hw2, hw3⟩) ⟨rfl, rfl, trivial⟩ (fun _ h => h)
          · -- 8 comes up
            refine OV.call [] Try.func10 B10 N10 rfl rfl (fun w h => (mod_fn o3.width 4 (by omega) (by omega)).fn w) (fun _ hb => hb.elim) gno rfl (fun v L' hp => ?_)
            obtain ⟨rfl, rfl⟩ := hp
            simp only [List.append_nil]
            obtain ⟨q, hq, hq4⟩ := modN o3.width (n := 4) (by omega)
            rw [hq]
            refine AV.next #[true, true, true, true, true, false, true, true, true, false, false, true, true, true, true, false, true, false] (by kernel_rfl) (fun _ h => h.sel [0] rfl) ?_
            refine AV.all [5] (by kernel_rfl) (by decide) ?_
            refine ⟨⟨_, rfl, ?_⟩, trivial⟩
            · -- 5 comes up
              refine OV.buildSlice (K := (intK .i64)) (wds) rfl (Bs27_4_0_1_2_3 _ _ _ _) rfl rfl (by omega) gno rfl (fun b10_5 => ?_)
              refine AV.next #[true, true, true, true, true, true, true, true, true, false, false, true, true, true, true, false, true, false] (by kernel_rfl) (fun _ h => h.sel [0] rfl) ?_
              refine AV.all [9] (by kernel_rfl) (by decide) ?_
              refine ⟨⟨_, rfl, ?_⟩, trivial⟩
              · -- 9 comes up
                refine OV.step gno (Step.idx Try.underlying27 I3 (fun w h => h.os 12 rfl) rfl rfl (rfl) _ rfl (by first | omega | (show q < 4; omega) | (show 0 < 1; omega))) rfl ?_
                refine AV.next #[true, true, true, true, true, true, true, true, true, true, false, true, true, true, true, false, true, false] (by kernel_rfl) (fun _ h => h.sel [0] rfl) ?_
                refine AV.all [10] (by kernel_rfl) (by decide) ?_
                refine ⟨⟨_, rfl, ?_⟩, trivial⟩
                · -- 10 comes up
                  refine OV.step gno (Step.load Try.underlying3 rfl rfl (fun w h => (h.os 12 rfl).cell0 (by show q < 4; omega) rfl)) rfl ?_
                  obtain ⟨wd, hw0, hw1, hw2, hw3⟩ := wds_at hq4
                  rw [show wds.getD q (intK .i64).d = (wd : Int) from hw0]
                  refine AV.next #[true, true, true, true, true, true, true, true, true, true, true, true, true, true, true, false, true, false] (by kernel_rfl) (fun _ h => h.sel [0] rfl) ?_
                  refine AV.take 15 #[true, true, true, true, true, true, true, true, true, true, true, true, true, true, true, true, true, false] rfl (by kernel_rfl) (by kernel_rfl) (by kernel_rfl) (fun _ _ _ h => h) gno (Step.build rfl (Bd37_0_1_2_3_4 _ _ _ _ _)) rfl (fun _ h => h.sel [0] rfl) (by kernel_rfl) ?_
                  refine AV.all [17] (by kernel_rfl) (by decide) ?_
                  refine ⟨⟨_, rfl, ?_⟩, trivial⟩
                  · -- 17 comes up
                    refine OV.store 11 [_, _, _, _, _] #[_, _, _, _, _] I37 rfl rfl rfl rfl rfl (Nat.le_of_ble_eq_true rfl) (by simp [Value.oneCell']) rfl gno ?_
                    refine AV.next #[true, true, true, true, true, true, true, true, true, true, true, true, true, true, true, true, true, true] (by kernel_rfl) (fun _ h => h.sel [0] rfl) ?_
                    refine AV.done (by kernel_rfl) ?_
                    refine KV.then_n ?_
                    refine KV.env [(5, _), (8, _)] ⟨rfl, rfl, trivial⟩ ?_
                    refine KV.sel [1, 1, 1, 1, 6, 6] [_, _, _, _, _, _] rfl ?_
                    exact KV.join2 (ba) (⟨wd, hw1, hw2, hw3⟩) ⟨rfl, rfl, trivial⟩ (fun _ h => h)
        · -- 5 comes up
          refine OV.buildSlice (K := (intK .i64)) (wds) rfl (Bs27_4_0_1_2_3 _ _ _ _) rfl rfl (by omega) gno rfl (fun b10_5 => ?_)
          refine AV.next #[true, true, false, true, true, true, true, true, false, false, false, true, true, true, true, false, true, false] (by kernel_rfl) (fun _ h => h.sel [0] rfl) ?_
          refine AV.all [2] (by kernel_rfl) (by decide) ?_
          refine ⟨⟨_, rfl, ?_⟩, trivial⟩
          · -- 2 comes up
            refine OV.call [] Try.func10 B10 N10 rfl rfl (fun w h => (mod_fn o3.space 3 (by omega) (by omega)).fn w) (fun _ hb => hb.elim) gno rfl (fun v L' hp => ?_)
            obtain ⟨rfl, rfl⟩ := hp
            simp only [List.append_nil]
            refine AV.next #[true, true, true, true, true, true, true, true, false, false, false, true, true, true, true, false, true, false] (by kernel_rfl) (fun _ h => h.sel [0] rfl) ?_
            refine AV.all [8] (by kernel_rfl) (by decide) ?_
            refine ⟨⟨_, rfl, ?_⟩, trivial⟩
            · -- 8 comes up
              refine OV.call [] Try.func10 B10 N10 rfl rfl (fun w h => (mod_fn o3.width 4 (by omega) (by omega)).fn w) (fun _ hb => hb.elim) gno rfl (fun v L' hp => ?_)
              obtain ⟨rfl, rfl⟩ := hp
              simp only [List.append_nil]
              obtain ⟨q, hq, hq4⟩ := modN o3.width (n := 4) (by omega)
              rw [hq]
              refine AV.next #[true, true, true, true, true, true, true, true, true, false, false, true, true, true, true, false, true, false] (by kernel_rfl) (fun _ h => h.sel [0] rfl) ?_
              refine AV.all [9] (by kernel_rfl) (by decide) ?_
              refine ⟨⟨_, rfl, ?_⟩, trivial⟩
              · -- 9 comes up
                refine OV.step gno (Step.idx Try.underlying27 I3 (fun w h => h.os 12 rfl) rfl rfl (rfl) _ rfl (by first | omega | (show q < 4; omega) | (show 0 < 1; omega))) rfl ?_
                refine AV.next #[true, true, true, true, true, true, true, true, true, true, false, true, true, true, true, false, true, false] (by kernel_rfl) (fun _ h => h.sel [0] rfl) ?_
                refine AV.all [10] (by kernel_rfl) (by decide) ?_
                refine ⟨⟨_, rfl, ?_⟩, trivial⟩
                · -- 10 comes up
                  refine OV.step gno (Step.load Try.underlying3 rfl rfl (fun w h => (h.os 12 rfl).cell0 (by show q < 4; omega) rfl)) rfl ?_
                  obtain ⟨wd, hw0, hw1, hw2, hw3⟩ := wds_at hq4
                  rw [show wds.getD q (intK .i64).d = (wd : Int) from hw0]
                  refine AV.next #[true, true, true, true, true, true, true, true, true, true, true, true, true, true, true, false, true, false] (by kernel_rfl) (fun _ h => h.sel [0] rfl) ?_
                  refine AV.take 15 #[true, true, true, true, true, true, true, true, true, true, true, true, true, true, true, true, true, false] rfl (by kernel_rfl) (by kernel_rfl) (by kernel_rfl) (fun _ _ _ h => h) gno (Step.build rfl (Bd37_0_1_2_3_4 _ _ _ _ _)) rfl (fun _ h => h.sel [0] rfl) (by kernel_rfl) ?_
                  refine AV.all [17] (by kernel_rfl) (by decide) ?_
                  refine ⟨⟨_, rfl, ?_⟩, trivial⟩
                  · -- 17 comes up
                    refine OV.store 11 [_, _, _, _, _] #[_, _, _, _, _] I37 rfl rfl rfl rfl rfl (Nat.le_of_ble_eq_true rfl) (by simp [Value.oneCell']) rfl gno ?_
                    refine AV.next #[true, true, true, true, true, true, true, true, true, true, true, true, true, true, true, true, true, true] (by kernel_rfl) (fun _ h => h.sel [0] rfl) ?_
                    refine AV.done (by kernel_rfl) ?_
                    refine KV.then_n ?_
                    refine KV.env [(5, _), (8, _)] ⟨rfl, rfl, trivial⟩ ?_
                    refine KV.sel [1, 1, 1, 1, 6, 6] [_, _, _, _, _, _] rfl ?_
                    exact KV.join2 (ba) (⟨wd, hw1, hw2, hw3⟩) ⟨rfl, rfl, trivial⟩ (fun _ h => h)
    · intro ba wd
      refine CV.seq ?_
      -- region 11 law.go:115
      have hwd1 := wd.2.2.1
      have hwd2 := wd.2.2.2
      refine CV.stillTail 10 (by kernel_rfl) (by kernel_rfl) (fun _ h => h.drew) ?_
      refine SV.step gno (Step.fieldAddr rfl (F37_1 _ _)) rfl ?_
      refine SV.step gno (Step.load Try.underlying22 rfl rfl (fun w h => h.cell 5 rfl rfl)) rfl ?_
      refine SV.step gno (Step.fieldAddr rfl (F37_1 _ _)) rfl ?_
      refine SV.step gno (Step.load Try.underlying22 rfl rfl (fun w h => h.cell 5 rfl rfl)) rfl ?_
      refine SV.step gno (Step.fieldAddr rfl (F37_2 _ _)) rfl ?_
      refine SV.step gno (Step.load Try.underlying3 rfl rfl (fun w h => h.cell 5 rfl rfl)) rfl ?_
      (first | refine SV.step gno (Step.convI Try.underlying3 Try.underlying22 rfl (wU64 (by omega) (by omega))) rfl ?_ | refine SV.step gno (Step.convI Try.underlying3 Try.underlying22 rfl rfl) rfl ?_)
      refine SV.step gno (Step.rem rfl rfl (by omega) (rfl)) rfl ?_
      have hrm := rem_le (y := (wd.1 : Int)) ho3.1.1
      have hy2 := ho3.1.2
      (first | refine SV.step gno (Step.sub rfl rfl (wU64 (by omega) (by omega))) rfl ?_ | refine SV.step gno (Step.sub rfl rfl rfl) rfl ?_)
      refine SV.step gno (Step.fieldAddr rfl (F37_1 _ _)) rfl ?_
      refine SV.nil ?_
      show KV _ (wpList _ _ _ _) _ _
      refine RV.op (OV.store 5 [_] #[_, _, _, _, _] I22 rfl rfl rfl rfl rfl (Nat.le_of_ble_eq_true rfl) (by simp [Value.oneCell']) rfl gno ?_)
      refine RV.nil ?_
      refine KV.then_n ?_
      refine KV.env [(5, _), (8, _)] ⟨rfl, rfl, trivial⟩ ?_
      refine CV.seq ?_
      refine CV.seq ?_
      -- region 12 law.go:116
      obtain ⟨X, hX⟩ : ∃ X, X = o3.addr - o3.addr.tmod wd.1 := ⟨_, rfl⟩
      rw [← hX]
      have hsp := modM_lt o3.space (n := 3) (by omega)
      have hA : wfA (⟨(modM o3.space 3), X, wd.1, o3.wr, o3.val⟩ : Acs) := ⟨wd.2.1, hsp, by rw [hX]; exact al0 ho3.1.1 wd.2.1⟩
      have hXU : isU X := by unfold isU; omega
      have hXr := wfA_rng hA hXU
      unfold okR at hXr
      simp only [] at hXr
      unfold isU at hXU
      refine CV.region ?_
      refine RV.op (OV.step gno (Step.assign rfl) rfl ?_)
      refine RV.nil ?_
      refine KV.then_n ?_
      refine KV.env [(5, _), (8, _), (9, _)] ⟨rfl, rfl, rfl, trivial⟩ ?_
      refine CV.block ?_
      -- loop L13; live [5, 8, 9]
      refine KV.sel [0, 0, 0, 0, 0, 0] [_, _, _, _, _, _] rfl ?_
      refine CV.loop2 (fun (i : Nat) (s : BS) => i ≤ 5 ∧ s.ok) (fun (i : Nat) (s : BS) => 5 - i) (fun (i : Nat) (s : BS) => [(5, .pointer (some ⟨bp, 0, none⟩)), (8, .pointer (some ⟨ba, 0, none⟩)), (9, .int .i64 ((i : Int) - 1))]) (fun (i : Nat) (s : BS) => Hp I w (busL b s ++ [Blk bp (.cells #[.pointer (some ⟨b, 0, none⟩), .pointer (some ⟨c, 0, none⟩)] 58 (0, 0)), Blk ba (.cells #[.int .i64 (modM o3.space 3), .int .u64 (X), .int .i64 (wd.1 : Int), .bool o3.wr, .int .u64 o3.val] 37 (0, 0))])) (0) (s) ⟨Nat.zero_le _, hinv.2.sk⟩ ⟨rfl, rfl, rfl, trivial⟩ (fun _ h => h) ?_
      intro i s hk1
      refine CV.seq ?_
      refine CV.seq ?_
      -- region 13 law.go:116
      refine CV.region ?_
      refine RV.op (OV.step gno (Step.move rfl) rfl ?_)
      refine RV.op (OV.split gno (Step.lss rfl rfl) rfl (fun hi1 => ?_) (fun hi1 => ?_))
      · -- True
        refine RV.nil ?_
        refine KV.then_n ?_
        refine KV.env [(5, _), (8, _), (9, _), (72, _)] ⟨rfl, rfl, rfl, rfl, trivial⟩ ?_
        refine CV.cond_t rfl ?_
        refine CV.skip ?_
        refine KV.then_n ?_
        refine KV.env [(5, _), (8, _), (9, _)] ⟨rfl, rfl, rfl, trivial⟩ ?_
        refine CV.seq ?_
        refine CV.block ?_
        -- region 15 law.go:117
        refine CV.region ?_
        refine RV.op (OV.step gno (Step.fieldAddr rfl (F58_0 _ _)) rfl ?_)
        refine RV.op (OV.step gno (Step.load Try.underlying24 rfl rfl (fun w h => h.cell 4 rfl rfl)) rfl ?_)
        refine RV.op (OV.step gno (Step.move rfl) rfl ?_)
        refine RV.op (OV.call [0, 0, 0, 0] (F := [_, _]) Try.func12 B12 N12 rfl rfl (fun w h => enO_fn b s hk1.2 ((i : Int) - 1) false) (fun _ hb => hb.elim) gno rfl (fun v L' hp => ?_))
        obtain ⟨e1, s3, rfl, rfl, h1⟩ := hp
        refine RV.nil ?_
        refine KV.block_n ?_
        refine KV.then_n ?_
        refine KV.env [(5, _), (8, _), (9, _)] ⟨rfl, rfl, rfl, trivial⟩ ?_
        -- region 14 law.go:116
        refine CV.region ?_
        refine RV.op (OV.step gno (Step.move rfl) rfl ?_)
        (first | refine RV.op (OV.step gno (Step.add rfl rfl (wI64 (by omega) (by omega))) rfl ?_) | refine RV.op (OV.step gno (Step.add rfl rfl rfl) rfl ?_))
        refine RV.op (OV.step gno (Step.assign rfl) rfl ?_)
        refine RV.nil ?_
        refine KV.then_n ?_
        refine KV.env [(5, _), (8, _), (9, _)] ⟨rfl, rfl, rfl, trivial⟩ ?_
        refine KV.sel [2, 2, 2, 2, 0, 0] [_, _, _, _, _, _] rfl ?_
        exact KV.loop2 (x := i) (y := s) (i + 1) (s3) ⟨by omega, h1.ok hk1.2⟩ (by omega) ⟨rfl, rfl, (congrArg (fun x => some (Value.int .i64 x)) (show (i : Int) - 1 + 1 = ((i + 1 : Nat) : Int) - 1 by omega)), trivial⟩ (fun _ h => h)
      · -- False
        refine RV.nil ?_
        refine KV.then_n ?_
        refine KV.env [(5, _), (8, _), (9, _), (72, _)] ⟨rfl, rfl, rfl, rfl, trivial⟩ ?_
        refine CV.cond_f rfl ?_
        refine CV.exit ?_
        refine KV.then_exit ?_
        refine KV.then_exit ?_
        refine KV.block_hit ?_
        refine KV.then_n ?_
        refine KV.env [(5, _), (8, _)] ⟨rfl, rfl, trivial⟩ ?_
        refine CV.seq ?_
        refine CV.seq ?_
        -- region 16 law.go:119
        refine CV.region ?_
        refine RV.op (OV.step gno (Step.assign rfl) rfl ?_)
        refine RV.nil ?_
        refine KV.then_n ?_
        refine KV.env [(5, _), (8, _), (10, _)] ⟨rfl, rfl, rfl, trivial⟩ ?_
        refine CV.block ?_
        -- loop L17; live [5, 8, 10]
        refine KV.sel [0, 0, 0, 0, 0, 0] [_, _, _, _, _, _] rfl ?_
        refine CV.loop2 (fun (i : Nat) (s : BS) => (i ≤ 256 ∧ s.ok) ∧ ∀ k, k < i → s.en.getD k false = false) (fun (i : Nat) (s : BS) => 256 - i) (fun (i : Nat) (s : BS) => [(5, .pointer (some ⟨bp, 0, none⟩)), (8, .pointer (some ⟨ba, 0, none⟩)), (10, .int .i64 i)]) (fun (i : Nat) (s : BS) => Hp I w (busL b s ++ [Blk bp (.cells #[.pointer (some ⟨b, 0, none⟩), .pointer (some ⟨c, 0, none⟩)] 58 (0, 0)), Blk ba (.cells #[.int .i64 (modM o3.space 3), .int .u64 (X), .int .i64 (wd.1 : Int), .bool o3.wr, .int .u64 o3.val] 37 (0, 0))])) (0) (s) ⟨⟨Nat.zero_le _, hk1.2⟩, fun k hk => by omega⟩ ⟨rfl, rfl, rfl, trivial⟩ (fun _ h => h) ?_
        intro i s hk2
        refine CV.seq ?_
        refine CV.seq ?_
        -- region 17 law.go:119
        refine CV.region ?_
        refine RV.op (OV.step gno (Step.move rfl) rfl ?_)
        refine RV.op (OV.split gno (Step.lss rfl rfl) rfl (fun hi1 => ?_) (fun hi1 => ?_))
        · -- True
          refine RV.nil ?_
          refine KV.then_n ?_
          refine KV.env [(5, _), (8, _), (10, _), (80, _)] ⟨rfl, rfl, rfl, rfl, trivial⟩ ?_
          refine CV.cond_t rfl ?_
          refine CV.skip ?_
          refine KV.then_n ?_
          refine KV.env [(5, _), (8, _), (10, _)] ⟨rfl, rfl, rfl, trivial⟩ ?_
          refine CV.seq ?_
          refine CV.block ?_
          -- region 19 law.go:120
          refine CV.region ?_
          refine RV.op (OV.step gno (Step.fieldAddr rfl (F58_0 _ _)) rfl ?_)
          refine RV.op (OV.step gno (Step.load Try.underlying24 rfl rfl (fun w h => h.cell 4 rfl rfl)) rfl ?_)
          refine RV.op (OV.step gno (Step.move rfl) rfl ?_)
          refine RV.op (OV.call [0, 0, 0, 0] (F := [_, _]) Try.func12 B12 N12 rfl rfl (fun w h => enO_fn b s hk2.1.2 (i : Int) false) (fun _ hb => hb.elim) gno rfl (fun v L' hp => ?_))
          obtain ⟨e1, s3, rfl, rfl, h1⟩ := hp
          obtain ⟨g1, g2⟩ := enO_step h1 hk2.1.2 (by omega) hk2.2
          refine RV.nil ?_
          refine KV.block_n ?_
          refine KV.then_n ?_
          refine KV.env [(5, _), (8, _), (10, _)] ⟨rfl, rfl, rfl, trivial⟩ ?_
          -- region 18 law.go:119
          refine CV.region ?_
          refine RV.op (OV.step gno (Step.move rfl) rfl ?_)
          (first | refine RV.op (OV.step gno (Step.add rfl rfl (wI64 (by omega) (by omega))) rfl ?_) | refine RV.op (OV.step gno (Step.add rfl rfl rfl) rfl ?_))
          refine RV.op (OV.step gno (Step.assign rfl) rfl ?_)
          refine RV.nil ?_
          refine KV.then_n ?_
          refine KV.env [(5, _), (8, _), (10, _)] ⟨rfl, rfl, rfl, trivial⟩ ?_
          refine KV.sel [2, 2, 2, 2, 0, 0] [_, _, _, _, _, _] rfl ?_
          exact KV.loop2 (x := i) (y := s) (i + 1) (s3) ⟨⟨by omega, g1⟩, g2⟩ (by omega) ⟨rfl, rfl, rfl, trivial⟩ (fun _ h => h)
        · -- False
          obtain rfl : i = 256 := by omega
          refine RV.nil ?_
          refine KV.then_n ?_
          refine KV.env [(5, _), (8, _), (10, _), (80, _)] ⟨rfl, rfl, rfl, rfl, trivial⟩ ?_
          refine CV.cond_f rfl ?_
          refine CV.exit ?_
          refine KV.then_exit ?_
          refine KV.then_exit ?_
          refine KV.block_hit ?_
          refine KV.then_n ?_
          refine KV.env [(5, _), (8, _)] ⟨rfl, rfl, trivial⟩ ?_
          refine CV.seq ?_
          -- region 20 law.go:122
          refine CV.region ?_
          refine RV.op (OV.step gno (Step.fieldAddr rfl (F58_0 _ _)) rfl ?_)
          refine RV.op (OV.step gno (Step.load Try.underlying24 rfl rfl (fun w h => h.cell 4 rfl rfl)) rfl ?_)
          refine RV.op (OV.call [0, 0, 0, 0] (F := [_, _]) Try.func21 B21 N21 rfl rfl (fun w h => takeTrace_fn b s hk2.1.2) (fun _ hb => hb.elim) gno rfl (fun v L' hp => ?_))
          obtain ⟨rfl, rfl⟩ := hp
          obtain ⟨s4, hs4⟩ : ∃ s9 : BS, ({ s with tA := none, tc := 0, tr := [] } : BS) = s9 := ⟨_, rfl⟩
          rw [hs4]
          have hk4 : s4.ok := hs4 ▸ hk2.1.2.noTr
          have ht4 : s4.tr = [] := by rw [← hs4]
          have he4 : ∀ k, k < 256 → s4.en.getD k false = false := by rw [← hs4]; exact fun k hk => hk2.2 k (by omega)
          refine RV.nil ?_
          refine KV.then_n ?_
          refine KV.env [(5, _), (8, _)] ⟨rfl, rfl, trivial⟩ ?_
          refine CV.seq ?_
          -- region 21 law.go:123
          refine CV.region ?_
          refine RV.op (OV.alloc #[.int .u8 0, .int .u8 0, .int .u8 0, .int .u8 0, .int .u8 0, .int .u8 0, .int .u8 0, .int .u8 0] I65 rfl gno rfl (fun ob => ?_))
          refine KV.heap (fun w h => h.last fun J hJ => OS.ofBlk (K := intK .u8) (ys := List.replicate 8 0) (c := 8) hJ (by rw [List.length_replicate]; omega) (by unfold maxLen; omega) rfl rfl) ?_
          refine RV.nil ?_
          refine KV.then_n ?_
          refine KV.env [(5, _), (8, _), (11, _)] ⟨rfl, rfl, rfl, trivial⟩ ?_
          refine CV.seq ?_
          refine CV.seq ?_
          -- region 22 law.go:124
          refine CV.region ?_
          refine RV.op (OV.step gno (Step.assign rfl) rfl ?_)
          refine RV.nil ?_
          refine KV.then_n ?_
          refine KV.env [(5, _), (8, _), (11, _), (12, _)] ⟨rfl, rfl, rfl, rfl, trivial⟩ ?_
          refine CV.block ?_
          -- loop L23; live [5, 8, 11, 12]
          refine KV.sel [2, 2, 2, 2, 0, 0, 1] [_, _, _, _, _, _, _] rfl ?_
          refine CV.loopI (fun (i : Nat) => i ≤ wd.1) (fun (i : Nat) => wd.1 - i) (fun (i : Nat) => [(5, .pointer (some ⟨bp, 0, none⟩)), (8, .pointer (some ⟨ba, 0, none⟩)), (11, .pointer (some ⟨ob, 0, none⟩)), (12, .int .i64 i)]) (fun (i : Nat) => Hp I w (busL b s4 ++ [Blk bp (.cells #[.pointer (some ⟨b, 0, none⟩), .pointer (some ⟨c, 0, none⟩)] 58 (0, 0)), Blk ba (.cells #[.int .i64 (modM o3.space 3), .int .u64 (X), .int .i64 (wd.1 : Int), .bool o3.wr, .int .u64 o3.val] 37 (0, 0)), OS 65 (intK .u8) (some ⟨ob, 0, none⟩) 8 (WL s4 (modM o3.space 3) X i)])) (0) (Nat.zero_le _) ⟨rfl, rfl, rfl, rfl, trivial⟩ (fun _ h => by rw [WL_0]; exact h) ?_
          intro i hk3
          refine CV.seq ?_
          refine CV.seq ?_
          -- region 23 law.go:124
          refine CV.region ?_
          refine RV.op (OV.step gno (Step.move rfl) rfl ?_)
          refine RV.op (OV.step gno (Step.fieldAddr rfl (F37_2 _ _)) rfl ?_)
          refine RV.op (OV.step gno (Step.load Try.underlying3 rfl rfl (fun w h => h.cell 5 rfl rfl)) rfl ?_)
          refine RV.op (OV.split gno (Step.lss rfl rfl) rfl (fun hi1 => ?_) (fun hi1 => ?_))
          · -- True
            refine RV.nil ?_
            refine KV.then_n ?_
            refine KV.env [(5, _), (8, _), (11, _), (12, _), (93, _)] ⟨rfl, rfl, rfl, rfl, rfl, trivial⟩ ?_
            refine CV.cond_t rfl ?_
            refine CV.skip ?_
            refine KV.then_n ?_
            refine KV.env [(5, _), (8, _), (11, _), (12, _)] ⟨rfl, rfl, rfl, rfl, trivial⟩ ?_
            refine CV.seq ?_
            refine CV.block ?_
            -- region 25 law.go:125
            refine CV.region ?_
            refine RV.op (OV.step gno (Step.move rfl) rfl ?_)
            refine RV.op (OV.step gno (Step.fieldAddr rfl (F58_0 _ _)) rfl ?_)
            refine RV.op (OV.step gno (Step.load Try.underlying24 rfl rfl (fun w h => h.cell 4 rfl rfl)) rfl ?_)
            refine RV.op (OV.step gno (Step.fieldAddr rfl (F37_0 _ _)) rfl ?_)
            refine RV.op (OV.step gno (Step.load Try.underlying3 rfl rfl (fun w h => h.cell 5 rfl rfl)) rfl ?_)
            refine RV.op (OV.step gno (Step.fieldAddr rfl (F37_1 _ _)) rfl ?_)
            refine RV.op (OV.step gno (Step.load Try.underlying22 rfl rfl (fun w h => h.cell 5 rfl rfl)) rfl ?_)
            refine RV.op (OV.step gno (Step.move rfl) rfl ?_)
            (first | refine RV.op (OV.step gno (Step.convI Try.underlying3 Try.underlying22 rfl (wU64 (by omega) (by omega))) rfl ?_) | refine RV.op (OV.step gno (Step.convI Try.underlying3 Try.underlying22 rfl rfl) rfl ?_))
            (first | refine RV.op (OV.step gno (Step.add rfl rfl (wU64 (by omega) (by omega))) rfl ?_) | refine RV.op (OV.step gno (Step.add rfl rfl rfl) rfl ?_))
            refine RV.op (OV.call [0, 0, 0, 0] (F := [_, _, _]) Try.func17 B17 N17 rfl rfl (fun w h => peek_fn b s4 hk4 (modM o3.space 3) (X + (i : Int)) (by unfold isU; omega)) (fun _ hb => hb.elim) gno rfl (fun v L' hp => ?_))
            obtain ⟨rfl, rfl⟩ := hp
            refine RV.op (OV.step gno (Step.move rfl) rfl ?_)
            refine RV.op (OV.step gno (Step.extract0 rfl rfl) rfl ?_)
            refine RV.op (OV.step gno (Step.extract0 rfl rfl) rfl ?_)
            refine RV.op (OV.step gno (Step.idxArr Try.underlying65 I5 rfl rfl _ rfl (by first | omega | (show q < 4; omega) | (show 0 < 1; omega))) rfl ?_)
            refine RV.op (OV.storeE 2 (i) (pkM s4 (modM o3.space 3) (X + (i : Int))) (j := 0) [_] I5 rfl rfl rfl rfl rfl rfl (by rw [WL_len]; omega) rfl (Nat.le_of_ble_eq_true rfl) gno ?_)
            refine RV.nil ?_
            refine KV.block_n ?_
            refine KV.then_n ?_
            refine KV.env [(5, _), (8, _), (11, _), (12, _)] ⟨rfl, rfl, rfl, rfl, trivial⟩ ?_
            -- region 24 law.go:124
            refine CV.region ?_
            refine RV.op (OV.step gno (Step.move rfl) rfl ?_)
            (first | refine RV.op (OV.step gno (Step.add rfl rfl (wI64 (by omega) (by omega))) rfl ?_) | refine RV.op (OV.step gno (Step.add rfl rfl rfl) rfl ?_))
            refine RV.op (OV.step gno (Step.assign rfl) rfl ?_)
            refine RV.nil ?_
            refine KV.then_n ?_
            refine KV.env [(5, _), (8, _), (11, _), (12, _)] ⟨rfl, rfl, rfl, rfl, trivial⟩ ?_
            refine KV.sel [3, 3, 3, 3, 0, 0, 0] [_, _, _, _, _, _, _] rfl ?_
            exact KV.loopI (z := i) (i + 1) (by omega) (by omega) ⟨rfl, rfl, rfl, rfl, trivial⟩ (fun _ h => by rw [WL_s (by omega)]; exact h)
          · -- False
            obtain rfl : i = wd.1 := by omega
            refine RV.nil ?_
            refine KV.then_n ?_
            refine KV.env [(5, _), (8, _), (11, _), (12, _), (93, _)] ⟨rfl, rfl, rfl, rfl, rfl, trivial⟩ ?_
            refine CV.cond_f rfl ?_
            refine CV.exit ?_
            refine KV.then_exit ?_
            refine KV.then_exit ?_
            refine KV.block_hit ?_
            refine KV.then_n ?_
            refine KV.env [(5, _), (8, _), (11, _)] ⟨rfl, rfl, rfl, trivial⟩ ?_
            refine CV.seq ?_
            -- region 26 law.go:127
            refine CV.region ?_
            refine RV.op (OV.step gno (Step.fieldAddr rfl (F58_0 _ _)) rfl ?_)
            refine RV.op (OV.step gno (Step.load Try.underlying24 rfl rfl (fun w h => h.cell 4 rfl rfl)) rfl ?_)
            refine RV.op (OV.step gno (Step.loadN _ Try.underlying37 rfl I37 rfl rfl (fun w h => h.cells 5 rfl)) rfl ?_)
            refine RV.op (OV.call [0, 0, 0, 0] (F := [_, _, _]) Try.func13 B13 N13 rfl rfl (fun w h => accZ_fn b s4 hk4 (⟨(modM o3.space 3), X, wd.1, o3.wr, o3.val⟩ : Acs) (show isU X by unfold isU; omega) ho3.2.2 hA (by rw [ht4]; decide)) (fun _ hb => hb.elim) gno rfl (fun v L' hp => ?_))
            obtain ⟨A5, c5, tA5, tc5, hA5, rfl, rfl⟩ := hp
            obtain ⟨dE, dV, dP, T0, dT, dl, df⟩ := dead_acc (A := A5) (c := c5) (tA := tA5) (tc := tc5) (dead_lv hk4 he4 (a := (⟨(modM o3.space 3), X, wd.1, o3.wr, o3.val⟩ : Acs)))
            have hk5 := accS_ok (c := c5) hk4 hA hA5 tA5 tc5 (by rw [ht4]; decide)
            obtain ⟨s5, hs5⟩ : ∃ s9 : BS, accS s4 (⟨(modM o3.space 3), X, wd.1, o3.wr, o3.val⟩ : Acs) A5 c5 tA5 tc5 = s9 := ⟨_, rfl⟩
            rw [hs5] at dP dT hk5 ⊢
            rw [dE, dV]
            rw [ht4, List.nil_append] at dT
            refine RV.op (OV.step gno (Step.move rfl) rfl ?_)
            refine RV.op (OV.step gno (Step.extract0 rfl rfl) rfl ?_)
            refine RV.op (OV.step gno (Step.extract0 rfl rfl) rfl ?_)
            refine RV.op (OV.step gno (Step.assign rfl) rfl ?_)
            refine RV.op (OV.step gno (Step.assign rfl) rfl ?_)
            refine RV.nil ?_
            refine KV.then_n ?_
            refine KV.env [(5, _), (8, _), (11, _), (13, _), (14, _)] ⟨rfl, rfl, rfl, rfl, rfl, trivial⟩ ?_
            refine CV.seq ?_
            -- region 27 law.go:128
            refine CV.region ?_
            refine RV.op (OV.step gno (Step.fieldAddr rfl (F58_0 _ _)) rfl ?_)
            refine RV.op (OV.step gno (Step.load Try.underlying24 rfl rfl (fun w h => h.cell 0 rfl rfl)) rfl ?_)
            refine RV.op (OV.call [3, 3, 3, 3] (F := [_, _, _]) Try.func21 B21 N21 rfl rfl (fun w h => takeTrace_fn b s5 hk5) (fun _ hb => hb.elim) gno rfl (fun v L' hp => ?_))
            obtain ⟨rfl, rfl⟩ := hp
            rw [dT]
            obtain ⟨s6, hs6⟩ : ∃ s9 : BS, ({ s5 with tA := none, tc := 0, tr := [] } : BS) = s9 := ⟨_, rfl⟩
            rw [hs6]
            have hk6 : s6.ok := hs6 ▸ hk5.noTr
            have dP6 : ∀ z x, pkM s6 z x = pkM s4 z x := fun z x => by rw [← hs6]; exact dP z x
            refine RV.op (OV.step gno (Step.assign rfl) rfl ?_)
            refine RV.nil ?_
            refine KV.then_n ?_
            refine KV.env [(5, _), (8, _), (11, _), (13, _), (14, _), (15, _)] ⟨rfl, rfl, rfl, rfl, rfl, rfl, trivial⟩ ?_
            refine CV.seq ?_
            refine CV.seq ?_
            -- region 28 law.go:129
            refine CV.region ?_
            refine RV.op (OV.step gno (Step.assign rfl) rfl ?_)
            refine RV.nil ?_
            refine KV.then_n ?_
            refine KV.env [(5, _), (8, _), (11, _), (13, _), (14, _), (15, _), (16, _)] ⟨rfl, rfl, rfl, rfl, rfl, rfl, rfl, trivial⟩ ?_
            refine CV.block ?_
            -- loop L29; live [5, 8, 11, 13, 14, 15, 16]
            refine KV.sel [3, 3, 3, 3, 0, 0, 0, 0] [_, _, _, _, _, _, _, _] rfl ?_
            refine CV.loopI (fun (i : Nat) => i ≤ wd.1) (fun (i : Nat) => wd.1 - i) (fun (i : Nat) => [(5, .pointer (some ⟨bp, 0, none⟩)), (8, .pointer (some ⟨ba, 0, none⟩)), (11, .pointer (some ⟨ob, 0, none⟩)), (13, .int .u64 (if o3.wr = true then 0 else onesM (wd.1 : Int))), (14, .int .i64 0), (15, .slice s5.tA ([T0] : List Trc).length s5.tc), (16, .int .i64 i)]) (fun (i : Nat) => Hp I w (busL b s6 ++ [Blk bp (.cells #[.pointer (some ⟨b, 0, none⟩), .pointer (some ⟨c, 0, none⟩)] 58 (0, 0)), Blk ba (.cells #[.int .i64 (modM o3.space 3), .int .u64 (X), .int .i64 (wd.1 : Int), .bool o3.wr, .int .u64 o3.val] 37 (0, 0)), OS 65 (intK .u8) (some ⟨ob, 0, none⟩) 8 (WL s4 (modM o3.space 3) X wd.1), OS 63 trcK s5.tA s5.tc [T0]])) (0) (Nat.zero_le _) ⟨rfl, rfl, rfl, rfl, rfl, rfl, rfl, trivial⟩ (fun _ h => h) ?_
            intro i hk3
            refine CV.seq ?_
            refine CV.seq ?_
            -- region 29 law.go:129
            refine CV.region ?_
            refine RV.op (OV.step gno (Step.move rfl) rfl ?_)
            refine RV.op (OV.step gno (Step.fieldAddr rfl (F37_2 _ _)) rfl ?_)
            refine RV.op (OV.step gno (Step.load Try.underlying3 rfl rfl (fun w h => h.cell 5 rfl rfl)) rfl ?_)
            refine RV.op (OV.split gno (Step.lss rfl rfl) rfl (fun hi1 => ?_) (fun hi1 => ?_))
            · -- True
              refine RV.nil ?_
              refine KV.then_n ?_
              refine KV.env [(5, _), (8, _), (11, _), (13, _), (14, _), (15, _), (16, _), (124, _)] ⟨rfl, rfl, rfl, rfl, rfl, rfl, rfl, rfl, trivial⟩ ?_
              refine CV.cond_t rfl ?_
              refine CV.skip ?_
              refine KV.then_n ?_
              refine KV.env [(5, _), (8, _), (11, _), (13, _), (14, _), (15, _), (16, _)] ⟨rfl, rfl, rfl, rfl, rfl, rfl, rfl, trivial⟩ ?_
              refine CV.seq ?_
              refine CV.block ?_
              refine CV.seq ?_
              -- region 31 law.go:130
              refine CV.region ?_
              refine RV.op (OV.step gno (Step.fieldAddr rfl (F58_0 _ _)) rfl ?_)
              refine RV.op (OV.step gno (Step.load Try.underlying24 rfl rfl (fun w h => h.cell 4 rfl rfl)) rfl ?_)
              refine RV.op (OV.step gno (Step.fieldAddr rfl (F37_0 _ _)) rfl ?_)
              refine RV.op (OV.step gno (Step.load Try.underlying3 rfl rfl (fun w h => h.cell 5 rfl rfl)) rfl ?_)
              refine RV.op (OV.step gno (Step.fieldAddr rfl (F37_1 _ _)) rfl ?_)
              refine RV.op (OV.step gno (Step.load Try.underlying22 rfl rfl (fun w h => h.cell 5 rfl rfl)) rfl ?_)
              refine RV.op (OV.step gno (Step.move rfl) rfl ?_)
              (first | refine RV.op (OV.step gno (Step.convI Try.underlying3 Try.underlying22 rfl (wU64 (by omega) (by omega))) rfl ?_) | refine RV.op (OV.step gno (Step.convI Try.underlying3 Try.underlying22 rfl rfl) rfl ?_))
              (first | refine RV.op (OV.step gno (Step.add rfl rfl (wU64 (by omega) (by omega))) rfl ?_) | refine RV.op (OV.step gno (Step.add rfl rfl rfl) rfl ?_))
              refine RV.op (OV.call [0, 0, 0, 0] (F := [_, _, _, _]) Try.func17 B17 N17 rfl rfl (fun w h => peek_fn b s6 hk6 (modM o3.space 3) (X + (i : Int)) (by unfold isU; omega)) (fun _ hb => hb.elim) gno rfl (fun v L' hp => ?_))
              obtain ⟨rfl, rfl⟩ := hp
              rw [dP6]
              refine RV.op (OV.step gno (Step.move rfl) rfl ?_)
              refine RV.op (OV.step gno (Step.extract0 rfl rfl) rfl ?_)
              refine RV.op (OV.step gno (Step.extract0 rfl rfl) rfl ?_)
              refine RV.op (OV.step gno (Step.assign rfl) rfl ?_)
              refine RV.op (OV.step gno (Step.assign rfl) rfl ?_)
              refine RV.nil ?_
              refine KV.then_n ?_
              refine KV.env [(5, _), (8, _), (11, _), (13, _), (14, _), (15, _), (16, _), (17, _)] ⟨rfl, rfl, rfl, rfl, rfl, rfl, rfl, rfl, trivial⟩ ?_
              refine CV.seq ?_
              -- region 32 law.go:130
              refine CV.region ?_
              refine RV.op (OV.step gno (Step.move rfl) rfl ?_)
              refine RV.op (OV.step gno (Step.move rfl) rfl ?_)
              refine RV.op (OV.step gno (Step.idxArr Try.underlying65 I5 rfl rfl _ rfl (by first | omega | (show q < 4; omega) | (show 0 < 1; omega))) rfl ?_)
              refine RV.op (OV.step gno (Step.load Try.underlying5 rfl rfl (fun w h => (h.os 2 rfl).cell0 (by rw [WL_len]; omega) rfl)) rfl ?_)
              rw [show (WL s4 (modM o3.space 3) X wd.1).getD i (intK .u8).d = pkM s4 (modM o3.space 3) (X + (i : Int)) from WL_get (by omega) (by omega)]
              refine RV.op (OV.split gno (Step.neq rfl rfl) rfl (fun cc8 => ?_) (fun cc8 => ?_))
              · -- True
                exact absurd rfl (by assumption)
              · -- False
                refine RV.nil ?_
                refine KV.then_n ?_
                refine KV.env [(5, _), (8, _), (11, _), (13, _), (14, _), (15, _), (16, _), (144, _)] ⟨rfl, rfl, rfl, rfl, rfl, rfl, rfl, rfl, trivial⟩ ?_
                refine CV.cond_f rfl ?_
                refine CV.skip ?_
                refine KV.block_n ?_
                refine KV.then_n ?_
                refine KV.env [(5, _), (8, _), (11, _), (13, _), (14, _), (15, _), (16, _)] ⟨rfl, rfl, rfl, rfl, rfl, rfl, rfl, trivial⟩ ?_
                -- region 30 law.go:129
                refine CV.region ?_
                refine RV.op (OV.step gno (Step.move rfl) rfl ?_)
                (first | refine RV.op (OV.step gno (Step.add rfl rfl (wI64 (by omega) (by omega))) rfl ?_) | refine RV.op (OV.step gno (Step.add rfl rfl rfl) rfl ?_))
                refine RV.op (OV.step gno (Step.assign rfl) rfl ?_)
                refine RV.nil ?_
                refine KV.then_n ?_
                refine KV.env [(5, _), (8, _), (11, _), (13, _), (14, _), (15, _), (16, _)] ⟨rfl, rfl, rfl, rfl, rfl, rfl, rfl, trivial⟩ ?_
                refine KV.sel [4, 4, 4, 4, 0, 0, 0, 0] [_, _, _, _, _, _, _, _] rfl ?_
                exact KV.loopI (z := i) (i + 1) (by omega) (by omega) ⟨rfl, rfl, rfl, rfl, rfl, rfl, rfl, trivial⟩ (fun _ h => h)
            · -- False
              refine RV.nil ?_
              refine KV.then_n ?_
              refine KV.env [(5, _), (8, _), (11, _), (13, _), (14, _), (15, _), (16, _), (124, _)] ⟨rfl, rfl, rfl, rfl, rfl, rfl, rfl, rfl, trivial⟩ ?_
              refine CV.cond_f rfl ?_
              refine CV.exit ?_
              refine KV.then_exit ?_
              refine KV.then_exit ?_
              refine KV.block_hit ?_
              refine KV.then_n ?_
              refine KV.env [(8, _), (13, _), (14, _), (15, _)] ⟨rfl, rfl, rfl, rfl, trivial⟩ ?_
              refine CV.seq ?_
              -- region 34 law.go:134
              refine CV.region ?_
              refine RV.op (OV.step gno (Step.move rfl) rfl ?_)
              refine RV.op (OV.split gno (Step.eql rfl rfl) rfl (fun cc9 => ?_) (fun cc9 => ?_))
              · -- True
                refine RV.op (OV.step gno (Step.move rfl) rfl ?_)
                refine RV.op (OV.step (gyes rfl) (Step.fieldAddr rfl (F37_3 _ _)) rfl ?_)
                refine RV.op (OV.step (gyes rfl) (Step.load Try.underlying4 rfl rfl (fun w h => h.cell 5 rfl rfl)) rfl ?_)
                refine RV.op (OV.step (gyes rfl) (Step.move rfl) rfl ?_)
                refine KV.cases 150 rfl (fun cc10 => ?_) (fun cc10 => ?_)
                · -- True
                  have hwr : o3.wr = true := cc10
                  rw [if_pos hwr]
                  refine RV.op (OV.step (gyes rfl) (Step.move rfl) rfl ?_)
                  refine RV.op (OV.split (gyes rfl) (Step.eql rfl rfl) rfl (fun cc11 => ?_) (fun cc11 => ?_))
                  · -- True
                    refine RV.op (OV.step (gyes rfl) (Step.pick_t rfl rfl) rfl ?_)
                    refine RV.op (OV.step (gyes rfl) (Step.move rfl) rfl ?_)
                    refine RV.op (OV.skip rfl rfl ?_)
                    refine RV.op (OV.skip rfl rfl ?_)
                    refine RV.op (OV.skip rfl rfl ?_)
                    refine RV.op (OV.skip rfl rfl ?_)
                    refine RV.op (OV.skipU rfl rfl ?_)
                    refine RV.op (OV.skipU rfl rfl ?_)
                    refine RV.op (OV.skipU rfl rfl ?_)
                    refine RV.op (OV.skipU rfl rfl ?_)
                    refine RV.op (OV.skipU rfl rfl ?_)
                    refine RV.op (OV.skip rfl rfl ?_)
                    refine RV.op (OV.step (gyes rfl) (Step.pick_t rfl rfl) rfl ?_)
                    refine RV.op (OV.step gno (Step.pick_t rfl rfl) rfl ?_)
                    refine RV.op (OV.step gno (Step.move rfl) rfl ?_)
                    refine RV.op (OV.step (gyes rfl) (Step.move rfl) rfl ?_)
                    refine RV.op (OV.step (gyes rfl) (Step.lenSl Try.underlying54 rfl) rfl ?_)
                    refine RV.op (OV.split (gyes rfl) (Step.eql rfl rfl) rfl (fun cc12 => ?_) (fun cc12 => ?_))
                    · -- True
                      refine RV.op (OV.step gno (Step.pick_t rfl rfl) rfl ?_)
                      refine RV.op (OV.step gno (Step.move rfl) rfl ?_)
                      refine RV.op (OV.step (gyes rfl) (Step.move rfl) rfl ?_)
                      refine RV.op (OV.step (gyes rfl) (Step.idx Try.underlying54 I63 (fun w h => h.os 7 rfl) rfl rfl (rfl) _ rfl (by first | omega | (show q < 4; omega) | (show 0 < 1; omega))) rfl ?_)
                      refine RV.op (OV.step (gyes rfl) (Step.fieldAddr rfl (F63_2 _ _)) rfl ?_)
                      refine RV.op (OV.step (gyes rfl) (Step.load Try.underlying4 rfl rfl (fun w h => (h.os 7 rfl).cell (j := 6) (by show 0 < 1; omega) rfl)) rfl ?_)
                      rw [show ([T0].getD 0 trcK.d).live = false from dl]
                      refine RV.op (OV.step (gyes rfl) (Step.not rfl) rfl ?_)
                      refine RV.op (OV.step gno (Step.pick_t rfl rfl) rfl ?_)
                      refine RV.op (OV.step gno (Step.move rfl) rfl ?_)
                      refine RV.op (OV.step (gyes rfl) (Step.move rfl) rfl ?_)
                      refine RV.op (OV.step (gyes rfl) (Step.idx Try.underlying54 I63 (fun w h => h.os 7 rfl) rfl rfl (rfl) _ rfl (by first | omega | (show q < 4; omega) | (show 0 < 1; omega))) rfl ?_)
                      refine RV.op (OV.step (gyes rfl) (Step.fieldAddr rfl (F63_3 _ _)) rfl ?_)
                      refine RV.op (OV.step (gyes rfl) (Step.load Try.underlying4 rfl rfl (fun w h => (h.os 7 rfl).cell (j := 7) (by show 0 < 1; omega) rfl)) rfl ?_)
                      rw [show ([T0].getD 0 trcK.d).failed = false from df]
                      refine RV.op (OV.step (gyes rfl) (Step.not rfl) rfl ?_)
                      refine RV.op (OV.step gno (Step.pick_t rfl rfl) rfl ?_)
                      refine RV.op (OV.step gno (Step.assign rfl) rfl ?_)
                      refine RV.nil ?_
                      refine KV.then_n ?_
                      refine KV.env [(4, _)] ⟨rfl, trivial⟩ ?_
                      refine CV.ret ?_
                      -- return at r34
                      refine KV.sel [] [] rfl ?_
                      exact KV.ret1 rfl rfl _ (fun _ h => h) ⟨rfl, rfl⟩
                    · -- False
                      exact absurd rfl (by assumption)
                  · -- False
                    exact absurd rfl (by assumption)
                · -- False
                  rw [cc10]
                  refine RV.op (OV.skip rfl rfl ?_)
                  refine RV.op (OV.skip rfl rfl ?_)
                  refine RV.op (OV.step (gyes rfl) (Step.pick_f rfl rfl) rfl ?_)
                  refine RV.op (OV.step (gyes rfl) (Step.move rfl) rfl ?_)
                  refine RV.op (OV.step (gyes rfl) (Step.fieldAddr rfl (F37_3 _ _)) rfl ?_)
                  refine RV.op (OV.step (gyes rfl) (Step.load Try.underlying4 rfl rfl (fun w h => h.cell 5 rfl rfl)) rfl ?_)
                  refine RV.op (OV.step (gyes rfl) (Step.not rfl) rfl ?_)
                  refine RV.op (OV.step (gyes rfl) (Step.move rfl) rfl ?_)
                  refine RV.op (OV.step (gyes rfl) (Step.move rfl) rfl ?_)
                  refine RV.op (OV.step (gyes rfl) (Step.fieldAddr rfl (F37_2 _ _)) rfl ?_)
                  refine RV.op (OV.step (gyes rfl) (Step.load Try.underlying3 rfl rfl (fun w h => h.cell 5 rfl rfl)) rfl ?_)
                  refine RV.op (OV.call [] Try.func14 B14 N14 rfl rfl (fun w h => (rones_fn wd.1 wd.2.1).fn w) (fun _ hb => hb.elim) (gyes rfl) rfl (fun v L' hp => ?_))
                  obtain ⟨rfl, rfl⟩ := hp
                  simp only [List.append_nil]
                  refine RV.op (OV.split (gyes rfl) (Step.eql rfl rfl) rfl (fun cc13 => ?_) (fun cc13 => ?_))
                  · -- True
                    refine RV.op (OV.step (gyes rfl) (Step.pick_t rfl rfl) rfl ?_)
                    refine RV.op (OV.step (gyes rfl) (Step.pick_f rfl rfl) rfl ?_)
                    refine RV.op (OV.step gno (Step.pick_t rfl rfl) rfl ?_)
                    refine RV.op (OV.step gno (Step.move rfl) rfl ?_)
                    refine RV.op (OV.step (gyes rfl) (Step.move rfl) rfl ?_)
                    refine RV.op (OV.step (gyes rfl) (Step.lenSl Try.underlying54 rfl) rfl ?_)
                    refine RV.op (OV.split (gyes rfl) (Step.eql rfl rfl) rfl (fun cc14 => ?_) (fun cc14 => ?_))
                    · -- True
                      refine RV.op (OV.step gno (Step.pick_t rfl rfl) rfl ?_)
                      refine RV.op (OV.step gno (Step.move rfl) rfl ?_)
                      refine RV.op (OV.step (gyes rfl) (Step.move rfl) rfl ?_)
                      refine RV.op (OV.step (gyes rfl) (Step.idx Try.underlying54 I63 (fun w h => h.os 7 rfl) rfl rfl (rfl) _ rfl (by first | omega | (show q < 4; omega) | (show 0 < 1; omega))) rfl ?_)
                      refine RV.op (OV.step (gyes rfl) (Step.fieldAddr rfl (F63_2 _ _)) rfl ?_)
                      refine RV.op (OV.step (gyes rfl) (Step.load Try.underlying4 rfl rfl (fun w h => (h.os 7 rfl).cell (j := 6) (by show 0 < 1; omega) rfl)) rfl ?_)
                      rw [show ([T0].getD 0 trcK.d).live = false from dl]
                      refine RV.op (OV.step (gyes rfl) (Step.not rfl) rfl ?_)
                      refine RV.op (OV.step gno (Step.pick_t rfl rfl) rfl ?_)
                      refine RV.op (OV.step gno (Step.move rfl) rfl ?_)
                      refine RV.op (OV.step (gyes rfl) (Step.move rfl) rfl ?_)
                      refine RV.op (OV.step (gyes rfl) (Step.idx Try.underlying54 I63 (fun w h => h.os 7 rfl) rfl rfl (rfl) _ rfl (by first | omega | (show q < 4; omega) | (show 0 < 1; omega))) rfl ?_)
                      refine RV.op (OV.step (gyes rfl) (Step.fieldAddr rfl (F63_3 _ _)) rfl ?_)
                      refine RV.op (OV.step (gyes rfl) (Step.load Try.underlying4 rfl rfl (fun w h => (h.os 7 rfl).cell (j := 7) (by show 0 < 1; omega) rfl)) rfl ?_)
                      rw [show ([T0].getD 0 trcK.d).failed = false from df]
                      refine RV.op (OV.step (gyes rfl) (Step.not rfl) rfl ?_)
                      refine RV.op (OV.step gno (Step.pick_t rfl rfl) rfl ?_)
                      refine RV.op (OV.step gno (Step.assign rfl) rfl ?_)
                      refine RV.nil ?_
                      refine KV.then_n ?_
                      refine KV.env [(4, _)] ⟨rfl, trivial⟩ ?_
                      refine CV.ret ?_
                      -- return at r34
                      refine KV.sel [] [] rfl ?_
                      exact KV.ret1 rfl rfl _ (fun _ h => h) ⟨rfl, rfl⟩
                    · -- False
                      exact absurd rfl (by assumption)
                  · -- False
                    exact absurd rfl (by assumption)
              · -- False
                exact absurd rfl (by assumption)
end Go.Proofs.Ythdpojggdodpfaa
