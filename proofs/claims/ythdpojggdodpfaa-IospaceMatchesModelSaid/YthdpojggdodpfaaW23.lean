/-
  Walks, part 23.
-/
import Derived.Test.YthdpojggdodpfaaTabs
import Derived.Test.YthdpojggdodpfaaW22
set_option linter.unusedSimpArgs false
set_option linter.unusedVariables false
namespace Go.Proofs.Ythdpojggdodpfaa
open Go.Sv Go.Ios
theorem Bd56z (w : World) : (Instr.build 56 [].toArray).run Try.prog w = .ok (.agg (rbC rb0).toArray) w := by kernel_rfl
set_option maxRecDepth 100000 in
set_option maxHeartbeats 4000000 in
theorem matches_fn {B : Option Addr} {m d : Nat} {l : List Ios.Op} {w : World} (hb : RS w opK B l) (hm : m = l.length) (hy : ∀ i, okO (l.getD i opK.d)) : Fx Try.prog 6 [.slice B m d] w [] no (fun v L => v = .bool true ∧ L = []) := by
  subst hm
  refine Sv.Fx.body Try.func6 rfl T6 rfl ?_
  intro I hro hI
  refine KV.env [(0, _)] ⟨rfl, trivial⟩ ?_
  refine CV.seq ?_
  -- region 0 law.go:90
  refine CV.region ?_
  refine RV.op (OV.step gno (Step.assign rfl) rfl ?_)
  refine RV.nil ?_
  refine KV.then_n ?_
  refine KV.env [(0, _)] ⟨rfl, trivial⟩ ?_
  refine CV.seq ?_
  -- region 1 law.go:91
  refine CV.region ?_
  refine RV.op (OV.call [] (F := []) Try.func8 B8 N8 rfl rfl (fun w h => new_fn) (fun _ hb => hb.elim) gno rfl (fun v L' hp => ?_))
  obtain ⟨b, rfl, rfl⟩ := hp
  refine RV.op (OV.step gno (Step.build rfl Bd56z) rfl ?_)
  refine RV.op (OV.box (t := 56) (rbC rb0).toArray rfl rfl gno rfl (fun c => ?_))
  refine KV.heap (fun w h => (((h.nilOS (e := 94) (K := rhK)).newBig 0 rhK.d (F := rhA) OS.emp).nilOS (e := 97) (K := fltK)).nilOS (e := 63) (K := trcK)) ?_
  refine RV.op (OV.step gno (Step.build rfl (Bd58_0_1 _ _)) rfl ?_)
  refine RV.op (OV.alloc #[.pointer none, .pointer none] I58 rfl gno rfl (fun bp => ?_))
  refine RV.op (OV.store 9 [_, _] #[_, _] I58 rfl rfl rfl rfl rfl (Nat.le_of_ble_eq_true rfl) (by simp [Value.oneCell']) rfl gno ?_)
  refine RV.nil ?_
  refine KV.then_n ?_
  refine KV.env [(0, _), (3, _)] ⟨rfl, rfl, trivial⟩ ?_
  refine CV.seq ?_
  refine CV.seq ?_
  -- region 2 law.go:92
  refine CV.region ?_
  refine RV.op (OV.call [] (F := [_, _, _, _, _, _, _, _, _, _]) Try.func9 B9 N9 rfl rfl (fun w h => awake_fn) (fun _ hb => hb.elim) gno rfl (fun v L' hp => ?_))
  obtain ⟨rfl, rfl⟩ := hp
  simp only [List.append_nil]
  refine RV.op (OV.step gno (Step.not rfl) rfl ?_)
  refine RV.nil ?_
  refine KV.then_n ?_
  refine KV.env [(0, _), (3, _), (10, _)] ⟨rfl, rfl, rfl, trivial⟩ ?_
  refine CV.cond_f rfl ?_
  refine CV.skip ?_
  refine KV.then_n ?_
  refine KV.env [(0, _), (3, _)] ⟨rfl, rfl, trivial⟩ ?_
  refine CV.seq ?_
  refine CV.seq ?_
  -- region 4 law.go:95
  refine CV.region ?_
  refine RV.op (OV.step gno (Step.assign rfl) rfl ?_)
  refine RV.nil ?_
  refine KV.then_n ?_
  refine KV.env [(0, _), (3, _), (4, _)] ⟨rfl, rfl, rfl, trivial⟩ ?_
  refine CV.block ?_
  -- loop L5; live [0, 3, 4]
  refine KV.sel [0, 0, 0, 0, 0, 0, 0, 0, 0, 0] [_, _, _, _, _, _, _, _, _, _] rfl ?_
  refine CV.loop3 (fun (j : Nat) (s : BS) (r : RB) => (j ≤ l.length ∧ j ≤ 90) ∧ Rel s r j) (fun (j : Nat) (s : BS) (r : RB) => 90 - j) (fun (j : Nat) (s : BS) (r : RB) => [(0, .slice B l.length d), (3, .pointer (some ⟨bp, 0, none⟩)), (4, .int .i64 j)]) (fun (j : Nat) (s : BS) (r : RB) => Hp I w (busL b s ++ (rbL c r ++ [Blk bp (.cells #[.pointer (some ⟨b, 0, none⟩), .pointer (some ⟨c, 0, none⟩)] 58 (0, 0))]))) (0) (bs0) (rb0) ⟨⟨Nat.zero_le _, Nat.zero_le _⟩, Rel.start⟩ ⟨rfl, rfl, rfl, trivial⟩ (fun _ h => h) ?_
  intro j s r hinv
  refine CV.seq ?_
  refine CV.seq ?_
  -- region 5 law.go:95
  refine CV.region ?_
  refine RV.op (OV.step gno (Step.move rfl) rfl ?_)
  refine RV.op (OV.step gno (Step.move rfl) rfl ?_)
  refine RV.op (OV.step gno (Step.lenSl Try.underlying40 rfl) rfl ?_)
  refine RV.op (OV.split gno (Step.lss rfl rfl) rfl (fun hj1 => ?_) (fun hj1 => ?_))
  · -- True
    refine RV.op (OV.step gno (Step.move rfl) rfl ?_)
    refine RV.op (OV.step (gyes rfl) (Step.move rfl) rfl ?_)
    refine RV.op (OV.split (gyes rfl) (Step.lss rfl rfl) rfl (fun hj2 => ?_) (fun hj2 => ?_))
    · -- True
      refine RV.op (OV.step gno (Step.pick_t rfl rfl) rfl ?_)
      refine RV.nil ?_
      refine KV.then_n ?_
      refine KV.env [(0, _), (3, _), (4, _), (18, _)] ⟨rfl, rfl, rfl, rfl, trivial⟩ ?_
      refine CV.cond_t rfl ?_
      refine CV.skip ?_
      refine KV.then_n ?_
      refine KV.env [(0, _), (3, _), (4, _)] ⟨rfl, rfl, rfl, trivial⟩ ?_
      refine CV.seq ?_
      refine CV.block ?_
      refine CV.seq ?_
      -- region 7 law.go:96
      refine CV.any (Hp I w [Blk bp (.cells #[.pointer (some ⟨b, 0, none⟩), .pointer (some ⟨c, 0, none⟩)] 58 (0, 0))]) (by kernel_rfl) (fun _ h => h.drew) 8 rfl ?_
      refine AV.take 0 #[true, false, false, false, false, false, false, false] rfl (by kernel_rfl) (by kernel_rfl) (by kernel_rfl) (fun _ _ _ h => h) gno (Step.loadN _ Try.underlying58 rfl I58 rfl rfl (fun w h => h.cells 0 rfl)) rfl (fun _ h => h.sel [9] rfl) (by kernel_rfl) ?_
      refine AV.take 1 #[true, true, false, false, false, false, false, false] rfl (by kernel_rfl) (by kernel_rfl) (by kernel_rfl) (fun _ _ _ h => h) gno (Step.move rfl) rfl (fun _ h => h.sel [9] rfl) (by kernel_rfl) ?_
      refine AV.take 2 #[true, true, true, false, false, false, false, false] rfl (by kernel_rfl) (by kernel_rfl) (by kernel_rfl) (fun _ _ _ h => h) gno (Step.move rfl) rfl (fun _ h => h.sel [9] rfl) (by kernel_rfl) ?_
      refine AV.take 3 #[true, true, true, true, false, false, false, false] rfl (by kernel_rfl) (by kernel_rfl) (by kernel_rfl) (fun _ _ _ h => h) gno (Step.idx Try.underlying40 I43 (fun w h => h.rs hb (fun _ => hI _)) rfl rfl (rfl) _ rfl (by omega)) rfl (fun _ h => h.sel [9] rfl) (by kernel_rfl) ?_
      refine AV.take 4 #[true, true, true, true, true, false, false, false] rfl (by kernel_rfl) (by kernel_rfl) (by kernel_rfl) (fun _ _ _ h => h) gno (Step.loadN _ Try.underlying43 rfl I43 rfl rfl (fun w h => (h.rs hb (fun _ => hI _)).cells (by omega))) rfl (fun _ h => h.sel [9] rfl) (by kernel_rfl) ?_
      refine AV.all [5] (by kernel_rfl) (by decide) ?_
      refine ⟨⟨_, rfl, ?_⟩, trivial⟩
      · -- 5 comes up
        refine OV.call [] (F := [_, _, _, _, _, _, _, _, _, _]) Try.func19 B19 N19 rfl rfl (fun w h => some_fn (l.getD j opK.d) (hy j)) (fun _ hb => hb.elim) gno rfl (fun v L' hp => ?_)
        obtain ⟨o2, ho2, rfl, rfl⟩ := hp
        simp only [List.append_nil]
        refine AV.next #[true, true, true, true, true, true, false, false] (by kernel_rfl) (fun _ h => h.sel [9] rfl) ?_
        refine AV.all [6] (by kernel_rfl) (by decide) ?_
        refine ⟨⟨_, rfl, ?_⟩, trivial⟩
        · -- 6 comes up
          refine OV.call [0, 0, 0, 0, 0, 0, 0, 0, 0] (F := [_]) Try.func18 B18 N18 rfl rfl (fun w h => apply_fn b c s r j hinv.2 (by omega) o2 ho2) (fun _ hb => hb.elim) gno rfl (fun v L' hp => ?_)
          obtain ⟨rfl, s2, r2, R2, rfl⟩ := hp
          refine AV.next #[true, true, true, true, true, true, true, false] (by kernel_rfl) (fun _ h => h.sel [0] rfl) ?_
          refine AV.take 7 #[true, true, true, true, true, true, true, true] rfl (by kernel_rfl) (by kernel_rfl) (by kernel_rfl) (fun _ _ _ h => h) gno (Step.not rfl) rfl (fun _ h => h.sel [0] rfl) (by kernel_rfl) ?_
          refine AV.done (by kernel_rfl) ?_
          refine KV.then_n ?_
          refine KV.env [(0, _), (3, _), (4, _), (28, _)] ⟨rfl, rfl, rfl, rfl, trivial⟩ ?_
          refine CV.cond_f rfl ?_
          refine CV.skip ?_
          refine KV.block_n ?_
          refine KV.then_n ?_
          refine KV.env [(0, _), (3, _), (4, _)] ⟨rfl, rfl, rfl, trivial⟩ ?_
          -- region 6 law.go:95
          refine CV.region ?_
          refine RV.op (OV.step gno (Step.move rfl) rfl ?_)
          (first | refine RV.op (OV.step gno (Step.add rfl rfl (wI64 (by omega) (by omega))) rfl ?_) | refine RV.op (OV.step gno (Step.add rfl rfl rfl) rfl ?_))
          refine RV.op (OV.step gno (Step.assign rfl) rfl ?_)
          refine RV.nil ?_
          refine KV.then_n ?_
          refine KV.env [(0, _), (3, _), (4, _)] ⟨rfl, rfl, rfl, trivial⟩ ?_
          refine KV.sel [1, 1, 1, 1, 1, 1, 1, 1, 1, 0] [_, _, _, _, _, _, _, _, _, _] rfl ?_
          exact KV.loop3 (x := j) (y := s) (z := r) (j + 1) (s2) (r2) ⟨by omega, R2⟩ (by omega) ⟨rfl, rfl, rfl, trivial⟩ (fun _ h => h)
    · -- False
      refine RV.op (OV.step gno (Step.pick_t rfl rfl) rfl ?_)
      refine RV.nil ?_
      refine KV.then_n ?_
      refine KV.env [(0, _), (3, _), (4, _), (18, _)] ⟨rfl, rfl, rfl, rfl, trivial⟩ ?_
      refine CV.cond_f rfl ?_
      refine CV.exit ?_
      refine KV.then_exit ?_
      refine KV.then_exit ?_
      refine KV.block_hit ?_
      refine KV.then_n ?_
      refine KV.env [(3, _)] ⟨rfl, trivial⟩ ?_
      refine CV.seq ?_
      -- region 9 law.go:100
      refine CV.any (Hp I w [Blk bp (.cells #[.pointer (some ⟨b, 0, none⟩), .pointer (some ⟨c, 0, none⟩)] 58 (0, 0))]) (by kernel_rfl) (fun _ h => h.drew) 8 rfl ?_
      refine AV.take 0 #[true, false, false, false, false, false, false, false] rfl (by kernel_rfl) (by kernel_rfl) (by kernel_rfl) (fun _ _ _ h => h) gno (Step.fieldAddr rfl (F58_0 _ _)) rfl (fun _ h => h.sel [9] rfl) (by kernel_rfl) ?_
      refine AV.take 1 #[true, true, false, false, false, false, false, false] rfl (by kernel_rfl) (by kernel_rfl) (by kernel_rfl) (fun _ _ _ h => h) gno (Step.load Try.underlying24 rfl rfl (fun w h => h.cell 0 rfl rfl)) rfl (fun _ h => h.sel [9] rfl) (by kernel_rfl) ?_
      refine AV.take 3 #[true, true, false, true, false, false, false, false] rfl (by kernel_rfl) (by kernel_rfl) (by kernel_rfl) (fun _ _ _ h => h) gno (Step.fieldAddr rfl (F58_1 _ _)) rfl (fun _ h => h.sel [9] rfl) (by kernel_rfl) ?_
      refine AV.take 4 #[true, true, false, true, true, false, false, false] rfl (by kernel_rfl) (by kernel_rfl) (by kernel_rfl) (fun _ _ _ h => h) gno (Step.load Try.underlying50 rfl rfl (fun w h => h.cell 0 rfl rfl)) rfl (fun _ h => h.sel [9] rfl) (by kernel_rfl) ?_
      refine AV.all [2] (by kernel_rfl) (by decide) ?_
      refine ⟨⟨_, rfl, ?_⟩, trivial⟩
      · -- 2 comes up
        refine OV.call [0, 0, 0, 0] (F := [_, _, _, _, _, _]) Try.func21 B21 N21 rfl rfl (fun w h => takeTrace_fn b s hinv.2.sk) (fun _ hb => hb.elim) gno rfl (fun v L' hp => ?_)
        obtain ⟨rfl, rfl⟩ := hp
        refine AV.next #[true, true, true, true, true, false, false, false] (by kernel_rfl) (fun _ h => h.sel [5] rfl) ?_
        refine AV.all [5] (by kernel_rfl) (by decide) ?_
        refine ⟨⟨_, rfl, ?_⟩, trivial⟩
        · -- 5 comes up
          refine OV.call [0, 0, 0, 0, 0] (F := [_, _, _, _, _, _]) Try.func22 B22 N22 rfl rfl (fun w h => rtake_fn c r hinv.2.rk) (fun _ hb => hb.elim) gno rfl (fun v L' hp => ?_)
          obtain ⟨rfl, rfl⟩ := hp
          rw [← hinv.2.tr]
          refine AV.next #[true, true, true, true, true, true, false, false] (by kernel_rfl) (fun _ h => h.sel [0] rfl) ?_
          refine AV.all [6] (by kernel_rfl) (by decide) ?_
          refine ⟨⟨_, rfl, ?_⟩, trivial⟩
          · -- 6 comes up
            refine OV.call [] (F := [_, _, _, _, _, _, _, _, _, _, _, _]) Try.func20 B20 N20 rfl rfl (fun w h => equalT_fn (h.os 5 rfl) (h.os 11 rfl) rfl rfl (by have := hinv.2.sk.tr; omega)) (fun _ hb => hb.elim) gno rfl (fun v L' hp => ?_)
            obtain ⟨rfl, rfl⟩ := hp
            simp only [List.append_nil]
            refine AV.next #[true, true, true, true, true, true, true, false] (by kernel_rfl) (fun _ h => h.sel [0] rfl) ?_
            refine AV.take 7 #[true, true, true, true, true, true, true, true] rfl (by kernel_rfl) (by kernel_rfl) (by kernel_rfl) (fun _ _ _ h => h) gno (Step.assign rfl) rfl (fun _ h => h.sel [0] rfl) (by kernel_rfl) ?_
            refine AV.done (by kernel_rfl) ?_
            refine KV.then_n ?_
            refine KV.env [(2, _)] ⟨rfl, trivial⟩ ?_
            refine CV.ret ?_
            -- return at r9
            refine KV.sel [] [] rfl ?_
            exact KV.ret1 rfl rfl _ (fun _ h => h) ⟨rfl, rfl⟩
  · -- False
    refine RV.op (OV.step gno (Step.move rfl) rfl ?_)
    refine RV.op (OV.skip rfl rfl ?_)
    refine RV.op (OV.skip rfl rfl ?_)
    refine RV.op (OV.step gno (Step.pick_f rfl rfl) rfl ?_)
    refine RV.nil ?_
    refine KV.then_n ?_
    refine KV.env [(0, _), (3, _), (4, _), (18, _)] ⟨rfl, rfl, rfl, rfl, trivial⟩ ?_
    refine CV.cond_f rfl ?_
    refine CV.exit ?_
    refine KV.then_exit ?_
    refine KV.then_exit ?_
    refine KV.block_hit ?_
    refine KV.then_n ?_
    refine KV.env [(3, _)] ⟨rfl, trivial⟩ ?_
    refine CV.seq ?_
    -- region 9 law.go:100
    refine CV.any (Hp I w [Blk bp (.cells #[.pointer (some ⟨b, 0, none⟩), .pointer (some ⟨c, 0, none⟩)] 58 (0, 0))]) (by kernel_rfl) (fun _ h => h.drew) 8 rfl ?_
    refine AV.take 0 #[true, false, false, false, false, false, false, false] rfl (by kernel_rfl) (by kernel_rfl) (by kernel_rfl) (fun _ _ _ h => h) gno (Step.fieldAddr rfl (F58_0 _ _)) rfl (fun _ h => h.sel [9] rfl) (by kernel_rfl) ?_
    refine AV.take 1 #[true, true, false, false, false, false, false, false] rfl (by kernel_rfl) (by kernel_rfl) (by kernel_rfl) (fun _ _ _ h => h) gno (Step.load Try.underlying24 rfl rfl (fun w h => h.cell 0 rfl rfl)) rfl (fun _ h => h.sel [9] rfl) (by kernel_rfl) ?_
    refine AV.take 3 #[true, true, false, true, false, false, false, false] rfl (by kernel_rfl) (by kernel_rfl) (by kernel_rfl) (fun _ _ _ h => h) gno (Step.fieldAddr rfl (F58_1 _ _)) rfl (fun _ h => h.sel [9] rfl) (by kernel_rfl) ?_
    refine AV.take 4 #[true, true, false, true, true, false, false, false] rfl (by kernel_rfl) (by kernel_rfl) (by kernel_rfl) (fun _ _ _ h => h) gno (Step.load Try.underlying50 rfl rfl (fun w h => h.cell 0 rfl rfl)) rfl (fun _ h => h.sel [9] rfl) (by kernel_rfl) ?_
    refine AV.all [2] (by kernel_rfl) (by decide) ?_
    refine ⟨⟨_, rfl, ?_⟩, trivial⟩
    · -- 2 comes up
      refine OV.call [0, 0, 0, 0] (F := [_, _, _, _, _, _]) Try.func21 B21 N21 rfl rfl (fun w h => takeTrace_fn b s hinv.2.sk) (fun _ hb => hb.elim) gno rfl (fun v L' hp => ?_)
      obtain ⟨rfl, rfl⟩ := hp
      refine AV.next #[true, true, true, true, true, false, false, false] (by kernel_rfl) (fun _ h => h.sel [5] rfl) ?_
      refine AV.all [5] (by kernel_rfl) (by decide) ?_
      refine ⟨⟨_, rfl, ?_⟩, trivial⟩
      · -- 5 comes up
        refine OV.call [0, 0, 0, 0, 0] (F := [_, _, _, _, _, _]) Try.func22 B22 N22 rfl rfl (fun w h => rtake_fn c r hinv.2.rk) (fun _ hb => hb.elim) gno rfl (fun v L' hp => ?_)
        obtain ⟨rfl, rfl⟩ := hp
        rw [← hinv.2.tr]
        refine AV.next #[true, true, true, true, true, true, false, false] (by kernel_rfl) (fun _ h => h.sel [0] rfl) ?_
        refine AV.all [6] (by kernel_rfl) (by decide) ?_
        refine ⟨⟨_, rfl, ?_⟩, trivial⟩
        · -- 6 comes up
          refine OV.call [] (F := [_, _, _, _, _, _, _, _, _, _, _, _]) Try.func20 B20 N20 rfl rfl (fun w h => equalT_fn (h.os 5 rfl) (h.os 11 rfl) rfl rfl (by have := hinv.2.sk.tr; omega)) (fun _ hb => hb.elim) gno rfl (fun v L' hp => ?_)
          obtain ⟨rfl, rfl⟩ := hp
          simp only [List.append_nil]
          refine AV.next #[true, true, true, true, true, true, true, false] (by kernel_rfl) (fun _ h => h.sel [0] rfl) ?_
          refine AV.take 7 #[true, true, true, true, true, true, true, true] rfl (by kernel_rfl) (by kernel_rfl) (by kernel_rfl) (fun _ _ _ h => h) gno (Step.assign rfl) rfl (fun _ h => h.sel [0] rfl) (by kernel_rfl) ?_
          refine AV.done (by kernel_rfl) ?_
          refine KV.then_n ?_
          refine KV.env [(2, _)] ⟨rfl, trivial⟩ ?_
          refine CV.ret ?_
          -- return at r9
          refine KV.sel [] [] rfl ?_
          exact KV.ret1 rfl rfl _ (fun _ h => h) ⟨rfl, rfl⟩
end Go.Proofs.Ythdpojggdodpfaa
