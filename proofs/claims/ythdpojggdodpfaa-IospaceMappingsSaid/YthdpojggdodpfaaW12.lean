/-
  Walks, part 12.
-/
import Derived.Test.YthdpojggdodpfaaTab12
import Derived.Test.YthdpojggdodpfaaW9
import Derived.Test.YthdpojggdodpfaaPl4
set_option linter.unusedSimpArgs false
set_option linter.unusedVariables false
namespace Go.Proofs.Ythdpojggdodpfaa
open Go.Sv Go.Ios
theorem mapM_fn (b : Nat) (s : BS) (ow : List Int) (j p n : Nat) {w : World} (F : MI s ow j) (hp : p < 100) (hn : n < 28) (hj : j < 30) :
    Fx Try.prog 11 [.pointer (some ⟨b, 0, none⟩), .int .i64 1, .agg #[.int .u64 (p : Int), .int .u64 (n : Int)], .int .i64 j] w (busL b s) no (fun r L => ∃ E s2, r = .int .i64 E ∧ L = busL b s2 ∧ (E = 0 ↔ frB ow p n n = true) ∧ (frB ow p n n = true → MI s2 (setR ow p (j + 1) n) (j + 1)) ∧ (frB ow p n n = false → MI s2 ow (j + 1))) :=
  (map_fn b s F.ok 1 p n j (by unfold isU; omega)).mono fun v L h => by
    by_cases h0 : n = 0
    · obtain ⟨h1, h2⟩ := h.1 (fun k => by have := k.2.1; unfold okR at this; omega)
      have hf : frB ow p n n = false := decide_eq_false fun k => by have := k.1; omega
      exact ⟨1, s, h1, h2, ⟨fun k => (by cases k), fun k => (by rw [hf] at k; cases k)⟩, fun k => (by rw [hf] at k; cases k), fun _ => F.up⟩
    · have hr : okR (p : Int) (n : Int) := by unfold okR; omega
      obtain ⟨h1, h2⟩ := h.2 1 rfl ⟨⟨by omega, by omega⟩, hr, by omega, by omega⟩
      have hfree := F.free (p := p) (n := n) (by omega) (by omega)
      by_cases hb : busy (s.sp 1).hs p n
      · have hf := hfree.1 hb
        obtain ⟨h3, h4⟩ := h1 hb
        exact ⟨17, s, h3, h4, ⟨fun k => (by cases k), fun k => (by rw [hf] at k; cases k)⟩, fun k => (by rw [hf] at k; cases k), fun _ => F.up⟩
      · have ht := F.tot
        obtain ⟨h3, bp, A, c, h4⟩ := (h2 hb).2 (by omega)
        have hf : frB ow p n n = true := by
          cases hh : frB ow p n n with
          | true => rfl
          | false => exact absurd (hfree.2 hh) hb
        exact ⟨0, _, h3, h4, ⟨fun _ => hf, fun _ => rfl⟩, fun _ => F.put (by omega) (by omega) hn hb hj, fun k => (by rw [hf] at k; cases k)⟩

theorem MI.wr {s : BS} {ow : List Int} {j : Nat} (F : MI s ow j) {k : Nat} (hk : k < 128) : IntKind.i64.wrap (ow.getD k 0 - 1) = ow.getD k 0 - 1 := by
  have h1 := F.own k hk
  rcases ownH_cases (F.ok.sp 1 (by decide)) k with ⟨e, _⟩ | ⟨i, hi, _, _, e⟩
  · rw [← h1, e]; rfl
  · have h2 := ((F.ok.sp 1 (by decide)).each i hi).o1
    have h3 := ((F.ok.sp 1 (by decide)).each i hi).o2
    rw [← h1, e]
    exact wI64 (by omega) (by omega)

set_option maxRecDepth 100000 in
set_option maxHeartbeats 8000000 in
theorem mappings_fn {B : Option Addr} {m d : Nat} {l : List Ios.Op} {w : World} (hb : RS w opK B l) (hm : m = l.length) (hy : ∀ i, okO (l.getD i opK.d)) : Fx Try.prog 4 [.slice B m d] w [] no (fun v L => v = .bool true ∧ L = []) := by
  subst hm
  refine Sv.Fx.body Try.func4 rfl T4 rfl ?_
  intro I hro hI
  refine KV.env [(0, _)] ⟨rfl, trivial⟩ ?_
  refine CV.seq ?_
  -- region 0 law.go:193
  refine CV.region ?_
  refine RV.op (OV.step gno (Step.assign rfl) rfl ?_)
  refine RV.nil ?_
  refine KV.then_n ?_
  refine KV.env [(0, _)] ⟨rfl, trivial⟩ ?_
  refine CV.seq ?_
  -- region 1 law.go:194
  refine CV.region ?_
  refine RV.op (OV.call [] (F := []) Try.func8 B8 N8 rfl rfl (fun w h => new_fn) (fun _ hb => hb.elim) gno rfl (fun v L' hp => ?_))
  obtain ⟨b, rfl, rfl⟩ := hp
  refine RV.op (OV.step gno (Step.assign rfl) rfl ?_)
  refine RV.nil ?_
  refine KV.then_n ?_
  refine KV.env [(0, _), (3, _)] ⟨rfl, rfl, trivial⟩ ?_
  refine CV.seq ?_
  refine CV.seq ?_
  -- region 2 law.go:195
  refine CV.region ?_
  refine RV.op (OV.call [] (F := [_, _, _, _]) Try.func9 B9 N9 rfl rfl (fun w h => awake_fn) (fun _ hb => hb.elim) gno rfl (fun v L' hp => ?_))
  obtain ⟨rfl, rfl⟩ := hp
  simp only [List.append_nil]
  refine RV.op (OV.step gno (Step.not rfl) rfl ?_)
  refine RV.nil ?_
  refine KV.then_n ?_
  refine KV.env [(0, _), (3, _), (16, _)] ⟨rfl, rfl, rfl, trivial⟩ ?_
  refine CV.cond_f rfl ?_
  refine CV.skip ?_
  refine KV.then_n ?_
  refine KV.env [(0, _), (3, _)] ⟨rfl, rfl, trivial⟩ ?_
  refine CV.seq ?_
  -- region 4 law.go:198
  refine CV.region ?_
  refine RV.op (OV.alloc #[.int .i64 0, .int .i64 0, .int .i64 0, .int .i64 0, .int .i64 0, .int .i64 0, .int .i64 0, .int .i64 0, .int .i64 0, .int .i64 0, .int .i64 0, .int .i64 0, .int .i64 0, .int .i64 0, .int .i64 0, .int .i64 0, .int .i64 0, .int .i64 0, .int .i64 0, .int .i64 0, .int .i64 0, .int .i64 0, .int .i64 0, .int .i64 0, .int .i64 0, .int .i64 0, .int .i64 0, .int .i64 0, .int .i64 0, .int .i64 0, .int .i64 0, .int .i64 0, .int .i64 0, .int .i64 0, .int .i64 0, .int .i64 0, .int .i64 0, .int .i64 0, .int .i64 0, .int .i64 0, .int .i64 0, .int .i64 0, .int .i64 0, .int .i64 0, .int .i64 0, .int .i64 0, .int .i64 0, .int .i64 0, .int .i64 0, .int .i64 0, .int .i64 0, .int .i64 0, .int .i64 0, .int .i64 0, .int .i64 0, .int .i64 0, .int .i64 0, .int .i64 0, .int .i64 0, .int .i64 0, .int .i64 0, .int .i64 0, .int .i64 0, .int .i64 0, .int .i64 0, .int .i64 0, .int .i64 0, .int .i64 0, .int .i64 0, .int .i64 0, .int .i64 0, .int .i64 0, .int .i64 0, .int .i64 0, .int .i64 0, .int .i64 0, .int .i64 0, .int .i64 0, .int .i64 0, .int .i64 0, .int .i64 0, .int .i64 0, .int .i64 0, .int .i64 0, .int .i64 0, .int .i64 0, .int .i64 0, .int .i64 0, .int .i64 0, .int .i64 0, .int .i64 0, .int .i64 0, .int .i64 0, .int .i64 0, .int .i64 0, .int .i64 0, .int .i64 0, .int .i64 0, .int .i64 0, .int .i64 0, .int .i64 0, .int .i64 0, .int .i64 0, .int .i64 0, .int .i64 0, .int .i64 0, .int .i64 0, .int .i64 0, .int .i64 0, .int .i64 0, .int .i64 0, .int .i64 0, .int .i64 0, .int .i64 0, .int .i64 0, .int .i64 0, .int .i64 0, .int .i64 0, .int .i64 0, .int .i64 0, .int .i64 0, .int .i64 0, .int .i64 0, .int .i64 0, .int .i64 0, .int .i64 0, .int .i64 0, .int .i64 0] I41 rfl gno rfl (fun ob => ?_))
  refine KV.heap (fun w h => h.last fun J hJ => OS.ofBlk (K := intK .i64) (ys := List.replicate 128 0) (c := 128) hJ (by rw [List.length_replicate]; omega) (by unfold maxLen; omega) rfl rfl) ?_
  refine RV.nil ?_
  refine KV.then_n ?_
  refine KV.env [(0, _), (3, _), (4, _)] ⟨rfl, rfl, rfl, trivial⟩ ?_
  refine CV.seq ?_
  refine CV.seq ?_
  -- region 5 law.go:199
  refine CV.region ?_
  refine RV.op (OV.step gno (Step.assign rfl) rfl ?_)
  refine RV.nil ?_
  refine KV.then_n ?_
  refine KV.env [(0, _), (3, _), (4, _), (5, _)] ⟨rfl, rfl, rfl, rfl, trivial⟩ ?_
  refine CV.block ?_
  -- loop L6; live [0, 3, 4, 5]
  refine KV.sel [0, 0, 0, 0, 0] [_, _, _, _, _] rfl ?_
  refine CV.loop2 (fun (j : Nat) (z : MZ) => (j ≤ l.length ∧ j ≤ 30) ∧ MI z.s z.ow j) (fun (j : Nat) (z : MZ) => 30 - j) (fun (j : Nat) (z : MZ) => [(0, .slice B l.length d), (3, .pointer (some ⟨b, 0, none⟩)), (4, .pointer (some ⟨ob, 0, none⟩)), (5, .int .i64 j)]) (fun (j : Nat) (z : MZ) => Hp I w (busL b z.s ++ [OS 41 (intK .i64) (some ⟨ob, 0, none⟩) 128 z.ow])) (0) (⟨bs0, List.replicate 128 0⟩) ⟨⟨Nat.zero_le _, Nat.zero_le _⟩, MI.start⟩ ⟨rfl, rfl, rfl, rfl, trivial⟩ (fun _ h => h) ?_
  intro j z hinv
  refine CV.seq ?_
  refine CV.seq ?_
  -- region 6 law.go:199
  refine CV.region ?_
  refine RV.op (OV.step gno (Step.move rfl) rfl ?_)
  refine RV.op (OV.step gno (Step.move rfl) rfl ?_)
  refine RV.op (OV.step gno (Step.lenSl Try.underlying40 rfl) rfl ?_)
  refine RV.op (OV.split gno (Step.lss rfl rfl) rfl (fun hj1 => ?_) (fun hj1 => ?_))
  · -- True
    refine RV.op (OV.step gno (Step.move rfl) rfl ?_)
    refine RV.op (OV.step (gyes rfl) (Step.move rfl) rfl ?_)
    refine RV.op (OV.split (gyes rfl) (Step.lss rfl rfl) rfl (fun hj2 => ?_) (fun hj2 => ?_))
    · -- True
      refine RV.op (OV.step gno (Step.pick_t rfl rfl) rfl ?_)
      refine RV.nil ?_
      refine KV.then_n ?_
      refine KV.env [(0, _), (3, _), (4, _), (5, _), (24, _)] ⟨rfl, rfl, rfl, rfl, rfl, trivial⟩ ?_
      refine CV.cond_t rfl ?_
      refine CV.skip ?_
      refine KV.then_n ?_
      refine KV.env [(0, _), (3, _), (4, _), (5, _)] ⟨rfl, rfl, rfl, rfl, trivial⟩ ?_
      refine CV.seq ?_
      refine CV.block ?_
      refine CV.seq ?_
      -- region 8 law.go:200
      refine CV.region ?_
      refine RV.op (OV.step gno (Step.move rfl) rfl ?_)
      refine RV.op (OV.step gno (Step.move rfl) rfl ?_)
      refine RV.op (OV.step gno (Step.idx Try.underlying40 I43 (fun w h => h.rs hb (fun _ => hI _)) rfl rfl (rfl) _ rfl (by omega)) rfl ?_)
      refine RV.op (OV.step gno (Step.loadN _ Try.underlying43 rfl I43 rfl rfl (fun w h => (h.rs hb (fun _ => hI _)).cells (by omega))) rfl ?_)
      refine RV.op (OV.alloc #[.int .i64 0, .int .i64 0, .int .u64 0, .int .u64 0, .int .i64 0, .int .i64 0, .bool false, .int .u64 0, .bool false] I43 rfl gno rfl (fun b8_4 => ?_))
      refine RV.op (OV.store 5 [_, _, _, _, _, _, _, _, _] #[_, _, _, _, _, _, _, _, _] I43 rfl rfl rfl rfl rfl (Nat.le_of_ble_eq_true rfl) (by simp [Value.oneCell']) rfl gno ?_)
      refine RV.nil ?_
      refine KV.then_n ?_
      refine KV.env [(0, _), (3, _), (4, _), (5, _), (6, _)] ⟨rfl, rfl, rfl, rfl, rfl, trivial⟩ ?_
      refine CV.seq ?_
      -- region 9 law.go:201
      refine CV.still (by kernel_rfl) (by kernel_rfl) (fun _ h => h.drew) ?_
      refine SV.step gno (Step.fieldAddr rfl (F43_2 _ _)) rfl ?_
      refine SV.step gno (Step.load Try.underlying22 rfl rfl (fun w h => h.cell 5 rfl rfl)) rfl ?_
      refine SV.step gno (Step.rem rfl rfl (by omega) (rfl)) rfl ?_
      obtain ⟨p, hp1, hp2⟩ : ∃ p : Nat, (l.getD j opK.d).addr.tmod 100 = p ∧ p < 100 := ⟨((l.getD j opK.d).addr % 100).toNat, by rw [Int.tmod_eq_emod_of_nonneg (hy j).1.1]; omega, by omega⟩
      rw [hp1]
      refine SV.step gno (Step.fieldAddr rfl (F43_3 _ _)) rfl ?_
      refine SV.step gno (Step.load Try.underlying22 rfl rfl (fun w h => h.cell 5 rfl rfl)) rfl ?_
      refine SV.step gno (Step.rem rfl rfl (by omega) (rfl)) rfl ?_
      obtain ⟨n, hn1, hn2⟩ : ∃ n : Nat, (l.getD j opK.d).len.tmod 28 = n ∧ n < 28 := ⟨((l.getD j opK.d).len % 28).toNat, by rw [Int.tmod_eq_emod_of_nonneg (hy j).2.1.1]; omega, by omega⟩
      rw [hn1]
      refine SV.step gno (Step.assign rfl) rfl ?_
      refine SV.step gno (Step.assign rfl) rfl ?_
      refine SV.nil ?_
      refine KV.then_n ?_
      refine KV.env [(0, _), (3, _), (4, _), (5, _), (7, _), (8, _)] ⟨rfl, rfl, rfl, rfl, rfl, rfl, trivial⟩ ?_
      refine CV.seq ?_
      -- region 10 law.go:202
      refine KV.sel [0, 0, 0, 0, 0] [_, _, _, _, _] rfl ?_
      refine CV.region ?_
      refine RV.op (OV.step gno (Step.move rfl) rfl ?_)
      refine RV.op (OV.step gno (Step.gtr rfl rfl) rfl ?_)
      refine RV.op (OV.step gno (Step.assign rfl) rfl ?_)
      refine RV.nil ?_
      refine KV.then_n ?_
      refine KV.env [(0, _), (3, _), (4, _), (5, _), (7, _), (8, _), (9, _)] ⟨rfl, rfl, rfl, rfl, rfl, rfl, rfl, trivial⟩ ?_
      refine CV.seq ?_
      refine CV.seq ?_
      -- region 11 law.go:203
      refine CV.region ?_
      refine RV.op (OV.step gno (Step.move rfl) rfl ?_)
      refine RV.op (OV.step gno (Step.assign rfl) rfl ?_)
      refine RV.nil ?_
      refine KV.then_n ?_
      refine KV.env [(0, _), (3, _), (4, _), (5, _), (7, _), (8, _), (9, _), (10, _)] ⟨rfl, rfl, rfl, rfl, rfl, rfl, rfl, rfl, trivial⟩ ?_
      refine CV.block ?_
      -- loop L12; live [0, 3, 4, 5, 7, 8, 9, 10]
      refine KV.sel [0, 0, 0, 0, 0] [_, _, _, _, _] rfl ?_
      refine CV.loopI (fun (c : Nat) => c ≤ n) (fun (c : Nat) => n - c) (fun (c : Nat) => [(0, .slice B l.length d), (3, .pointer (some ⟨b, 0, none⟩)), (4, .pointer (some ⟨ob, 0, none⟩)), (5, .int .i64 j), (7, .int .u64 p), (8, .int .u64 n), (9, .bool (frB z.ow p n c)), (10, .int .u64 ((p : Int) + (c : Int)))]) (fun (c : Nat) => Hp I w (busL b z.s ++ [OS 41 (intK .i64) (some ⟨ob, 0, none⟩) 128 z.ow])) (0) (Nat.zero_le _) ⟨rfl, rfl, rfl, rfl, rfl, rfl, congrArg (fun x => some (Value.bool x)) ((decide_eq_decide.2 (by omega)).trans (frB_zero _ _ _).symm), (show some (Value.int .u64 (p : Int)) = some (Value.int .u64 ((p : Int) + ((0 : Nat) : Int))) by rw [Int.natCast_zero, Int.add_zero]), trivial⟩ (fun _ h => h) ?_
      intro c hc0
      refine CV.seq ?_
      refine CV.seq ?_
      -- region 12 law.go:203
      refine CV.region ?_
      refine RV.op (OV.step gno (Step.move rfl) rfl ?_)
      refine RV.op (OV.step gno (Step.move rfl) rfl ?_)
      refine RV.op (OV.step gno (Step.move rfl) rfl ?_)
      (first | refine RV.op (OV.step gno (Step.add rfl rfl (wU64 (by omega) (by omega))) rfl ?_) | refine RV.op (OV.step gno (Step.add rfl rfl rfl) rfl ?_))
      refine RV.op (OV.split gno (Step.lss rfl rfl) rfl (fun hc => ?_) (fun hc => ?_))
      · -- True
        refine RV.nil ?_
        refine KV.then_n ?_
        refine KV.env [(0, _), (3, _), (4, _), (5, _), (7, _), (8, _), (9, _), (10, _), (44, _)] ⟨rfl, rfl, rfl, rfl, rfl, rfl, rfl, rfl, rfl, trivial⟩ ?_
        refine CV.cond_t rfl ?_
        refine CV.skip ?_
        refine KV.then_n ?_
        refine KV.env [(0, _), (3, _), (4, _), (5, _), (7, _), (8, _), (9, _), (10, _)] ⟨rfl, rfl, rfl, rfl, rfl, rfl, rfl, rfl, trivial⟩ ?_
        refine CV.seq ?_
        refine CV.block ?_
        -- region 14 law.go:204
        refine CV.region ?_
        refine RV.op (OV.step gno (Step.move rfl) rfl ?_)
        refine RV.op (OV.step gno (Step.move rfl) rfl ?_)
        refine KV.cases 48 rfl (fun cc1 => ?_) (fun cc1 => ?_)
        · -- True
          have hfb := cc1
          refine RV.op (OV.step (gyes rfl) (Step.move rfl) rfl ?_)
          refine RV.op (OV.step (gyes rfl) (Step.idxArr Try.underlying41 I3 rfl rfl _ (show (p : Int) + (c : Int) = ((p + c : Nat) : Int) by omega) (by omega)) rfl ?_)
          refine RV.op (OV.step (gyes rfl) (Step.load Try.underlying3 rfl rfl (fun w h => (h.os 4 rfl).cell0 (by rw [hinv.2.len]; omega) rfl)) rfl ?_)
          refine RV.op (OV.split (gyes rfl) (Step.eql rfl rfl) rfl (fun g14 => ?_) (fun g14 => ?_))
          · -- True
            refine RV.op (OV.step gno (Step.pick_t rfl rfl) rfl ?_)
            refine RV.op (OV.step gno (Step.assign rfl) rfl ?_)
            refine RV.nil ?_
            refine KV.block_n ?_
            refine KV.then_n ?_
            refine KV.env [(0, _), (3, _), (4, _), (5, _), (7, _), (8, _), (9, _), (10, _)] ⟨rfl, rfl, rfl, rfl, rfl, rfl, rfl, rfl, trivial⟩ ?_
            -- region 13 law.go:203
            refine CV.region ?_
            refine RV.op (OV.step gno (Step.move rfl) rfl ?_)
            (first | refine RV.op (OV.step gno (Step.add rfl rfl (wU64 (by omega) (by omega))) rfl ?_) | refine RV.op (OV.step gno (Step.add rfl rfl rfl) rfl ?_))
            refine RV.op (OV.step gno (Step.assign rfl) rfl ?_)
            refine RV.nil ?_
            refine KV.then_n ?_
            refine KV.env [(0, _), (3, _), (4, _), (5, _), (7, _), (8, _), (9, _), (10, _)] ⟨rfl, rfl, rfl, rfl, rfl, rfl, rfl, rfl, trivial⟩ ?_
            refine KV.sel [0, 0, 0, 0, 0] [_, _, _, _, _] rfl ?_
            exact KV.loopI (z := c) (c + 1) (by omega) (by omega) ⟨rfl, rfl, rfl, rfl, rfl, rfl, (by first | exact congrArg (fun x => some (Value.bool x)) (frB_t hfb g14) | exact congrArg (fun x => some (Value.bool x)) (frB_f2 g14) | exact congrArg (fun x => some (Value.bool x)) (frB_f1 hfb)), (show some (Value.int .u64 _) = some (Value.int .u64 _) by first | rfl | (congr 2; omega) | congr 2), trivial⟩ (fun _ h => h)
          · -- False
            refine RV.op (OV.step gno (Step.pick_t rfl rfl) rfl ?_)
            refine RV.op (OV.step gno (Step.assign rfl) rfl ?_)
            refine RV.nil ?_
            refine KV.block_n ?_
            refine KV.then_n ?_
            refine KV.env [(0, _), (3, _), (4, _), (5, _), (7, _), (8, _), (9, _), (10, _)] ⟨rfl, rfl, rfl, rfl, rfl, rfl, rfl, rfl, trivial⟩ ?_
            -- region 13 law.go:203
            refine CV.region ?_
            refine RV.op (OV.step gno (Step.move rfl) rfl ?_)
            (first | refine RV.op (OV.step gno (Step.add rfl rfl (wU64 (by omega) (by omega))) rfl ?_) | refine RV.op (OV.step gno (Step.add rfl rfl rfl) rfl ?_))
            refine RV.op (OV.step gno (Step.assign rfl) rfl ?_)
            refine RV.nil ?_
            refine KV.then_n ?_
            refine KV.env [(0, _), (3, _), (4, _), (5, _), (7, _), (8, _), (9, _), (10, _)] ⟨rfl, rfl, rfl, rfl, rfl, rfl, rfl, rfl, trivial⟩ ?_
            refine KV.sel [0, 0, 0, 0, 0] [_, _, _, _, _] rfl ?_
            exact KV.loopI (z := c) (c + 1) (by omega) (by omega) ⟨rfl, rfl, rfl, rfl, rfl, rfl, (by first | exact congrArg (fun x => some (Value.bool x)) (frB_t hfb g14) | exact congrArg (fun x => some (Value.bool x)) (frB_f2 g14) | exact congrArg (fun x => some (Value.bool x)) (frB_f1 hfb)), (show some (Value.int .u64 _) = some (Value.int .u64 _) by first | rfl | (congr 2; omega) | congr 2), trivial⟩ (fun _ h => h)
        · -- False
          have hfb := cc1
          refine RV.op (OV.skip rfl rfl ?_)
          refine RV.op (OV.skip rfl rfl ?_)
          refine RV.op (OV.skip rfl rfl ?_)
          refine RV.op (OV.skip rfl rfl ?_)
          refine RV.op (OV.step gno (Step.pick_f rfl rfl) rfl ?_)
          refine RV.op (OV.step gno (Step.assign rfl) rfl ?_)
          refine RV.nil ?_
          refine KV.block_n ?_
          refine KV.then_n ?_
          refine KV.env [(0, _), (3, _), (4, _), (5, _), (7, _), (8, _), (9, _), (10, _)] ⟨rfl, rfl, rfl, rfl, rfl, rfl, rfl, rfl, trivial⟩ ?_
          -- region 13 law.go:203
          refine CV.region ?_
          refine RV.op (OV.step gno (Step.move rfl) rfl ?_)
          (first | refine RV.op (OV.step gno (Step.add rfl rfl (wU64 (by omega) (by omega))) rfl ?_) | refine RV.op (OV.step gno (Step.add rfl rfl rfl) rfl ?_))
          refine RV.op (OV.step gno (Step.assign rfl) rfl ?_)
          refine RV.nil ?_
          refine KV.then_n ?_
          refine KV.env [(0, _), (3, _), (4, _), (5, _), (7, _), (8, _), (9, _), (10, _)] ⟨rfl, rfl, rfl, rfl, rfl, rfl, rfl, rfl, trivial⟩ ?_
          refine KV.sel [0, 0, 0, 0, 0] [_, _, _, _, _] rfl ?_
          exact KV.loopI (z := c) (c + 1) (by omega) (by omega) ⟨rfl, rfl, rfl, rfl, rfl, rfl, (by first | exact congrArg (fun x => some (Value.bool x)) (frB_t hfb g14) | exact congrArg (fun x => some (Value.bool x)) (frB_f2 g14) | exact congrArg (fun x => some (Value.bool x)) (frB_f1 hfb)), (show some (Value.int .u64 _) = some (Value.int .u64 _) by first | rfl | (congr 2; omega) | congr 2), trivial⟩ (fun _ h => h)
      · -- False
        obtain rfl : n = c := by omega
        refine RV.nil ?_
        refine KV.then_n ?_
        refine KV.env [(0, _), (3, _), (4, _), (5, _), (7, _), (8, _), (9, _), (10, _), (44, _)] ⟨rfl, rfl, rfl, rfl, rfl, rfl, rfl, rfl, rfl, trivial⟩ ?_
        refine CV.cond_f rfl ?_
        refine CV.exit ?_
        refine KV.then_exit ?_
        refine KV.then_exit ?_
        refine KV.block_hit ?_
        refine KV.then_n ?_
        refine KV.env [(0, _), (3, _), (4, _), (5, _), (7, _), (8, _), (9, _)] ⟨rfl, rfl, rfl, rfl, rfl, rfl, rfl, trivial⟩ ?_
        refine CV.seq ?_
        -- region 15 law.go:206
        refine CV.region ?_
        refine RV.op (OV.step gno (Step.move rfl) rfl ?_)
        refine RV.op (OV.step gno (Step.move rfl) rfl ?_)
        refine RV.op (OV.step gno (Step.move rfl) rfl ?_)
        refine RV.op (OV.step gno (Step.build rfl (Bd32_0_1 _ _)) rfl ?_)
        refine RV.op (OV.step gno (Step.move rfl) rfl ?_)
        refine RV.op (OV.call [0, 0, 0, 0] (F := [_]) Try.func11 B11 N11 rfl rfl (fun w h => mapM_fn b z.s z.ow j p n hinv.2 hp2 hn2 (by omega)) (fun _ hb => hb.elim) gno rfl (fun v L' hp => ?_))
        obtain ⟨e, s2, rfl, rfl, hE, hE1, hE0⟩ := hp
        refine RV.op (OV.step gno (Step.assign rfl) rfl ?_)
        refine RV.nil ?_
        refine KV.then_n ?_
        refine KV.env [(0, _), (3, _), (4, _), (5, _), (7, _), (8, _), (9, _), (11, _)] ⟨rfl, rfl, rfl, rfl, rfl, rfl, rfl, rfl, trivial⟩ ?_
        refine CV.seq ?_
        refine CV.seq ?_
        -- region 16 law.go:207
        refine CV.region ?_
        refine RV.op (OV.step gno (Step.move rfl) rfl ?_)
        refine RV.op (OV.split gno (Step.eql rfl rfl) rfl (fun g16 => ?_) (fun g16 => ?_))
        · -- True
          refine RV.op (OV.step gno (Step.move rfl) rfl ?_)
          refine RV.op (OV.split gno (Step.neqBool Try.underlying4 rfl rfl) rfl (fun g17 => ?_) (fun g17 => ?_))
          · -- True
            first | exact absurd (hE.1 g16).symm g17 | exact absurd (by cases hh : frB z.ow p n n with | false => rfl | true => exact absurd (hE.2 hh) g16) g17
          · -- False
            refine RV.nil ?_
            refine KV.then_n ?_
            refine KV.env [(0, _), (3, _), (4, _), (5, _), (7, _), (8, _), (9, _), (63, _)] ⟨rfl, rfl, rfl, rfl, rfl, rfl, rfl, rfl, trivial⟩ ?_
            refine CV.cond_f rfl ?_
            refine CV.skip ?_
            refine KV.then_n ?_
            refine KV.env [(0, _), (3, _), (4, _), (5, _), (7, _), (8, _), (9, _)] ⟨rfl, rfl, rfl, rfl, rfl, rfl, rfl, trivial⟩ ?_
            refine CV.seq ?_
            -- region 18 law.go:210
            refine CV.region ?_
            refine RV.op (OV.step gno (Step.move rfl) rfl ?_)
            refine RV.op (OV.step gno (Step.assign rfl) rfl ?_)
            refine RV.nil ?_
            refine KV.then_n ?_
            refine KV.env [(0, _), (3, _), (4, _), (5, _), (7, _), (8, _), (9, _), (12, _)] ⟨rfl, rfl, rfl, rfl, rfl, rfl, rfl, rfl, trivial⟩ ?_
            refine CV.block ?_
            -- loop L19; live [0, 3, 4, 5, 7, 8, 9, 12]
            refine KV.sel [1, 1, 1, 1, 0] [_, _, _, _, _] rfl ?_
            refine CV.loopI (fun (c : Nat) => c ≤ n ∧ (frB z.ow p n n = false → c = 0)) (fun (c : Nat) => n - c) (fun (c : Nat) => [(0, .slice B l.length d), (3, .pointer (some ⟨b, 0, none⟩)), (4, .pointer (some ⟨ob, 0, none⟩)), (5, .int .i64 j), (7, .int .u64 p), (8, .int .u64 n), (9, .bool (frB z.ow p n n)), (12, .int .u64 ((p : Int) + (c : Int)))]) (fun (c : Nat) => Hp I w (busL b s2 ++ [OS 41 (intK .i64) (some ⟨ob, 0, none⟩) 128 (setR z.ow p (j + 1) c)])) (0) ⟨Nat.zero_le _, fun _ => rfl⟩ ⟨rfl, rfl, rfl, rfl, rfl, rfl, rfl, (show some (Value.int .u64 (p : Int)) = some (Value.int .u64 ((p : Int) + ((0 : Nat) : Int))) by rw [Int.natCast_zero, Int.add_zero]), trivial⟩ (fun _ h => h) ?_
            intro c hc0
            refine CV.seq ?_
            refine CV.seq ?_
            -- region 19 law.go:210
            refine CV.region ?_
            refine RV.op (OV.step gno (Step.move rfl) rfl ?_)
            refine RV.op (OV.step gno (Step.move rfl) rfl ?_)
            refine KV.cases 66 rfl (fun cc2 => ?_) (fun cc2 => ?_)
            · -- True
              have hfb := cc2
              refine RV.op (OV.step (gyes rfl) (Step.move rfl) rfl ?_)
              refine RV.op (OV.step (gyes rfl) (Step.move rfl) rfl ?_)
              refine RV.op (OV.step (gyes rfl) (Step.move rfl) rfl ?_)
              (first | refine RV.op (OV.step (gyes rfl) (Step.add rfl rfl (wU64 (by omega) (by omega))) rfl ?_) | refine RV.op (OV.step (gyes rfl) (Step.add rfl rfl rfl) rfl ?_))
              refine RV.op (OV.split (gyes rfl) (Step.lss rfl rfl) rfl (fun hc2 => ?_) (fun hc2 => ?_))
              · -- True
                refine RV.op (OV.step gno (Step.pick_t rfl rfl) rfl ?_)
                refine RV.nil ?_
                refine KV.then_n ?_
                refine KV.env [(0, _), (3, _), (4, _), (5, _), (7, _), (8, _), (9, _), (12, _), (72, _)] ⟨rfl, rfl, rfl, rfl, rfl, rfl, rfl, rfl, rfl, trivial⟩ ?_
                refine CV.cond_t rfl ?_
                refine CV.skip ?_
                refine KV.then_n ?_
                refine KV.env [(0, _), (3, _), (4, _), (5, _), (7, _), (8, _), (9, _), (12, _)] ⟨rfl, rfl, rfl, rfl, rfl, rfl, rfl, rfl, trivial⟩ ?_
                refine CV.seq ?_
                refine CV.block ?_
                -- region 21 law.go:211
                refine CV.region ?_
                refine RV.op (OV.step gno (Step.move rfl) rfl ?_)
                refine RV.op (OV.step gno (Step.move rfl) rfl ?_)
                (first | refine RV.op (OV.step gno (Step.add rfl rfl (wI64 (by omega) (by omega))) rfl ?_) | refine RV.op (OV.step gno (Step.add rfl rfl rfl) rfl ?_))
                refine RV.op (OV.step gno (Step.idxArr Try.underlying41 I3 rfl rfl _ (show (p : Int) + (c : Int) = ((p + c : Nat) : Int) by omega) (by omega)) rfl ?_)
                refine RV.op (OV.storeE 4 (p + c) ((j : Int) + 1) (j := 0) [_] I3 rfl rfl rfl rfl rfl rfl (by rw [setR_len, hinv.2.len]; omega) rfl (Nat.le_of_ble_eq_true rfl) gno ?_)
                refine RV.nil ?_
                refine KV.block_n ?_
                refine KV.then_n ?_
                refine KV.env [(0, _), (3, _), (4, _), (5, _), (7, _), (8, _), (9, _), (12, _)] ⟨rfl, rfl, rfl, rfl, rfl, rfl, rfl, rfl, trivial⟩ ?_
                -- region 20 law.go:210
                refine CV.region ?_
                refine RV.op (OV.step gno (Step.move rfl) rfl ?_)
                (first | refine RV.op (OV.step gno (Step.add rfl rfl (wU64 (by omega) (by omega))) rfl ?_) | refine RV.op (OV.step gno (Step.add rfl rfl rfl) rfl ?_))
                refine RV.op (OV.step gno (Step.assign rfl) rfl ?_)
                refine RV.nil ?_
                refine KV.then_n ?_
                refine KV.env [(0, _), (3, _), (4, _), (5, _), (7, _), (8, _), (9, _), (12, _)] ⟨rfl, rfl, rfl, rfl, rfl, rfl, rfl, rfl, trivial⟩ ?_
                refine KV.sel [0, 0, 0, 0, 0] [_, _, _, _, _] rfl ?_
                exact KV.loopI (z := c) (c + 1) ⟨by omega, fun k => by rw [hfb] at k; cases k⟩ (by omega) ⟨rfl, rfl, rfl, rfl, rfl, rfl, rfl, (show some (Value.int .u64 _) = some (Value.int .u64 _) by first | rfl | (congr 2; omega) | congr 2), trivial⟩ (fun _ h => h)
              · -- False
                obtain rfl : n = c := by omega
                refine RV.op (OV.step gno (Step.pick_t rfl rfl) rfl ?_)
                refine RV.nil ?_
                refine KV.then_n ?_
                refine KV.env [(0, _), (3, _), (4, _), (5, _), (7, _), (8, _), (9, _), (12, _), (72, _)] ⟨rfl, rfl, rfl, rfl, rfl, rfl, rfl, rfl, rfl, trivial⟩ ?_
                refine CV.cond_f rfl ?_
                refine CV.exit ?_
                refine KV.then_exit ?_
                refine KV.then_exit ?_
                refine KV.block_hit ?_
                refine KV.block_n ?_
                refine KV.then_n ?_
                refine KV.env [(0, _), (3, _), (4, _), (5, _)] ⟨rfl, rfl, rfl, rfl, trivial⟩ ?_
                -- region 7 law.go:199
                refine CV.region ?_
                refine RV.op (OV.step gno (Step.move rfl) rfl ?_)
                (first | refine RV.op (OV.step gno (Step.add rfl rfl (wI64 (by omega) (by omega))) rfl ?_) | refine RV.op (OV.step gno (Step.add rfl rfl rfl) rfl ?_))
                refine RV.op (OV.step gno (Step.assign rfl) rfl ?_)
                refine RV.nil ?_
                refine KV.then_n ?_
                refine KV.env [(0, _), (3, _), (4, _), (5, _)] ⟨rfl, rfl, rfl, rfl, trivial⟩ ?_
                refine KV.sel [0, 0, 0, 0, 0] [_, _, _, _, _] rfl ?_
                (first | exact KV.loop2 (x := j) (y := z) (j + 1) (⟨s2, setR z.ow p (j + 1) n⟩) ⟨by omega, hE1 hfb⟩ (by omega) ⟨rfl, rfl, rfl, rfl, trivial⟩ (fun _ h => h) | exact KV.loop2 (x := j) (y := z) (j + 1) (⟨s2, z.ow⟩) ⟨by omega, hE0 hfb⟩ (by omega) ⟨rfl, rfl, rfl, rfl, trivial⟩ (fun _ h => h))
            · -- False
              have hfb := cc2
              obtain rfl : c = 0 := hc0.2 hfb
              refine RV.op (OV.skip rfl rfl ?_)
              refine RV.op (OV.skip rfl rfl ?_)
              refine RV.op (OV.skip rfl rfl ?_)
              refine RV.op (OV.skip rfl rfl ?_)
              refine RV.op (OV.skip rfl rfl ?_)
              refine RV.op (OV.step gno (Step.pick_f rfl rfl) rfl ?_)
              refine RV.nil ?_
              refine KV.then_n ?_
              refine KV.env [(0, _), (3, _), (4, _), (5, _), (7, _), (8, _), (9, _), (12, _), (72, _)] ⟨rfl, rfl, rfl, rfl, rfl, rfl, rfl, rfl, rfl, trivial⟩ ?_
              refine CV.cond_f rfl ?_
              refine CV.exit ?_
              refine KV.then_exit ?_
              refine KV.then_exit ?_
              refine KV.block_hit ?_
              refine KV.block_n ?_
              refine KV.then_n ?_
              refine KV.env [(0, _), (3, _), (4, _), (5, _)] ⟨rfl, rfl, rfl, rfl, trivial⟩ ?_
              -- region 7 law.go:199
              refine CV.region ?_
              refine RV.op (OV.step gno (Step.move rfl) rfl ?_)
              (first | refine RV.op (OV.step gno (Step.add rfl rfl (wI64 (by omega) (by omega))) rfl ?_) | refine RV.op (OV.step gno (Step.add rfl rfl rfl) rfl ?_))
              refine RV.op (OV.step gno (Step.assign rfl) rfl ?_)
              refine RV.nil ?_
              refine KV.then_n ?_
              refine KV.env [(0, _), (3, _), (4, _), (5, _)] ⟨rfl, rfl, rfl, rfl, trivial⟩ ?_
              refine KV.sel [0, 0, 0, 0, 0] [_, _, _, _, _] rfl ?_
              (first | exact KV.loop2 (x := j) (y := z) (j + 1) (⟨s2, setR z.ow p (j + 1) n⟩) ⟨by omega, hE1 hfb⟩ (by omega) ⟨rfl, rfl, rfl, rfl, trivial⟩ (fun _ h => h) | exact KV.loop2 (x := j) (y := z) (j + 1) (⟨s2, z.ow⟩) ⟨by omega, hE0 hfb⟩ (by omega) ⟨rfl, rfl, rfl, rfl, trivial⟩ (fun _ h => h))
        · -- False
          refine RV.op (OV.step gno (Step.move rfl) rfl ?_)
          refine RV.op (OV.split gno (Step.neqBool Try.underlying4 rfl rfl) rfl (fun g17 => ?_) (fun g17 => ?_))
          · -- True
            first | exact absurd (hE.1 g16).symm g17 | exact absurd (by cases hh : frB z.ow p n n with | false => rfl | true => exact absurd (hE.2 hh) g16) g17
          · -- False
            refine RV.nil ?_
            refine KV.then_n ?_
            refine KV.env [(0, _), (3, _), (4, _), (5, _), (7, _), (8, _), (9, _), (63, _)] ⟨rfl, rfl, rfl, rfl, rfl, rfl, rfl, rfl, trivial⟩ ?_
            refine CV.cond_f rfl ?_
            refine CV.skip ?_
            refine KV.then_n ?_
            refine KV.env [(0, _), (3, _), (4, _), (5, _), (7, _), (8, _), (9, _)] ⟨rfl, rfl, rfl, rfl, rfl, rfl, rfl, trivial⟩ ?_
            refine CV.seq ?_
            -- region 18 law.go:210
            refine CV.region ?_
            refine RV.op (OV.step gno (Step.move rfl) rfl ?_)
            refine RV.op (OV.step gno (Step.assign rfl) rfl ?_)
            refine RV.nil ?_
            refine KV.then_n ?_
            refine KV.env [(0, _), (3, _), (4, _), (5, _), (7, _), (8, _), (9, _), (12, _)] ⟨rfl, rfl, rfl, rfl, rfl, rfl, rfl, rfl, trivial⟩ ?_
            refine CV.block ?_
            -- loop L19; live [0, 3, 4, 5, 7, 8, 9, 12]
            refine KV.sel [1, 1, 1, 1, 0] [_, _, _, _, _] rfl ?_
            refine CV.loopI (fun (c : Nat) => c ≤ n ∧ (frB z.ow p n n = false → c = 0)) (fun (c : Nat) => n - c) (fun (c : Nat) => [(0, .slice B l.length d), (3, .pointer (some ⟨b, 0, none⟩)), (4, .pointer (some ⟨ob, 0, none⟩)), (5, .int .i64 j), (7, .int .u64 p), (8, .int .u64 n), (9, .bool (frB z.ow p n n)), (12, .int .u64 ((p : Int) + (c : Int)))]) (fun (c : Nat) => Hp I w (busL b s2 ++ [OS 41 (intK .i64) (some ⟨ob, 0, none⟩) 128 (setR z.ow p (j + 1) c)])) (0) ⟨Nat.zero_le _, fun _ => rfl⟩ ⟨rfl, rfl, rfl, rfl, rfl, rfl, rfl, (show some (Value.int .u64 (p : Int)) = some (Value.int .u64 ((p : Int) + ((0 : Nat) : Int))) by rw [Int.natCast_zero, Int.add_zero]), trivial⟩ (fun _ h => h) ?_
            intro c hc0
            refine CV.seq ?_
            refine CV.seq ?_
            -- region 19 law.go:210
            refine CV.region ?_
            refine RV.op (OV.step gno (Step.move rfl) rfl ?_)
            refine RV.op (OV.step gno (Step.move rfl) rfl ?_)
            refine KV.cases 66 rfl (fun cc3 => ?_) (fun cc3 => ?_)
            · -- True
              have hfb := cc3
              refine RV.op (OV.step (gyes rfl) (Step.move rfl) rfl ?_)
              refine RV.op (OV.step (gyes rfl) (Step.move rfl) rfl ?_)
              refine RV.op (OV.step (gyes rfl) (Step.move rfl) rfl ?_)
              (first | refine RV.op (OV.step (gyes rfl) (Step.add rfl rfl (wU64 (by omega) (by omega))) rfl ?_) | refine RV.op (OV.step (gyes rfl) (Step.add rfl rfl rfl) rfl ?_))
              refine RV.op (OV.split (gyes rfl) (Step.lss rfl rfl) rfl (fun hc2 => ?_) (fun hc2 => ?_))
              · -- True
                refine RV.op (OV.step gno (Step.pick_t rfl rfl) rfl ?_)
                refine RV.nil ?_
                refine KV.then_n ?_
                refine KV.env [(0, _), (3, _), (4, _), (5, _), (7, _), (8, _), (9, _), (12, _), (72, _)] ⟨rfl, rfl, rfl, rfl, rfl, rfl, rfl, rfl, rfl, trivial⟩ ?_
                refine CV.cond_t rfl ?_
                refine CV.skip ?_
                refine KV.then_n ?_
                refine KV.env [(0, _), (3, _), (4, _), (5, _), (7, _), (8, _), (9, _), (12, _)] ⟨rfl, rfl, rfl, rfl, rfl, rfl, rfl, rfl, trivial⟩ ?_
                refine CV.seq ?_
                refine CV.block ?_
                -- region 21 law.go:211
                refine CV.region ?_
                refine RV.op (OV.step gno (Step.move rfl) rfl ?_)
                refine RV.op (OV.step gno (Step.move rfl) rfl ?_)
                (first | refine RV.op (OV.step gno (Step.add rfl rfl (wI64 (by omega) (by omega))) rfl ?_) | refine RV.op (OV.step gno (Step.add rfl rfl rfl) rfl ?_))
                refine RV.op (OV.step gno (Step.idxArr Try.underlying41 I3 rfl rfl _ (show (p : Int) + (c : Int) = ((p + c : Nat) : Int) by omega) (by omega)) rfl ?_)
                refine RV.op (OV.storeE 4 (p + c) ((j : Int) + 1) (j := 0) [_] I3 rfl rfl rfl rfl rfl rfl (by rw [setR_len, hinv.2.len]; omega) rfl (Nat.le_of_ble_eq_true rfl) gno ?_)
                refine RV.nil ?_
                refine KV.block_n ?_
                refine KV.then_n ?_
                refine KV.env [(0, _), (3, _), (4, _), (5, _), (7, _), (8, _), (9, _), (12, _)] ⟨rfl, rfl, rfl, rfl, rfl, rfl, rfl, rfl, trivial⟩ ?_
                -- region 20 law.go:210
                refine CV.region ?_
                refine RV.op (OV.step gno (Step.move rfl) rfl ?_)
                (first | refine RV.op (OV.step gno (Step.add rfl rfl (wU64 (by omega) (by omega))) rfl ?_) | refine RV.op (OV.step gno (Step.add rfl rfl rfl) rfl ?_))
                refine RV.op (OV.step gno (Step.assign rfl) rfl ?_)
                refine RV.nil ?_
                refine KV.then_n ?_
                refine KV.env [(0, _), (3, _), (4, _), (5, _), (7, _), (8, _), (9, _), (12, _)] ⟨rfl, rfl, rfl, rfl, rfl, rfl, rfl, rfl, trivial⟩ ?_
                refine KV.sel [0, 0, 0, 0, 0] [_, _, _, _, _] rfl ?_
                exact KV.loopI (z := c) (c + 1) ⟨by omega, fun k => by rw [hfb] at k; cases k⟩ (by omega) ⟨rfl, rfl, rfl, rfl, rfl, rfl, rfl, (show some (Value.int .u64 _) = some (Value.int .u64 _) by first | rfl | (congr 2; omega) | congr 2), trivial⟩ (fun _ h => h)
              · -- False
                obtain rfl : n = c := by omega
                refine RV.op (OV.step gno (Step.pick_t rfl rfl) rfl ?_)
                refine RV.nil ?_
                refine KV.then_n ?_
                refine KV.env [(0, _), (3, _), (4, _), (5, _), (7, _), (8, _), (9, _), (12, _), (72, _)] ⟨rfl, rfl, rfl, rfl, rfl, rfl, rfl, rfl, rfl, trivial⟩ ?_
                refine CV.cond_f rfl ?_
                refine CV.exit ?_
                refine KV.then_exit ?_
                refine KV.then_exit ?_
                refine KV.block_hit ?_
                refine KV.block_n ?_
                refine KV.then_n ?_
                refine KV.env [(0, _), (3, _), (4, _), (5, _)] ⟨rfl, rfl, rfl, rfl, trivial⟩ ?_
                -- region 7 law.go:199
                refine CV.region ?_
                refine RV.op (OV.step gno (Step.move rfl) rfl ?_)
                (first | refine RV.op (OV.step gno (Step.add rfl rfl (wI64 (by omega) (by omega))) rfl ?_) | refine RV.op (OV.step gno (Step.add rfl rfl rfl) rfl ?_))
                refine RV.op (OV.step gno (Step.assign rfl) rfl ?_)
                refine RV.nil ?_
                refine KV.then_n ?_
                refine KV.env [(0, _), (3, _), (4, _), (5, _)] ⟨rfl, rfl, rfl, rfl, trivial⟩ ?_
                refine KV.sel [0, 0, 0, 0, 0] [_, _, _, _, _] rfl ?_
                (first | exact KV.loop2 (x := j) (y := z) (j + 1) (⟨s2, setR z.ow p (j + 1) n⟩) ⟨by omega, hE1 hfb⟩ (by omega) ⟨rfl, rfl, rfl, rfl, trivial⟩ (fun _ h => h) | exact KV.loop2 (x := j) (y := z) (j + 1) (⟨s2, z.ow⟩) ⟨by omega, hE0 hfb⟩ (by omega) ⟨rfl, rfl, rfl, rfl, trivial⟩ (fun _ h => h))
            · -- False
              have hfb := cc3
              obtain rfl : c = 0 := hc0.2 hfb
              refine RV.op (OV.skip rfl rfl ?_)
              refine RV.op (OV.skip rfl rfl ?_)
              refine RV.op (OV.skip rfl rfl ?_)
              refine RV.op (OV.skip rfl rfl ?_)
              refine RV.op (OV.skip rfl rfl ?_)
              refine RV.op (OV.step gno (Step.pick_f rfl rfl) rfl ?_)
              refine RV.nil ?_
              refine KV.then_n ?_
              refine KV.env [(0, _), (3, _), (4, _), (5, _), (7, _), (8, _), (9, _), (12, _), (72, _)] ⟨rfl, rfl, rfl, rfl, rfl, rfl, rfl, rfl, rfl, trivial⟩ ?_
              refine CV.cond_f rfl ?_
              refine CV.exit ?_
              refine KV.then_exit ?_
              refine KV.then_exit ?_
              refine KV.block_hit ?_
              refine KV.block_n ?_
              refine KV.then_n ?_
              refine KV.env [(0, _), (3, _), (4, _), (5, _)] ⟨rfl, rfl, rfl, rfl, trivial⟩ ?_
              -- region 7 law.go:199
              refine CV.region ?_
              refine RV.op (OV.step gno (Step.move rfl) rfl ?_)
              (first | refine RV.op (OV.step gno (Step.add rfl rfl (wI64 (by omega) (by omega))) rfl ?_) | refine RV.op (OV.step gno (Step.add rfl rfl rfl) rfl ?_))
              refine RV.op (OV.step gno (Step.assign rfl) rfl ?_)
              refine RV.nil ?_
              refine KV.then_n ?_
              refine KV.env [(0, _), (3, _), (4, _), (5, _)] ⟨rfl, rfl, rfl, rfl, trivial⟩ ?_
              refine KV.sel [0, 0, 0, 0, 0] [_, _, _, _, _] rfl ?_
              (first | exact KV.loop2 (x := j) (y := z) (j + 1) (⟨s2, setR z.ow p (j + 1) n⟩) ⟨by omega, hE1 hfb⟩ (by omega) ⟨rfl, rfl, rfl, rfl, trivial⟩ (fun _ h => h) | exact KV.loop2 (x := j) (y := z) (j + 1) (⟨s2, z.ow⟩) ⟨by omega, hE0 hfb⟩ (by omega) ⟨rfl, rfl, rfl, rfl, trivial⟩ (fun _ h => h))
    · -- False
      refine RV.op (OV.step gno (Step.pick_t rfl rfl) rfl ?_)
      refine RV.nil ?_
      refine KV.then_n ?_
      refine KV.env [(0, _), (3, _), (4, _), (5, _), (24, _)] ⟨rfl, rfl, rfl, rfl, rfl, trivial⟩ ?_
      refine CV.cond_f rfl ?_
      refine CV.exit ?_
      refine KV.then_exit ?_
      refine KV.then_exit ?_
      refine KV.block_hit ?_
      refine KV.then_n ?_
      refine KV.env [(3, _), (4, _)] ⟨rfl, rfl, trivial⟩ ?_
      refine CV.seq ?_
      refine CV.seq ?_
      -- region 22 law.go:214
      have F := hinv.2
      refine CV.region ?_
      refine RV.op (OV.step gno (Step.assign rfl) rfl ?_)
      refine RV.nil ?_
      refine KV.then_n ?_
      refine KV.env [(3, _), (4, _), (13, _)] ⟨rfl, rfl, rfl, trivial⟩ ?_
      refine CV.block ?_
      -- loop L23; live [3, 4, 13]
      refine KV.sel [0, 0, 0, 0, 0] [_, _, _, _, _] rfl ?_
      refine CV.loopI (fun (k : Nat) => k ≤ 128) (fun (k : Nat) => 128 - k) (fun (k : Nat) => [(3, .pointer (some ⟨b, 0, none⟩)), (4, .pointer (some ⟨ob, 0, none⟩)), (13, .int .i64 k)]) (fun (k : Nat) => Hp I w (busL b z.s ++ [OS 41 (intK .i64) (some ⟨ob, 0, none⟩) 128 z.ow])) (0) (Nat.zero_le _) ⟨rfl, rfl, rfl, trivial⟩ (fun _ h => h) ?_
      intro k hk0
      refine CV.seq ?_
      refine CV.seq ?_
      -- region 23 law.go:214
      refine CV.region ?_
      refine RV.op (OV.step gno (Step.move rfl) rfl ?_)
      refine RV.op (OV.split gno (Step.lss rfl rfl) rfl (fun hk2 => ?_) (fun hk2 => ?_))
      · -- True
        refine RV.nil ?_
        refine KV.then_n ?_
        refine KV.env [(3, _), (4, _), (13, _), (80, _)] ⟨rfl, rfl, rfl, rfl, trivial⟩ ?_
        refine CV.cond_t rfl ?_
        refine CV.skip ?_
        refine KV.then_n ?_
        refine KV.env [(3, _), (4, _), (13, _)] ⟨rfl, rfl, rfl, trivial⟩ ?_
        refine CV.seq ?_
        refine CV.block ?_
        refine CV.seq ?_
        -- region 25 law.go:215
        refine CV.any (Hp I w (busL b z.s ++ [OS 41 (intK .i64) (some ⟨ob, 0, none⟩) 128 z.ow])) (by kernel_rfl) (fun _ h => h.drew) 9 rfl ?_
        refine AV.take 0 #[true, false, false, false, false, false, false, false, false] rfl (by kernel_rfl) (by kernel_rfl) (by kernel_rfl) (fun _ _ _ h => h) gno (Step.move rfl) rfl (fun _ h => h) (by kernel_rfl) ?_
        refine AV.take 1 #[true, true, false, false, false, false, false, false, false] rfl (by kernel_rfl) (by kernel_rfl) (by kernel_rfl) (fun _ _ _ h => h) gno (Step.move rfl) rfl (fun _ h => h) (by kernel_rfl) ?_
        (first | refine AV.take 2 #[true, true, true, false, false, false, false, false, false] rfl (by kernel_rfl) (by kernel_rfl) (by kernel_rfl) (fun _ _ _ h => h) gno (Step.convI Try.underlying3 Try.underlying22 rfl (wU64 (by omega) (by omega))) rfl (fun _ h => h) (by kernel_rfl) ?_ | refine AV.take 2 #[true, true, true, false, false, false, false, false, false] rfl (by kernel_rfl) (by kernel_rfl) (by kernel_rfl) (fun _ _ _ h => h) gno (Step.convI Try.underlying3 Try.underlying22 rfl rfl) rfl (fun _ h => h) (by kernel_rfl) ?_)
        refine AV.take 4 #[true, true, true, false, true, false, false, false, false] rfl (by kernel_rfl) (by kernel_rfl) (by kernel_rfl) (fun _ _ _ h => h) gno (Step.move rfl) rfl (fun _ h => h) (by kernel_rfl) ?_
        refine AV.take 5 #[true, true, true, false, true, true, false, false, false] rfl (by kernel_rfl) (by kernel_rfl) (by kernel_rfl) (fun _ _ _ h => h) gno (Step.idxArr Try.underlying41 I3 rfl rfl _ rfl (by omega)) rfl (fun _ h => h) (by kernel_rfl) ?_
        refine AV.take 6 #[true, true, true, false, true, true, true, false, false] rfl (by kernel_rfl) (by kernel_rfl) (by kernel_rfl) (fun _ _ _ h => h) gno (Step.load Try.underlying3 rfl rfl (fun w h => (h.os 4 rfl).cell0 (by rw [F.len]; omega) rfl)) rfl (fun _ h => h) (by kernel_rfl) ?_
        refine AV.take 7 #[true, true, true, false, true, true, true, true, false] rfl (by kernel_rfl) (by kernel_rfl) (by kernel_rfl) (fun _ _ _ h => h) gno (Step.sub rfl rfl (rfl)) rfl (fun _ h => h) (by kernel_rfl) ?_
        refine AV.all [3] (by kernel_rfl) (by decide) ?_
        refine ⟨⟨_, rfl, ?_⟩, trivial⟩
        · -- 3 comes up
          refine OV.call [0, 0, 0, 0] (F := [_]) Try.func15 B15 N15 rfl rfl (fun w h => owner_fn b z.s F.ok 1 (k : Int)) (fun _ hb => hb.elim) gno rfl (fun v L' hp => ?_)
          obtain ⟨rfl, rfl⟩ := hp
          rw [show ownM z.s 1 (k : Int) = z.ow.getD k 0 - 1 from (ownM_eq (m := 1) (by decide) _).trans (F.own k (by omega))]
          refine KV.sel [1, 1, 1, 1, 0] [_, _, _, _, _] rfl ?_
          refine AV.next #[true, true, true, true, true, true, true, true, false] (by kernel_rfl) (fun _ h => h) ?_
          refine AV.take 8 #[true, true, true, true, true, true, true, true, true] rfl (by kernel_rfl) (by kernel_rfl) (by kernel_rfl) (fun _ _ _ h => h) gno (Step.neq rfl rfl) rfl (fun _ h => h) (by kernel_rfl) ?_
          refine AV.done (by kernel_rfl) ?_
          refine KV.then_n ?_
          refine KV.env [(3, _), (4, _), (13, _), (91, _)] ⟨rfl, rfl, rfl, rfl, trivial⟩ ?_
          refine KV.cases 91 rfl (fun cc4 => ?_) (fun cc4 => ?_)
          · -- True
            have h91 := of_decide_eq_true cc4
            refine CV.cond_t rfl ?_
            refine CV.seq ?_
            -- region 26 law.go:216
            refine CV.region ?_
            refine RV.op (OV.step gno (Step.assign rfl) rfl ?_)
            refine RV.nil ?_
            refine KV.then_n ?_
            refine KV.env [(2, _)] ⟨rfl, trivial⟩ ?_
            refine CV.ret ?_
            refine KV.block_ret ?_
            refine KV.then_ret ?_
            refine KV.then_ret ?_
            refine KV.block_ret ?_
            refine KV.then_ret ?_
            -- return at r26
            refine KV.sel [] [] rfl ?_
            exact absurd (MI.wr F (by omega)).symm h91
          · -- False
            refine CV.cond_f rfl ?_
            refine CV.skip ?_
            refine KV.block_n ?_
            refine KV.then_n ?_
            refine KV.env [(3, _), (4, _), (13, _)] ⟨rfl, rfl, rfl, trivial⟩ ?_
            -- region 24 law.go:214
            refine CV.region ?_
            refine RV.op (OV.step gno (Step.move rfl) rfl ?_)
            (first | refine RV.op (OV.step gno (Step.add rfl rfl (wI64 (by omega) (by omega))) rfl ?_) | refine RV.op (OV.step gno (Step.add rfl rfl rfl) rfl ?_))
            refine RV.op (OV.step gno (Step.assign rfl) rfl ?_)
            refine RV.nil ?_
            refine KV.then_n ?_
            refine KV.env [(3, _), (4, _), (13, _)] ⟨rfl, rfl, rfl, trivial⟩ ?_
            refine KV.sel [0, 0, 0, 0, 0] [_, _, _, _, _] rfl ?_
            exact KV.loopI (z := k) (k + 1) (by omega) (by omega) ⟨rfl, rfl, rfl, trivial⟩ (fun _ h => h)
      · -- False
        refine RV.nil ?_
        refine KV.then_n ?_
        refine KV.env [(3, _), (4, _), (13, _), (80, _)] ⟨rfl, rfl, rfl, rfl, trivial⟩ ?_
        refine CV.cond_f rfl ?_
        refine CV.exit ?_
        refine KV.then_exit ?_
        refine KV.then_exit ?_
        refine KV.block_hit ?_
        refine KV.then_n ?_
        refine KV.env [] trivial ?_
        refine CV.seq ?_
        -- region 27 law.go:219
        refine CV.region ?_
        refine RV.op (OV.step gno (Step.assign rfl) rfl ?_)
        refine RV.nil ?_
        refine KV.then_n ?_
        refine KV.env [(2, _)] ⟨rfl, trivial⟩ ?_
        refine CV.ret ?_
        -- return at r27
        refine KV.sel [] [] rfl ?_
        exact KV.ret1 rfl rfl _ (fun _ h => h) ⟨rfl, rfl⟩
  · -- False
    refine RV.op (OV.step gno (Step.move rfl) rfl ?_)
    refine RV.op (OV.skip rfl rfl ?_)
    refine RV.op (OV.skip rfl rfl ?_)
    refine RV.op (OV.step gno (Step.pick_f rfl rfl) rfl ?_)
    refine RV.nil ?_
    refine KV.then_n ?_
    refine KV.env [(0, _), (3, _), (4, _), (5, _), (24, _)] ⟨rfl, rfl, rfl, rfl, rfl, trivial⟩ ?_
    refine CV.cond_f rfl ?_
    refine CV.exit ?_
    refine KV.then_exit ?_
    refine KV.then_exit ?_
    refine KV.block_hit ?_
    refine KV.then_n ?_
    refine KV.env [(3, _), (4, _)] ⟨rfl, rfl, trivial⟩ ?_
    refine CV.seq ?_
    refine CV.seq ?_
    -- region 22 law.go:214
    have F := hinv.2
    refine CV.region ?_
    refine RV.op (OV.step gno (Step.assign rfl) rfl ?_)
    refine RV.nil ?_
    refine KV.then_n ?_
    refine KV.env [(3, _), (4, _), (13, _)] ⟨rfl, rfl, rfl, trivial⟩ ?_
    refine CV.block ?_
    -- loop L23; live [3, 4, 13]
    refine KV.sel [0, 0, 0, 0, 0] [_, _, _, _, _] rfl ?_
    refine CV.loopI (fun (k : Nat) => k ≤ 128) (fun (k : Nat) => 128 - k) (fun (k : Nat) => [(3, .pointer (some ⟨b, 0, none⟩)), (4, .pointer (some ⟨ob, 0, none⟩)), (13, .int .i64 k)]) (fun (k : Nat) => Hp I w (busL b z.s ++ [OS 41 (intK .i64) (some ⟨ob, 0, none⟩) 128 z.ow])) (0) (Nat.zero_le _) ⟨rfl, rfl, rfl, trivial⟩ (fun _ h => h) ?_
    intro k hk0
    refine CV.seq ?_
    refine CV.seq ?_
    -- region 23 law.go:214
    refine CV.region ?_
    refine RV.op (OV.step gno (Step.move rfl) rfl ?_)
    refine RV.op (OV.split gno (Step.lss rfl rfl) rfl (fun hk2 => ?_) (fun hk2 => ?_))
    · -- True
      refine RV.nil ?_
      refine KV.then_n ?_
      refine KV.env [(3, _), (4, _), (13, _), (80, _)] ⟨rfl, rfl, rfl, rfl, trivial⟩ ?_
      refine CV.cond_t rfl ?_
      refine CV.skip ?_
      refine KV.then_n ?_
      refine KV.env [(3, _), (4, _), (13, _)] ⟨rfl, rfl, rfl, trivial⟩ ?_
      refine CV.seq ?_
      refine CV.block ?_
      refine CV.seq ?_
      -- region 25 law.go:215
      refine CV.any (Hp I w (busL b z.s ++ [OS 41 (intK .i64) (some ⟨ob, 0, none⟩) 128 z.ow])) (by kernel_rfl) (fun _ h => h.drew) 9 rfl ?_
      refine AV.take 0 #[true, false, false, false, false, false, false, false, false] rfl (by kernel_rfl) (by kernel_rfl) (by kernel_rfl) (fun _ _ _ h => h) gno (Step.move rfl) rfl (fun _ h => h) (by kernel_rfl) ?_
      refine AV.take 1 #[true, true, false, false, false, false, false, false, false] rfl (by kernel_rfl) (by kernel_rfl) (by kernel_rfl) (fun _ _ _ h => h) gno (Step.move rfl) rfl (fun _ h => h) (by kernel_rfl) ?_
      (first | refine AV.take 2 #[true, true, true, false, false, false, false, false, false] rfl (by kernel_rfl) (by kernel_rfl) (by kernel_rfl) (fun _ _ _ h => h) gno (Step.convI Try.underlying3 Try.underlying22 rfl (wU64 (by omega) (by omega))) rfl (fun _ h => h) (by kernel_rfl) ?_ | refine AV.take 2 #[true, true, true, false, false, false, false, false, false] rfl (by kernel_rfl) (by kernel_rfl) (by kernel_rfl) (fun _ _ _ h => h) gno (Step.convI Try.underlying3 Try.underlying22 rfl rfl) rfl (fun _ h => h) (by kernel_rfl) ?_)
      refine AV.take 4 #[true, true, true, false, true, false, false, false, false] rfl (by kernel_rfl) (by kernel_rfl) (by kernel_rfl) (fun _ _ _ h => h) gno (Step.move rfl) rfl (fun _ h => h) (by kernel_rfl) ?_
      refine AV.take 5 #[true, true, true, false, true, true, false, false, false] rfl (by kernel_rfl) (by kernel_rfl) (by kernel_rfl) (fun _ _ _ h => h) gno (Step.idxArr Try.underlying41 I3 rfl rfl _ rfl (by omega)) rfl (fun _ h => h) (by kernel_rfl) ?_
      refine AV.take 6 #[true, true, true, false, true, true, true, false, false] rfl (by kernel_rfl) (by kernel_rfl) (by kernel_rfl) (fun _ _ _ h => h) gno (Step.load Try.underlying3 rfl rfl (fun w h => (h.os 4 rfl).cell0 (by rw [F.len]; omega) rfl)) rfl (fun _ h => h) (by kernel_rfl) ?_
      refine AV.take 7 #[true, true, true, false, true, true, true, true, false] rfl (by kernel_rfl) (by kernel_rfl) (by kernel_rfl) (fun _ _ _ h => h) gno (Step.sub rfl rfl (rfl)) rfl (fun _ h => h) (by kernel_rfl) ?_
      refine AV.all [3] (by kernel_rfl) (by decide) ?_
      refine ⟨⟨_, rfl, ?_⟩, trivial⟩
      · -- 3 comes up
        refine OV.call [0, 0, 0, 0] (F := [_]) Try.func15 B15 N15 rfl rfl (fun w h => owner_fn b z.s F.ok 1 (k : Int)) (fun _ hb => hb.elim) gno rfl (fun v L' hp => ?_)
        obtain ⟨rfl, rfl⟩ := hp
        rw [show ownM z.s 1 (k : Int) = z.ow.getD k 0 - 1 from (ownM_eq (m := 1) (by decide) _).trans (F.own k (by omega))]
        refine KV.sel [1, 1, 1, 1, 0] [_, _, _, _, _] rfl ?_
        refine AV.next #[true, true, true, true, true, true, true, true, false] (by kernel_rfl) (fun _ h => h) ?_
        refine AV.take 8 #[true, true, true, true, true, true, true, true, true] rfl (by kernel_rfl) (by kernel_rfl) (by kernel_rfl) (fun _ _ _ h => h) gno (Step.neq rfl rfl) rfl (fun _ h => h) (by kernel_rfl) ?_
        refine AV.done (by kernel_rfl) ?_
        refine KV.then_n ?_
        refine KV.env [(3, _), (4, _), (13, _), (91, _)] ⟨rfl, rfl, rfl, rfl, trivial⟩ ?_
        refine KV.cases 91 rfl (fun cc5 => ?_) (fun cc5 => ?_)
        · -- True
          have h91 := of_decide_eq_true cc5
          refine CV.cond_t rfl ?_
          refine CV.seq ?_
          -- region 26 law.go:216
          refine CV.region ?_
          refine RV.op (OV.step gno (Step.assign rfl) rfl ?_)
          refine RV.nil ?_
          refine KV.then_n ?_
          refine KV.env [(2, _)] ⟨rfl, trivial⟩ ?_
          refine CV.ret ?_
          refine KV.block_ret ?_
          refine KV.then_ret ?_
          refine KV.then_ret ?_
          refine KV.block_ret ?_
          refine KV.then_ret ?_
          -- return at r26
          refine KV.sel [] [] rfl ?_
          exact absurd (MI.wr F (by omega)).symm h91
        · -- False
          refine CV.cond_f rfl ?_
          refine CV.skip ?_
          refine KV.block_n ?_
          refine KV.then_n ?_
          refine KV.env [(3, _), (4, _), (13, _)] ⟨rfl, rfl, rfl, trivial⟩ ?_
          -- region 24 law.go:214
          refine CV.region ?_
          refine RV.op (OV.step gno (Step.move rfl) rfl ?_)
          (first | refine RV.op (OV.step gno (Step.add rfl rfl (wI64 (by omega) (by omega))) rfl ?_) | refine RV.op (OV.step gno (Step.add rfl rfl rfl) rfl ?_))
          refine RV.op (OV.step gno (Step.assign rfl) rfl ?_)
          refine RV.nil ?_
          refine KV.then_n ?_
          refine KV.env [(3, _), (4, _), (13, _)] ⟨rfl, rfl, rfl, trivial⟩ ?_
          refine KV.sel [0, 0, 0, 0, 0] [_, _, _, _, _] rfl ?_
          exact KV.loopI (z := k) (k + 1) (by omega) (by omega) ⟨rfl, rfl, rfl, trivial⟩ (fun _ h => h)
    · -- False
      refine RV.nil ?_
      refine KV.then_n ?_
      refine KV.env [(3, _), (4, _), (13, _), (80, _)] ⟨rfl, rfl, rfl, rfl, trivial⟩ ?_
      refine CV.cond_f rfl ?_
      refine CV.exit ?_
      refine KV.then_exit ?_
      refine KV.then_exit ?_
      refine KV.block_hit ?_
      refine KV.then_n ?_
      refine KV.env [] trivial ?_
      refine CV.seq ?_
      -- region 27 law.go:219
      refine CV.region ?_
      refine RV.op (OV.step gno (Step.assign rfl) rfl ?_)
      refine RV.nil ?_
      refine KV.then_n ?_
      refine KV.env [(2, _)] ⟨rfl, trivial⟩ ?_
      refine CV.ret ?_
      -- return at r27
      refine KV.sel [] [] rfl ?_
      exact KV.ret1 rfl rfl _ (fun _ h => h) ⟨rfl, rfl⟩
end Go.Proofs.Ythdpojggdodpfaa
