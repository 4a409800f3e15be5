/-
  Walks, part 13.
-/
import Derived.Test.YthdpojggdodpfaaTabs
import Derived.Test.YthdpojggdodpfaaW9
import Derived.Test.YthdpojggdodpfaaMdA
set_option linter.unusedSimpArgs false
set_option linter.unusedVariables false
namespace Go.Proofs.Ythdpojggdodpfaa
open Go.Sv Go.Ios
set_option maxRecDepth 100000 in
set_option maxHeartbeats 1000000 in
theorem deleteP_fn {A : Option Addr} {n c i : Nat} {l : List (Option Nat)} {w : World} (hn : n = l.length) (hi : i < l.length) (hl : l.length ≤ 1000) : Fx Try.prog 55 [.slice A n c, .int .i64 i, .int .i64 ((i : Int) + 1)] w [OS 78 ptrK A c l] no (fun v L => v = .slice A (l.length - 1) c ∧ L = [OS 78 ptrK A c (delL l i)]) := by
  subst hn
  refine Sv.Fx.body Try.func55 rfl T55 rfl ?_
  intro I hro hI
  refine KV.env [(0, _), (1, _), (2, _)] ⟨rfl, rfl, rfl, trivial⟩ ?_
  refine KV.have (fun w h => h.osCap 0 rfl) (fun hcap => ?_)
  refine CV.seq ?_
  -- region 0 slices.go:224
  refine CV.region ?_
  refine RV.op (OV.step gno (Step.assign rfl) rfl ?_)
  refine RV.nil ?_
  refine KV.then_n ?_
  refine KV.env [(0, _), (1, _), (2, _)] ⟨rfl, rfl, rfl, trivial⟩ ?_
  refine CV.seq ?_
  -- region 1 slices.go:225
  refine CV.region ?_
  refine RV.op (OV.step gno (Step.move rfl) rfl ?_)
  refine RV.op (OV.step gno (Step.move rfl) rfl ?_)
  refine RV.op (OV.step gno (Step.move rfl) rfl ?_)
  refine RV.op (OV.step gno (Step.move rfl) rfl ?_)
  refine RV.op (OV.step gno (Step.lenSl Try.underlying67 rfl) rfl ?_)
  refine RV.op (OV.step gno (Step.slice3 Try.underlying67 I78 rfl rfl rfl rfl i (i + 1) l.length rfl (by omega) rfl (by omega) (by omega) (by omega)) rfl ?_)
  refine RV.nil ?_
  refine KV.then_n ?_
  refine KV.env [(0, _), (1, _), (2, _)] ⟨rfl, rfl, rfl, trivial⟩ ?_
  refine CV.seq ?_
  refine CV.seq ?_
  -- region 2 slices.go:227
  refine CV.region ?_
  refine RV.op (OV.step gno (Step.move rfl) rfl ?_)
  refine RV.op (OV.step gno (Step.move rfl) rfl ?_)
  refine RV.op (OV.split gno (Step.eql rfl rfl) rfl (fun cc1 => ?_) (fun cc1 => ?_))
  · -- True
    exfalso; omega
  · -- False
    refine RV.nil ?_
    refine KV.then_n ?_
    refine KV.env [(0, _), (1, _), (2, _), (16, _)] ⟨rfl, rfl, rfl, rfl, trivial⟩ ?_
    refine CV.cond_f rfl ?_
    refine CV.skip ?_
    refine KV.then_n ?_
    refine KV.env [(0, _), (1, _), (2, _)] ⟨rfl, rfl, rfl, trivial⟩ ?_
    refine CV.seq ?_
    -- region 4 slices.go:231
    refine CV.region ?_
    refine RV.op (OV.step gno (Step.move rfl) rfl ?_)
    refine RV.op (OV.step gno (Step.lenSl Try.underlying67 rfl) rfl ?_)
    refine RV.op (OV.step gno (Step.assign rfl) rfl ?_)
    refine RV.nil ?_
    refine KV.then_n ?_
    refine KV.env [(0, _), (1, _), (2, _), (7, _)] ⟨rfl, rfl, rfl, rfl, trivial⟩ ?_
    refine CV.seq ?_
    -- region 5 slices.go:232
    refine CV.stillTail 6 (by kernel_rfl) (by kernel_rfl) (fun _ h => h.drew) ?_
    refine SV.step gno (Step.move rfl) rfl ?_
    refine SV.step gno (Step.move rfl) rfl ?_
    refine SV.step gno (Step.sliceHi Try.underlying67 I78 rfl rfl (i) (rfl) (by omega)) rfl ?_
    refine SV.step gno (Step.move rfl) rfl ?_
    refine SV.step gno (Step.move rfl) rfl ?_
    refine SV.step gno (Step.sliceLo Try.underlying67 I78 rfl rfl (i + 1) ((by omega)) (by omega)) rfl ?_
    refine SV.nil ?_
    show KV _ (wpList _ _ _ _) _ _
    refine RV.op (OV.appendIn (K := ptrK) 0 (zs := l.drop (i + 1)) Try.underlying67 I78 rfl rfl rfl (by omega) (by rw [List.length_drop]) (by omega) (fun w h => (h.os 0 rfl).drop (i + 1) (c := c) hcap.1) gno rfl ?_)
    refine RV.op (OV.step gno (Step.assign rfl) rfl ?_)
    refine RV.nil ?_
    refine KV.then_n ?_
    refine KV.env [(0, _), (7, _)] ⟨rfl, rfl, trivial⟩ ?_
    refine CV.seq ?_
    -- region 6 slices.go:233
    refine CV.region ?_
    refine RV.op (OV.step gno (Step.move rfl) rfl ?_)
    refine RV.op (OV.step gno (Step.move rfl) rfl ?_)
    refine RV.op (OV.step gno (Step.lenSl Try.underlying67 rfl) rfl ?_)
    refine RV.op (OV.step gno (Step.move rfl) rfl ?_)
    refine RV.op (OV.step gno (Step.sliceLH Try.underlying67 I78 rfl rfl rfl (i + (l.length - (i + 1))) l.length rfl rfl (by omega) (by omega)) rfl ?_)
    refine RV.op (OV.clearTail0 (K := ptrK) 0 (i + (l.length - (i + 1))) Try.underlying67 I78 rfl (by simp [Value.cells, Value.oneCell']) rfl rfl (by simp only [List.length_append, List.length_take, List.length_drop]; omega) (by omega) gno ?_)
    refine RV.nil ?_
    refine KV.then_n ?_
    refine KV.env [(0, _)] ⟨rfl, trivial⟩ ?_
    refine CV.seq ?_
    -- region 7 slices.go:234
    refine CV.region ?_
    refine RV.op (OV.step gno (Step.move rfl) rfl ?_)
    refine RV.op (OV.step gno (Step.assign rfl) rfl ?_)
    refine RV.nil ?_
    refine KV.then_n ?_
    refine KV.env [(6, _)] ⟨rfl, trivial⟩ ?_
    refine CV.ret ?_
    -- return at r7
    refine KV.sel [0] [_] rfl ?_
    exact KV.ret1 rfl rfl _ (fun _ h => h) ⟨by rw [show i + (l.length - (i + 1)) = l.length - 1 by omega], rfl⟩

set_option maxRecDepth 100000 in
set_option maxHeartbeats 4000000 in
theorem unmap_fn (b : Nat) (s : BS) {w : World} (hk : s.ok) (z p0 q0 : Int) (hp0 : isU p0) : Fx Try.prog 36 [.pointer (some ⟨b, 0, none⟩), .int .i64 z, .agg #[.int .u64 p0, .int .u64 q0]] w (busL b s) no (fun r L => (∃ m i : Nat, (unmA s z p0 q0 m i) ∧ r = .int .i64 0 ∧ L = busL b (unmG s m i)) ∨ ((¬ ∃ m i : Nat, unmA s z p0 q0 m i) ∧ r = .int .i64 6 ∧ L = busL b s)) := by
  refine Sv.Fx.body Try.func36 rfl T36 rfl ?_
  intro I hro hI
  refine KV.env [(0, _), (1, _), (2, _)] ⟨rfl, rfl, rfl, trivial⟩ ?_
  have hw := hk.wf
  have hw3 := hw.sp
  refine CV.seq ?_
  -- region 0 iospace.go:90
  refine CV.region ?_
  refine RV.op (OV.box (t := 32) #[_, _] rfl rfl gno rfl (fun b0_0 => ?_))
  refine RV.op (OV.step gno (Step.assign rfl) rfl ?_)
  refine RV.nil ?_
  refine KV.then_n ?_
  refine KV.env [(0, _), (1, _), (5, _)] ⟨rfl, rfl, rfl, trivial⟩ ?_
  refine CV.seq ?_
  -- region 1 iospace.go:91
  refine CV.region ?_
  refine RV.op (OV.step gno (Step.move rfl) rfl ?_)
  refine RV.op (OV.step gno (Step.move rfl) rfl ?_)
  refine RV.op (OV.step gno (Step.fieldAddr rfl (F32_0 _ _)) rfl ?_)
  refine RV.op (OV.step gno (Step.load Try.underlying22 rfl rfl (fun w h => h.cell 4 rfl rfl)) rfl ?_)
  refine RV.op (OV.call [0, 0, 0, 0] (F := [_]) Try.func30 B30 N30 rfl rfl (fun w h => find_fn b s hk z p0) (fun _ hb => hb.elim) gno rfl (fun v L' hp => ?_))
  obtain ⟨rfl, rfl⟩ := hp
  refine RV.op (OV.step gno (Step.assign rfl) rfl ?_)
  refine RV.nil ?_
  refine KV.then_n ?_
  refine KV.env [(0, _), (1, _), (5, _), (7, _)] ⟨rfl, rfl, rfl, rfl, trivial⟩ ?_
  refine CV.seq ?_
  refine CV.seq ?_
  -- region 2 iospace.go:92
  refine CV.still (by kernel_rfl) (by kernel_rfl) (fun _ h => h.drew) ?_
  refine SV.step gno (Step.move rfl) rfl ?_
  refine SV.split gno (Step.eqlP Try.underlying78 rfl rfl) rfl (fun hq => ?_) (fun hq => ?_)
  · -- True
    refine SV.step gno (Step.move rfl) rfl ?_
    refine SV.skip rfl rfl ?_
    refine SV.skip rfl rfl ?_
    refine SV.skip rfl rfl ?_
    refine SV.skip rfl rfl ?_
    refine SV.skip rfl rfl ?_
    refine SV.skip rfl rfl ?_
    refine SV.step gno (Step.pick_t rfl rfl) rfl ?_
    refine SV.nil ?_
    refine KV.then_n ?_
    refine KV.env [(0, _), (1, _), (5, _), (23, _)] ⟨rfl, rfl, rfl, rfl, trivial⟩ ?_
    refine CV.cond_t rfl ?_
    refine CV.seq ?_
    -- region 3 iospace.go:93
    refine CV.region ?_
    refine RV.op (OV.step gno (Step.assign rfl) rfl ?_)
    refine RV.nil ?_
    refine KV.then_n ?_
    refine KV.env [(6, _)] ⟨rfl, trivial⟩ ?_
    refine CV.ret ?_
    refine KV.then_ret ?_
    -- return at r3
    refine KV.sel [1, 1, 1, 1] [_, _, _, _] rfl ?_
    refine KV.ret1 rfl rfl _ (fun _ h => h) (.inr ⟨?_, rfl, rfl⟩)
    first | exact unm_none hk hq | exact unm_ne hk he hne
  · -- False
    obtain ⟨m, i, rfl, hm, he, hi, hb1, hb2⟩ := fptr_cases hk hq
    rw [fptr_some he]
    have hmo := (hk.sp m hm).each i hi
    have hlm := hk.len hm
    refine SV.step gno (Step.move rfl) rfl ?_
    refine SV.step (gyes rfl) (Step.move rfl) rfl ?_
    refine SV.step (gyes rfl) (Step.nilCheck rfl) rfl ?_
    refine SV.step (gyes rfl) (Step.fieldAddr rfl (F77_0 _ _)) rfl ?_
    refine SV.step (gyes rfl) (Step.loadN _ Try.underlying32 rfl I32 rfl rfl (fun w h => ((show SpR w (s.sp m) from Hp.spr h (k := 2) rfl (m := m) (by omega)).2 i hi).rng)) rfl ?_
    refine SV.step (gyes rfl) (Step.loadN _ Try.underlying32 rfl I32 rfl rfl (fun w h => h.cells 0 rfl)) rfl ?_
    refine SV.split (gyes rfl) (Step.binR rfl rfl (EG32neq _ _ _ _) (EQ32neq _ _ _ _)) rfl (fun hne => ?_) (fun hne => ?_)
    · -- True
      refine SV.step gno (Step.pick_f rfl rfl) rfl ?_
      refine SV.nil ?_
      refine KV.then_n ?_
      refine KV.env [(0, _), (1, _), (5, _), (23, _)] ⟨rfl, rfl, rfl, rfl, trivial⟩ ?_
      refine CV.cond_t rfl ?_
      refine CV.seq ?_
      -- region 3 iospace.go:93
      refine CV.region ?_
      refine RV.op (OV.step gno (Step.assign rfl) rfl ?_)
      refine RV.nil ?_
      refine KV.then_n ?_
      refine KV.env [(6, _)] ⟨rfl, trivial⟩ ?_
      refine CV.ret ?_
      refine KV.then_ret ?_
      -- return at r3
      refine KV.sel [1, 1, 1, 1] [_, _, _, _] rfl ?_
      refine KV.ret1 rfl rfl _ (fun _ h => h) (.inr ⟨?_, rfl, rfl⟩)
      first | exact unm_none hk hq | exact unm_ne hk he hne
    · -- False
      refine SV.step gno (Step.pick_f rfl rfl) rfl ?_
      refine SV.nil ?_
      refine KV.then_n ?_
      refine KV.env [(0, _), (1, _), (5, _), (23, _)] ⟨rfl, rfl, rfl, rfl, trivial⟩ ?_
      refine CV.cond_f rfl ?_
      refine CV.skip ?_
      refine KV.then_n ?_
      refine KV.env [(0, _), (1, _), (5, _)] ⟨rfl, rfl, rfl, trivial⟩ ?_
      refine CV.seq ?_
      -- region 4 iospace.go:95
      refine CV.region ?_
      refine RV.op (OV.step gno (Step.move rfl) rfl ?_)
      refine RV.op (OV.step gno (Step.move rfl) rfl ?_)
      refine RV.op (OV.step gno (Step.fieldAddr rfl (F32_0 _ _)) rfl ?_)
      refine RV.op (OV.step gno (Step.load Try.underlying22 rfl rfl (fun w h => h.cell 0 rfl rfl)) rfl ?_)
      refine RV.op (OV.call [1, 1, 1, 1] (F := [_]) Try.func26 B26 N26 rfl rfl (fun w h => after_fn b s hk hm p0) (fun _ hb => hb.elim) gno rfl (fun v L' hp => ?_))
      obtain ⟨rfl, rfl⟩ := hp
      rw [aft_at (hk.sp m hm) hi hb1 hb2]
      refine RV.op (OV.step gno (Step.assign rfl) rfl ?_)
      refine RV.nil ?_
      refine KV.then_n ?_
      refine KV.env [(0, _), (1, _), (8, _)] ⟨rfl, rfl, rfl, trivial⟩ ?_
      -- join; live [0]
      refine CV.join (α := Unit) (fun _ => [(0, .pointer (some ⟨b, 0, none⟩))]) (fun _ => Hp I w (busL b { s with sps := s.sps.set m ⟨(s.sp m).A, (s.sp m).c, delL (s.sp m).hs i⟩ })) ?_ ?_
      · skip
        -- region 5 iospace.go:96
        refine KV.sel [1, 1, 1, 1, 0] [_, _, _, _, _] rfl ?_
        refine KV.heap (fun w h => openSp h (m := m) (by omega)) ?_
        refine CV.any (Hp I w [Blk b0_0 (.cells #[.int .u64 p0, .int .u64 q0] 32 (0, 0))]) (by kernel_rfl) (fun _ h => h.drew) 16 rfl ?_
        refine AV.take 0 #[true, false, false, false, false, false, false, false, false, false, false, false, false, false, false, false] rfl (by kernel_rfl) (by kernel_rfl) (by kernel_rfl) (fun _ _ _ h => h) gno (Step.move rfl) rfl (fun _ h => h.sel [6] rfl) (by kernel_rfl) ?_
        refine AV.take 1 #[true, true, false, false, false, false, false, false, false, false, false, false, false, false, false, false] rfl (by kernel_rfl) (by kernel_rfl) (by kernel_rfl) (fun _ _ _ h => h) gno (Step.move rfl) rfl (fun _ h => h.sel [6] rfl) (by kernel_rfl) ?_
        refine AV.take 2 #[true, true, true, false, false, false, false, false, false, false, false, false, false, false, false, false] rfl (by kernel_rfl) (by kernel_rfl) (by kernel_rfl) (fun _ _ _ h => h) gno (Step.move rfl) rfl (fun _ h => h.sel [6] rfl) (by kernel_rfl) ?_
        refine AV.take 3 #[true, true, true, true, false, false, false, false, false, false, false, false, false, false, false, false] rfl (by kernel_rfl) (by kernel_rfl) (by kernel_rfl) (fun _ _ _ h => h) gno (Step.move rfl) rfl (fun _ h => h.sel [6] rfl) (by kernel_rfl) ?_
        refine AV.take 4 #[true, true, true, true, true, false, false, false, false, false, false, false, false, false, false, false] rfl (by kernel_rfl) (by kernel_rfl) (by kernel_rfl) (fun _ _ _ h => h) gno (Step.nilCheck rfl) rfl (fun _ h => h.sel [6] rfl) (by kernel_rfl) ?_
        refine AV.take 5 #[true, true, true, true, true, true, false, false, false, false, false, false, false, false, false, false] rfl (by kernel_rfl) (by kernel_rfl) (by kernel_rfl) (fun _ _ _ h => h) gno (Step.fieldAddr rfl (F71_0 _ _)) rfl (fun _ h => h.sel [6] rfl) (by kernel_rfl) ?_
        refine AV.take 6 #[true, true, true, true, true, true, true, false, false, false, false, false, false, false, false, false] rfl (by kernel_rfl) (by kernel_rfl) (by kernel_rfl) (fun _ _ _ h => h) gno (Step.idxArr Try.underlying68 I67 rfl rfl _ rfl (by omega)) rfl (fun _ h => h.sel [6] rfl) (by kernel_rfl) ?_
        refine AV.take 8 #[true, true, true, true, true, true, true, false, true, false, false, false, false, false, false, false] rfl (by kernel_rfl) (by kernel_rfl) (by kernel_rfl) (fun _ _ _ h => h) gno (Step.move rfl) rfl (fun _ h => h.sel [6] rfl) (by kernel_rfl) ?_
        refine AV.take 9 #[true, true, true, true, true, true, true, false, true, true, false, false, false, false, false, false] rfl (by kernel_rfl) (by kernel_rfl) (by kernel_rfl) (fun _ _ _ h => h) gno (Step.move rfl) rfl (fun _ h => h.sel [6] rfl) (by kernel_rfl) ?_
        (first | refine AV.take 10 #[true, true, true, true, true, true, true, false, true, true, true, false, false, false, false, false] rfl (by kernel_rfl) (by kernel_rfl) (by kernel_rfl) (fun _ _ _ h => h) gno (Step.add rfl rfl (wI64 (by omega) (by omega))) rfl (fun _ h => h.sel [6] rfl) (by kernel_rfl) ?_ | refine AV.take 10 #[true, true, true, true, true, true, true, false, true, true, true, false, false, false, false, false] rfl (by kernel_rfl) (by kernel_rfl) (by kernel_rfl) (fun _ _ _ h => h) gno (Step.add rfl rfl rfl) rfl (fun _ h => h.sel [6] rfl) (by kernel_rfl) ?_)
        refine AV.take 12 #[true, true, true, true, true, true, true, false, true, true, true, false, true, false, false, false] rfl (by kernel_rfl) (by kernel_rfl) (by kernel_rfl) (fun _ _ _ h => h) gno (Step.nilCheck rfl) rfl (fun _ h => h.sel [6] rfl) (by kernel_rfl) ?_
        refine AV.take 13 #[true, true, true, true, true, true, true, false, true, true, true, false, true, true, false, false] rfl (by kernel_rfl) (by kernel_rfl) (by kernel_rfl) (fun _ _ _ h => h) gno (Step.fieldAddr rfl (F71_0 _ _)) rfl (fun _ h => h.sel [6] rfl) (by kernel_rfl) ?_
        refine AV.all [7] (by kernel_rfl) (by decide) ?_
        refine ⟨⟨_, rfl, ?_⟩, trivial⟩
        · -- 7 comes up
          refine OV.step gno (Step.load Try.underlying67 rfl rfl (fun w h => h.cell 0 rfl (busC_sp hw hm))) rfl ?_
          refine AV.next #[true, true, true, true, true, true, true, true, true, true, true, false, true, true, false, false] (by kernel_rfl) (fun _ h => h.sel [6] rfl) ?_
          refine AV.all [11] (by kernel_rfl) (by decide) ?_
          refine ⟨⟨_, rfl, ?_⟩, trivial⟩
          · -- 11 comes up
            refine OV.call [1] (F := [_, _, _, _, _, _]) Try.func55 B55 N55 rfl rfl (fun w h => deleteP_fn (l := (s.sp m).hs.map fun h => some h.p) (i := i) (List.length_map _).symm (by rw [List.length_map]; exact hi) (by rw [List.length_map]; omega)) (fun _ hb => hb.elim) gno rfl (fun v L' hp => ?_)
            obtain ⟨rfl, rfl⟩ := hp
            rw [List.length_map, show (s.sp m).hs.length - 1 = (delL (s.sp m).hs i).length from (delL_length hi).symm]
            refine AV.next #[true, true, true, true, true, true, true, true, true, true, true, true, true, true, false, false] (by kernel_rfl) (fun _ h => h.sel [5] rfl) ?_
            refine AV.take 14 #[true, true, true, true, true, true, true, true, true, true, true, true, true, true, true, false] rfl (by kernel_rfl) (by kernel_rfl) (by kernel_rfl) (fun _ _ _ h => h) gno (Step.idxArr Try.underlying68 I67 rfl rfl _ rfl (by omega)) rfl (fun _ h => h.sel [5] rfl) (by kernel_rfl) ?_
            refine AV.all [15] (by kernel_rfl) (by decide) ?_
            refine ⟨⟨_, rfl, ?_⟩, trivial⟩
            · -- 15 comes up
              refine OV.store 0 [_] (busC { s with sps := s.sps.set m ⟨(s.sp m).A, (s.sp m).c, delL (s.sp m).hs i⟩ }).toArray I67 rfl rfl rfl rfl rfl (by show _ + 1 ≤ (busC _).toArray.size; rw [List.size_toArray, busC_len hw]; omega) (by simp [Value.oneCell']) (set_of hw (by omega) (set_sp hw hm ⟨(s.sp m).A, (s.sp m).c, delL (s.sp m).hs i⟩)) gno ?_
              refine AV.next #[true, true, true, true, true, true, true, true, true, true, true, true, true, true, true, true] (by kernel_rfl) (fun _ h => h.sel [5] rfl) ?_
              refine AV.done (by kernel_rfl) ?_
              refine KV.then_n ?_
              refine KV.env [(0, _)] ⟨rfl, trivial⟩ ?_
              refine KV.sel [0, 5, 0, 0, 0, 0] [_, _, _, _, _, _] rfl ?_
              exact KV.join () ⟨rfl, trivial⟩ (fun _ h => delClose hw3 hm hi h)
      · intro _
        have hw1 : BS.wf ({ s with sps := s.sps.set m ⟨(s.sp m).A, (s.sp m).c, delL (s.sp m).hs i⟩ } : BS) := ⟨by show (s.sps.set m _).length = 3; rw [List.length_set]; exact hw3, hw.en⟩
        refine CV.seq ?_
        -- region 6 iospace.go:97
        refine CV.region ?_
        refine RV.op (OV.step gno (Step.move rfl) rfl ?_)
        refine RV.op (OV.step gno (Step.nilCheck rfl) rfl ?_)
        refine RV.op (OV.step gno (Step.fieldAddr rfl (F71_1 _ _)) rfl ?_)
        refine RV.op (OV.step gno (Step.load Try.underlying3 rfl rfl (fun w h => h.cell 0 rfl (busC_tot hw1))) rfl ?_)
        refine RV.op (OV.step gno (Step.sub rfl rfl (wI64 (by have := hk.tot; have := hk.max; show _ ≤ s.total - 1; omega) (by have := hk.tot; have := hk.max; show s.total - 1 ≤ _; omega))) rfl ?_)
        refine RV.op (OV.step gno (Step.nilCheck rfl) rfl ?_)
        refine RV.op (OV.step gno (Step.fieldAddr rfl (F71_1 _ _)) rfl ?_)
        refine RV.op (OV.store 0 [_] (busC (unmG s m i)).toArray I3 rfl rfl rfl rfl rfl (by show _ + 1 ≤ (busC _).toArray.size; rw [List.size_toArray, busC_len hw1]; omega) (by simp [Value.oneCell']) (set_of hw1 (by omega) (set_tot hw1 _)) gno ?_)
        refine RV.nil ?_
        refine KV.then_n ?_
        refine KV.env [] trivial ?_
        refine CV.seq ?_
        -- region 7 iospace.go:98
        refine CV.region ?_
        refine RV.op (OV.step gno (Step.assign rfl) rfl ?_)
        refine RV.nil ?_
        refine KV.then_n ?_
        refine KV.env [(6, _)] ⟨rfl, trivial⟩ ?_
        refine CV.ret ?_
        -- return at r7
        refine KV.sel [0, 0, 0, 0] [_, _, _, _] rfl ?_
        refine KV.ret1 rfl rfl _ (fun _ h => h) (.inl ⟨m, i, ⟨rfl, hm, hi, ?_⟩, rfl, rfl⟩)
        exact Decidable.not_not.1 hne

set_option maxRecDepth 100000 in
set_option maxHeartbeats 4000000 in
theorem poke_fn (b : Nat) (s : BS) {w : World} (hk : s.ok) (z x v : Int) (hx : isU x) (hv : 0 ≤ v ∧ v ≤ 255) : Fx Try.prog 40 [.pointer (some ⟨b, 0, none⟩), .int .i64 z, .int .u64 x, .int .u8 v] w (busL b s) no (fun r L => (fnd s z x = none ∧ r = .bool false ∧ L = busL b s) ∨ (∃ (m i : Nat) (A : Option Addr) (c : Nat), z = (m : Int) ∧ m < 3 ∧ fnd s z x = some i ∧ i < (s.sp m).hs.length ∧ A ≠ none ∧ r = .bool true ∧ L = busL b (setM s m i { (mh (s.sp m).hs i) with A := A, c := c, bs := wrK (raw0 (mh (s.sp m).hs i)) (x - (mh (s.sp m).hs i).base).toNat v 1 }))) := by
  refine Sv.Fx.body Try.func40 rfl T40 rfl ?_
  intro I hro hI
  refine KV.env [(0, _), (1, _), (2, _), (3, _)] ⟨rfl, rfl, rfl, rfl, trivial⟩ ?_
  have hw := hk.wf
  have hw3 := hw.sp
  refine CV.seq ?_
  -- region 0 iospace.go:239
  refine CV.region ?_
  refine RV.op (OV.step gno (Step.assign rfl) rfl ?_)
  refine RV.nil ?_
  refine KV.then_n ?_
  refine KV.env [(0, _), (1, _), (2, _), (3, _)] ⟨rfl, rfl, rfl, rfl, trivial⟩ ?_
  refine CV.seq ?_
  -- region 1 iospace.go:240
  refine CV.region ?_
  refine RV.op (OV.step gno (Step.move rfl) rfl ?_)
  refine RV.op (OV.step gno (Step.move rfl) rfl ?_)
  refine RV.op (OV.step gno (Step.move rfl) rfl ?_)
  refine RV.op (OV.call [0, 0, 0, 0] (F := []) Try.func30 B30 N30 rfl rfl (fun w h => find_fn b s hk z x) (fun _ hb => hb.elim) gno rfl (fun v L' hp => ?_))
  obtain ⟨rfl, rfl⟩ := hp
  refine RV.op (OV.step gno (Step.assign rfl) rfl ?_)
  refine RV.nil ?_
  refine KV.then_n ?_
  refine KV.env [(2, _), (3, _), (9, _)] ⟨rfl, rfl, rfl, trivial⟩ ?_
  refine CV.seq ?_
  refine CV.seq ?_
  -- region 2 iospace.go:241
  refine CV.region ?_
  refine RV.op (OV.step gno (Step.move rfl) rfl ?_)
  refine RV.op (OV.split gno (Step.eqlP Try.underlying78 rfl rfl) rfl (fun hq => ?_) (fun hq => ?_))
  · -- True
    refine RV.nil ?_
    refine KV.then_n ?_
    refine KV.env [(2, _), (3, _), (9, _), (15, _)] ⟨rfl, rfl, rfl, rfl, trivial⟩ ?_
    refine CV.cond_t rfl ?_
    refine CV.seq ?_
    -- region 3 iospace.go:242
    refine CV.region ?_
    refine RV.op (OV.step gno (Step.assign rfl) rfl ?_)
    refine RV.nil ?_
    refine KV.then_n ?_
    refine KV.env [(8, _)] ⟨rfl, trivial⟩ ?_
    refine CV.ret ?_
    refine KV.then_ret ?_
    -- return at r3
    refine KV.sel [0, 0, 0, 0] [_, _, _, _] rfl ?_
    exact KV.ret1 rfl rfl _ (fun _ h => h) (.inl ⟨fptr_no hq, rfl, rfl⟩)
  · -- False
    obtain ⟨m, i, rfl, hm, he, hi, hb1, hb2⟩ := fptr_cases hk hq
    rw [fptr_some he]
    have hmo := (hk.sp m hm).each i hi
    refine RV.nil ?_
    refine KV.then_n ?_
    refine KV.env [(2, _), (3, _), (9, _), (15, _)] ⟨rfl, rfl, rfl, rfl, trivial⟩ ?_
    refine CV.cond_f rfl ?_
    refine CV.skip ?_
    refine KV.then_n ?_
    refine KV.env [(2, _), (3, _), (9, _)] ⟨rfl, rfl, rfl, trivial⟩ ?_
    refine CV.seq ?_
    -- region 4 iospace.go:244
    refine KV.sel [0, 0, 0, 0] [_, _, _, _] rfl ?_
    refine KV.heap (fun w h => openM h (m := m) (i := i) (by show m < s.sps.length; omega) rfl hi rfl) ?_
    refine CV.region ?_
    refine RV.op (OV.step gno (Step.move rfl) rfl ?_)
    refine RV.op (OV.step gno (Step.move rfl) rfl ?_)
    refine RV.op (OV.step gno (Step.move rfl) rfl ?_)
    (first | refine RV.op (OV.step gno (Step.convI Try.underlying5 Try.underlying22 rfl (wU64 (by omega) (by omega))) rfl ?_) | refine RV.op (OV.step gno (Step.convI Try.underlying5 Try.underlying22 rfl rfl) rfl ?_))
    refine RV.op (OV.call [0, 0] (F := [_, _, _, _, _, _]) Try.func33 B33 N33 rfl rfl (fun w h => write_fn (h0 := (mh (s.sp m).hs i)) (n := 1) hmo rfl hb1 (by have : x ≤ (mh (s.sp m).hs i).base + ((mh (s.sp m).hs i).len - 1) := hb2; omega) (by unfold isU at hx; omega) (by omega) (show isU v by unfold isU; omega)) (fun _ hb => hb.elim) gno rfl (fun v L' hp => ?_))
    obtain ⟨rfl, A2, c2, hA2, rfl⟩ := hp
    refine KV.sel [6, 6, 0, 0, 0, 0, 0, 0] [_, _, _, _, _, _, _, _] rfl ?_
    refine KV.heap (fun w h => closeM (m := m) (i := i) (q := s.sp m) (h0 := (mh (s.sp m).hs i)) (h' := { (mh (s.sp m).hs i) with A := A2, c := c2, bs := wrK (raw0 (mh (s.sp m).hs i)) (x - (mh (s.sp m).hs i).base).toNat v 1 }) h (by show m < s.sps.length; omega) hi rfl) ?_
    refine RV.nil ?_
    refine KV.then_n ?_
    refine KV.env [] trivial ?_
    refine CV.seq ?_
    -- region 5 iospace.go:245
    refine CV.region ?_
    refine RV.op (OV.step gno (Step.assign rfl) rfl ?_)
    refine RV.nil ?_
    refine KV.then_n ?_
    refine KV.env [(8, _)] ⟨rfl, trivial⟩ ?_
    refine CV.ret ?_
    -- return at r5
    refine KV.sel [0, 0, 0, 0] [_, _, _, _] rfl ?_
    exact KV.ret1 rfl rfl _ (fun _ h => h) (.inr ⟨m, i, A2, c2, rfl, hm, he, hi, hA2, rfl, (busL_setM b s i _ (by omega)).symm⟩)
end Go.Proofs.Ythdpojggdodpfaa
