/-
  Walks, part 19.
-/
import Derived.Test.YthdpojggdodpfaaTabs
import Derived.Test.YthdpojggdodpfaaW18
set_option linter.unusedSimpArgs false
set_option linter.unusedVariables false
namespace Go.Proofs.Ythdpojggdodpfaa
open Go.Sv Go.Ios
set_option maxRecDepth 100000 in
set_option maxHeartbeats 4000000 in
theorem runmap_fn (b : Nat) (s : RB) {w : World} (hk : s.ok) (z p0 q0 : Int) (hp0 : isU p0) : Fx Try.prog 37 [.pointer (some ⟨b, 0, none⟩), .int .i64 z, .agg #[.int .u64 p0, .int .u64 q0]] w (rbL b s) no (fun r L => (∃ j : Nat, j < s.ms.length ∧ ((s.ms.getD j rhK.d).sp = z ∧ (s.ms.getD j rhK.d).base = p0 ∧ (s.ms.getD j rhK.d).len = q0) ∧ r = .int .i64 0 ∧ ∃ A c, L = rbL b (rdel s j A c)) ∨ ((∀ k, k < s.ms.length → ¬ ((s.ms.getD k rhK.d).sp = z ∧ (s.ms.getD k rhK.d).base = p0 ∧ (s.ms.getD k rhK.d).len = q0)) ∧ r = .int .i64 6 ∧ L = rbL b s)) := by
  refine Sv.Fx.body Try.func37 rfl T37 rfl ?_
  intro I hro hI
  refine KV.env [(0, _), (1, _), (2, _)] ⟨rfl, rfl, rfl, trivial⟩ ?_
  have hw := hk.en
  have hmx := hk.max
  have hfx := hk.fl
  refine KV.have (fun w h => h.osCap 1 rfl) (fun hcap => ?_)
  refine CV.seq ?_
  -- region 0 iospace.go:61
  refine CV.region ?_
  refine RV.op (OV.box (t := 32) #[_, _] rfl rfl gno rfl (fun b0_0 => ?_))
  refine RV.op (OV.step gno (Step.assign rfl) rfl ?_)
  refine RV.nil ?_
  refine KV.then_n ?_
  refine KV.env [(0, _), (1, _), (5, _)] ⟨rfl, rfl, rfl, trivial⟩ ?_
  refine CV.seq ?_
  refine CV.seq ?_
  -- region 1 iospace.go:62
  refine CV.region ?_
  refine RV.op (OV.step gno (Step.assign rfl) rfl ?_)
  refine RV.nil ?_
  refine KV.then_n ?_
  refine KV.env [(0, _), (1, _), (5, _), (7, _)] ⟨rfl, rfl, rfl, rfl, trivial⟩ ?_
  refine CV.block ?_
  -- loop L2; live [0, 1, 5, 7]
  refine KV.sel [0, 0, 0, 0, 0, 0] [_, _, _, _, _, _] rfl ?_
  refine CV.loopI (fun (j : Nat) => j ≤ s.ms.length ∧ ∀ k, k < j → ¬ ((s.ms.getD k rhK.d).sp = z ∧ (s.ms.getD k rhK.d).base = p0 ∧ (s.ms.getD k rhK.d).len = q0)) (fun (j : Nat) => s.ms.length - j) (fun (j : Nat) => [(0, .pointer (some ⟨b, 0, none⟩)), (1, .int .i64 z), (5, .pointer (some ⟨b0_0, 0, none⟩)), (7, .int .i64 j)]) (fun (j : Nat) => Hp I w (rbL b s ++ [Blk b0_0 (.cells #[.int .u64 p0, .int .u64 q0] 32 (0, 0))])) (0) ⟨Nat.zero_le _, fun i hi => by omega⟩ ⟨rfl, rfl, rfl, rfl, trivial⟩ (fun _ h => h) ?_
  intro j hinv
  refine CV.seq ?_
  refine CV.seq ?_
  -- region 2 iospace.go:62
  refine CV.region ?_
  refine RV.op (OV.step gno (Step.move rfl) rfl ?_)
  refine RV.op (OV.step gno (Step.move rfl) rfl ?_)
  refine RV.op (OV.step gno (Step.nilCheck rfl) rfl ?_)
  refine RV.op (OV.step gno (Step.fieldAddr rfl (F56_0 _ _)) rfl ?_)
  refine RV.op (OV.step gno (Step.load Try.underlying51 rfl rfl (fun w h => h.cell 0 rfl (rbC_m hw))) rfl ?_)
  refine RV.op (OV.step gno (Step.lenSl Try.underlying51 rfl) rfl ?_)
  refine RV.op (OV.split gno (Step.lss rfl rfl) rfl (fun hj => ?_) (fun hj => ?_))
  · -- True
    refine RV.nil ?_
    refine KV.then_n ?_
    refine KV.env [(0, _), (1, _), (5, _), (7, _), (14, _)] ⟨rfl, rfl, rfl, rfl, rfl, trivial⟩ ?_
    refine CV.cond_t rfl ?_
    refine CV.skip ?_
    refine KV.then_n ?_
    refine KV.env [(0, _), (1, _), (5, _), (7, _)] ⟨rfl, rfl, rfl, rfl, trivial⟩ ?_
    refine CV.seq ?_
    refine CV.block ?_
    refine CV.seq ?_
    -- region 4 iospace.go:63
    refine CV.still (by kernel_rfl) (by kernel_rfl) (fun _ h => h.drew) ?_
    refine SV.step gno (Step.move rfl) rfl ?_
    refine SV.step gno (Step.nilCheck rfl) rfl ?_
    refine SV.step gno (Step.fieldAddr rfl (F56_0 _ _)) rfl ?_
    refine SV.step gno (Step.load Try.underlying51 rfl rfl (fun w h => h.cell 0 rfl (rbC_m hw))) rfl ?_
    refine SV.step gno (Step.move rfl) rfl ?_
    refine SV.step gno (Step.idx Try.underlying51 I94 (fun w h => h.os 1 rfl) rfl rfl (rfl) _ rfl (by omega)) rfl ?_
    refine SV.step gno (Step.fieldAddr rfl (F94_0 _ _)) rfl ?_
    refine SV.step gno (Step.load Try.underlying3 rfl rfl (fun w h => (h.os 1 rfl).cell0 (by omega) rfl)) rfl ?_
    refine SV.step gno (Step.move rfl) rfl ?_
    refine SV.split gno (Step.eql rfl rfl) rfl (fun e1 => ?_) (fun e1 => ?_)
    · -- True
      refine SV.step gno (Step.move rfl) rfl ?_
      refine SV.step (gyes rfl) (Step.move rfl) rfl ?_
      refine SV.step (gyes rfl) (Step.nilCheck rfl) rfl ?_
      refine SV.step (gyes rfl) (Step.fieldAddr rfl (F56_0 _ _)) rfl ?_
      refine SV.step (gyes rfl) (Step.load Try.underlying51 rfl rfl (fun w h => h.cell 0 rfl (rbC_m hw))) rfl ?_
      refine SV.step (gyes rfl) (Step.move rfl) rfl ?_
      refine SV.step (gyes rfl) (Step.idx Try.underlying51 I94 (fun w h => h.os 1 rfl) rfl rfl (rfl) _ rfl (by omega)) rfl ?_
      refine SV.step (gyes rfl) (Step.fieldAddr rfl (F94_1 _ _)) rfl ?_
      refine SV.step (gyes rfl) (Step.loadN _ Try.underlying32 rfl I32 rfl rfl (fun w h => rngR (h.os 1 rfl) (i := j) (by omega))) rfl ?_
      refine SV.step (gyes rfl) (Step.loadN _ Try.underlying32 rfl I32 rfl rfl (fun w h => h.cells 5 rfl)) rfl ?_
      refine SV.split (gyes rfl) (Step.binR rfl rfl (EG32eql _ _ _ _) (EQ32eql _ _ _ _)) rfl (fun e2 => ?_) (fun e2 => ?_)
      · -- True
        refine SV.step gno (Step.pick_t rfl rfl) rfl ?_
        refine SV.nil ?_
        refine KV.then_n ?_
        refine KV.env [(0, _), (1, _), (5, _), (7, _), (38, _)] ⟨rfl, rfl, rfl, rfl, rfl, trivial⟩ ?_
        refine CV.cond_t rfl ?_
        -- join; live []
        refine CV.join2 (fun (A2 : Option Addr) (c2 : Nat) => []) (fun (A2 : Option Addr) (c2 : Nat) => Hp I w (rbL b (rdel s j A2 c2))) ?_ ?_
        · skip
          -- region 5 iospace.go:64
          refine KV.sel [0, 0, 0, 0, 0] [_, _, _, _, _] rfl ?_
          refine KV.heap (fun w h => h.nilOS (e := 94) (K := rhK)) ?_
          refine CV.any (Hp I w [OS 94 rhK s.mA s.mc s.ms]) (by kernel_rfl) (fun _ h => h.drew) 19 rfl ?_
          refine AV.take 0 #[true, false, false, false, false, false, false, false, false, false, false, false, false, false, false, false, false, false, false] rfl (by kernel_rfl) (by kernel_rfl) (by kernel_rfl) (fun _ _ _ h => h) gno (Step.move rfl) rfl (fun _ h => h.sel [1] rfl) (by kernel_rfl) ?_
          refine AV.take 1 #[true, true, false, false, false, false, false, false, false, false, false, false, false, false, false, false, false, false, false] rfl (by kernel_rfl) (by kernel_rfl) (by kernel_rfl) (fun _ _ _ h => h) gno (Step.move rfl) rfl (fun _ h => h.sel [1] rfl) (by kernel_rfl) ?_
          refine AV.take 2 #[true, true, true, false, false, false, false, false, false, false, false, false, false, false, false, false, false, false, false] rfl (by kernel_rfl) (by kernel_rfl) (by kernel_rfl) (fun _ _ _ h => h) gno (Step.nilCheck rfl) rfl (fun _ h => h.sel [1] rfl) (by kernel_rfl) ?_
          refine AV.take 3 #[true, true, true, true, false, false, false, false, false, false, false, false, false, false, false, false, false, false, false] rfl (by kernel_rfl) (by kernel_rfl) (by kernel_rfl) (fun _ _ _ h => h) gno (Step.fieldAddr rfl (F56_0 _ _)) rfl (fun _ h => h.sel [1] rfl) (by kernel_rfl) ?_
          refine AV.take 5 #[true, true, true, true, false, true, false, false, false, false, false, false, false, false, false, false, false, false, false] rfl (by kernel_rfl) (by kernel_rfl) (by kernel_rfl) (fun _ _ _ h => h) gno (Step.move rfl) rfl (fun _ h => h.sel [1] rfl) (by kernel_rfl) ?_
          refine AV.take 8 #[true, true, true, true, false, true, false, false, true, false, false, false, false, false, false, false, false, false, false] rfl (by kernel_rfl) (by kernel_rfl) (by kernel_rfl) (fun _ _ _ h => h) gno (Step.move rfl) rfl (fun _ h => h.sel [1] rfl) (by kernel_rfl) ?_
          refine AV.take 9 #[true, true, true, true, false, true, false, false, true, true, false, false, false, false, false, false, false, false, false] rfl (by kernel_rfl) (by kernel_rfl) (by kernel_rfl) (fun _ _ _ h => h) gno (Step.nilCheck rfl) rfl (fun _ h => h.sel [1] rfl) (by kernel_rfl) ?_
          refine AV.take 10 #[true, true, true, true, false, true, false, false, true, true, true, false, false, false, false, false, false, false, false] rfl (by kernel_rfl) (by kernel_rfl) (by kernel_rfl) (fun _ _ _ h => h) gno (Step.fieldAddr rfl (F56_0 _ _)) rfl (fun _ h => h.sel [1] rfl) (by kernel_rfl) ?_
          refine AV.take 12 #[true, true, true, true, false, true, false, false, true, true, true, false, true, false, false, false, false, false, false] rfl (by kernel_rfl) (by kernel_rfl) (by kernel_rfl) (fun _ _ _ h => h) gno (Step.move rfl) rfl (fun _ h => h.sel [1] rfl) (by kernel_rfl) ?_
          (first | refine AV.take 13 #[true, true, true, true, false, true, false, false, true, true, true, false, true, true, false, false, false, false, false] rfl (by kernel_rfl) (by kernel_rfl) (by kernel_rfl) (fun _ _ _ h => h) gno (Step.add rfl rfl (wI64 (by omega) (by omega))) rfl (fun _ h => h.sel [1] rfl) (by kernel_rfl) ?_ | refine AV.take 13 #[true, true, true, true, false, true, false, false, true, true, true, false, true, true, false, false, false, false, false] rfl (by kernel_rfl) (by kernel_rfl) (by kernel_rfl) (fun _ _ _ h => h) gno (Step.add rfl rfl rfl) rfl (fun _ h => h.sel [1] rfl) (by kernel_rfl) ?_)
          refine AV.all [4, 11] (by kernel_rfl) (by decide) ?_
          refine ⟨⟨_, rfl, ?_⟩, ⟨⟨_, rfl, ?_⟩, trivial⟩⟩
          · -- 4 comes up
            refine OV.step gno (Step.load Try.underlying51 rfl rfl (fun w h => h.cell 0 rfl (rbC_m hw))) rfl ?_
            refine AV.next #[true, true, true, true, true, true, false, false, true, true, true, false, true, true, false, false, false, false, false] (by kernel_rfl) (fun _ h => h.sel [1] rfl) ?_
            refine AV.take 6 #[true, true, true, true, true, true, true, false, true, true, true, false, true, true, false, false, false, false, false] rfl (by kernel_rfl) (by kernel_rfl) (by kernel_rfl) (fun _ _ _ h => h) gno (Step.sliceHi Try.underlying51 I94 rfl rfl (j) (rfl) (by omega)) rfl (fun _ h => h.sel [1] rfl) (by kernel_rfl) ?_
            refine AV.all [7, 11] (by kernel_rfl) (by decide) ?_
            refine ⟨⟨_, rfl, ?_⟩, ⟨⟨_, rfl, ?_⟩, trivial⟩⟩
            · -- 7 comes up
              refine OV.append (K := rhK) 5 (zs := s.ms.take j) Try.underlying51 I94 rfl rfl rfl rfl (by rw [List.length_take]; omega) rfl (fun w h => (h.os 1 rfl).take j) (by simp only [List.length_nil, List.length_take, List.length_drop, List.length_append]; omega) (by simp only [List.length_nil, List.length_take, List.length_drop, List.length_append]; omega) gno rfl (fun A1 c1 => ?_)
              refine AV.next #[true, true, true, true, true, true, true, true, true, true, true, false, true, true, false, false, false, false, false] (by kernel_rfl) (fun _ h => h.sel [1] rfl) ?_
              refine AV.all [11] (by kernel_rfl) (by decide) ?_
              refine ⟨⟨_, rfl, ?_⟩, trivial⟩
              · -- 11 comes up
                refine OV.step gno (Step.load Try.underlying51 rfl rfl (fun w h => h.cell 0 rfl (rbC_m hw))) rfl ?_
                refine AV.next #[true, true, true, true, true, true, true, true, true, true, true, true, true, true, false, false, false, false, false] (by kernel_rfl) (fun _ h => h.sel [1] rfl) ?_
                refine AV.take 14 #[true, true, true, true, true, true, true, true, true, true, true, true, true, true, true, false, false, false, false] rfl (by kernel_rfl) (by kernel_rfl) (by kernel_rfl) (fun _ _ _ h => h) gno (Step.sliceLo Try.underlying51 I94 rfl rfl (j + 1) ((by omega)) (by omega)) rfl (fun _ h => h.sel [1] rfl) (by kernel_rfl) ?_
                refine AV.all [15] (by kernel_rfl) (by decide) ?_
                refine ⟨⟨_, rfl, ?_⟩, trivial⟩
                · -- 15 comes up
                  refine OV.append (K := rhK) 5 (zs := s.ms.drop (j + 1)) Try.underlying51 I94 rfl rfl rfl rfl (by rw [List.length_drop]) rfl (fun w h => (h.os 1 rfl).drop (j + 1) (c := s.mc) hcap.1) (by simp only [List.length_nil, List.length_take, List.length_drop, List.length_append]; omega) (by simp only [List.length_nil, List.length_take, List.length_drop, List.length_append]; omega) gno rfl (fun A2 c2 => ?_)
                  refine AV.next #[true, true, true, true, true, true, true, true, true, true, true, true, true, true, true, true, false, false, false] (by kernel_rfl) (fun _ h => h.sel [1] rfl) ?_
                  refine AV.take 16 #[true, true, true, true, true, true, true, true, true, true, true, true, true, true, true, true, true, false, false] rfl (by kernel_rfl) (by kernel_rfl) (by kernel_rfl) (fun _ _ _ h => h) gno (Step.nilCheck rfl) rfl (fun _ h => h.sel [1] rfl) (by kernel_rfl) ?_
                  refine AV.take 17 #[true, true, true, true, true, true, true, true, true, true, true, true, true, true, true, true, true, true, false] rfl (by kernel_rfl) (by kernel_rfl) (by kernel_rfl) (fun _ _ _ h => h) gno (Step.fieldAddr rfl (F56_0 _ _)) rfl (fun _ h => h.sel [1] rfl) (by kernel_rfl) ?_
                  refine AV.all [18] (by kernel_rfl) (by decide) ?_
                  refine ⟨⟨_, rfl, ?_⟩, trivial⟩
                  · -- 18 comes up
                    refine OV.store 0 [_] (rbC (rdel s j A2 c2)).toArray I51 rfl rfl rfl rfl rfl (by show _ + 1 ≤ (rbC _).toArray.size; rw [List.size_toArray, rbC_len hw]; omega) (by simp [Value.oneCell']) (rset_of hw (by omega) (rset_m hw A2 c2 (delL s.ms j))) gno ?_
                    refine AV.next #[true, true, true, true, true, true, true, true, true, true, true, true, true, true, true, true, true, true, true] (by kernel_rfl) (fun _ h => h.sel [1] rfl) ?_
                    refine AV.done (by kernel_rfl) ?_
                    refine KV.then_n ?_
                    refine KV.env [] trivial ?_
                    refine KV.sel [0, 4, 1, 1, 1] [_, _, _, _, _] rfl ?_
                    exact KV.join2 (A2) (c2) trivial (fun _ h => delR h (by omega))
            · -- 11 comes up
              refine OV.step gno (Step.load Try.underlying51 rfl rfl (fun w h => h.cell 0 rfl (rbC_m hw))) rfl ?_
              refine AV.next #[true, true, true, true, true, true, true, false, true, true, true, true, true, true, false, false, false, false, false] (by kernel_rfl) (fun _ h => h.sel [1] rfl) ?_
              refine AV.take 14 #[true, true, true, true, true, true, true, false, true, true, true, true, true, true, true, false, false, false, false] rfl (by kernel_rfl) (by kernel_rfl) (by kernel_rfl) (fun _ _ _ h => h) gno (Step.sliceLo Try.underlying51 I94 rfl rfl (j + 1) ((by omega)) (by omega)) rfl (fun _ h => h.sel [1] rfl) (by kernel_rfl) ?_
              refine AV.all [7] (by kernel_rfl) (by decide) ?_
              refine ⟨⟨_, rfl, ?_⟩, trivial⟩
              · -- 7 comes up
                refine OV.append (K := rhK) 5 (zs := s.ms.take j) Try.underlying51 I94 rfl rfl rfl rfl (by rw [List.length_take]; omega) rfl (fun w h => (h.os 1 rfl).take j) (by simp only [List.length_nil, List.length_take, List.length_drop, List.length_append]; omega) (by simp only [List.length_nil, List.length_take, List.length_drop, List.length_append]; omega) gno rfl (fun A1 c1 => ?_)
                refine AV.next #[true, true, true, true, true, true, true, true, true, true, true, true, true, true, true, false, false, false, false] (by kernel_rfl) (fun _ h => h.sel [1] rfl) ?_
                refine AV.all [15] (by kernel_rfl) (by decide) ?_
                refine ⟨⟨_, rfl, ?_⟩, trivial⟩
                · -- 15 comes up
                  refine OV.append (K := rhK) 5 (zs := s.ms.drop (j + 1)) Try.underlying51 I94 rfl rfl rfl rfl (by rw [List.length_drop]) rfl (fun w h => (h.os 1 rfl).drop (j + 1) (c := s.mc) hcap.1) (by simp only [List.length_nil, List.length_take, List.length_drop, List.length_append]; omega) (by simp only [List.length_nil, List.length_take, List.length_drop, List.length_append]; omega) gno rfl (fun A2 c2 => ?_)
                  refine AV.next #[true, true, true, true, true, true, true, true, true, true, true, true, true, true, true, true, false, false, false] (by kernel_rfl) (fun _ h => h.sel [1] rfl) ?_
                  refine AV.take 16 #[true, true, true, true, true, true, true, true, true, true, true, true, true, true, true, true, true, false, false] rfl (by kernel_rfl) (by kernel_rfl) (by kernel_rfl) (fun _ _ _ h => h) gno (Step.nilCheck rfl) rfl (fun _ h => h.sel [1] rfl) (by kernel_rfl) ?_
                  refine AV.take 17 #[true, true, true, true, true, true, true, true, true, true, true, true, true, true, true, true, true, true, false] rfl (by kernel_rfl) (by kernel_rfl) (by kernel_rfl) (fun _ _ _ h => h) gno (Step.fieldAddr rfl (F56_0 _ _)) rfl (fun _ h => h.sel [1] rfl) (by kernel_rfl) ?_
                  refine AV.all [18] (by kernel_rfl) (by decide) ?_
                  refine ⟨⟨_, rfl, ?_⟩, trivial⟩
                  · -- 18 comes up
                    refine OV.store 0 [_] (rbC (rdel s j A2 c2)).toArray I51 rfl rfl rfl rfl rfl (by show _ + 1 ≤ (rbC _).toArray.size; rw [List.size_toArray, rbC_len hw]; omega) (by simp [Value.oneCell']) (rset_of hw (by omega) (rset_m hw A2 c2 (delL s.ms j))) gno ?_
                    refine AV.next #[true, true, true, true, true, true, true, true, true, true, true, true, true, true, true, true, true, true, true] (by kernel_rfl) (fun _ h => h.sel [1] rfl) ?_
                    refine AV.done (by kernel_rfl) ?_
                    refine KV.then_n ?_
                    refine KV.env [] trivial ?_
                    refine KV.sel [0, 4, 1, 1, 1] [_, _, _, _, _] rfl ?_
                    exact KV.join2 (A2) (c2) trivial (fun _ h => delR h (by omega))
          · -- 11 comes up
            refine OV.step gno (Step.load Try.underlying51 rfl rfl (fun w h => h.cell 0 rfl (rbC_m hw))) rfl ?_
            refine AV.next #[true, true, true, true, false, true, false, false, true, true, true, true, true, true, false, false, false, false, false] (by kernel_rfl) (fun _ h => h.sel [1] rfl) ?_
            refine AV.take 14 #[true, true, true, true, false, true, false, false, true, true, true, true, true, true, true, false, false, false, false] rfl (by kernel_rfl) (by kernel_rfl) (by kernel_rfl) (fun _ _ _ h => h) gno (Step.sliceLo Try.underlying51 I94 rfl rfl (j + 1) ((by omega)) (by omega)) rfl (fun _ h => h.sel [1] rfl) (by kernel_rfl) ?_
            refine AV.all [4] (by kernel_rfl) (by decide) ?_
            refine ⟨⟨_, rfl, ?_⟩, trivial⟩
            · -- 4 comes up
              refine OV.step gno (Step.load Try.underlying51 rfl rfl (fun w h => h.cell 0 rfl (rbC_m hw))) rfl ?_
              refine AV.next #[true, true, true, true, true, true, false, false, true, true, true, true, true, true, true, false, false, false, false] (by kernel_rfl) (fun _ h => h.sel [1] rfl) ?_
              refine AV.take 6 #[true, true, true, true, true, true, true, false, true, true, true, true, true, true, true, false, false, false, false] rfl (by kernel_rfl) (by kernel_rfl) (by kernel_rfl) (fun _ _ _ h => h) gno (Step.sliceHi Try.underlying51 I94 rfl rfl (j) (rfl) (by omega)) rfl (fun _ h => h.sel [1] rfl) (by kernel_rfl) ?_
              refine AV.all [7] (by kernel_rfl) (by decide) ?_
              refine ⟨⟨_, rfl, ?_⟩, trivial⟩
              · -- 7 comes up
                refine OV.append (K := rhK) 5 (zs := s.ms.take j) Try.underlying51 I94 rfl rfl rfl rfl (by rw [List.length_take]; omega) rfl (fun w h => (h.os 1 rfl).take j) (by simp only [List.length_nil, List.length_take, List.length_drop, List.length_append]; omega) (by simp only [List.length_nil, List.length_take, List.length_drop, List.length_append]; omega) gno rfl (fun A1 c1 => ?_)
                refine AV.next #[true, true, true, true, true, true, true, true, true, true, true, true, true, true, true, false, false, false, false] (by kernel_rfl) (fun _ h => h.sel [1] rfl) ?_
                refine AV.all [15] (by kernel_rfl) (by decide) ?_
                refine ⟨⟨_, rfl, ?_⟩, trivial⟩
                · -- 15 comes up
                  refine OV.append (K := rhK) 5 (zs := s.ms.drop (j + 1)) Try.underlying51 I94 rfl rfl rfl rfl (by rw [List.length_drop]) rfl (fun w h => (h.os 1 rfl).drop (j + 1) (c := s.mc) hcap.1) (by simp only [List.length_nil, List.length_take, List.length_drop, List.length_append]; omega) (by simp only [List.length_nil, List.length_take, List.length_drop, List.length_append]; omega) gno rfl (fun A2 c2 => ?_)
                  refine AV.next #[true, true, true, true, true, true, true, true, true, true, true, true, true, true, true, true, false, false, false] (by kernel_rfl) (fun _ h => h.sel [1] rfl) ?_
                  refine AV.take 16 #[true, true, true, true, true, true, true, true, true, true, true, true, true, true, true, true, true, false, false] rfl (by kernel_rfl) (by kernel_rfl) (by kernel_rfl) (fun _ _ _ h => h) gno (Step.nilCheck rfl) rfl (fun _ h => h.sel [1] rfl) (by kernel_rfl) ?_
                  refine AV.take 17 #[true, true, true, true, true, true, true, true, true, true, true, true, true, true, true, true, true, true, false] rfl (by kernel_rfl) (by kernel_rfl) (by kernel_rfl) (fun _ _ _ h => h) gno (Step.fieldAddr rfl (F56_0 _ _)) rfl (fun _ h => h.sel [1] rfl) (by kernel_rfl) ?_
                  refine AV.all [18] (by kernel_rfl) (by decide) ?_
                  refine ⟨⟨_, rfl, ?_⟩, trivial⟩
                  · -- 18 comes up
                    refine OV.store 0 [_] (rbC (rdel s j A2 c2)).toArray I51 rfl rfl rfl rfl rfl (by show _ + 1 ≤ (rbC _).toArray.size; rw [List.size_toArray, rbC_len hw]; omega) (by simp [Value.oneCell']) (rset_of hw (by omega) (rset_m hw A2 c2 (delL s.ms j))) gno ?_
                    refine AV.next #[true, true, true, true, true, true, true, true, true, true, true, true, true, true, true, true, true, true, true] (by kernel_rfl) (fun _ h => h.sel [1] rfl) ?_
                    refine AV.done (by kernel_rfl) ?_
                    refine KV.then_n ?_
                    refine KV.env [] trivial ?_
                    refine KV.sel [0, 4, 1, 1, 1] [_, _, _, _, _] rfl ?_
                    exact KV.join2 (A2) (c2) trivial (fun _ h => delR h (by omega))
        · intro A2 c2
          refine CV.seq ?_
          -- region 6 iospace.go:65
          refine CV.region ?_
          refine RV.op (OV.step gno (Step.assign rfl) rfl ?_)
          refine RV.nil ?_
          refine KV.then_n ?_
          refine KV.env [(6, _)] ⟨rfl, trivial⟩ ?_
          refine CV.ret ?_
          refine KV.block_ret ?_
          refine KV.then_ret ?_
          refine KV.then_ret ?_
          refine KV.block_ret ?_
          refine KV.then_ret ?_
          -- return at r6
          refine KV.sel [0, 0, 0, 0, 0] [_, _, _, _, _] rfl ?_
          exact KV.ret1 rfl rfl _ (fun _ h => h) (.inl ⟨j, by omega, ⟨e1, e2⟩, rfl, _, _, rfl⟩)
      · -- False
        refine SV.step gno (Step.pick_t rfl rfl) rfl ?_
        refine SV.nil ?_
        refine KV.then_n ?_
        refine KV.env [(0, _), (1, _), (5, _), (7, _), (38, _)] ⟨rfl, rfl, rfl, rfl, rfl, trivial⟩ ?_
        refine CV.cond_f rfl ?_
        refine CV.skip ?_
        refine KV.block_n ?_
        refine KV.then_n ?_
        refine KV.env [(0, _), (1, _), (5, _), (7, _)] ⟨rfl, rfl, rfl, rfl, trivial⟩ ?_
        -- region 3 iospace.go:62
        refine CV.region ?_
        refine RV.op (OV.step gno (Step.move rfl) rfl ?_)
        (first | refine RV.op (OV.step gno (Step.add rfl rfl (wI64 (by omega) (by omega))) rfl ?_) | refine RV.op (OV.step gno (Step.add rfl rfl rfl) rfl ?_))
        refine RV.op (OV.step gno (Step.assign rfl) rfl ?_)
        refine RV.nil ?_
        refine KV.then_n ?_
        refine KV.env [(0, _), (1, _), (5, _), (7, _)] ⟨rfl, rfl, rfl, rfl, trivial⟩ ?_
        refine KV.sel [0, 0, 0, 0, 0, 0] [_, _, _, _, _, _] rfl ?_
        have hnb : ¬ ((s.ms.getD j rhK.d).sp = z ∧ (s.ms.getD j rhK.d).base = p0 ∧ (s.ms.getD j rhK.d).len = q0) := fun k => by first | exact e2 k.2 | exact e1 k.1
        exact KV.loopI (z := j) (j + 1) ⟨by omega, fun i hi => by by_cases e : i = j; (subst e; exact hnb); exact hinv.2 i (by omega)⟩ (by omega) ⟨rfl, rfl, rfl, rfl, trivial⟩ (fun _ h => h)
    · -- False
      refine SV.step gno (Step.move rfl) rfl ?_
      refine SV.skip rfl rfl ?_
      refine SV.skip rfl rfl ?_
      refine SV.skip rfl rfl ?_
      refine SV.skip rfl rfl ?_
      refine SV.skip rfl rfl ?_
      refine SV.skip rfl rfl ?_
      refine SV.skip rfl rfl ?_
      refine SV.skip rfl rfl ?_
      refine SV.skip rfl rfl ?_
      refine SV.skip rfl rfl ?_
      refine SV.step gno (Step.pick_f rfl rfl) rfl ?_
      refine SV.nil ?_
      refine KV.then_n ?_
      refine KV.env [(0, _), (1, _), (5, _), (7, _), (38, _)] ⟨rfl, rfl, rfl, rfl, rfl, trivial⟩ ?_
      refine CV.cond_f rfl ?_
      refine CV.skip ?_
      refine KV.block_n ?_
      refine KV.then_n ?_
      refine KV.env [(0, _), (1, _), (5, _), (7, _)] ⟨rfl, rfl, rfl, rfl, trivial⟩ ?_
      -- region 3 iospace.go:62
      refine CV.region ?_
      refine RV.op (OV.step gno (Step.move rfl) rfl ?_)
      (first | refine RV.op (OV.step gno (Step.add rfl rfl (wI64 (by omega) (by omega))) rfl ?_) | refine RV.op (OV.step gno (Step.add rfl rfl rfl) rfl ?_))
      refine RV.op (OV.step gno (Step.assign rfl) rfl ?_)
      refine RV.nil ?_
      refine KV.then_n ?_
      refine KV.env [(0, _), (1, _), (5, _), (7, _)] ⟨rfl, rfl, rfl, rfl, trivial⟩ ?_
      refine KV.sel [0, 0, 0, 0, 0, 0] [_, _, _, _, _, _] rfl ?_
      have hnb : ¬ ((s.ms.getD j rhK.d).sp = z ∧ (s.ms.getD j rhK.d).base = p0 ∧ (s.ms.getD j rhK.d).len = q0) := fun k => by first | exact e2 k.2 | exact e1 k.1
      exact KV.loopI (z := j) (j + 1) ⟨by omega, fun i hi => by by_cases e : i = j; (subst e; exact hnb); exact hinv.2 i (by omega)⟩ (by omega) ⟨rfl, rfl, rfl, rfl, trivial⟩ (fun _ h => h)
  · -- False
    refine RV.nil ?_
    refine KV.then_n ?_
    refine KV.env [(0, _), (1, _), (5, _), (7, _), (14, _)] ⟨rfl, rfl, rfl, rfl, rfl, trivial⟩ ?_
    refine CV.cond_f rfl ?_
    refine CV.exit ?_
    refine KV.then_exit ?_
    refine KV.then_exit ?_
    refine KV.block_hit ?_
    refine KV.then_n ?_
    refine KV.env [] trivial ?_
    refine CV.seq ?_
    -- region 7 iospace.go:68
    refine CV.region ?_
    refine RV.op (OV.step gno (Step.assign rfl) rfl ?_)
    refine RV.nil ?_
    refine KV.then_n ?_
    refine KV.env [(6, _)] ⟨rfl, trivial⟩ ?_
    refine CV.ret ?_
    -- return at r7
    refine KV.sel [0, 0, 0, 0, 0] [_, _, _, _, _] rfl ?_
    exact KV.ret1 rfl rfl _ (fun _ h => h) (.inr ⟨fun k hk => hinv.2 k (by omega), rfl, rfl⟩)
end Go.Proofs.Ythdpojggdodpfaa
