/-
  Walks, part 10.
-/
import Derived.Test.YthdpojggdodpfaaTab10
import Derived.Test.YthdpojggdodpfaaW9
import Derived.Test.YthdpojggdodpfaaPl2
set_option linter.unusedSimpArgs false
set_option linter.unusedVariables false
namespace Go.Proofs.Ythdpojggdodpfaa
open Go.Sv Go.Ios
set_option maxRecDepth 100000 in
set_option maxHeartbeats 4000000 in
theorem faults_fn {B : Option Addr} {m d : Nat} {l : List Bool} (n0 k : Int) {w : World} (hb : RS w boolK B l) (hm : m = l.length) : Fx Try.prog 5 [.int .i64 n0, .int .i64 k, .slice B m d] w [] no (fun v L => v = .bool true ∧ L = []) := by
  subst hm
  refine Sv.Fx.body Try.func5 rfl T5 rfl ?_
  intro I hro hI
  refine KV.env [(0, _), (1, _), (2, _)] ⟨rfl, rfl, rfl, trivial⟩ ?_
  refine CV.seq ?_
  -- region 0 law.go:166
  refine CV.region ?_
  refine RV.op (OV.step gno (Step.assign rfl) rfl ?_)
  refine RV.nil ?_
  refine KV.then_n ?_
  refine KV.env [(0, _), (1, _), (2, _)] ⟨rfl, rfl, rfl, trivial⟩ ?_
  refine CV.seq ?_
  -- region 1 law.go:167
  refine CV.region ?_
  refine RV.op (OV.call [] (F := []) Try.func8 B8 N8 rfl rfl (fun w h => new_fn) (fun _ hb => hb.elim) gno rfl (fun v L' hp => ?_))
  obtain ⟨b, rfl, rfl⟩ := hp
  refine RV.op (OV.step gno (Step.assign rfl) rfl ?_)
  refine RV.nil ?_
  refine KV.then_n ?_
  refine KV.env [(0, _), (1, _), (2, _), (7, _)] ⟨rfl, rfl, rfl, rfl, trivial⟩ ?_
  refine CV.seq ?_
  refine CV.seq ?_
  -- region 2 law.go:168
  refine CV.region ?_
  refine RV.op (OV.call [] (F := [_, _, _, _]) Try.func9 B9 N9 rfl rfl (fun w h => awake_fn) (fun _ hb => hb.elim) gno rfl (fun v L' hp => ?_))
  obtain ⟨rfl, rfl⟩ := hp
  simp only [List.append_nil]
  refine RV.op (OV.step gno (Step.not rfl) rfl ?_)
  refine RV.nil ?_
  refine KV.then_n ?_
  refine KV.env [(0, _), (1, _), (2, _), (7, _), (17, _)] ⟨rfl, rfl, rfl, rfl, rfl, trivial⟩ ?_
  refine CV.cond_f rfl ?_
  refine CV.skip ?_
  refine KV.then_n ?_
  refine KV.env [(0, _), (1, _), (2, _), (7, _)] ⟨rfl, rfl, rfl, rfl, trivial⟩ ?_
  refine CV.seq ?_
  -- region 4 law.go:171
  refine CV.region ?_
  refine RV.op (OV.step gno (Step.move rfl) rfl ?_)
  refine RV.op (OV.call [] Try.func10 B10 N10 rfl rfl (fun w h => (mod_fn n0 8 (by omega) (by omega)).fn w) (fun _ hb => hb.elim) gno rfl (fun v L' hp => ?_))
  obtain ⟨rfl, rfl⟩ := hp
  simp only [List.append_nil]
  obtain ⟨n1, hn1, hn2⟩ := modN n0 (n := 8) (by omega)
  rw [hn1]
  (first | refine RV.op (OV.step gno (Step.add rfl rfl (wI64 (by omega) (by omega))) rfl ?_) | refine RV.op (OV.step gno (Step.add rfl rfl rfl) rfl ?_))
  obtain ⟨n, hn⟩ : ∃ n : Nat, (1 : Int) + (n1 : Int) = n := ⟨1 + n1, by omega⟩
  rw [hn]
  refine RV.op (OV.step gno (Step.assign rfl) rfl ?_)
  refine RV.nil ?_
  refine KV.then_n ?_
  refine KV.env [(0, _), (1, _), (2, _), (7, _)] ⟨rfl, rfl, rfl, rfl, trivial⟩ ?_
  refine CV.seq ?_
  -- region 5 law.go:172
  refine CV.region ?_
  refine RV.op (OV.step gno (Step.move rfl) rfl ?_)
  refine RV.op (OV.step gno (Step.build rfl (Bd32_0_1 _ _)) rfl ?_)
  refine RV.op (OV.call [0, 0, 0, 0] (F := []) Try.func11 B11 N11 rfl rfl (fun w h => mapZ_fn b bs0 bs0_ok 0 (by decide) 0 16 7 (by unfold isU; decide) (by decide) (by decide) (by decide) (not_busy0 (by decide) _ _) (by decide)) (fun _ hb => hb.elim) gno rfl (fun v L' hp => ?_))
  obtain ⟨bp, A1, c1, rfl, rfl⟩ := hp
  obtain ⟨s1, hss1⟩ : ∃ s9 : BS, mapG bs0 0 ⟨bp, 0, 16, 7, none, 0, []⟩ A1 c1 = s9 := ⟨_, rfl⟩
  rw [hss1]
  obtain ⟨hk1, _, _, f1, _, _⟩ := map0 (by decide) (newH_ok (by unfold isU; decide) (by decide) (by decide) (by decide)) hss1
  refine RV.nil ?_
  refine KV.then_n ?_
  refine KV.env [(0, _), (1, _), (2, _), (7, _)] ⟨rfl, rfl, rfl, rfl, trivial⟩ ?_
  refine CV.seq ?_
  -- region 6 law.go:173
  refine CV.region ?_
  refine RV.op (OV.step gno (Step.move rfl) rfl ?_)
  refine RV.op (OV.step gno (Step.build rfl (Bd32_0_1 _ _)) rfl ?_)
  refine RV.op (OV.step gno (Step.move rfl) rfl ?_)
  refine RV.op (OV.call [0, 0, 0, 0] (F := []) Try.func16 B16 N16 rfl rfl (fun w h => plZ_fn b s1 hk1 0 (by decide) 4 4 n (by unfold isU; decide) (by decide) (by omega) (by omega) (by rw [f1]; decide)) (fun _ hb => hb.elim) gno rfl (fun v L' hp => ?_))
  obtain ⟨rfl, A2, c2, rfl⟩ := hp
  obtain ⟨s2, hss2⟩ : ∃ s9 : BS, fltG s1 ⟨((0 : Nat) : Int), 4, 4, n⟩ A2 c2 = s9 := ⟨_, rfl⟩
  rw [hss2]
  have F0 := FI.start hss1 (by omega) (by omega) hss2
  refine RV.nil ?_
  refine KV.then_n ?_
  refine KV.env [(0, _), (1, _), (2, _), (7, _)] ⟨rfl, rfl, rfl, rfl, trivial⟩ ?_
  refine CV.seq ?_
  -- region 7 law.go:174
  refine CV.region ?_
  refine RV.op (OV.step gno (Step.assign rfl) rfl ?_)
  refine RV.nil ?_
  refine KV.then_n ?_
  refine KV.env [(0, _), (1, _), (2, _), (7, _), (8, _)] ⟨rfl, rfl, rfl, rfl, rfl, trivial⟩ ?_
  refine CV.seq ?_
  refine CV.seq ?_
  -- region 8 law.go:175
  refine CV.region ?_
  refine RV.op (OV.step gno (Step.assign rfl) rfl ?_)
  refine RV.nil ?_
  refine KV.then_n ?_
  refine KV.env [(0, _), (1, _), (2, _), (7, _), (8, _), (9, _)] ⟨rfl, rfl, rfl, rfl, rfl, rfl, trivial⟩ ?_
  refine CV.block ?_
  -- loop L9; live [0, 1, 2, 7, 8, 9]
  refine KV.sel [0, 0, 0, 0] [_, _, _, _] rfl ?_
  refine CV.loop2 (fun (j : Nat) (z : FZ) => (j ≤ l.length ∧ j ≤ 30) ∧ FI z.s z.h n z.f j) (fun (j : Nat) (z : FZ) => 30 - j) (fun (j : Nat) (z : FZ) => [(0, .int .i64 n), (1, .int .i64 k), (2, .slice B l.length d), (7, .pointer (some ⟨b, 0, none⟩)), (8, .int .i64 z.f), (9, .int .i64 j)]) (fun (j : Nat) (z : FZ) => Hp I w (busL b z.s)) (0) (⟨0, s2, ⟨bp, 0, 16, 7, none, 0, []⟩⟩) ⟨⟨Nat.zero_le _, Nat.zero_le _⟩, F0⟩ ⟨rfl, rfl, rfl, rfl, rfl, rfl, trivial⟩ (fun _ h => h) ?_
  intro j z hinv
  refine CV.seq ?_
  refine CV.seq ?_
  -- region 9 law.go:175
  refine CV.region ?_
  refine RV.op (OV.step gno (Step.move rfl) rfl ?_)
  refine RV.op (OV.step gno (Step.move rfl) rfl ?_)
  refine RV.op (OV.step gno (Step.lenSl Try.underlying46 rfl) rfl ?_)
  refine RV.op (OV.split gno (Step.lss rfl rfl) rfl (fun hj1 => ?_) (fun hj1 => ?_))
  · -- True
    refine RV.op (OV.step gno (Step.move rfl) rfl ?_)
    refine RV.op (OV.step (gyes rfl) (Step.move rfl) rfl ?_)
    refine RV.op (OV.split (gyes rfl) (Step.lss rfl rfl) rfl (fun hj2 => ?_) (fun hj2 => ?_))
    · -- True
      refine RV.op (OV.step gno (Step.pick_t rfl rfl) rfl ?_)
      refine RV.nil ?_
      refine KV.then_n ?_
      refine KV.env [(0, _), (1, _), (2, _), (7, _), (8, _), (9, _), (35, _)] ⟨rfl, rfl, rfl, rfl, rfl, rfl, rfl, trivial⟩ ?_
      refine CV.cond_t rfl ?_
      refine CV.skip ?_
      refine KV.then_n ?_
      refine KV.env [(0, _), (1, _), (2, _), (7, _), (8, _), (9, _)] ⟨rfl, rfl, rfl, rfl, rfl, rfl, trivial⟩ ?_
      refine CV.seq ?_
      refine CV.block ?_
      refine CV.seq ?_
      -- region 11 law.go:176
      refine CV.region ?_
      refine RV.op (OV.step gno (Step.move rfl) rfl ?_)
      refine RV.op (OV.step gno (Step.move rfl) rfl ?_)
      refine RV.op (OV.step gno (Step.move rfl) rfl ?_)
      refine RV.op (OV.step gno (Step.idx Try.underlying46 I4 (fun w h => h.rs hb (fun _ => hI _)) rfl rfl (rfl) _ rfl (by omega)) rfl ?_)
      refine RV.op (OV.step gno (Step.load Try.underlying4 rfl rfl (fun w h => (h.rs hb (fun _ => hI _)).cell0 (by omega) rfl)) rfl ?_)
      refine RV.op (OV.call [0, 0, 0, 0] (F := []) Try.func12 B12 N12 rfl rfl (fun w h => enZ_fn b z.s hinv.2.ok 7 (by decide) (l.getD j boolK.d)) (fun _ hb => hb.elim) gno rfl (fun v L' hp => ?_))
      obtain ⟨rfl, rfl⟩ := hp
      obtain ⟨F1, n1⟩ := hinv.2.en (l.getD j boolK.d)
      obtain ⟨s3, hss3⟩ : ∃ s9 : BS, ({ z.s with en := z.s.en.set 7 (l.getD j boolK.d) } : BS) = s9 := ⟨_, rfl⟩
      rw [hss3]
      rw [hss3] at F1 n1
      refine RV.nil ?_
      refine KV.then_n ?_
      refine KV.env [(0, _), (1, _), (2, _), (7, _), (8, _), (9, _)] ⟨rfl, rfl, rfl, rfl, rfl, rfl, trivial⟩ ?_
      refine CV.seq ?_
      -- region 12 law.go:177
      refine CV.region ?_
      refine RV.op (OV.step gno (Step.move rfl) rfl ?_)
      refine RV.op (OV.step gno (Step.move rfl) rfl ?_)
      refine RV.op (OV.step gno (Step.move rfl) rfl ?_)
      refine RV.op (OV.step gno (Step.add rfl rfl (rfl)) rfl ?_)
      refine RV.op (OV.call [] Try.func10 B10 N10 rfl rfl (fun w h => (mod_fn _ 2 (by omega) (by omega)).fn w) (fun _ hb => hb.elim) gno rfl (fun v L' hp => ?_))
      obtain ⟨rfl, rfl⟩ := hp
      simp only [List.append_nil]
      obtain ⟨q, hq, hq2⟩ := modN (IntKind.i64.wrap (k + (j : Int))) (n := 2) (by omega)
      rw [hq]
      (first | refine RV.op (OV.step gno (Step.mul rfl rfl (wI64 (by omega) (by omega))) rfl ?_) | refine RV.op (OV.step gno (Step.mul rfl rfl rfl) rfl ?_))
      (first | refine RV.op (OV.step gno (Step.convI Try.underlying3 Try.underlying22 rfl (wU64 (by omega) (by omega))) rfl ?_) | refine RV.op (OV.step gno (Step.convI Try.underlying3 Try.underlying22 rfl rfl) rfl ?_))
      refine RV.op (OV.step gno (Step.build rfl (Bd37_0_1_2_3_4 _ _ _ _ _)) rfl ?_)
      refine RV.op (OV.call [0, 0, 0, 0] (F := []) Try.func13 B13 N13 rfl rfl (fun w h => accZ_fn b s3 F1.ok (fa q) (fa_u hq2) (show isU 1 by unfold isU; decide) (fa_wf hq2) (by rw [F1.tr]; omega)) (fun _ hb => hb.elim) gno rfl (fun v L' hp => ?_))
      obtain ⟨A4, c4, tA4, tc4, hA4, rfl, rfl⟩ := hp
      obtain ⟨s4, hss4⟩ : ∃ s9 : BS, accS s3 (fa q) A4 c4 tA4 tc4 = s9 := ⟨_, rfl⟩
      rw [hss4]
      obtain ⟨E, f2, h2, hE, hE1, hE0, F2⟩ := F1.acc n1 hq2 (by omega) hA4 hss4
      rw [hE]
      refine RV.op (OV.step gno (Step.move rfl) rfl ?_)
      refine RV.op (OV.step gno (Step.extract0 rfl rfl) rfl ?_)
      refine RV.op (OV.step gno (Step.extract0 rfl rfl) rfl ?_)
      refine RV.op (OV.step gno (Step.assign rfl) rfl ?_)
      refine RV.op (OV.step gno (Step.assign rfl) rfl ?_)
      refine RV.nil ?_
      refine KV.then_n ?_
      refine KV.env [(0, _), (1, _), (2, _), (7, _), (8, _), (9, _), (11, _)] ⟨rfl, rfl, rfl, rfl, rfl, rfl, rfl, trivial⟩ ?_
      refine CV.seq ?_
      -- region 13 law.go:178
      refine CV.region ?_
      refine RV.op (OV.step gno (Step.move rfl) rfl ?_)
      refine RV.op (OV.step gno (Step.move rfl) rfl ?_)
      refine RV.op (OV.step gno (Step.idx Try.underlying46 I4 (fun w h => h.rs hb (fun _ => hI _)) rfl rfl (rfl) _ rfl (by omega)) rfl ?_)
      refine RV.op (OV.step gno (Step.load Try.underlying4 rfl rfl (fun w h => (h.rs hb (fun _ => hI _)).cell0 (by omega) rfl)) rfl ?_)
      refine RV.op (OV.step gno (Step.move rfl) rfl ?_)
      refine KV.cases 60 rfl (fun cc1 => ?_) (fun cc1 => ?_)
      · -- True
        refine RV.op (OV.step (gyes rfl) (Step.move rfl) rfl ?_)
        refine RV.op (OV.step (gyes rfl) (Step.move rfl) rfl ?_)
        refine RV.op (OV.step (gyes rfl) (Step.add rfl rfl (rfl)) rfl ?_)
        refine RV.op (OV.call [] Try.func10 B10 N10 rfl rfl (fun w h => (mod_fn _ 2 (by omega) (by omega)).fn w) (fun _ hb => hb.elim) (gyes rfl) rfl (fun v L' hp => ?_))
        obtain ⟨rfl, rfl⟩ := hp
        simp only [List.append_nil]
        rw [hq]
        refine RV.op (OV.split (gyes rfl) (Step.eql rfl rfl) rfl (fun hq1 => ?_) (fun hq1 => ?_))
        · -- True
          refine RV.op (OV.step gno (Step.pick_t rfl rfl) rfl ?_)
          refine RV.op (OV.step gno (Step.move rfl) rfl ?_)
          refine RV.op (OV.step (gyes rfl) (Step.move rfl) rfl ?_)
          refine RV.op (OV.step (gyes rfl) (Step.move rfl) rfl ?_)
          refine RV.op (OV.split (gyes rfl) (Step.lss rfl rfl) rfl (fun hfn => ?_) (fun hfn => ?_))
          · -- True
            refine RV.op (OV.step gno (Step.pick_t rfl rfl) rfl ?_)
            refine RV.op (OV.step gno (Step.assign rfl) rfl ?_)
            refine RV.nil ?_
            refine KV.then_n ?_
            refine KV.env [(0, _), (1, _), (2, _), (7, _), (8, _), (9, _), (11, _), (12, _)] ⟨rfl, rfl, rfl, rfl, rfl, rfl, rfl, rfl, trivial⟩ ?_
            refine CV.seq ?_
            refine CV.seq ?_
            -- region 14 law.go:179
            refine CV.region ?_
            refine RV.op (OV.step gno (Step.move rfl) rfl ?_)
            refine RV.op (OV.split gno (Step.eql rfl rfl) rfl (fun g1 => ?_) (fun g1 => ?_))
            · -- True
              refine RV.op (OV.step gno (Step.move rfl) rfl ?_)
              refine RV.op (OV.split gno (Step.neqBool Try.underlying4 rfl rfl) rfl (fun g2 => ?_) (fun g2 => ?_))
              · -- True
                refine RV.op (OV.step gno (Step.move rfl) rfl ?_)
                refine RV.op (OV.skip rfl rfl ?_)
                refine RV.op (OV.skip rfl rfl ?_)
                refine RV.op (OV.skip rfl rfl ?_)
                refine RV.op (OV.skipU rfl rfl ?_)
                refine RV.op (OV.skipU rfl rfl ?_)
                refine RV.op (OV.skip rfl rfl ?_)
                refine RV.op (OV.step gno (Step.pick_t rfl rfl) rfl ?_)
                refine RV.nil ?_
                refine KV.then_n ?_
                refine KV.env [(0, _), (1, _), (2, _), (7, _), (8, _), (9, _), (12, _), (83, _)] ⟨rfl, rfl, rfl, rfl, rfl, rfl, rfl, rfl, trivial⟩ ?_
                refine CV.cond_t rfl ?_
                refine CV.seq ?_
                -- region 15 law.go:180
                refine CV.region ?_
                refine RV.op (OV.step gno (Step.assign rfl) rfl ?_)
                refine RV.nil ?_
                refine KV.then_n ?_
                refine KV.env [(6, _)] ⟨rfl, trivial⟩ ?_
                refine CV.ret ?_
                refine KV.then_ret ?_
                refine KV.block_ret ?_
                refine KV.then_ret ?_
                refine KV.then_ret ?_
                refine KV.block_ret ?_
                refine KV.then_ret ?_
                -- return at r15
                refine KV.sel [] [] rfl ?_
                exfalso
                first | exact g2 rfl | (have h15 := hE1 (by assumption) (by omega) (by omega); have h15a := h15.1; have h15b := h15.2.1; omega) | (have h00 := hE0 (by rintro ⟨k1, k2, k3⟩; first | omega | exact absurd (k1.symm.trans (by assumption : (l.getD j boolK.d) = false)) (by decide)); have h00a := h00.1; have h00b := h00.2; omega)
              · -- False
                refine RV.op (OV.step gno (Step.move rfl) rfl ?_)
                refine RV.op (OV.step (gyes rfl) (Step.move rfl) rfl ?_)
                refine RV.op (OV.split (gyes rfl) (Step.neq rfl rfl) rfl (fun g3 => ?_) (fun g3 => ?_))
                · -- True
                  refine RV.op (OV.step (gyes rfl) (Step.move rfl) rfl ?_)
                  refine RV.op (OV.step (gyes rfl) (Step.move rfl) rfl ?_)
                  refine RV.op (OV.step (gyes rfl) (Step.not rfl) rfl ?_)
                  refine RV.op (OV.step (gyes rfl) (Step.pick_t rfl rfl) rfl ?_)
                  refine RV.op (OV.step gno (Step.pick_f rfl rfl) rfl ?_)
                  refine RV.nil ?_
                  refine KV.then_n ?_
                  refine KV.env [(0, _), (1, _), (2, _), (7, _), (8, _), (9, _), (12, _), (83, _)] ⟨rfl, rfl, rfl, rfl, rfl, rfl, rfl, rfl, trivial⟩ ?_
                  refine CV.cond_f rfl ?_
                  refine CV.skip ?_
                  refine KV.then_n ?_
                  refine KV.env [(0, _), (1, _), (2, _), (7, _), (8, _), (9, _), (12, _)] ⟨rfl, rfl, rfl, rfl, rfl, rfl, rfl, trivial⟩ ?_
                  refine CV.seq ?_
                  -- region 16 law.go:182
                  refine CV.region ?_
                  refine RV.op (OV.step gno (Step.move rfl) rfl ?_)
                  refine RV.nil ?_
                  refine KV.then_n ?_
                  refine KV.env [(0, _), (1, _), (2, _), (7, _), (8, _), (9, _), (84, _)] ⟨rfl, rfl, rfl, rfl, rfl, rfl, rfl, trivial⟩ ?_
                  refine CV.cond_t rfl ?_
                  refine CV.seq ?_
                  -- region 17 law.go:183
                  refine CV.region ?_
                  refine RV.op (OV.step gno (Step.move rfl) rfl ?_)
                  (first | refine RV.op (OV.step gno (Step.add rfl rfl (wI64 (by omega) (by omega))) rfl ?_) | refine RV.op (OV.step gno (Step.add rfl rfl rfl) rfl ?_))
                  refine RV.op (OV.step gno (Step.assign rfl) rfl ?_)
                  refine RV.nil ?_
                  refine KV.then_n ?_
                  refine KV.env [(0, _), (1, _), (2, _), (7, _), (8, _), (9, _)] ⟨rfl, rfl, rfl, rfl, rfl, rfl, trivial⟩ ?_
                  refine CV.seq ?_
                  -- region 18 law.go:184
                  refine CV.region ?_
                  refine RV.op (OV.step gno (Step.move rfl) rfl ?_)
                  refine RV.op (OV.call [0, 0, 0, 0] (F := []) Try.func17 B17 N17 rfl rfl (fun w h => peek_fn b s4 F2.ok 0 4 (by unfold isU; decide)) (fun _ hb => hb.elim) gno rfl (fun v L' hp => ?_))
                  obtain ⟨rfl, rfl⟩ := hp
                  refine RV.op (OV.step gno (Step.move rfl) rfl ?_)
                  refine RV.op (OV.step gno (Step.extract0 rfl rfl) rfl ?_)
                  refine RV.op (OV.step gno (Step.extract0 rfl rfl) rfl ?_)
                  refine RV.op (OV.step gno (Step.assign rfl) rfl ?_)
                  refine RV.op (OV.step gno (Step.assign rfl) rfl ?_)
                  refine RV.nil ?_
                  refine KV.then_n ?_
                  refine KV.env [(0, _), (1, _), (2, _), (7, _), (8, _), (9, _), (13, _)] ⟨rfl, rfl, rfl, rfl, rfl, rfl, rfl, trivial⟩ ?_
                  refine CV.seq ?_
                  -- region 19 law.go:184
                  refine CV.region ?_
                  refine RV.op (OV.step gno (Step.move rfl) rfl ?_)
                  refine RV.op (OV.split gno (Step.neq rfl rfl) rfl (fun g4 => ?_) (fun g4 => ?_))
                  · -- True
                    exact absurd (hE1 (by assumption) (by omega) (by omega)).2.2 g4
                  · -- False
                    refine RV.nil ?_
                    refine KV.then_n ?_
                    refine KV.env [(0, _), (1, _), (2, _), (7, _), (8, _), (9, _), (93, _)] ⟨rfl, rfl, rfl, rfl, rfl, rfl, rfl, trivial⟩ ?_
                    refine CV.cond_f rfl ?_
                    refine CV.skip ?_
                    refine KV.block_n ?_
                    refine KV.then_n ?_
                    refine KV.env [(0, _), (1, _), (2, _), (7, _), (8, _), (9, _)] ⟨rfl, rfl, rfl, rfl, rfl, rfl, trivial⟩ ?_
                    -- region 10 law.go:175
                    refine CV.region ?_
                    refine RV.op (OV.step gno (Step.move rfl) rfl ?_)
                    (first | refine RV.op (OV.step gno (Step.add rfl rfl (wI64 (by omega) (by omega))) rfl ?_) | refine RV.op (OV.step gno (Step.add rfl rfl rfl) rfl ?_))
                    refine RV.op (OV.step gno (Step.assign rfl) rfl ?_)
                    refine RV.nil ?_
                    refine KV.then_n ?_
                    refine KV.env [(0, _), (1, _), (2, _), (7, _), (8, _), (9, _)] ⟨rfl, rfl, rfl, rfl, rfl, rfl, trivial⟩ ?_
                    refine KV.sel [0, 0, 0, 0] [_, _, _, _] rfl ?_
                    exact KV.loop2 (x := j) (y := z) (j + 1) (⟨f2, s4, h2⟩) ⟨by omega, F2⟩ (by omega) ⟨rfl, rfl, rfl, rfl, (show some (Value.int .i64 _) = some (Value.int .i64 _) by congr 2; show _ = ((f2 : Nat) : Int); first | (have h15 := hE1 (by assumption) (by omega) (by omega); have h15a := h15.1; have h15b := h15.2.1; omega) | (have h00 := hE0 (by rintro ⟨k1, k2, k3⟩; first | omega | exact absurd (k1.symm.trans (by assumption : (l.getD j boolK.d) = false)) (by decide)); have h00a := h00.1; have h00b := h00.2; omega)), rfl, trivial⟩ (fun _ h => h)
                · -- False
                  refine RV.op (OV.step (gyes rfl) (Step.move rfl) rfl ?_)
                  refine RV.op (OV.skip rfl rfl ?_)
                  refine RV.op (OV.skip rfl rfl ?_)
                  refine RV.op (OV.step (gyes rfl) (Step.pick_f rfl rfl) rfl ?_)
                  refine RV.op (OV.step gno (Step.pick_f rfl rfl) rfl ?_)
                  refine RV.nil ?_
                  refine KV.then_n ?_
                  refine KV.env [(0, _), (1, _), (2, _), (7, _), (8, _), (9, _), (12, _), (83, _)] ⟨rfl, rfl, rfl, rfl, rfl, rfl, rfl, rfl, trivial⟩ ?_
                  refine CV.cond_f rfl ?_
                  refine CV.skip ?_
                  refine KV.then_n ?_
                  refine KV.env [(0, _), (1, _), (2, _), (7, _), (8, _), (9, _), (12, _)] ⟨rfl, rfl, rfl, rfl, rfl, rfl, rfl, trivial⟩ ?_
                  refine CV.seq ?_
                  -- region 16 law.go:182
                  refine CV.region ?_
                  refine RV.op (OV.step gno (Step.move rfl) rfl ?_)
                  refine RV.nil ?_
                  refine KV.then_n ?_
                  refine KV.env [(0, _), (1, _), (2, _), (7, _), (8, _), (9, _), (84, _)] ⟨rfl, rfl, rfl, rfl, rfl, rfl, rfl, trivial⟩ ?_
                  refine CV.cond_t rfl ?_
                  refine CV.seq ?_
                  -- region 17 law.go:183
                  refine CV.region ?_
                  refine RV.op (OV.step gno (Step.move rfl) rfl ?_)
                  (first | refine RV.op (OV.step gno (Step.add rfl rfl (wI64 (by omega) (by omega))) rfl ?_) | refine RV.op (OV.step gno (Step.add rfl rfl rfl) rfl ?_))
                  refine RV.op (OV.step gno (Step.assign rfl) rfl ?_)
                  refine RV.nil ?_
                  refine KV.then_n ?_
                  refine KV.env [(0, _), (1, _), (2, _), (7, _), (8, _), (9, _)] ⟨rfl, rfl, rfl, rfl, rfl, rfl, trivial⟩ ?_
                  refine CV.seq ?_
                  -- region 18 law.go:184
                  refine CV.region ?_
                  refine RV.op (OV.step gno (Step.move rfl) rfl ?_)
                  refine RV.op (OV.call [0, 0, 0, 0] (F := []) Try.func17 B17 N17 rfl rfl (fun w h => peek_fn b s4 F2.ok 0 4 (by unfold isU; decide)) (fun _ hb => hb.elim) gno rfl (fun v L' hp => ?_))
                  obtain ⟨rfl, rfl⟩ := hp
                  refine RV.op (OV.step gno (Step.move rfl) rfl ?_)
                  refine RV.op (OV.step gno (Step.extract0 rfl rfl) rfl ?_)
                  refine RV.op (OV.step gno (Step.extract0 rfl rfl) rfl ?_)
                  refine RV.op (OV.step gno (Step.assign rfl) rfl ?_)
                  refine RV.op (OV.step gno (Step.assign rfl) rfl ?_)
                  refine RV.nil ?_
                  refine KV.then_n ?_
                  refine KV.env [(0, _), (1, _), (2, _), (7, _), (8, _), (9, _), (13, _)] ⟨rfl, rfl, rfl, rfl, rfl, rfl, rfl, trivial⟩ ?_
                  refine CV.seq ?_
                  -- region 19 law.go:184
                  refine CV.region ?_
                  refine RV.op (OV.step gno (Step.move rfl) rfl ?_)
                  refine RV.op (OV.split gno (Step.neq rfl rfl) rfl (fun g4 => ?_) (fun g4 => ?_))
                  · -- True
                    exact absurd (hE1 (by assumption) (by omega) (by omega)).2.2 g4
                  · -- False
                    refine RV.nil ?_
                    refine KV.then_n ?_
                    refine KV.env [(0, _), (1, _), (2, _), (7, _), (8, _), (9, _), (93, _)] ⟨rfl, rfl, rfl, rfl, rfl, rfl, rfl, trivial⟩ ?_
                    refine CV.cond_f rfl ?_
                    refine CV.skip ?_
                    refine KV.block_n ?_
                    refine KV.then_n ?_
                    refine KV.env [(0, _), (1, _), (2, _), (7, _), (8, _), (9, _)] ⟨rfl, rfl, rfl, rfl, rfl, rfl, trivial⟩ ?_
                    -- region 10 law.go:175
                    refine CV.region ?_
                    refine RV.op (OV.step gno (Step.move rfl) rfl ?_)
                    (first | refine RV.op (OV.step gno (Step.add rfl rfl (wI64 (by omega) (by omega))) rfl ?_) | refine RV.op (OV.step gno (Step.add rfl rfl rfl) rfl ?_))
                    refine RV.op (OV.step gno (Step.assign rfl) rfl ?_)
                    refine RV.nil ?_
                    refine KV.then_n ?_
                    refine KV.env [(0, _), (1, _), (2, _), (7, _), (8, _), (9, _)] ⟨rfl, rfl, rfl, rfl, rfl, rfl, trivial⟩ ?_
                    refine KV.sel [0, 0, 0, 0] [_, _, _, _] rfl ?_
                    exact KV.loop2 (x := j) (y := z) (j + 1) (⟨f2, s4, h2⟩) ⟨by omega, F2⟩ (by omega) ⟨rfl, rfl, rfl, rfl, (show some (Value.int .i64 _) = some (Value.int .i64 _) by congr 2; show _ = ((f2 : Nat) : Int); first | (have h15 := hE1 (by assumption) (by omega) (by omega); have h15a := h15.1; have h15b := h15.2.1; omega) | (have h00 := hE0 (by rintro ⟨k1, k2, k3⟩; first | omega | exact absurd (k1.symm.trans (by assumption : (l.getD j boolK.d) = false)) (by decide)); have h00a := h00.1; have h00b := h00.2; omega)), rfl, trivial⟩ (fun _ h => h)
            · -- False
              refine RV.op (OV.step gno (Step.move rfl) rfl ?_)
              refine RV.op (OV.split gno (Step.neqBool Try.underlying4 rfl rfl) rfl (fun g2 => ?_) (fun g2 => ?_))
              · -- True
                refine RV.op (OV.step gno (Step.move rfl) rfl ?_)
                refine RV.op (OV.skip rfl rfl ?_)
                refine RV.op (OV.skip rfl rfl ?_)
                refine RV.op (OV.skip rfl rfl ?_)
                refine RV.op (OV.skipU rfl rfl ?_)
                refine RV.op (OV.skipU rfl rfl ?_)
                refine RV.op (OV.skip rfl rfl ?_)
                refine RV.op (OV.step gno (Step.pick_t rfl rfl) rfl ?_)
                refine RV.nil ?_
                refine KV.then_n ?_
                refine KV.env [(0, _), (1, _), (2, _), (7, _), (8, _), (9, _), (12, _), (83, _)] ⟨rfl, rfl, rfl, rfl, rfl, rfl, rfl, rfl, trivial⟩ ?_
                refine CV.cond_t rfl ?_
                refine CV.seq ?_
                -- region 15 law.go:180
                refine CV.region ?_
                refine RV.op (OV.step gno (Step.assign rfl) rfl ?_)
                refine RV.nil ?_
                refine KV.then_n ?_
                refine KV.env [(6, _)] ⟨rfl, trivial⟩ ?_
                refine CV.ret ?_
                refine KV.then_ret ?_
                refine KV.block_ret ?_
                refine KV.then_ret ?_
                refine KV.then_ret ?_
                refine KV.block_ret ?_
                refine KV.then_ret ?_
                -- return at r15
                refine KV.sel [] [] rfl ?_
                exfalso
                first | exact g2 rfl | (have h15 := hE1 (by assumption) (by omega) (by omega); have h15a := h15.1; have h15b := h15.2.1; omega) | (have h00 := hE0 (by rintro ⟨k1, k2, k3⟩; first | omega | exact absurd (k1.symm.trans (by assumption : (l.getD j boolK.d) = false)) (by decide)); have h00a := h00.1; have h00b := h00.2; omega)
              · -- False
                refine RV.op (OV.step gno (Step.move rfl) rfl ?_)
                refine RV.op (OV.step (gyes rfl) (Step.move rfl) rfl ?_)
                refine RV.op (OV.split (gyes rfl) (Step.neq rfl rfl) rfl (fun g3 => ?_) (fun g3 => ?_))
                · -- True
                  refine RV.op (OV.step (gyes rfl) (Step.move rfl) rfl ?_)
                  refine RV.op (OV.step (gyes rfl) (Step.move rfl) rfl ?_)
                  refine RV.op (OV.step (gyes rfl) (Step.not rfl) rfl ?_)
                  refine RV.op (OV.step (gyes rfl) (Step.pick_t rfl rfl) rfl ?_)
                  refine RV.op (OV.step gno (Step.pick_f rfl rfl) rfl ?_)
                  refine RV.nil ?_
                  refine KV.then_n ?_
                  refine KV.env [(0, _), (1, _), (2, _), (7, _), (8, _), (9, _), (12, _), (83, _)] ⟨rfl, rfl, rfl, rfl, rfl, rfl, rfl, rfl, trivial⟩ ?_
                  refine CV.cond_f rfl ?_
                  refine CV.skip ?_
                  refine KV.then_n ?_
                  refine KV.env [(0, _), (1, _), (2, _), (7, _), (8, _), (9, _), (12, _)] ⟨rfl, rfl, rfl, rfl, rfl, rfl, rfl, trivial⟩ ?_
                  refine CV.seq ?_
                  -- region 16 law.go:182
                  refine CV.region ?_
                  refine RV.op (OV.step gno (Step.move rfl) rfl ?_)
                  refine RV.nil ?_
                  refine KV.then_n ?_
                  refine KV.env [(0, _), (1, _), (2, _), (7, _), (8, _), (9, _), (84, _)] ⟨rfl, rfl, rfl, rfl, rfl, rfl, rfl, trivial⟩ ?_
                  refine CV.cond_t rfl ?_
                  refine CV.seq ?_
                  -- region 17 law.go:183
                  refine CV.region ?_
                  refine RV.op (OV.step gno (Step.move rfl) rfl ?_)
                  (first | refine RV.op (OV.step gno (Step.add rfl rfl (wI64 (by omega) (by omega))) rfl ?_) | refine RV.op (OV.step gno (Step.add rfl rfl rfl) rfl ?_))
                  refine RV.op (OV.step gno (Step.assign rfl) rfl ?_)
                  refine RV.nil ?_
                  refine KV.then_n ?_
                  refine KV.env [(0, _), (1, _), (2, _), (7, _), (8, _), (9, _)] ⟨rfl, rfl, rfl, rfl, rfl, rfl, trivial⟩ ?_
                  refine CV.seq ?_
                  -- region 18 law.go:184
                  refine CV.region ?_
                  refine RV.op (OV.step gno (Step.move rfl) rfl ?_)
                  refine RV.op (OV.call [0, 0, 0, 0] (F := []) Try.func17 B17 N17 rfl rfl (fun w h => peek_fn b s4 F2.ok 0 4 (by unfold isU; decide)) (fun _ hb => hb.elim) gno rfl (fun v L' hp => ?_))
                  obtain ⟨rfl, rfl⟩ := hp
                  refine RV.op (OV.step gno (Step.move rfl) rfl ?_)
                  refine RV.op (OV.step gno (Step.extract0 rfl rfl) rfl ?_)
                  refine RV.op (OV.step gno (Step.extract0 rfl rfl) rfl ?_)
                  refine RV.op (OV.step gno (Step.assign rfl) rfl ?_)
                  refine RV.op (OV.step gno (Step.assign rfl) rfl ?_)
                  refine RV.nil ?_
                  refine KV.then_n ?_
                  refine KV.env [(0, _), (1, _), (2, _), (7, _), (8, _), (9, _), (13, _)] ⟨rfl, rfl, rfl, rfl, rfl, rfl, rfl, trivial⟩ ?_
                  refine CV.seq ?_
                  -- region 19 law.go:184
                  refine CV.region ?_
                  refine RV.op (OV.step gno (Step.move rfl) rfl ?_)
                  refine RV.op (OV.split gno (Step.neq rfl rfl) rfl (fun g4 => ?_) (fun g4 => ?_))
                  · -- True
                    exact absurd (hE1 (by assumption) (by omega) (by omega)).2.2 g4
                  · -- False
                    refine RV.nil ?_
                    refine KV.then_n ?_
                    refine KV.env [(0, _), (1, _), (2, _), (7, _), (8, _), (9, _), (93, _)] ⟨rfl, rfl, rfl, rfl, rfl, rfl, rfl, trivial⟩ ?_
                    refine CV.cond_f rfl ?_
                    refine CV.skip ?_
                    refine KV.block_n ?_
                    refine KV.then_n ?_
                    refine KV.env [(0, _), (1, _), (2, _), (7, _), (8, _), (9, _)] ⟨rfl, rfl, rfl, rfl, rfl, rfl, trivial⟩ ?_
                    -- region 10 law.go:175
                    refine CV.region ?_
                    refine RV.op (OV.step gno (Step.move rfl) rfl ?_)
                    (first | refine RV.op (OV.step gno (Step.add rfl rfl (wI64 (by omega) (by omega))) rfl ?_) | refine RV.op (OV.step gno (Step.add rfl rfl rfl) rfl ?_))
                    refine RV.op (OV.step gno (Step.assign rfl) rfl ?_)
                    refine RV.nil ?_
                    refine KV.then_n ?_
                    refine KV.env [(0, _), (1, _), (2, _), (7, _), (8, _), (9, _)] ⟨rfl, rfl, rfl, rfl, rfl, rfl, trivial⟩ ?_
                    refine KV.sel [0, 0, 0, 0] [_, _, _, _] rfl ?_
                    exact KV.loop2 (x := j) (y := z) (j + 1) (⟨f2, s4, h2⟩) ⟨by omega, F2⟩ (by omega) ⟨rfl, rfl, rfl, rfl, (show some (Value.int .i64 _) = some (Value.int .i64 _) by congr 2; show _ = ((f2 : Nat) : Int); first | (have h15 := hE1 (by assumption) (by omega) (by omega); have h15a := h15.1; have h15b := h15.2.1; omega) | (have h00 := hE0 (by rintro ⟨k1, k2, k3⟩; first | omega | exact absurd (k1.symm.trans (by assumption : (l.getD j boolK.d) = false)) (by decide)); have h00a := h00.1; have h00b := h00.2; omega)), rfl, trivial⟩ (fun _ h => h)
                · -- False
                  refine RV.op (OV.step (gyes rfl) (Step.move rfl) rfl ?_)
                  refine RV.op (OV.skip rfl rfl ?_)
                  refine RV.op (OV.skip rfl rfl ?_)
                  refine RV.op (OV.step (gyes rfl) (Step.pick_f rfl rfl) rfl ?_)
                  refine RV.op (OV.step gno (Step.pick_f rfl rfl) rfl ?_)
                  refine RV.nil ?_
                  refine KV.then_n ?_
                  refine KV.env [(0, _), (1, _), (2, _), (7, _), (8, _), (9, _), (12, _), (83, _)] ⟨rfl, rfl, rfl, rfl, rfl, rfl, rfl, rfl, trivial⟩ ?_
                  refine CV.cond_f rfl ?_
                  refine CV.skip ?_
                  refine KV.then_n ?_
                  refine KV.env [(0, _), (1, _), (2, _), (7, _), (8, _), (9, _), (12, _)] ⟨rfl, rfl, rfl, rfl, rfl, rfl, rfl, trivial⟩ ?_
                  refine CV.seq ?_
                  -- region 16 law.go:182
                  refine CV.region ?_
                  refine RV.op (OV.step gno (Step.move rfl) rfl ?_)
                  refine RV.nil ?_
                  refine KV.then_n ?_
                  refine KV.env [(0, _), (1, _), (2, _), (7, _), (8, _), (9, _), (84, _)] ⟨rfl, rfl, rfl, rfl, rfl, rfl, rfl, trivial⟩ ?_
                  refine CV.cond_t rfl ?_
                  refine CV.seq ?_
                  -- region 17 law.go:183
                  refine CV.region ?_
                  refine RV.op (OV.step gno (Step.move rfl) rfl ?_)
                  (first | refine RV.op (OV.step gno (Step.add rfl rfl (wI64 (by omega) (by omega))) rfl ?_) | refine RV.op (OV.step gno (Step.add rfl rfl rfl) rfl ?_))
                  refine RV.op (OV.step gno (Step.assign rfl) rfl ?_)
                  refine RV.nil ?_
                  refine KV.then_n ?_
                  refine KV.env [(0, _), (1, _), (2, _), (7, _), (8, _), (9, _)] ⟨rfl, rfl, rfl, rfl, rfl, rfl, trivial⟩ ?_
                  refine CV.seq ?_
                  -- region 18 law.go:184
                  refine CV.region ?_
                  refine RV.op (OV.step gno (Step.move rfl) rfl ?_)
                  refine RV.op (OV.call [0, 0, 0, 0] (F := []) Try.func17 B17 N17 rfl rfl (fun w h => peek_fn b s4 F2.ok 0 4 (by unfold isU; decide)) (fun _ hb => hb.elim) gno rfl (fun v L' hp => ?_))
                  obtain ⟨rfl, rfl⟩ := hp
                  refine RV.op (OV.step gno (Step.move rfl) rfl ?_)
                  refine RV.op (OV.step gno (Step.extract0 rfl rfl) rfl ?_)
                  refine RV.op (OV.step gno (Step.extract0 rfl rfl) rfl ?_)
                  refine RV.op (OV.step gno (Step.assign rfl) rfl ?_)
                  refine RV.op (OV.step gno (Step.assign rfl) rfl ?_)
                  refine RV.nil ?_
                  refine KV.then_n ?_
                  refine KV.env [(0, _), (1, _), (2, _), (7, _), (8, _), (9, _), (13, _)] ⟨rfl, rfl, rfl, rfl, rfl, rfl, rfl, trivial⟩ ?_
                  refine CV.seq ?_
                  -- region 19 law.go:184
                  refine CV.region ?_
                  refine RV.op (OV.step gno (Step.move rfl) rfl ?_)
                  refine RV.op (OV.split gno (Step.neq rfl rfl) rfl (fun g4 => ?_) (fun g4 => ?_))
                  · -- True
                    exact absurd (hE1 (by assumption) (by omega) (by omega)).2.2 g4
                  · -- False
                    refine RV.nil ?_
                    refine KV.then_n ?_
                    refine KV.env [(0, _), (1, _), (2, _), (7, _), (8, _), (9, _), (93, _)] ⟨rfl, rfl, rfl, rfl, rfl, rfl, rfl, trivial⟩ ?_
                    refine CV.cond_f rfl ?_
                    refine CV.skip ?_
                    refine KV.block_n ?_
                    refine KV.then_n ?_
                    refine KV.env [(0, _), (1, _), (2, _), (7, _), (8, _), (9, _)] ⟨rfl, rfl, rfl, rfl, rfl, rfl, trivial⟩ ?_
                    -- region 10 law.go:175
                    refine CV.region ?_
                    refine RV.op (OV.step gno (Step.move rfl) rfl ?_)
                    (first | refine RV.op (OV.step gno (Step.add rfl rfl (wI64 (by omega) (by omega))) rfl ?_) | refine RV.op (OV.step gno (Step.add rfl rfl rfl) rfl ?_))
                    refine RV.op (OV.step gno (Step.assign rfl) rfl ?_)
                    refine RV.nil ?_
                    refine KV.then_n ?_
                    refine KV.env [(0, _), (1, _), (2, _), (7, _), (8, _), (9, _)] ⟨rfl, rfl, rfl, rfl, rfl, rfl, trivial⟩ ?_
                    refine KV.sel [0, 0, 0, 0] [_, _, _, _] rfl ?_
                    exact KV.loop2 (x := j) (y := z) (j + 1) (⟨f2, s4, h2⟩) ⟨by omega, F2⟩ (by omega) ⟨rfl, rfl, rfl, rfl, (show some (Value.int .i64 _) = some (Value.int .i64 _) by congr 2; show _ = ((f2 : Nat) : Int); first | (have h15 := hE1 (by assumption) (by omega) (by omega); have h15a := h15.1; have h15b := h15.2.1; omega) | (have h00 := hE0 (by rintro ⟨k1, k2, k3⟩; first | omega | exact absurd (k1.symm.trans (by assumption : (l.getD j boolK.d) = false)) (by decide)); have h00a := h00.1; have h00b := h00.2; omega)), rfl, trivial⟩ (fun _ h => h)
          · -- False
            refine RV.op (OV.step gno (Step.pick_t rfl rfl) rfl ?_)
            refine RV.op (OV.step gno (Step.assign rfl) rfl ?_)
            refine RV.nil ?_
            refine KV.then_n ?_
            refine KV.env [(0, _), (1, _), (2, _), (7, _), (8, _), (9, _), (11, _), (12, _)] ⟨rfl, rfl, rfl, rfl, rfl, rfl, rfl, rfl, trivial⟩ ?_
            refine CV.seq ?_
            refine CV.seq ?_
            -- region 14 law.go:179
            refine CV.region ?_
            refine RV.op (OV.step gno (Step.move rfl) rfl ?_)
            refine RV.op (OV.split gno (Step.eql rfl rfl) rfl (fun g1 => ?_) (fun g1 => ?_))
            · -- True
              refine RV.op (OV.step gno (Step.move rfl) rfl ?_)
              refine RV.op (OV.split gno (Step.neqBool Try.underlying4 rfl rfl) rfl (fun g2 => ?_) (fun g2 => ?_))
              · -- True
                refine RV.op (OV.step gno (Step.move rfl) rfl ?_)
                refine RV.op (OV.skip rfl rfl ?_)
                refine RV.op (OV.skip rfl rfl ?_)
                refine RV.op (OV.skip rfl rfl ?_)
                refine RV.op (OV.skipU rfl rfl ?_)
                refine RV.op (OV.skipU rfl rfl ?_)
                refine RV.op (OV.skip rfl rfl ?_)
                refine RV.op (OV.step gno (Step.pick_t rfl rfl) rfl ?_)
                refine RV.nil ?_
                refine KV.then_n ?_
                refine KV.env [(0, _), (1, _), (2, _), (7, _), (8, _), (9, _), (12, _), (83, _)] ⟨rfl, rfl, rfl, rfl, rfl, rfl, rfl, rfl, trivial⟩ ?_
                refine CV.cond_t rfl ?_
                refine CV.seq ?_
                -- region 15 law.go:180
                refine CV.region ?_
                refine RV.op (OV.step gno (Step.assign rfl) rfl ?_)
                refine RV.nil ?_
                refine KV.then_n ?_
                refine KV.env [(6, _)] ⟨rfl, trivial⟩ ?_
                refine CV.ret ?_
                refine KV.then_ret ?_
                refine KV.block_ret ?_
                refine KV.then_ret ?_
                refine KV.then_ret ?_
                refine KV.block_ret ?_
                refine KV.then_ret ?_
                -- return at r15
                refine KV.sel [] [] rfl ?_
                exfalso
                first | exact g2 rfl | (have h15 := hE1 (by assumption) (by omega) (by omega); have h15a := h15.1; have h15b := h15.2.1; omega) | (have h00 := hE0 (by rintro ⟨k1, k2, k3⟩; first | omega | exact absurd (k1.symm.trans (by assumption : (l.getD j boolK.d) = false)) (by decide)); have h00a := h00.1; have h00b := h00.2; omega)
              · -- False
                refine RV.op (OV.step gno (Step.move rfl) rfl ?_)
                refine RV.op (OV.step (gyes rfl) (Step.move rfl) rfl ?_)
                refine RV.op (OV.split (gyes rfl) (Step.neq rfl rfl) rfl (fun g3 => ?_) (fun g3 => ?_))
                · -- True
                  refine RV.op (OV.step (gyes rfl) (Step.move rfl) rfl ?_)
                  refine RV.op (OV.step (gyes rfl) (Step.move rfl) rfl ?_)
                  refine RV.op (OV.step (gyes rfl) (Step.not rfl) rfl ?_)
                  refine RV.op (OV.step (gyes rfl) (Step.pick_t rfl rfl) rfl ?_)
                  refine RV.op (OV.step gno (Step.pick_f rfl rfl) rfl ?_)
                  refine RV.nil ?_
                  refine KV.then_n ?_
                  refine KV.env [(0, _), (1, _), (2, _), (7, _), (8, _), (9, _), (12, _), (83, _)] ⟨rfl, rfl, rfl, rfl, rfl, rfl, rfl, rfl, trivial⟩ ?_
                  refine CV.cond_t rfl ?_
                  refine CV.seq ?_
                  -- region 15 law.go:180
                  refine CV.region ?_
                  refine RV.op (OV.step gno (Step.assign rfl) rfl ?_)
                  refine RV.nil ?_
                  refine KV.then_n ?_
                  refine KV.env [(6, _)] ⟨rfl, trivial⟩ ?_
                  refine CV.ret ?_
                  refine KV.then_ret ?_
                  refine KV.block_ret ?_
                  refine KV.then_ret ?_
                  refine KV.then_ret ?_
                  refine KV.block_ret ?_
                  refine KV.then_ret ?_
                  -- return at r15
                  refine KV.sel [] [] rfl ?_
                  exfalso
                  first | exact g2 rfl | (have h15 := hE1 (by assumption) (by omega) (by omega); have h15a := h15.1; have h15b := h15.2.1; omega) | (have h00 := hE0 (by rintro ⟨k1, k2, k3⟩; first | omega | exact absurd (k1.symm.trans (by assumption : (l.getD j boolK.d) = false)) (by decide)); have h00a := h00.1; have h00b := h00.2; omega)
                · -- False
                  refine RV.op (OV.step (gyes rfl) (Step.move rfl) rfl ?_)
                  refine RV.op (OV.skip rfl rfl ?_)
                  refine RV.op (OV.skip rfl rfl ?_)
                  refine RV.op (OV.step (gyes rfl) (Step.pick_f rfl rfl) rfl ?_)
                  refine RV.op (OV.step gno (Step.pick_f rfl rfl) rfl ?_)
                  refine RV.nil ?_
                  refine KV.then_n ?_
                  refine KV.env [(0, _), (1, _), (2, _), (7, _), (8, _), (9, _), (12, _), (83, _)] ⟨rfl, rfl, rfl, rfl, rfl, rfl, rfl, rfl, trivial⟩ ?_
                  refine CV.cond_f rfl ?_
                  refine CV.skip ?_
                  refine KV.then_n ?_
                  refine KV.env [(0, _), (1, _), (2, _), (7, _), (8, _), (9, _), (12, _)] ⟨rfl, rfl, rfl, rfl, rfl, rfl, rfl, trivial⟩ ?_
                  refine CV.seq ?_
                  -- region 16 law.go:182
                  refine CV.region ?_
                  refine RV.op (OV.step gno (Step.move rfl) rfl ?_)
                  refine RV.nil ?_
                  refine KV.then_n ?_
                  refine KV.env [(0, _), (1, _), (2, _), (7, _), (8, _), (9, _), (84, _)] ⟨rfl, rfl, rfl, rfl, rfl, rfl, rfl, trivial⟩ ?_
                  refine CV.cond_f rfl ?_
                  refine CV.skip ?_
                  refine KV.block_n ?_
                  refine KV.then_n ?_
                  refine KV.env [(0, _), (1, _), (2, _), (7, _), (8, _), (9, _)] ⟨rfl, rfl, rfl, rfl, rfl, rfl, trivial⟩ ?_
                  -- region 10 law.go:175
                  refine CV.region ?_
                  refine RV.op (OV.step gno (Step.move rfl) rfl ?_)
                  (first | refine RV.op (OV.step gno (Step.add rfl rfl (wI64 (by omega) (by omega))) rfl ?_) | refine RV.op (OV.step gno (Step.add rfl rfl rfl) rfl ?_))
                  refine RV.op (OV.step gno (Step.assign rfl) rfl ?_)
                  refine RV.nil ?_
                  refine KV.then_n ?_
                  refine KV.env [(0, _), (1, _), (2, _), (7, _), (8, _), (9, _)] ⟨rfl, rfl, rfl, rfl, rfl, rfl, trivial⟩ ?_
                  refine KV.sel [0, 0, 0, 0] [_, _, _, _] rfl ?_
                  exact KV.loop2 (x := j) (y := z) (j + 1) (⟨f2, s4, h2⟩) ⟨by omega, F2⟩ (by omega) ⟨rfl, rfl, rfl, rfl, (show some (Value.int .i64 _) = some (Value.int .i64 _) by congr 2; show _ = ((f2 : Nat) : Int); first | (have h15 := hE1 (by assumption) (by omega) (by omega); have h15a := h15.1; have h15b := h15.2.1; omega) | (have h00 := hE0 (by rintro ⟨k1, k2, k3⟩; first | omega | exact absurd (k1.symm.trans (by assumption : (l.getD j boolK.d) = false)) (by decide)); have h00a := h00.1; have h00b := h00.2; omega)), rfl, trivial⟩ (fun _ h => h)
            · -- False
              refine RV.op (OV.step gno (Step.move rfl) rfl ?_)
              refine RV.op (OV.split gno (Step.neqBool Try.underlying4 rfl rfl) rfl (fun g2 => ?_) (fun g2 => ?_))
              · -- True
                refine RV.op (OV.step gno (Step.move rfl) rfl ?_)
                refine RV.op (OV.skip rfl rfl ?_)
                refine RV.op (OV.skip rfl rfl ?_)
                refine RV.op (OV.skip rfl rfl ?_)
                refine RV.op (OV.skipU rfl rfl ?_)
                refine RV.op (OV.skipU rfl rfl ?_)
                refine RV.op (OV.skip rfl rfl ?_)
                refine RV.op (OV.step gno (Step.pick_t rfl rfl) rfl ?_)
                refine RV.nil ?_
                refine KV.then_n ?_
                refine KV.env [(0, _), (1, _), (2, _), (7, _), (8, _), (9, _), (12, _), (83, _)] ⟨rfl, rfl, rfl, rfl, rfl, rfl, rfl, rfl, trivial⟩ ?_
                refine CV.cond_t rfl ?_
                refine CV.seq ?_
                -- region 15 law.go:180
                refine CV.region ?_
                refine RV.op (OV.step gno (Step.assign rfl) rfl ?_)
                refine RV.nil ?_
                refine KV.then_n ?_
                refine KV.env [(6, _)] ⟨rfl, trivial⟩ ?_
                refine CV.ret ?_
                refine KV.then_ret ?_
                refine KV.block_ret ?_
                refine KV.then_ret ?_
                refine KV.then_ret ?_
                refine KV.block_ret ?_
                refine KV.then_ret ?_
                -- return at r15
                refine KV.sel [] [] rfl ?_
                exfalso
                first | exact g2 rfl | (have h15 := hE1 (by assumption) (by omega) (by omega); have h15a := h15.1; have h15b := h15.2.1; omega) | (have h00 := hE0 (by rintro ⟨k1, k2, k3⟩; first | omega | exact absurd (k1.symm.trans (by assumption : (l.getD j boolK.d) = false)) (by decide)); have h00a := h00.1; have h00b := h00.2; omega)
              · -- False
                refine RV.op (OV.step gno (Step.move rfl) rfl ?_)
                refine RV.op (OV.step (gyes rfl) (Step.move rfl) rfl ?_)
                refine RV.op (OV.split (gyes rfl) (Step.neq rfl rfl) rfl (fun g3 => ?_) (fun g3 => ?_))
                · -- True
                  refine RV.op (OV.step (gyes rfl) (Step.move rfl) rfl ?_)
                  refine RV.op (OV.step (gyes rfl) (Step.move rfl) rfl ?_)
                  refine RV.op (OV.step (gyes rfl) (Step.not rfl) rfl ?_)
                  refine RV.op (OV.step (gyes rfl) (Step.pick_t rfl rfl) rfl ?_)
                  refine RV.op (OV.step gno (Step.pick_f rfl rfl) rfl ?_)
                  refine RV.nil ?_
                  refine KV.then_n ?_
                  refine KV.env [(0, _), (1, _), (2, _), (7, _), (8, _), (9, _), (12, _), (83, _)] ⟨rfl, rfl, rfl, rfl, rfl, rfl, rfl, rfl, trivial⟩ ?_
                  refine CV.cond_t rfl ?_
                  refine CV.seq ?_
                  -- region 15 law.go:180
                  refine CV.region ?_
                  refine RV.op (OV.step gno (Step.assign rfl) rfl ?_)
                  refine RV.nil ?_
                  refine KV.then_n ?_
                  refine KV.env [(6, _)] ⟨rfl, trivial⟩ ?_
                  refine CV.ret ?_
                  refine KV.then_ret ?_
                  refine KV.block_ret ?_
                  refine KV.then_ret ?_
                  refine KV.then_ret ?_
                  refine KV.block_ret ?_
                  refine KV.then_ret ?_
                  -- return at r15
                  refine KV.sel [] [] rfl ?_
                  exfalso
                  first | exact g2 rfl | (have h15 := hE1 (by assumption) (by omega) (by omega); have h15a := h15.1; have h15b := h15.2.1; omega) | (have h00 := hE0 (by rintro ⟨k1, k2, k3⟩; first | omega | exact absurd (k1.symm.trans (by assumption : (l.getD j boolK.d) = false)) (by decide)); have h00a := h00.1; have h00b := h00.2; omega)
                · -- False
                  refine RV.op (OV.step (gyes rfl) (Step.move rfl) rfl ?_)
                  refine RV.op (OV.skip rfl rfl ?_)
                  refine RV.op (OV.skip rfl rfl ?_)
                  refine RV.op (OV.step (gyes rfl) (Step.pick_f rfl rfl) rfl ?_)
                  refine RV.op (OV.step gno (Step.pick_f rfl rfl) rfl ?_)
                  refine RV.nil ?_
                  refine KV.then_n ?_
                  refine KV.env [(0, _), (1, _), (2, _), (7, _), (8, _), (9, _), (12, _), (83, _)] ⟨rfl, rfl, rfl, rfl, rfl, rfl, rfl, rfl, trivial⟩ ?_
                  refine CV.cond_f rfl ?_
                  refine CV.skip ?_
                  refine KV.then_n ?_
                  refine KV.env [(0, _), (1, _), (2, _), (7, _), (8, _), (9, _), (12, _)] ⟨rfl, rfl, rfl, rfl, rfl, rfl, rfl, trivial⟩ ?_
                  refine CV.seq ?_
                  -- region 16 law.go:182
                  refine CV.region ?_
                  refine RV.op (OV.step gno (Step.move rfl) rfl ?_)
                  refine RV.nil ?_
                  refine KV.then_n ?_
                  refine KV.env [(0, _), (1, _), (2, _), (7, _), (8, _), (9, _), (84, _)] ⟨rfl, rfl, rfl, rfl, rfl, rfl, rfl, trivial⟩ ?_
                  refine CV.cond_f rfl ?_
                  refine CV.skip ?_
                  refine KV.block_n ?_
                  refine KV.then_n ?_
                  refine KV.env [(0, _), (1, _), (2, _), (7, _), (8, _), (9, _)] ⟨rfl, rfl, rfl, rfl, rfl, rfl, trivial⟩ ?_
                  -- region 10 law.go:175
                  refine CV.region ?_
                  refine RV.op (OV.step gno (Step.move rfl) rfl ?_)
                  (first | refine RV.op (OV.step gno (Step.add rfl rfl (wI64 (by omega) (by omega))) rfl ?_) | refine RV.op (OV.step gno (Step.add rfl rfl rfl) rfl ?_))
                  refine RV.op (OV.step gno (Step.assign rfl) rfl ?_)
                  refine RV.nil ?_
                  refine KV.then_n ?_
                  refine KV.env [(0, _), (1, _), (2, _), (7, _), (8, _), (9, _)] ⟨rfl, rfl, rfl, rfl, rfl, rfl, trivial⟩ ?_
                  refine KV.sel [0, 0, 0, 0] [_, _, _, _] rfl ?_
                  exact KV.loop2 (x := j) (y := z) (j + 1) (⟨f2, s4, h2⟩) ⟨by omega, F2⟩ (by omega) ⟨rfl, rfl, rfl, rfl, (show some (Value.int .i64 _) = some (Value.int .i64 _) by congr 2; show _ = ((f2 : Nat) : Int); first | (have h15 := hE1 (by assumption) (by omega) (by omega); have h15a := h15.1; have h15b := h15.2.1; omega) | (have h00 := hE0 (by rintro ⟨k1, k2, k3⟩; first | omega | exact absurd (k1.symm.trans (by assumption : (l.getD j boolK.d) = false)) (by decide)); have h00a := h00.1; have h00b := h00.2; omega)), rfl, trivial⟩ (fun _ h => h)
        · -- False
          refine RV.op (OV.step gno (Step.pick_t rfl rfl) rfl ?_)
          refine RV.op (OV.step gno (Step.move rfl) rfl ?_)
          refine RV.op (OV.skip rfl rfl ?_)
          refine RV.op (OV.skip rfl rfl ?_)
          refine RV.op (OV.skip rfl rfl ?_)
          refine RV.op (OV.step gno (Step.pick_f rfl rfl) rfl ?_)
          refine RV.op (OV.step gno (Step.assign rfl) rfl ?_)
          refine RV.nil ?_
          refine KV.then_n ?_
          refine KV.env [(0, _), (1, _), (2, _), (7, _), (8, _), (9, _), (11, _), (12, _)] ⟨rfl, rfl, rfl, rfl, rfl, rfl, rfl, rfl, trivial⟩ ?_
          refine CV.seq ?_
          refine CV.seq ?_
          -- region 14 law.go:179
          refine CV.region ?_
          refine RV.op (OV.step gno (Step.move rfl) rfl ?_)
          refine RV.op (OV.split gno (Step.eql rfl rfl) rfl (fun g1 => ?_) (fun g1 => ?_))
          · -- True
            refine RV.op (OV.step gno (Step.move rfl) rfl ?_)
            refine RV.op (OV.split gno (Step.neqBool Try.underlying4 rfl rfl) rfl (fun g2 => ?_) (fun g2 => ?_))
            · -- True
              refine RV.op (OV.step gno (Step.move rfl) rfl ?_)
              refine RV.op (OV.skip rfl rfl ?_)
              refine RV.op (OV.skip rfl rfl ?_)
              refine RV.op (OV.skip rfl rfl ?_)
              refine RV.op (OV.skipU rfl rfl ?_)
              refine RV.op (OV.skipU rfl rfl ?_)
              refine RV.op (OV.skip rfl rfl ?_)
              refine RV.op (OV.step gno (Step.pick_t rfl rfl) rfl ?_)
              refine RV.nil ?_
              refine KV.then_n ?_
              refine KV.env [(0, _), (1, _), (2, _), (7, _), (8, _), (9, _), (12, _), (83, _)] ⟨rfl, rfl, rfl, rfl, rfl, rfl, rfl, rfl, trivial⟩ ?_
              refine CV.cond_t rfl ?_
              refine CV.seq ?_
              -- region 15 law.go:180
              refine CV.region ?_
              refine RV.op (OV.step gno (Step.assign rfl) rfl ?_)
              refine RV.nil ?_
              refine KV.then_n ?_
              refine KV.env [(6, _)] ⟨rfl, trivial⟩ ?_
              refine CV.ret ?_
              refine KV.then_ret ?_
              refine KV.block_ret ?_
              refine KV.then_ret ?_
              refine KV.then_ret ?_
              refine KV.block_ret ?_
              refine KV.then_ret ?_
              -- return at r15
              refine KV.sel [] [] rfl ?_
              exfalso
              first | exact g2 rfl | (have h15 := hE1 (by assumption) (by omega) (by omega); have h15a := h15.1; have h15b := h15.2.1; omega) | (have h00 := hE0 (by rintro ⟨k1, k2, k3⟩; first | omega | exact absurd (k1.symm.trans (by assumption : (l.getD j boolK.d) = false)) (by decide)); have h00a := h00.1; have h00b := h00.2; omega)
            · -- False
              refine RV.op (OV.step gno (Step.move rfl) rfl ?_)
              refine RV.op (OV.step (gyes rfl) (Step.move rfl) rfl ?_)
              refine RV.op (OV.split (gyes rfl) (Step.neq rfl rfl) rfl (fun g3 => ?_) (fun g3 => ?_))
              · -- True
                refine RV.op (OV.step (gyes rfl) (Step.move rfl) rfl ?_)
                refine RV.op (OV.step (gyes rfl) (Step.move rfl) rfl ?_)
                refine RV.op (OV.step (gyes rfl) (Step.not rfl) rfl ?_)
                refine RV.op (OV.step (gyes rfl) (Step.pick_t rfl rfl) rfl ?_)
                refine RV.op (OV.step gno (Step.pick_f rfl rfl) rfl ?_)
                refine RV.nil ?_
                refine KV.then_n ?_
                refine KV.env [(0, _), (1, _), (2, _), (7, _), (8, _), (9, _), (12, _), (83, _)] ⟨rfl, rfl, rfl, rfl, rfl, rfl, rfl, rfl, trivial⟩ ?_
                refine CV.cond_t rfl ?_
                refine CV.seq ?_
                -- region 15 law.go:180
                refine CV.region ?_
                refine RV.op (OV.step gno (Step.assign rfl) rfl ?_)
                refine RV.nil ?_
                refine KV.then_n ?_
                refine KV.env [(6, _)] ⟨rfl, trivial⟩ ?_
                refine CV.ret ?_
                refine KV.then_ret ?_
                refine KV.block_ret ?_
                refine KV.then_ret ?_
                refine KV.then_ret ?_
                refine KV.block_ret ?_
                refine KV.then_ret ?_
                -- return at r15
                refine KV.sel [] [] rfl ?_
                exfalso
                first | exact g2 rfl | (have h15 := hE1 (by assumption) (by omega) (by omega); have h15a := h15.1; have h15b := h15.2.1; omega) | (have h00 := hE0 (by rintro ⟨k1, k2, k3⟩; first | omega | exact absurd (k1.symm.trans (by assumption : (l.getD j boolK.d) = false)) (by decide)); have h00a := h00.1; have h00b := h00.2; omega)
              · -- False
                refine RV.op (OV.step (gyes rfl) (Step.move rfl) rfl ?_)
                refine RV.op (OV.skip rfl rfl ?_)
                refine RV.op (OV.skip rfl rfl ?_)
                refine RV.op (OV.step (gyes rfl) (Step.pick_f rfl rfl) rfl ?_)
                refine RV.op (OV.step gno (Step.pick_f rfl rfl) rfl ?_)
                refine RV.nil ?_
                refine KV.then_n ?_
                refine KV.env [(0, _), (1, _), (2, _), (7, _), (8, _), (9, _), (12, _), (83, _)] ⟨rfl, rfl, rfl, rfl, rfl, rfl, rfl, rfl, trivial⟩ ?_
                refine CV.cond_f rfl ?_
                refine CV.skip ?_
                refine KV.then_n ?_
                refine KV.env [(0, _), (1, _), (2, _), (7, _), (8, _), (9, _), (12, _)] ⟨rfl, rfl, rfl, rfl, rfl, rfl, rfl, trivial⟩ ?_
                refine CV.seq ?_
                -- region 16 law.go:182
                refine CV.region ?_
                refine RV.op (OV.step gno (Step.move rfl) rfl ?_)
                refine RV.nil ?_
                refine KV.then_n ?_
                refine KV.env [(0, _), (1, _), (2, _), (7, _), (8, _), (9, _), (84, _)] ⟨rfl, rfl, rfl, rfl, rfl, rfl, rfl, trivial⟩ ?_
                refine CV.cond_f rfl ?_
                refine CV.skip ?_
                refine KV.block_n ?_
                refine KV.then_n ?_
                refine KV.env [(0, _), (1, _), (2, _), (7, _), (8, _), (9, _)] ⟨rfl, rfl, rfl, rfl, rfl, rfl, trivial⟩ ?_
                -- region 10 law.go:175
                refine CV.region ?_
                refine RV.op (OV.step gno (Step.move rfl) rfl ?_)
                (first | refine RV.op (OV.step gno (Step.add rfl rfl (wI64 (by omega) (by omega))) rfl ?_) | refine RV.op (OV.step gno (Step.add rfl rfl rfl) rfl ?_))
                refine RV.op (OV.step gno (Step.assign rfl) rfl ?_)
                refine RV.nil ?_
                refine KV.then_n ?_
                refine KV.env [(0, _), (1, _), (2, _), (7, _), (8, _), (9, _)] ⟨rfl, rfl, rfl, rfl, rfl, rfl, trivial⟩ ?_
                refine KV.sel [0, 0, 0, 0] [_, _, _, _] rfl ?_
                exact KV.loop2 (x := j) (y := z) (j + 1) (⟨f2, s4, h2⟩) ⟨by omega, F2⟩ (by omega) ⟨rfl, rfl, rfl, rfl, (show some (Value.int .i64 _) = some (Value.int .i64 _) by congr 2; show _ = ((f2 : Nat) : Int); first | (have h15 := hE1 (by assumption) (by omega) (by omega); have h15a := h15.1; have h15b := h15.2.1; omega) | (have h00 := hE0 (by rintro ⟨k1, k2, k3⟩; first | omega | exact absurd (k1.symm.trans (by assumption : (l.getD j boolK.d) = false)) (by decide)); have h00a := h00.1; have h00b := h00.2; omega)), rfl, trivial⟩ (fun _ h => h)
          · -- False
            refine RV.op (OV.step gno (Step.move rfl) rfl ?_)
            refine RV.op (OV.split gno (Step.neqBool Try.underlying4 rfl rfl) rfl (fun g2 => ?_) (fun g2 => ?_))
            · -- True
              refine RV.op (OV.step gno (Step.move rfl) rfl ?_)
              refine RV.op (OV.skip rfl rfl ?_)
              refine RV.op (OV.skip rfl rfl ?_)
              refine RV.op (OV.skip rfl rfl ?_)
              refine RV.op (OV.skipU rfl rfl ?_)
              refine RV.op (OV.skipU rfl rfl ?_)
              refine RV.op (OV.skip rfl rfl ?_)
              refine RV.op (OV.step gno (Step.pick_t rfl rfl) rfl ?_)
              refine RV.nil ?_
              refine KV.then_n ?_
              refine KV.env [(0, _), (1, _), (2, _), (7, _), (8, _), (9, _), (12, _), (83, _)] ⟨rfl, rfl, rfl, rfl, rfl, rfl, rfl, rfl, trivial⟩ ?_
              refine CV.cond_t rfl ?_
              refine CV.seq ?_
              -- region 15 law.go:180
              refine CV.region ?_
              refine RV.op (OV.step gno (Step.assign rfl) rfl ?_)
              refine RV.nil ?_
              refine KV.then_n ?_
              refine KV.env [(6, _)] ⟨rfl, trivial⟩ ?_
              refine CV.ret ?_
              refine KV.then_ret ?_
              refine KV.block_ret ?_
              refine KV.then_ret ?_
              refine KV.then_ret ?_
              refine KV.block_ret ?_
              refine KV.then_ret ?_
              -- return at r15
              refine KV.sel [] [] rfl ?_
              exfalso
              first | exact g2 rfl | (have h15 := hE1 (by assumption) (by omega) (by omega); have h15a := h15.1; have h15b := h15.2.1; omega) | (have h00 := hE0 (by rintro ⟨k1, k2, k3⟩; first | omega | exact absurd (k1.symm.trans (by assumption : (l.getD j boolK.d) = false)) (by decide)); have h00a := h00.1; have h00b := h00.2; omega)
            · -- False
              refine RV.op (OV.step gno (Step.move rfl) rfl ?_)
              refine RV.op (OV.step (gyes rfl) (Step.move rfl) rfl ?_)
              refine RV.op (OV.split (gyes rfl) (Step.neq rfl rfl) rfl (fun g3 => ?_) (fun g3 => ?_))
              · -- True
                refine RV.op (OV.step (gyes rfl) (Step.move rfl) rfl ?_)
                refine RV.op (OV.step (gyes rfl) (Step.move rfl) rfl ?_)
                refine RV.op (OV.step (gyes rfl) (Step.not rfl) rfl ?_)
                refine RV.op (OV.step (gyes rfl) (Step.pick_t rfl rfl) rfl ?_)
                refine RV.op (OV.step gno (Step.pick_f rfl rfl) rfl ?_)
                refine RV.nil ?_
                refine KV.then_n ?_
                refine KV.env [(0, _), (1, _), (2, _), (7, _), (8, _), (9, _), (12, _), (83, _)] ⟨rfl, rfl, rfl, rfl, rfl, rfl, rfl, rfl, trivial⟩ ?_
                refine CV.cond_t rfl ?_
                refine CV.seq ?_
                -- region 15 law.go:180
                refine CV.region ?_
                refine RV.op (OV.step gno (Step.assign rfl) rfl ?_)
                refine RV.nil ?_
                refine KV.then_n ?_
                refine KV.env [(6, _)] ⟨rfl, trivial⟩ ?_
                refine CV.ret ?_
                refine KV.then_ret ?_
                refine KV.block_ret ?_
                refine KV.then_ret ?_
                refine KV.then_ret ?_
                refine KV.block_ret ?_
                refine KV.then_ret ?_
                -- return at r15
                refine KV.sel [] [] rfl ?_
                exfalso
                first | exact g2 rfl | (have h15 := hE1 (by assumption) (by omega) (by omega); have h15a := h15.1; have h15b := h15.2.1; omega) | (have h00 := hE0 (by rintro ⟨k1, k2, k3⟩; first | omega | exact absurd (k1.symm.trans (by assumption : (l.getD j boolK.d) = false)) (by decide)); have h00a := h00.1; have h00b := h00.2; omega)
              · -- False
                refine RV.op (OV.step (gyes rfl) (Step.move rfl) rfl ?_)
                refine RV.op (OV.skip rfl rfl ?_)
                refine RV.op (OV.skip rfl rfl ?_)
                refine RV.op (OV.step (gyes rfl) (Step.pick_f rfl rfl) rfl ?_)
                refine RV.op (OV.step gno (Step.pick_f rfl rfl) rfl ?_)
                refine RV.nil ?_
                refine KV.then_n ?_
                refine KV.env [(0, _), (1, _), (2, _), (7, _), (8, _), (9, _), (12, _), (83, _)] ⟨rfl, rfl, rfl, rfl, rfl, rfl, rfl, rfl, trivial⟩ ?_
                refine CV.cond_f rfl ?_
                refine CV.skip ?_
                refine KV.then_n ?_
                refine KV.env [(0, _), (1, _), (2, _), (7, _), (8, _), (9, _), (12, _)] ⟨rfl, rfl, rfl, rfl, rfl, rfl, rfl, trivial⟩ ?_
                refine CV.seq ?_
                -- region 16 law.go:182
                refine CV.region ?_
                refine RV.op (OV.step gno (Step.move rfl) rfl ?_)
                refine RV.nil ?_
                refine KV.then_n ?_
                refine KV.env [(0, _), (1, _), (2, _), (7, _), (8, _), (9, _), (84, _)] ⟨rfl, rfl, rfl, rfl, rfl, rfl, rfl, trivial⟩ ?_
                refine CV.cond_f rfl ?_
                refine CV.skip ?_
                refine KV.block_n ?_
                refine KV.then_n ?_
                refine KV.env [(0, _), (1, _), (2, _), (7, _), (8, _), (9, _)] ⟨rfl, rfl, rfl, rfl, rfl, rfl, trivial⟩ ?_
                -- region 10 law.go:175
                refine CV.region ?_
                refine RV.op (OV.step gno (Step.move rfl) rfl ?_)
                (first | refine RV.op (OV.step gno (Step.add rfl rfl (wI64 (by omega) (by omega))) rfl ?_) | refine RV.op (OV.step gno (Step.add rfl rfl rfl) rfl ?_))
                refine RV.op (OV.step gno (Step.assign rfl) rfl ?_)
                refine RV.nil ?_
                refine KV.then_n ?_
                refine KV.env [(0, _), (1, _), (2, _), (7, _), (8, _), (9, _)] ⟨rfl, rfl, rfl, rfl, rfl, rfl, trivial⟩ ?_
                refine KV.sel [0, 0, 0, 0] [_, _, _, _] rfl ?_
                exact KV.loop2 (x := j) (y := z) (j + 1) (⟨f2, s4, h2⟩) ⟨by omega, F2⟩ (by omega) ⟨rfl, rfl, rfl, rfl, (show some (Value.int .i64 _) = some (Value.int .i64 _) by congr 2; show _ = ((f2 : Nat) : Int); first | (have h15 := hE1 (by assumption) (by omega) (by omega); have h15a := h15.1; have h15b := h15.2.1; omega) | (have h00 := hE0 (by rintro ⟨k1, k2, k3⟩; first | omega | exact absurd (k1.symm.trans (by assumption : (l.getD j boolK.d) = false)) (by decide)); have h00a := h00.1; have h00b := h00.2; omega)), rfl, trivial⟩ (fun _ h => h)
      · -- False
        refine RV.op (OV.skip rfl rfl ?_)
        refine RV.op (OV.skip rfl rfl ?_)
        refine RV.op (OV.skip rfl rfl ?_)
        refine RV.op (OV.skip rfl rfl ?_)
        refine RV.op (OV.skip rfl rfl ?_)
        refine RV.op (OV.step gno (Step.pick_f rfl rfl) rfl ?_)
        refine RV.op (OV.step gno (Step.move rfl) rfl ?_)
        refine RV.op (OV.skip rfl rfl ?_)
        refine RV.op (OV.skip rfl rfl ?_)
        refine RV.op (OV.skip rfl rfl ?_)
        refine RV.op (OV.step gno (Step.pick_f rfl rfl) rfl ?_)
        refine RV.op (OV.step gno (Step.assign rfl) rfl ?_)
        refine RV.nil ?_
        refine KV.then_n ?_
        refine KV.env [(0, _), (1, _), (2, _), (7, _), (8, _), (9, _), (11, _), (12, _)] ⟨rfl, rfl, rfl, rfl, rfl, rfl, rfl, rfl, trivial⟩ ?_
        refine CV.seq ?_
        refine CV.seq ?_
        -- region 14 law.go:179
        refine CV.region ?_
        refine RV.op (OV.step gno (Step.move rfl) rfl ?_)
        refine RV.op (OV.split gno (Step.eql rfl rfl) rfl (fun g1 => ?_) (fun g1 => ?_))
        · -- True
          refine RV.op (OV.step gno (Step.move rfl) rfl ?_)
          refine RV.op (OV.split gno (Step.neqBool Try.underlying4 rfl rfl) rfl (fun g2 => ?_) (fun g2 => ?_))
          · -- True
            refine RV.op (OV.step gno (Step.move rfl) rfl ?_)
            refine RV.op (OV.skip rfl rfl ?_)
            refine RV.op (OV.skip rfl rfl ?_)
            refine RV.op (OV.skip rfl rfl ?_)
            refine RV.op (OV.skipU rfl rfl ?_)
            refine RV.op (OV.skipU rfl rfl ?_)
            refine RV.op (OV.skip rfl rfl ?_)
            refine RV.op (OV.step gno (Step.pick_t rfl rfl) rfl ?_)
            refine RV.nil ?_
            refine KV.then_n ?_
            refine KV.env [(0, _), (1, _), (2, _), (7, _), (8, _), (9, _), (12, _), (83, _)] ⟨rfl, rfl, rfl, rfl, rfl, rfl, rfl, rfl, trivial⟩ ?_
            refine CV.cond_t rfl ?_
            refine CV.seq ?_
            -- region 15 law.go:180
            refine CV.region ?_
            refine RV.op (OV.step gno (Step.assign rfl) rfl ?_)
            refine RV.nil ?_
            refine KV.then_n ?_
            refine KV.env [(6, _)] ⟨rfl, trivial⟩ ?_
            refine CV.ret ?_
            refine KV.then_ret ?_
            refine KV.block_ret ?_
            refine KV.then_ret ?_
            refine KV.then_ret ?_
            refine KV.block_ret ?_
            refine KV.then_ret ?_
            -- return at r15
            refine KV.sel [] [] rfl ?_
            exfalso
            first | exact g2 rfl | (have h15 := hE1 (by assumption) (by omega) (by omega); have h15a := h15.1; have h15b := h15.2.1; omega) | (have h00 := hE0 (by rintro ⟨k1, k2, k3⟩; first | omega | exact absurd (k1.symm.trans (by assumption : (l.getD j boolK.d) = false)) (by decide)); have h00a := h00.1; have h00b := h00.2; omega)
          · -- False
            refine RV.op (OV.step gno (Step.move rfl) rfl ?_)
            refine RV.op (OV.step (gyes rfl) (Step.move rfl) rfl ?_)
            refine RV.op (OV.split (gyes rfl) (Step.neq rfl rfl) rfl (fun g3 => ?_) (fun g3 => ?_))
            · -- True
              refine RV.op (OV.step (gyes rfl) (Step.move rfl) rfl ?_)
              refine RV.op (OV.step (gyes rfl) (Step.move rfl) rfl ?_)
              refine RV.op (OV.step (gyes rfl) (Step.not rfl) rfl ?_)
              refine RV.op (OV.step (gyes rfl) (Step.pick_t rfl rfl) rfl ?_)
              refine RV.op (OV.step gno (Step.pick_f rfl rfl) rfl ?_)
              refine RV.nil ?_
              refine KV.then_n ?_
              refine KV.env [(0, _), (1, _), (2, _), (7, _), (8, _), (9, _), (12, _), (83, _)] ⟨rfl, rfl, rfl, rfl, rfl, rfl, rfl, rfl, trivial⟩ ?_
              refine CV.cond_t rfl ?_
              refine CV.seq ?_
              -- region 15 law.go:180
              refine CV.region ?_
              refine RV.op (OV.step gno (Step.assign rfl) rfl ?_)
              refine RV.nil ?_
              refine KV.then_n ?_
              refine KV.env [(6, _)] ⟨rfl, trivial⟩ ?_
              refine CV.ret ?_
              refine KV.then_ret ?_
              refine KV.block_ret ?_
              refine KV.then_ret ?_
              refine KV.then_ret ?_
              refine KV.block_ret ?_
              refine KV.then_ret ?_
              -- return at r15
              refine KV.sel [] [] rfl ?_
              exfalso
              first | exact g2 rfl | (have h15 := hE1 (by assumption) (by omega) (by omega); have h15a := h15.1; have h15b := h15.2.1; omega) | (have h00 := hE0 (by rintro ⟨k1, k2, k3⟩; first | omega | exact absurd (k1.symm.trans (by assumption : (l.getD j boolK.d) = false)) (by decide)); have h00a := h00.1; have h00b := h00.2; omega)
            · -- False
              refine RV.op (OV.step (gyes rfl) (Step.move rfl) rfl ?_)
              refine RV.op (OV.skip rfl rfl ?_)
              refine RV.op (OV.skip rfl rfl ?_)
              refine RV.op (OV.step (gyes rfl) (Step.pick_f rfl rfl) rfl ?_)
              refine RV.op (OV.step gno (Step.pick_f rfl rfl) rfl ?_)
              refine RV.nil ?_
              refine KV.then_n ?_
              refine KV.env [(0, _), (1, _), (2, _), (7, _), (8, _), (9, _), (12, _), (83, _)] ⟨rfl, rfl, rfl, rfl, rfl, rfl, rfl, rfl, trivial⟩ ?_
              refine CV.cond_f rfl ?_
              refine CV.skip ?_
              refine KV.then_n ?_
              refine KV.env [(0, _), (1, _), (2, _), (7, _), (8, _), (9, _), (12, _)] ⟨rfl, rfl, rfl, rfl, rfl, rfl, rfl, trivial⟩ ?_
              refine CV.seq ?_
              -- region 16 law.go:182
              refine CV.region ?_
              refine RV.op (OV.step gno (Step.move rfl) rfl ?_)
              refine RV.nil ?_
              refine KV.then_n ?_
              refine KV.env [(0, _), (1, _), (2, _), (7, _), (8, _), (9, _), (84, _)] ⟨rfl, rfl, rfl, rfl, rfl, rfl, rfl, trivial⟩ ?_
              refine CV.cond_f rfl ?_
              refine CV.skip ?_
              refine KV.block_n ?_
              refine KV.then_n ?_
              refine KV.env [(0, _), (1, _), (2, _), (7, _), (8, _), (9, _)] ⟨rfl, rfl, rfl, rfl, rfl, rfl, trivial⟩ ?_
              -- region 10 law.go:175
              refine CV.region ?_
              refine RV.op (OV.step gno (Step.move rfl) rfl ?_)
              (first | refine RV.op (OV.step gno (Step.add rfl rfl (wI64 (by omega) (by omega))) rfl ?_) | refine RV.op (OV.step gno (Step.add rfl rfl rfl) rfl ?_))
              refine RV.op (OV.step gno (Step.assign rfl) rfl ?_)
              refine RV.nil ?_
              refine KV.then_n ?_
              refine KV.env [(0, _), (1, _), (2, _), (7, _), (8, _), (9, _)] ⟨rfl, rfl, rfl, rfl, rfl, rfl, trivial⟩ ?_
              refine KV.sel [0, 0, 0, 0] [_, _, _, _] rfl ?_
              exact KV.loop2 (x := j) (y := z) (j + 1) (⟨f2, s4, h2⟩) ⟨by omega, F2⟩ (by omega) ⟨rfl, rfl, rfl, rfl, (show some (Value.int .i64 _) = some (Value.int .i64 _) by congr 2; show _ = ((f2 : Nat) : Int); first | (have h15 := hE1 (by assumption) (by omega) (by omega); have h15a := h15.1; have h15b := h15.2.1; omega) | (have h00 := hE0 (by rintro ⟨k1, k2, k3⟩; first | omega | exact absurd (k1.symm.trans (by assumption : (l.getD j boolK.d) = false)) (by decide)); have h00a := h00.1; have h00b := h00.2; omega)), rfl, trivial⟩ (fun _ h => h)
        · -- False
          refine RV.op (OV.step gno (Step.move rfl) rfl ?_)
          refine RV.op (OV.split gno (Step.neqBool Try.underlying4 rfl rfl) rfl (fun g2 => ?_) (fun g2 => ?_))
          · -- True
            refine RV.op (OV.step gno (Step.move rfl) rfl ?_)
            refine RV.op (OV.skip rfl rfl ?_)
            refine RV.op (OV.skip rfl rfl ?_)
            refine RV.op (OV.skip rfl rfl ?_)
            refine RV.op (OV.skipU rfl rfl ?_)
            refine RV.op (OV.skipU rfl rfl ?_)
            refine RV.op (OV.skip rfl rfl ?_)
            refine RV.op (OV.step gno (Step.pick_t rfl rfl) rfl ?_)
            refine RV.nil ?_
            refine KV.then_n ?_
            refine KV.env [(0, _), (1, _), (2, _), (7, _), (8, _), (9, _), (12, _), (83, _)] ⟨rfl, rfl, rfl, rfl, rfl, rfl, rfl, rfl, trivial⟩ ?_
            refine CV.cond_t rfl ?_
            refine CV.seq ?_
            -- region 15 law.go:180
            refine CV.region ?_
            refine RV.op (OV.step gno (Step.assign rfl) rfl ?_)
            refine RV.nil ?_
            refine KV.then_n ?_
            refine KV.env [(6, _)] ⟨rfl, trivial⟩ ?_
            refine CV.ret ?_
            refine KV.then_ret ?_
            refine KV.block_ret ?_
            refine KV.then_ret ?_
            refine KV.then_ret ?_
            refine KV.block_ret ?_
            refine KV.then_ret ?_
            -- return at r15
            refine KV.sel [] [] rfl ?_
            exfalso
            first | exact g2 rfl | (have h15 := hE1 (by assumption) (by omega) (by omega); have h15a := h15.1; have h15b := h15.2.1; omega) | (have h00 := hE0 (by rintro ⟨k1, k2, k3⟩; first | omega | exact absurd (k1.symm.trans (by assumption : (l.getD j boolK.d) = false)) (by decide)); have h00a := h00.1; have h00b := h00.2; omega)
          · -- False
            refine RV.op (OV.step gno (Step.move rfl) rfl ?_)
            refine RV.op (OV.step (gyes rfl) (Step.move rfl) rfl ?_)
            refine RV.op (OV.split (gyes rfl) (Step.neq rfl rfl) rfl (fun g3 => ?_) (fun g3 => ?_))
            · -- True
              refine RV.op (OV.step (gyes rfl) (Step.move rfl) rfl ?_)
              refine RV.op (OV.step (gyes rfl) (Step.move rfl) rfl ?_)
              refine RV.op (OV.step (gyes rfl) (Step.not rfl) rfl ?_)
              refine RV.op (OV.step (gyes rfl) (Step.pick_t rfl rfl) rfl ?_)
              refine RV.op (OV.step gno (Step.pick_f rfl rfl) rfl ?_)
              refine RV.nil ?_
              refine KV.then_n ?_
              refine KV.env [(0, _), (1, _), (2, _), (7, _), (8, _), (9, _), (12, _), (83, _)] ⟨rfl, rfl, rfl, rfl, rfl, rfl, rfl, rfl, trivial⟩ ?_
              refine CV.cond_t rfl ?_
              refine CV.seq ?_
              -- region 15 law.go:180
              refine CV.region ?_
              refine RV.op (OV.step gno (Step.assign rfl) rfl ?_)
              refine RV.nil ?_
              refine KV.then_n ?_
              refine KV.env [(6, _)] ⟨rfl, trivial⟩ ?_
              refine CV.ret ?_
              refine KV.then_ret ?_
              refine KV.block_ret ?_
              refine KV.then_ret ?_
              refine KV.then_ret ?_
              refine KV.block_ret ?_
              refine KV.then_ret ?_
              -- return at r15
              refine KV.sel [] [] rfl ?_
              exfalso
              first | exact g2 rfl | (have h15 := hE1 (by assumption) (by omega) (by omega); have h15a := h15.1; have h15b := h15.2.1; omega) | (have h00 := hE0 (by rintro ⟨k1, k2, k3⟩; first | omega | exact absurd (k1.symm.trans (by assumption : (l.getD j boolK.d) = false)) (by decide)); have h00a := h00.1; have h00b := h00.2; omega)
            · -- False
              refine RV.op (OV.step (gyes rfl) (Step.move rfl) rfl ?_)
              refine RV.op (OV.skip rfl rfl ?_)
              refine RV.op (OV.skip rfl rfl ?_)
              refine RV.op (OV.step (gyes rfl) (Step.pick_f rfl rfl) rfl ?_)
              refine RV.op (OV.step gno (Step.pick_f rfl rfl) rfl ?_)
              refine RV.nil ?_
              refine KV.then_n ?_
              refine KV.env [(0, _), (1, _), (2, _), (7, _), (8, _), (9, _), (12, _), (83, _)] ⟨rfl, rfl, rfl, rfl, rfl, rfl, rfl, rfl, trivial⟩ ?_
              refine CV.cond_f rfl ?_
              refine CV.skip ?_
              refine KV.then_n ?_
              refine KV.env [(0, _), (1, _), (2, _), (7, _), (8, _), (9, _), (12, _)] ⟨rfl, rfl, rfl, rfl, rfl, rfl, rfl, trivial⟩ ?_
              refine CV.seq ?_
              -- region 16 law.go:182
              refine CV.region ?_
              refine RV.op (OV.step gno (Step.move rfl) rfl ?_)
              refine RV.nil ?_
              refine KV.then_n ?_
              refine KV.env [(0, _), (1, _), (2, _), (7, _), (8, _), (9, _), (84, _)] ⟨rfl, rfl, rfl, rfl, rfl, rfl, rfl, trivial⟩ ?_
              refine CV.cond_f rfl ?_
              refine CV.skip ?_
              refine KV.block_n ?_
              refine KV.then_n ?_
              refine KV.env [(0, _), (1, _), (2, _), (7, _), (8, _), (9, _)] ⟨rfl, rfl, rfl, rfl, rfl, rfl, trivial⟩ ?_
              -- region 10 law.go:175
              refine CV.region ?_
              refine RV.op (OV.step gno (Step.move rfl) rfl ?_)
              (first | refine RV.op (OV.step gno (Step.add rfl rfl (wI64 (by omega) (by omega))) rfl ?_) | refine RV.op (OV.step gno (Step.add rfl rfl rfl) rfl ?_))
              refine RV.op (OV.step gno (Step.assign rfl) rfl ?_)
              refine RV.nil ?_
              refine KV.then_n ?_
              refine KV.env [(0, _), (1, _), (2, _), (7, _), (8, _), (9, _)] ⟨rfl, rfl, rfl, rfl, rfl, rfl, trivial⟩ ?_
              refine KV.sel [0, 0, 0, 0] [_, _, _, _] rfl ?_
              exact KV.loop2 (x := j) (y := z) (j + 1) (⟨f2, s4, h2⟩) ⟨by omega, F2⟩ (by omega) ⟨rfl, rfl, rfl, rfl, (show some (Value.int .i64 _) = some (Value.int .i64 _) by congr 2; show _ = ((f2 : Nat) : Int); first | (have h15 := hE1 (by assumption) (by omega) (by omega); have h15a := h15.1; have h15b := h15.2.1; omega) | (have h00 := hE0 (by rintro ⟨k1, k2, k3⟩; first | omega | exact absurd (k1.symm.trans (by assumption : (l.getD j boolK.d) = false)) (by decide)); have h00a := h00.1; have h00b := h00.2; omega)), rfl, trivial⟩ (fun _ h => h)
    · -- False
      refine RV.op (OV.step gno (Step.pick_t rfl rfl) rfl ?_)
      refine RV.nil ?_
      refine KV.then_n ?_
      refine KV.env [(0, _), (1, _), (2, _), (7, _), (8, _), (9, _), (35, _)] ⟨rfl, rfl, rfl, rfl, rfl, rfl, rfl, trivial⟩ ?_
      refine CV.cond_f rfl ?_
      refine CV.exit ?_
      refine KV.then_exit ?_
      refine KV.then_exit ?_
      refine KV.block_hit ?_
      refine KV.then_n ?_
      refine KV.env [] trivial ?_
      refine CV.seq ?_
      -- region 21 law.go:189
      refine CV.region ?_
      refine RV.op (OV.step gno (Step.assign rfl) rfl ?_)
      refine RV.nil ?_
      refine KV.then_n ?_
      refine KV.env [(6, _)] ⟨rfl, trivial⟩ ?_
      refine CV.ret ?_
      -- return at r21
      refine KV.sel [] [] rfl ?_
      exact KV.ret1 rfl rfl _ (fun _ h => h) ⟨rfl, rfl⟩
  · -- False
    refine RV.op (OV.step gno (Step.move rfl) rfl ?_)
    refine RV.op (OV.skip rfl rfl ?_)
    refine RV.op (OV.skip rfl rfl ?_)
    refine RV.op (OV.step gno (Step.pick_f rfl rfl) rfl ?_)
    refine RV.nil ?_
    refine KV.then_n ?_
    refine KV.env [(0, _), (1, _), (2, _), (7, _), (8, _), (9, _), (35, _)] ⟨rfl, rfl, rfl, rfl, rfl, rfl, rfl, trivial⟩ ?_
    refine CV.cond_f rfl ?_
    refine CV.exit ?_
    refine KV.then_exit ?_
    refine KV.then_exit ?_
    refine KV.block_hit ?_
    refine KV.then_n ?_
    refine KV.env [] trivial ?_
    refine CV.seq ?_
    -- region 21 law.go:189
    refine CV.region ?_
    refine RV.op (OV.step gno (Step.assign rfl) rfl ?_)
    refine RV.nil ?_
    refine KV.then_n ?_
    refine KV.env [(6, _)] ⟨rfl, trivial⟩ ?_
    refine CV.ret ?_
    -- return at r21
    refine KV.sel [] [] rfl ?_
    exact KV.ret1 rfl rfl _ (fun _ h => h) ⟨rfl, rfl⟩
end Go.Proofs.Ythdpojggdodpfaa
