/-
  Walks, part 7.
-/
import Derived.Test.YtcmalbkflbfidaaTab7
import Derived.Test.YtcmalbkflbfidaaW5
import Derived.Test.YtcmalbkflbfidaaW6
import Derived.Test.YtcmalbkflbfidaaPl5
set_option linter.unusedSimpArgs false
set_option linter.unusedVariables false
namespace Go.Proofs.Ytcmalbkflbfidaa
open Go.Sv Go.Rails
def aw0 : St := new0 [⟨-1, 5, 2⟩, ⟨0, 3, 1⟩]
def aw1 : Res := acqM 3 aw0 1 10
def aw2 : Res := relM 3 aw1.st 1 20
theorem acy_up {rails : List Rail} (h : ∀ i, i < rails.length → (rails.getD i railK.d).supply < (i : Int)) : Acy rails (fun i => i) := fun i hi s hs => by
  have := h i hi
  rw [hs] at this
  exact ⟨by omega, by show s < i; omega⟩
theorem aw_acy : Acy aw0.rails (fun i => i) := acy_up (by decide)
theorem aw_acy1 : Acy aw1.st.rails (fun i => i) := acy_up (by decide)

set_option maxRecDepth 100000 in
set_option maxHeartbeats 1000000 in
theorem awake_fn {w : World} : Fx Try.prog 12 [] w [] no (fun v L => v = .bool true ∧ L = []) := by
  refine Sv.Fx.body Try.func12 rfl T12 rfl ?_
  intro I hro hI
  refine KV.env [] trivial ?_
  refine CV.seq ?_
  -- region 0 law.go:12
  refine CV.region ?_
  refine RV.op (OV.step gno (Step.assign rfl) rfl ?_)
  refine RV.nil ?_
  refine KV.then_n ?_
  refine KV.env [] trivial ?_
  refine CV.seq ?_
  -- region 1 law.go:13
  refine CV.region ?_
  refine RV.op (OV.step gno (Step.build rfl (Bd35_0_1_2 _ _ _)) rfl ?_)
  refine RV.op (OV.step gno (Step.build rfl (Bd35_1_2 _ _)) rfl ?_)
  refine RV.op (OV.buildSlice (K := railK) ([⟨-1, 5, 2⟩, ⟨0, 3, 1⟩]) rfl (Bs22_2_0_1 _ _ _ _ _ _) rfl rfl (by omega) gno rfl (fun b1_2 => ?_))
  refine RV.op (OV.call [] (F := [_]) Try.func13 B13 N13 rfl rfl (fun w h => new_fn (h.os 0 rfl) rfl) (fun _ hb => hb.elim) gno rfl (fun v L' hp => ?_))
  obtain ⟨b, a, rfl, rfl⟩ := hp.1 (by decide)
  refine RV.op (OV.step gno (Step.move rfl) rfl ?_)
  refine RV.op (OV.step gno (Step.extract0 rfl rfl) rfl ?_)
  refine RV.op (OV.step gno (Step.extract0 rfl rfl) rfl ?_)
  refine RV.op (OV.step gno (Step.assign rfl) rfl ?_)
  refine RV.op (OV.step gno (Step.assign rfl) rfl ?_)
  refine RV.nil ?_
  refine KV.then_n ?_
  refine KV.env [(1, _), (2, _)] ⟨rfl, rfl, trivial⟩ ?_
  refine CV.seq ?_
  refine CV.seq ?_
  -- region 2 law.go:14
  refine CV.region ?_
  refine RV.op (OV.step gno (Step.move rfl) rfl ?_)
  refine RV.op (OV.split gno (Step.neq rfl rfl) rfl (fun z1 => ?_) (fun z1 => ?_))
  · -- True
    exact absurd rfl z1
  · -- False
    refine RV.op (OV.step gno (Step.move rfl) rfl ?_)
    refine RV.op (OV.step (gyes rfl) (Step.move rfl) rfl ?_)
    refine RV.op (OV.split (gyes rfl) (Step.eqlP Try.underlying24 rfl rfl) rfl (fun z2 => ?_) (fun z2 => ?_))
    · -- True
      cases z2
    · -- False
      refine RV.op (OV.step gno (Step.pick_f rfl rfl) rfl ?_)
      refine RV.nil ?_
      refine KV.then_n ?_
      refine KV.env [(1, _), (21, _)] ⟨rfl, rfl, trivial⟩ ?_
      refine CV.cond_f rfl ?_
      refine CV.skip ?_
      refine KV.then_n ?_
      refine KV.env [(1, _)] ⟨rfl, trivial⟩ ?_
      refine CV.seq ?_
      -- region 4 law.go:17
      refine CV.region ?_
      refine RV.op (OV.step gno (Step.move rfl) rfl ?_)
      refine RV.op (OV.call [1, 1, 1, 1] (F := [_]) Try.func31 B31 N31 rfl rfl (fun w h => acquire_fn b a aw0 1 10 w 3 (fun i => i) ⟨rfl, rfl⟩ aw_acy (by decide) (by decide)) (fun _ hb => hb.elim) gno rfl (fun v L' hp => ?_))
      obtain ⟨A1, c1, rfl, rfl⟩ := hp
      rw [show acqM 3 aw0 1 10 = aw1 from rfl]
      refine RV.op (OV.step gno (Step.move rfl) rfl ?_)
      refine RV.op (OV.step gno (Step.extract0 rfl rfl) rfl ?_)
      refine RV.op (OV.step gno (Step.extract0 rfl rfl) rfl ?_)
      refine RV.op (OV.step gno (Step.assign rfl) rfl ?_)
      refine RV.op (OV.step gno (Step.assign rfl) rfl ?_)
      refine RV.nil ?_
      refine KV.then_n ?_
      refine KV.env [(1, _), (3, _), (4, _)] ⟨rfl, rfl, rfl, trivial⟩ ?_
      refine CV.seq ?_
      -- region 5 law.go:18
      refine CV.region ?_
      refine RV.op (OV.step gno (Step.move rfl) rfl ?_)
      refine RV.op (OV.call [1, 1, 1, 1] (F := [_, _]) Try.func22 B22 N22 rfl rfl (fun w h => powered_fn b a aw1.st 1 17 w ⟨by decide, by decide⟩) (fun _ hb => hb.elim) gno rfl (fun v L' hp => ?_))
      obtain ⟨rfl, rfl⟩ := hp
      by_cases hp17 : (((0 : Int) ≤ 1 ∧ (1 : Int) < aw1.st.rails.length) ∧ ¬ aw1.st.c (1 : Int).toNat = 0) ∧ aw1.st.t (1 : Int).toNat ≤ 17
      · rw [decide_eq_true hp17]
        exact absurd hp17 (by decide)
      · rw [decide_eq_false hp17]
        refine RV.op (OV.step gno (Step.move rfl) rfl ?_)
        refine RV.op (OV.call [2, 2, 2, 2] (F := [_, _]) Try.func22 B22 N22 rfl rfl (fun w h => powered_fn b a aw1.st 1 18 w ⟨by decide, by decide⟩) (fun _ hb => hb.elim) gno rfl (fun v L' hp => ?_))
        obtain ⟨rfl, rfl⟩ := hp
        by_cases hp18 : (((0 : Int) ≤ 1 ∧ (1 : Int) < aw1.st.rails.length) ∧ ¬ aw1.st.c (1 : Int).toNat = 0) ∧ aw1.st.t (1 : Int).toNat ≤ 18
        · rw [decide_eq_true hp18]
          refine RV.op (OV.step gno (Step.assign rfl) rfl ?_)
          refine RV.op (OV.step gno (Step.assign rfl) rfl ?_)
          refine RV.nil ?_
          refine KV.then_n ?_
          refine KV.env [(1, _), (3, _), (4, _), (5, _), (6, _)] ⟨rfl, rfl, rfl, rfl, rfl, trivial⟩ ?_
          refine CV.seq ?_
          -- region 6 law.go:19
          refine CV.region ?_
          refine RV.op (OV.step gno (Step.move rfl) rfl ?_)
          refine RV.op (OV.call [2, 2, 2, 2] (F := [_, _]) Try.func32 B32 N32 rfl rfl (fun w h => release_fn b a aw1.st 1 20 w 3 (fun i => i) ⟨by decide, by decide⟩ aw_acy1 (by decide) (by decide)) (fun _ hb => hb.elim) gno rfl (fun v L' hp => ?_))
          obtain ⟨A2, c2, rfl, rfl⟩ := hp
          rw [show relM 3 aw1.st 1 20 = aw2 from rfl]
          refine RV.op (OV.step gno (Step.move rfl) rfl ?_)
          refine RV.op (OV.step gno (Step.extract0 rfl rfl) rfl ?_)
          refine RV.op (OV.step gno (Step.extract0 rfl rfl) rfl ?_)
          refine RV.op (OV.step gno (Step.assign rfl) rfl ?_)
          refine RV.op (OV.step gno (Step.assign rfl) rfl ?_)
          refine RV.nil ?_
          refine KV.then_n ?_
          refine KV.env [(3, _), (4, _), (5, _), (6, _), (7, _), (8, _)] ⟨rfl, rfl, rfl, rfl, rfl, rfl, trivial⟩ ?_
          refine CV.seq ?_
          -- region 7 law.go:20
          refine CV.region ?_
          refine RV.op (OV.step gno (Step.move rfl) rfl ?_)
          refine RV.op (OV.split gno (Step.eql rfl rfl) rfl (fun z3 => ?_) (fun z3 => ?_))
          · -- True
            refine RV.op (OV.step gno (Step.move rfl) rfl ?_)
            refine RV.op (OV.step (gyes rfl) (Step.move rfl) rfl ?_)
            refine RV.op (OV.split (gyes rfl) (Step.eql rfl rfl) rfl (fun z4 => ?_) (fun z4 => ?_))
            · -- True
              refine RV.op (OV.step gno (Step.pick_t rfl rfl) rfl ?_)
              refine RV.op (OV.step gno (Step.move rfl) rfl ?_)
              refine RV.op (OV.step (gyes rfl) (Step.move rfl) rfl ?_)
              refine RV.op (OV.step (gyes rfl) (Step.not rfl) rfl ?_)
              refine RV.op (OV.step gno (Step.pick_t rfl rfl) rfl ?_)
              refine RV.op (OV.step gno (Step.move rfl) rfl ?_)
              refine RV.op (OV.step (gyes rfl) (Step.move rfl) rfl ?_)
              refine RV.op (OV.step gno (Step.pick_t rfl rfl) rfl ?_)
              refine RV.op (OV.step gno (Step.move rfl) rfl ?_)
              refine RV.op (OV.step (gyes rfl) (Step.move rfl) rfl ?_)
              refine RV.op (OV.step (gyes rfl) (Step.build rfl (Bd45_0_1_2_3 _ _ _ _)) rfl ?_)
              refine RV.op (OV.step (gyes rfl) (Step.build rfl (Bd45_0_1_2_3 _ _ _ _)) rfl ?_)
              refine RV.op (OV.buildSlice (K := opK) ([⟨0, true, 10, 15⟩, ⟨1, true, 15, 18⟩]) rfl (Bs38_2_0_1 _ _ _ _ _ _ _ _) rfl rfl (by omega) (gyes rfl) rfl (fun b7_17 => ?_))
              refine RV.op (OV.call [] (F := [_, _, _, _, _, _, _, _]) Try.func24 B24 N24 rfl rfl (fun w h => equal_fn (h.os 1 rfl) (h.os 7 rfl) (by decide) (by decide)) (fun _ hb => hb.elim) (gyes rfl) rfl (fun v L' hp => ?_))
              obtain ⟨rfl, rfl⟩ := hp
              simp only [List.append_nil]
              by_cases he1 : aw1.ops = [⟨0, true, 10, 15⟩, ⟨1, true, 15, 18⟩]
              · rw [decide_eq_true he1]
                refine RV.op (OV.step gno (Step.pick_t rfl rfl) rfl ?_)
                refine RV.op (OV.step gno (Step.move rfl) rfl ?_)
                refine RV.op (OV.step (gyes rfl) (Step.move rfl) rfl ?_)
                refine RV.op (OV.step (gyes rfl) (Step.build rfl (Bd45_0_2_3 _ _ _)) rfl ?_)
                refine RV.op (OV.step (gyes rfl) (Step.build rfl (Bd45_0_2_3 _ _ _)) rfl ?_)
                refine RV.op (OV.buildSlice (K := opK) ([⟨1, false, 20, 21⟩, ⟨0, false, 21, 23⟩]) rfl (Bs38_2_0_1 _ _ _ _ _ _ _ _) rfl rfl (by omega) (gyes rfl) rfl (fun b7_24 => ?_))
                refine RV.op (OV.call [] (F := [_, _, _, _, _, _, _, _, _]) Try.func24 B24 N24 rfl rfl (fun w h => equal_fn (h.os 6 rfl) (h.os 8 rfl) (by decide) (by decide)) (fun _ hb => hb.elim) (gyes rfl) rfl (fun v L' hp => ?_))
                obtain ⟨rfl, rfl⟩ := hp
                simp only [List.append_nil]
                by_cases he2 : aw2.ops = [⟨1, false, 20, 21⟩, ⟨0, false, 21, 23⟩]
                · rw [decide_eq_true he2]
                  refine RV.op (OV.step gno (Step.pick_t rfl rfl) rfl ?_)
                  refine RV.op (OV.step gno (Step.assign rfl) rfl ?_)
                  refine RV.nil ?_
                  refine KV.then_n ?_
                  refine KV.env [(0, _)] ⟨rfl, trivial⟩ ?_
                  refine CV.ret ?_
                  -- return at r7
                  refine KV.sel [] [] rfl ?_
                  exact KV.ret1 rfl rfl _ (fun _ h => h) ⟨rfl, rfl⟩
                · rw [decide_eq_false he2]
                  exact absurd (by decide) he2
              · rw [decide_eq_false he1]
                exact absurd (by decide) he1
            · -- False
              exact absurd (by decide) z4
          · -- False
            exact absurd (by decide) z3
        · rw [decide_eq_false hp18]
          exact absurd (by decide) hp18

theorem named2_fn {A : Option Addr} {c : Nat} {ys : List ROp} (n : Int) {w : World} (hr : RS w opK A ys) (hl : ys.length ≤ 1000000) : Fx Try.prog 18 [.slice A ys.length c, .int .i64 n] w [] no (fun v L => v = .bool (decide (namedM ys n)) ∧ L = []) :=
  (named_fn (c := c) n hr hl).mono fun v L hp => by
    obtain ⟨r, rfl, rfl, h⟩ := hp
    refine ⟨?_, rfl⟩
    congr 1
    by_cases hn : namedM ys n
    · rw [decide_eq_true hn]; exact h.2 hn
    · rw [decide_eq_false hn]; cases r
      · rfl
      · exact absurd (h.1 rfl) hn
end Go.Proofs.Ytcmalbkflbfidaa
