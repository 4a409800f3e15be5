/-
  Walks, part 11.
-/
import Derived.Test.YthdpojggdodpfaaTab11
import Derived.Test.YthdpojggdodpfaaW9
import Derived.Test.YthdpojggdodpfaaPl3
set_option linter.unusedSimpArgs false
set_option linter.unusedVariables false
namespace Go.Proofs.Ythdpojggdodpfaa
open Go.Sv Go.Ios
set_option maxRecDepth 100000 in
set_option maxHeartbeats 1000000 in
theorem ones_fn (x : Int) (h : isW x) : FxP Try.prog 14 [.int .i64 x] (.int .u64 (onesM x)) := by
  refine Sv.FxP.body Try.func14 rfl T14 rfl ?_
  intro wp
  refine KV.env [(0, _)] ⟨rfl, trivial⟩ ?_
  have h1 : 1 ≤ x ∧ x ≤ 8 := by unfold isW at h; omega
  refine CV.seq ?_
  -- region 0 iospace.go:122
  refine CV.region ?_
  refine RV.op (OV.step gno (Step.assign rfl) rfl ?_)
  refine RV.nil ?_
  refine KV.then_n ?_
  refine KV.env [(0, _)] ⟨rfl, trivial⟩ ?_
  refine CV.seq ?_
  -- region 1 iospace.go:122
  refine CV.region ?_
  refine RV.op (OV.step gno (Step.move rfl) rfl ?_)
  (first | refine RV.op (OV.step gno (Step.mul rfl rfl (wI64 (by omega) (by omega))) rfl ?_) | refine RV.op (OV.step gno (Step.mul rfl rfl rfl) rfl ?_))
  (first | refine RV.op (OV.step gno (Step.sub rfl rfl (wI64 (by omega) (by omega))) rfl ?_) | refine RV.op (OV.step gno (Step.sub rfl rfl rfl) rfl ?_))
  (first | refine RV.op (OV.step gno (Step.convI Try.underlying3 Try.underlying72 rfl (wU64 (by omega) (by omega))) rfl ?_) | refine RV.op (OV.step gno (Step.convI Try.underlying3 Try.underlying72 rfl rfl) rfl ?_))
  refine RV.op (OV.step gno (Step.shr rfl rfl (by omega) (onesB h)) rfl ?_)
  refine RV.op (OV.step gno (Step.assign rfl) rfl ?_)
  refine RV.nil ?_
  refine KV.then_n ?_
  refine KV.env [(2, _)] ⟨rfl, trivial⟩ ?_
  refine CV.ret ?_
  -- return at r1
  exact KV.retP1 rfl rfl rfl

set_option maxRecDepth 100000 in
set_option maxHeartbeats 8000000 in
theorem readsBack_fn {Bs : Option Addr} {mm d : Nat} {l : List Int} (sp0 ow0 : Int) {bs u8 v : Int} {w : World} (hbs : isU bs) (hu8 : 0 ≤ u8 ∧ u8 ≤ 255) (hv : isU v) (hb : RS w (intK .u8) Bs l) (hmm : mm = l.length) (hy : ∀ i, okY (l.getD i (intK .u8).d)) : Fx Try.prog 3 [.int .i64 sp0, .int .i64 ow0, .int .u64 bs, .int .u8 u8, .int .u64 v, .slice Bs mm d] w [] no (fun v L => v = .bool true ∧ L = []) := by
  subst hmm
  refine Sv.Fx.body Try.func3 rfl T3 rfl ?_
  intro I hro hI
  refine KV.env [(0, _), (1, _), (2, _), (3, _), (4, _), (5, _)] ⟨rfl, rfl, rfl, rfl, rfl, rfl, trivial⟩ ?_
  have hbs2 := hbs
  unfold isU at hbs2
  refine CV.seq ?_
  -- region 0 law.go:138
  refine CV.region ?_
  refine RV.op (OV.step gno (Step.assign rfl) rfl ?_)
  refine RV.nil ?_
  refine KV.then_n ?_
  refine KV.env [(0, _), (1, _), (2, _), (3, _), (4, _), (5, _)] ⟨rfl, rfl, rfl, rfl, rfl, rfl, trivial⟩ ?_
  refine CV.seq ?_
  -- region 1 law.go:139
  refine CV.region ?_
  refine RV.op (OV.call [] (F := []) Try.func8 B8 N8 rfl rfl (fun w h => new_fn) (fun _ hb => hb.elim) gno rfl (fun v L' hp => ?_))
  obtain ⟨b, rfl, rfl⟩ := hp
  refine RV.op (OV.step gno (Step.assign rfl) rfl ?_)
  refine RV.nil ?_
  refine KV.then_n ?_
  refine KV.env [(0, _), (1, _), (2, _), (3, _), (4, _), (5, _), (13, _)] ⟨rfl, rfl, rfl, rfl, rfl, rfl, rfl, trivial⟩ ?_
  refine CV.seq ?_
  refine CV.seq ?_
  -- region 2 law.go:140
  refine CV.region ?_
  refine RV.op (OV.call [] (F := [_, _, _, _]) Try.func9 B9 N9 rfl rfl (fun w h => awake_fn) (fun _ hb => hb.elim) gno rfl (fun v L' hp => ?_))
  obtain ⟨rfl, rfl⟩ := hp
  simp only [List.append_nil]
  refine RV.op (OV.step gno (Step.not rfl) rfl ?_)
  refine RV.nil ?_
  refine KV.then_n ?_
  refine KV.env [(0, _), (1, _), (2, _), (3, _), (4, _), (5, _), (13, _), (24, _)] ⟨rfl, rfl, rfl, rfl, rfl, rfl, rfl, rfl, trivial⟩ ?_
  refine CV.cond_f rfl ?_
  refine CV.skip ?_
  refine KV.then_n ?_
  refine KV.env [(0, _), (1, _), (2, _), (3, _), (4, _), (5, _), (13, _)] ⟨rfl, rfl, rfl, rfl, rfl, rfl, rfl, trivial⟩ ?_
  refine CV.seq ?_
  -- region 4 law.go:143
  refine CV.region ?_
  refine RV.op (OV.buildSlice (K := (intK .i64)) (wds) rfl (Bs27_4_0_1_2_3 _ _ _ _) rfl rfl (by omega) gno rfl (fun b4_0 => ?_))
  refine RV.op (OV.step gno (Step.move rfl) rfl ?_)
  refine RV.op (OV.step gno (Step.rem rfl rfl (by omega) (rfl)) rfl ?_)
  obtain ⟨kk, hkk, hkk2⟩ : ∃ kk : Nat, u8.tmod 4 = kk ∧ kk < 4 := ⟨(u8 % 4).toNat, by rw [Int.tmod_eq_emod_of_nonneg hu8.1]; omega, by omega⟩
  rw [hkk]
  refine RV.op (OV.step gno (Step.idx Try.underlying27 I3 (fun w h => h.os 4 rfl) rfl rfl (rfl) _ rfl (by first | omega | (show kk < 4; omega))) rfl ?_)
  refine RV.op (OV.step gno (Step.load Try.underlying3 rfl rfl (fun w h => (h.os 4 rfl).cell0 (by show kk < 4; omega) rfl)) rfl ?_)
  obtain ⟨w0, hw0, hw1, hw2, hw3⟩ := wds_at hkk2
  rw [show wds.getD kk (intK .i64).d = (w0 : Int) from hw0]
  refine RV.op (OV.step gno (Step.assign rfl) rfl ?_)
  refine RV.nil ?_
  refine KV.then_n ?_
  refine KV.env [(0, _), (1, _), (2, _), (4, _), (5, _), (13, _), (14, _)] ⟨rfl, rfl, rfl, rfl, rfl, rfl, rfl, trivial⟩ ?_
  refine CV.seq ?_
  -- region 5 law.go:144
  refine CV.region ?_
  refine RV.op (OV.step gno (Step.move rfl) rfl ?_)
  refine RV.op (OV.call [] Try.func10 B10 N10 rfl rfl (fun w h => (mod_fn sp0 3 (by omega) (by omega)).fn w) (fun _ hb => hb.elim) gno rfl (fun v L' hp => ?_))
  obtain ⟨rfl, rfl⟩ := hp
  simp only [List.append_nil]
  obtain ⟨m, hmE, hm⟩ := modN sp0 (n := 3) (by omega)
  rw [hmE]
  refine RV.op (OV.step gno (Step.move rfl) rfl ?_)
  refine RV.op (OV.call [] Try.func10 B10 N10 rfl rfl (fun w h => (mod_fn ow0 256 (by omega) (by omega)).fn w) (fun _ hb => hb.elim) gno rfl (fun v L' hp => ?_))
  obtain ⟨rfl, rfl⟩ := hp
  simp only [List.append_nil]
  obtain ⟨o, hoE, ho⟩ := modN ow0 (n := 256) (by omega)
  rw [hoE]
  refine RV.op (OV.step gno (Step.assign rfl) rfl ?_)
  refine RV.op (OV.step gno (Step.assign rfl) rfl ?_)
  refine RV.nil ?_
  refine KV.then_n ?_
  refine KV.env [(0, _), (1, _), (2, _), (4, _), (5, _), (13, _), (14, _)] ⟨rfl, rfl, rfl, rfl, rfl, rfl, rfl, trivial⟩ ?_
  refine CV.seq ?_
  -- region 6 law.go:145
  refine CV.region ?_
  refine RV.op (OV.step gno (Step.move rfl) rfl ?_)
  refine RV.op (OV.step gno (Step.bandNot rfl rfl (clr63 hbs)) rfl ?_)
  refine RV.op (OV.step gno (Step.assign rfl) rfl ?_)
  refine RV.nil ?_
  refine KV.then_n ?_
  refine KV.env [(0, _), (1, _), (2, _), (4, _), (5, _), (13, _), (14, _)] ⟨rfl, rfl, rfl, rfl, rfl, rfl, rfl, trivial⟩ ?_
  -- join; live [0, 1, 2, 4, 5, 13, 14]
  refine CV.join (fun (B : {B : Int // 0 ≤ B ∧ B + 63 ≤ 18446744073709551615 ∧ B % 64 = 0}) => [(0, .int .i64 m), (1, .int .i64 o), (2, .int .u64 B.1), (4, .int .u64 v), (5, .slice Bs l.length d), (13, .pointer (some ⟨b, 0, none⟩)), (14, .int .i64 w0)]) (fun (B : {B : Int // 0 ≤ B ∧ B + 63 ≤ 18446744073709551615 ∧ B % 64 = 0}) => Hp I w (busL b bs0)) ?_ ?_
  · skip
    refine CV.seq ?_
    -- region 7 law.go:146
    refine CV.region ?_
    refine RV.op (OV.step gno (Step.move rfl) rfl ?_)
    refine RV.op (OV.split gno (Step.gtr rfl rfl) rfl (fun h7 => ?_) (fun h7 => ?_))
    · -- True
      refine RV.nil ?_
      refine KV.then_n ?_
      refine KV.env [(0, _), (1, _), (2, _), (4, _), (5, _), (13, _), (14, _), (37, _)] ⟨rfl, rfl, rfl, rfl, rfl, rfl, rfl, rfl, trivial⟩ ?_
      refine CV.cond_t rfl ?_
      -- region 8 law.go:147
      refine CV.region ?_
      refine RV.op (OV.step gno (Step.assign rfl) rfl ?_)
      refine RV.nil ?_
      refine KV.then_n ?_
      refine KV.env [(0, _), (1, _), (2, _), (4, _), (5, _), (13, _), (14, _)] ⟨rfl, rfl, rfl, rfl, rfl, rfl, rfl, trivial⟩ ?_
      refine KV.sel [0, 0, 0, 0] [_, _, _, _] rfl ?_
      (first | exact KV.join (⟨0, by decide⟩) ⟨rfl, rfl, rfl, rfl, rfl, rfl, rfl, trivial⟩ (fun _ h => h) | exact KV.join (⟨bs / 64 * 64, by omega⟩) ⟨rfl, rfl, rfl, rfl, rfl, rfl, rfl, trivial⟩ (fun _ h => h))
    · -- False
      refine RV.nil ?_
      refine KV.then_n ?_
      refine KV.env [(0, _), (1, _), (2, _), (4, _), (5, _), (13, _), (14, _), (37, _)] ⟨rfl, rfl, rfl, rfl, rfl, rfl, rfl, rfl, trivial⟩ ?_
      refine CV.cond_f rfl ?_
      refine CV.skip ?_
      refine KV.then_n ?_
      refine KV.env [(0, _), (1, _), (2, _), (4, _), (5, _), (13, _), (14, _)] ⟨rfl, rfl, rfl, rfl, rfl, rfl, rfl, trivial⟩ ?_
      refine KV.sel [0, 0, 0, 0] [_, _, _, _] rfl ?_
      (first | exact KV.join (⟨0, by decide⟩) ⟨rfl, rfl, rfl, rfl, rfl, rfl, rfl, trivial⟩ (fun _ h => h) | exact KV.join (⟨bs / 64 * 64, by omega⟩) ⟨rfl, rfl, rfl, rfl, rfl, rfl, rfl, trivial⟩ (fun _ h => h))
  · intro B
    have hB := B.2
    have hBU : isU B.1 := by unfold isU; omega
    have hBR : okR B.1 64 := by unfold okR; omega
    have hAU : isU (B.1 + 16) := by unfold isU; omega
    refine CV.seq ?_
    -- region 9 law.go:149
    refine CV.region ?_
    refine RV.op (OV.step gno (Step.move rfl) rfl ?_)
    (first | refine RV.op (OV.step gno (Step.add rfl rfl (wU64 (by omega) (by omega))) rfl ?_) | refine RV.op (OV.step gno (Step.add rfl rfl rfl) rfl ?_))
    refine RV.op (OV.step gno (Step.assign rfl) rfl ?_)
    refine RV.nil ?_
    refine KV.then_n ?_
    refine KV.env [(0, _), (1, _), (2, _), (4, _), (5, _), (13, _), (14, _), (15, _)] ⟨rfl, rfl, rfl, rfl, rfl, rfl, rfl, rfl, trivial⟩ ?_
    refine CV.seq ?_
    refine CV.seq ?_
    -- region 10 law.go:150
    refine CV.region ?_
    refine RV.op (OV.step gno (Step.move rfl) rfl ?_)
    refine RV.op (OV.step gno (Step.move rfl) rfl ?_)
    refine RV.op (OV.step gno (Step.move rfl) rfl ?_)
    refine RV.op (OV.step gno (Step.build rfl (Bd32_0_1 _ _)) rfl ?_)
    refine RV.op (OV.step gno (Step.move rfl) rfl ?_)
    refine RV.op (OV.call [0, 0, 0, 0] (F := []) Try.func11 B11 N11 rfl rfl (fun w h => mapZ_fn b bs0 bs0_ok m hm B.1 64 o hBU hBR (by omega) (by omega) (not_busy0 hm _ _) (by decide)) (fun _ hb => hb.elim) gno rfl (fun v L' hp => ?_))
    obtain ⟨bp, A1, c1, rfl, rfl⟩ := hp
    obtain ⟨s1, hss1⟩ : ∃ s9 : BS, mapG bs0 m ⟨bp, B.1, 64, o, none, 0, []⟩ A1 c1 = s9 := ⟨_, rfl⟩
    rw [hss1]
    obtain ⟨hk1, e1, n1, f1, t1, _⟩ := map0 hm (newH_ok hBU hBR (by omega) (by omega)) hss1
    refine RV.op (OV.split gno (Step.neq rfl rfl) rfl (fun g1 => ?_) (fun g1 => ?_))
    · -- True
      exact absurd rfl g1
    · -- False
      refine RV.op (OV.step gno (Step.move rfl) rfl ?_)
      refine RV.op (OV.step (gyes rfl) (Step.move rfl) rfl ?_)
      refine RV.op (OV.step (gyes rfl) (Step.move rfl) rfl ?_)
      refine RV.op (OV.call [0, 0, 0, 0] (F := []) Try.func12 B12 N12 rfl rfl (fun w h => enZ_fn b s1 hk1 o (by omega) true) (fun _ hb => hb.elim) (gyes rfl) rfl (fun v L' hp => ?_))
      obtain ⟨rfl, rfl⟩ := hp
      obtain ⟨s2, hss2⟩ : ∃ s9 : BS, ({ s1 with en := s1.en.set o true } : BS) = s9 := ⟨_, rfl⟩
      rw [hss2]
      have hk2 : s2.ok := hss2 ▸ hk1.en o true
      have e2 : (s2.sp m).hs = [⟨bp, B.1, 64, o, none, 0, []⟩] := by rw [← hss2]; exact e1
      have f2 : s2.fl = [] := by rw [← hss2]; exact f1
      have n2 : s2.en.getD o false = true := by rw [← hss2]; exact getD_set_self _ _ _ _ (by rw [hk1.wf.en]; omega)
      have t2 : s2.tr = [] := by rw [← hss2]; exact t1
      refine RV.op (OV.split (gyes rfl) (Step.neq rfl rfl) rfl (fun g1 => ?_) (fun g1 => ?_))
      · -- True
        exact absurd rfl g1
      · -- False
        refine RV.op (OV.step gno (Step.pick_f rfl rfl) rfl ?_)
        refine RV.nil ?_
        refine KV.then_n ?_
        refine KV.env [(0, _), (2, _), (4, _), (5, _), (13, _), (14, _), (15, _), (52, _)] ⟨rfl, rfl, rfl, rfl, rfl, rfl, rfl, rfl, trivial⟩ ?_
        refine CV.cond_f rfl ?_
        refine CV.skip ?_
        refine KV.then_n ?_
        refine KV.env [(0, _), (2, _), (4, _), (5, _), (13, _), (14, _), (15, _)] ⟨rfl, rfl, rfl, rfl, rfl, rfl, rfl, trivial⟩ ?_
        refine CV.seq ?_
        refine CV.seq ?_
        -- region 12 law.go:153
        refine CV.region ?_
        refine RV.op (OV.step gno (Step.move rfl) rfl ?_)
        refine RV.op (OV.step gno (Step.move rfl) rfl ?_)
        refine RV.op (OV.step gno (Step.move rfl) rfl ?_)
        refine RV.op (OV.step gno (Step.move rfl) rfl ?_)
        refine RV.op (OV.step gno (Step.move rfl) rfl ?_)
        refine RV.op (OV.step gno (Step.build rfl (Bd37_0_1_2_3_4 _ _ _ _ _)) rfl ?_)
        refine RV.op (OV.call [0, 0, 0, 0] (F := []) Try.func13 B13 N13 rfl rfl (fun w h => accZ_fn b s2 hk2 (⟨m, B.1 + 16, w0, true, v⟩ : Acs) hAU hv (wf16 hm hw1 hB.1 hB.2.2) (by rw [t2]; decide)) (fun _ hb => hb.elim) gno rfl (fun v L' hp => ?_))
        obtain ⟨A3, c3, tA3, tc3, hA3, rfl, rfl⟩ := hp
        obtain ⟨s3, hss3⟩ : ∃ s9 : BS, accS s2 (⟨m, B.1 + 16, w0, true, v⟩ : Acs) A3 c3 tA3 tc3 = s9 := ⟨_, rfl⟩
        rw [hss3]
        obtain ⟨h3, x3, F3⟩ := RI.first (w := w0) hk2 e2 rfl rfl rfl n2 f2 t2 hm hw3 (wf16 hm hw1 hB.1 hB.2.2) hA3 hss3
        rw [x3]
        refine RV.op (OV.step gno (Step.move rfl) rfl ?_)
        refine RV.op (OV.step gno (Step.extract0 rfl rfl) rfl ?_)
        refine RV.op (OV.step gno (Step.extract0 rfl rfl) rfl ?_)
        refine RV.op (OV.step gno (Step.assign rfl) rfl ?_)
        refine RV.op (OV.step gno (Step.assign rfl) rfl ?_)
        refine RV.nil ?_
        refine KV.then_n ?_
        refine KV.env [(0, _), (2, _), (4, _), (5, _), (13, _), (14, _), (15, _), (17, _)] ⟨rfl, rfl, rfl, rfl, rfl, rfl, rfl, rfl, trivial⟩ ?_
        refine CV.seq ?_
        -- region 13 law.go:153
        refine CV.region ?_
        refine RV.op (OV.step gno (Step.move rfl) rfl ?_)
        refine RV.op (OV.split gno (Step.neq rfl rfl) rfl (fun g1 => ?_) (fun g1 => ?_))
        · -- True
          exact absurd rfl g1
        · -- False
          refine RV.nil ?_
          refine KV.then_n ?_
          refine KV.env [(0, _), (2, _), (4, _), (5, _), (13, _), (14, _), (15, _), (64, _)] ⟨rfl, rfl, rfl, rfl, rfl, rfl, rfl, rfl, trivial⟩ ?_
          refine CV.cond_f rfl ?_
          refine CV.skip ?_
          refine KV.then_n ?_
          refine KV.env [(0, _), (2, _), (4, _), (5, _), (13, _), (14, _), (15, _)] ⟨rfl, rfl, rfl, rfl, rfl, rfl, rfl, trivial⟩ ?_
          refine CV.seq ?_
          refine CV.seq ?_
          -- region 15 law.go:156
          refine CV.region ?_
          refine RV.op (OV.step gno (Step.assign rfl) rfl ?_)
          refine RV.nil ?_
          refine KV.then_n ?_
          refine KV.env [(0, _), (2, _), (4, _), (5, _), (13, _), (14, _), (15, _), (18, _)] ⟨rfl, rfl, rfl, rfl, rfl, rfl, rfl, rfl, trivial⟩ ?_
          refine CV.block ?_
          -- loop L16; live [0, 2, 4, 5, 13, 14, 15, 18]
          refine KV.sel [0, 0, 0, 0] [_, _, _, _] rfl ?_
          refine CV.loop2 (fun (j : Nat) (z : RZ) => (j ≤ l.length ∧ j ≤ 40) ∧ z.t ≤ j + 1 ∧ RI z.s z.h m B.1 o w0 v z.t) (fun (j : Nat) (z : RZ) => 40 - j) (fun (j : Nat) (z : RZ) => [(0, .int .i64 m), (2, .int .u64 B.1), (4, .int .u64 v), (5, .slice Bs l.length d), (13, .pointer (some ⟨b, 0, none⟩)), (14, .int .i64 w0), (15, .int .u64 (B.1 + 16)), (18, .int .i64 j)]) (fun (j : Nat) (z : RZ) => Hp I w (busL b z.s)) (0) (⟨1, s3, h3⟩) ⟨⟨Nat.zero_le _, Nat.zero_le _⟩, Nat.le_refl _, F3⟩ ⟨rfl, rfl, rfl, rfl, rfl, rfl, rfl, rfl, trivial⟩ (fun _ h => h) ?_
          intro j z hinv
          refine CV.seq ?_
          refine CV.seq ?_
          -- region 16 law.go:156
          refine CV.region ?_
          refine RV.op (OV.step gno (Step.move rfl) rfl ?_)
          refine RV.op (OV.step gno (Step.move rfl) rfl ?_)
          refine RV.op (OV.step gno (Step.lenSl Try.underlying23 rfl) rfl ?_)
          refine RV.op (OV.split gno (Step.lss rfl rfl) rfl (fun hj1 => ?_) (fun hj1 => ?_))
          · -- True
            refine RV.op (OV.step gno (Step.move rfl) rfl ?_)
            refine RV.op (OV.step (gyes rfl) (Step.move rfl) rfl ?_)
            refine RV.op (OV.split (gyes rfl) (Step.lss rfl rfl) rfl (fun hj2 => ?_) (fun hj2 => ?_))
            · -- True
              refine RV.op (OV.step gno (Step.pick_t rfl rfl) rfl ?_)
              refine RV.nil ?_
              refine KV.then_n ?_
              refine KV.env [(0, _), (2, _), (4, _), (5, _), (13, _), (14, _), (15, _), (18, _), (72, _)] ⟨rfl, rfl, rfl, rfl, rfl, rfl, rfl, rfl, rfl, trivial⟩ ?_
              refine CV.cond_t rfl ?_
              refine CV.skip ?_
              refine KV.then_n ?_
              refine KV.env [(0, _), (2, _), (4, _), (5, _), (13, _), (14, _), (15, _), (18, _)] ⟨rfl, rfl, rfl, rfl, rfl, rfl, rfl, rfl, trivial⟩ ?_
              refine CV.seq ?_
              refine CV.block ?_
              refine CV.seq ?_
              -- region 18 law.go:157
              have hyj := hy j
              unfold okY at hyj
              have htm : 0 ≤ (l.getD j (intK .u8).d).tmod 64 ∧ (l.getD j (intK .u8).d).tmod 64 < 64 := ⟨Int.tmod_nonneg _ hyj.1, Int.tmod_lt_of_pos _ (by omega)⟩
              refine CV.region ?_
              refine RV.op (OV.step gno (Step.move rfl) rfl ?_)
              refine RV.op (OV.step gno (Step.move rfl) rfl ?_)
              refine RV.op (OV.step gno (Step.idx Try.underlying23 I5 (fun w h => h.rs hb (fun _ => hI _)) rfl rfl (rfl) _ rfl (by first | omega | (show kk < 4; omega))) rfl ?_)
              refine RV.op (OV.step gno (Step.load Try.underlying5 rfl rfl (fun w h => (h.rs hb (fun _ => hI _)).cell0 (by omega) rfl)) rfl ?_)
              refine RV.op (OV.step gno (Step.rem rfl rfl (by omega) (rfl)) rfl ?_)
              refine RV.op (OV.step gno (Step.convI Try.underlying5 Try.underlying22 rfl (wU64 (by omega) (by omega))) rfl ?_)
              refine RV.op (OV.step gno (Step.assign rfl) rfl ?_)
              refine RV.nil ?_
              refine KV.then_n ?_
              refine KV.env [(0, _), (2, _), (4, _), (5, _), (13, _), (14, _), (15, _), (18, _), (19, _)] ⟨rfl, rfl, rfl, rfl, rfl, rfl, rfl, rfl, rfl, trivial⟩ ?_
              refine CV.seq ?_
              -- region 19 law.go:157
              refine CV.region ?_
              refine RV.op (OV.step gno (Step.move rfl) rfl ?_)
              refine RV.op (OV.split gno (Step.lss rfl rfl) rfl (fun g2 => ?_) (fun g2 => ?_))
              · -- True
                refine RV.op (OV.step gno (Step.move rfl) rfl ?_)
                refine RV.op (OV.skip rfl rfl ?_)
                refine RV.op (OV.skip rfl rfl ?_)
                refine RV.op (OV.step gno (Step.pick_t rfl rfl) rfl ?_)
                refine RV.nil ?_
                refine KV.then_n ?_
                refine KV.env [(0, _), (2, _), (4, _), (5, _), (13, _), (14, _), (15, _), (18, _), (19, _), (86, _)] ⟨rfl, rfl, rfl, rfl, rfl, rfl, rfl, rfl, rfl, rfl, trivial⟩ ?_
                refine CV.cond_t rfl ?_
                -- region 20 law.go:158
                refine CV.region ?_
                refine RV.op (OV.step gno (Step.move rfl) rfl ?_)
                refine RV.op (OV.step gno (Step.move rfl) rfl ?_)
                refine RV.op (OV.step gno (Step.move rfl) rfl ?_)
                refine RV.op (OV.step gno (Step.move rfl) rfl ?_)
                (first | refine RV.op (OV.step gno (Step.add rfl rfl (wU64 (by omega) (by omega))) rfl ?_) | refine RV.op (OV.step gno (Step.add rfl rfl rfl) rfl ?_))
                refine RV.op (OV.step gno (Step.move rfl) rfl ?_)
                refine RV.op (OV.step gno (Step.move rfl) rfl ?_)
                refine RV.op (OV.step gno (Step.idx Try.underlying23 I5 (fun w h => h.rs hb (fun _ => hI _)) rfl rfl (rfl) _ rfl (by first | omega | (show kk < 4; omega))) rfl ?_)
                refine RV.op (OV.step gno (Step.load Try.underlying5 rfl rfl (fun w h => (h.rs hb (fun _ => hI _)).cell0 (by omega) rfl)) rfl ?_)
                refine RV.op (OV.step gno (Step.convI Try.underlying5 Try.underlying22 rfl (wU64 (by omega) (by omega))) rfl ?_)
                refine RV.op (OV.step gno (Step.build rfl (Bd37_0_1_2_3_4 _ _ _ _ _)) rfl ?_)
                refine RV.op (OV.call [0, 0, 0, 0] (F := []) Try.func13 B13 N13 rfl rfl (fun w h => accZ_fn b z.s hinv.2.2.ok (⟨m, B.1 + (l.getD j (intK .u8).d).tmod 64, 1, true, (l.getD j (intK .u8).d)⟩ : Acs) (show isU _ by unfold isU; constructor; (show 0 ≤ B.1 + (l.getD j (intK .u8).d).tmod 64; omega); (show B.1 + (l.getD j (intK .u8).d).tmod 64 ≤ _; omega)) (show isU _ by unfold isU; constructor; (show 0 ≤ (l.getD j (intK .u8).d); omega); (show (l.getD j (intK .u8).d) ≤ _; omega)) (wf1 hm (by omega)) (by have := hinv.2.2.tr; omega)) (fun _ hb => hb.elim) gno rfl (fun v L' hp => ?_))
                obtain ⟨A4, c4, tA4, tc4, hA4, rfl, rfl⟩ := hp
                obtain ⟨s4, hss4⟩ : ∃ s9 : BS, accS z.s (⟨m, B.1 + (l.getD j (intK .u8).d).tmod 64, 1, true, (l.getD j (intK .u8).d)⟩ : Acs) A4 c4 tA4 tc4 = s9 := ⟨_, rfl⟩
                rw [hss4]
                obtain ⟨h4, x4, F4, _⟩ := hinv.2.2.acc hm hw3 (wf1 hm (by omega)) rfl (show B.1 ≤ B.1 + (l.getD j (intK .u8).d).tmod 64 by omega) (show B.1 + (l.getD j (intK .u8).d).tmod 64 + 1 ≤ B.1 + 64 by omega) (fun _ => show B.1 + (l.getD j (intK .u8).d).tmod 64 + 1 ≤ B.1 + 16 ∨ B.1 + 24 ≤ B.1 + (l.getD j (intK .u8).d).tmod 64 by omega) (by omega) hA4 hss4
                refine RV.nil ?_
                refine KV.block_n ?_
                refine KV.then_n ?_
                refine KV.env [(0, _), (2, _), (4, _), (5, _), (13, _), (14, _), (15, _), (18, _)] ⟨rfl, rfl, rfl, rfl, rfl, rfl, rfl, rfl, trivial⟩ ?_
                -- region 17 law.go:156
                refine CV.region ?_
                refine RV.op (OV.step gno (Step.move rfl) rfl ?_)
                (first | refine RV.op (OV.step gno (Step.add rfl rfl (wI64 (by omega) (by omega))) rfl ?_) | refine RV.op (OV.step gno (Step.add rfl rfl rfl) rfl ?_))
                refine RV.op (OV.step gno (Step.assign rfl) rfl ?_)
                refine RV.nil ?_
                refine KV.then_n ?_
                refine KV.env [(0, _), (2, _), (4, _), (5, _), (13, _), (14, _), (15, _), (18, _)] ⟨rfl, rfl, rfl, rfl, rfl, rfl, rfl, rfl, trivial⟩ ?_
                refine KV.sel [0, 0, 0, 0] [_, _, _, _] rfl ?_
                (first | exact KV.loop2 (x := j) (y := z) (j + 1) (⟨z.t + 1, s4, h4⟩) ⟨by omega, by show z.t + 1 ≤ j + 1 + 1; omega, F4⟩ (by omega) ⟨rfl, rfl, rfl, rfl, rfl, rfl, rfl, rfl, trivial⟩ (fun _ h => h) | exact KV.loop2 (x := j) (y := z) (j + 1) (z) ⟨by omega, by omega, hinv.2.2⟩ (by omega) ⟨rfl, rfl, rfl, rfl, rfl, rfl, rfl, rfl, trivial⟩ (fun _ h => h))
              · -- False
                refine RV.op (OV.step gno (Step.move rfl) rfl ?_)
                refine RV.op (OV.step (gyes rfl) (Step.move rfl) rfl ?_)
                refine RV.op (OV.split (gyes rfl) (Step.geq rfl rfl) rfl (fun g3 => ?_) (fun g3 => ?_))
                · -- True
                  refine RV.op (OV.step gno (Step.pick_f rfl rfl) rfl ?_)
                  refine RV.nil ?_
                  refine KV.then_n ?_
                  refine KV.env [(0, _), (2, _), (4, _), (5, _), (13, _), (14, _), (15, _), (18, _), (19, _), (86, _)] ⟨rfl, rfl, rfl, rfl, rfl, rfl, rfl, rfl, rfl, rfl, trivial⟩ ?_
                  refine CV.cond_t rfl ?_
                  -- region 20 law.go:158
                  refine CV.region ?_
                  refine RV.op (OV.step gno (Step.move rfl) rfl ?_)
                  refine RV.op (OV.step gno (Step.move rfl) rfl ?_)
                  refine RV.op (OV.step gno (Step.move rfl) rfl ?_)
                  refine RV.op (OV.step gno (Step.move rfl) rfl ?_)
                  (first | refine RV.op (OV.step gno (Step.add rfl rfl (wU64 (by omega) (by omega))) rfl ?_) | refine RV.op (OV.step gno (Step.add rfl rfl rfl) rfl ?_))
                  refine RV.op (OV.step gno (Step.move rfl) rfl ?_)
                  refine RV.op (OV.step gno (Step.move rfl) rfl ?_)
                  refine RV.op (OV.step gno (Step.idx Try.underlying23 I5 (fun w h => h.rs hb (fun _ => hI _)) rfl rfl (rfl) _ rfl (by first | omega | (show kk < 4; omega))) rfl ?_)
                  refine RV.op (OV.step gno (Step.load Try.underlying5 rfl rfl (fun w h => (h.rs hb (fun _ => hI _)).cell0 (by omega) rfl)) rfl ?_)
                  refine RV.op (OV.step gno (Step.convI Try.underlying5 Try.underlying22 rfl (wU64 (by omega) (by omega))) rfl ?_)
                  refine RV.op (OV.step gno (Step.build rfl (Bd37_0_1_2_3_4 _ _ _ _ _)) rfl ?_)
                  refine RV.op (OV.call [0, 0, 0, 0] (F := []) Try.func13 B13 N13 rfl rfl (fun w h => accZ_fn b z.s hinv.2.2.ok (⟨m, B.1 + (l.getD j (intK .u8).d).tmod 64, 1, true, (l.getD j (intK .u8).d)⟩ : Acs) (show isU _ by unfold isU; constructor; (show 0 ≤ B.1 + (l.getD j (intK .u8).d).tmod 64; omega); (show B.1 + (l.getD j (intK .u8).d).tmod 64 ≤ _; omega)) (show isU _ by unfold isU; constructor; (show 0 ≤ (l.getD j (intK .u8).d); omega); (show (l.getD j (intK .u8).d) ≤ _; omega)) (wf1 hm (by omega)) (by have := hinv.2.2.tr; omega)) (fun _ hb => hb.elim) gno rfl (fun v L' hp => ?_))
                  obtain ⟨A4, c4, tA4, tc4, hA4, rfl, rfl⟩ := hp
                  obtain ⟨s4, hss4⟩ : ∃ s9 : BS, accS z.s (⟨m, B.1 + (l.getD j (intK .u8).d).tmod 64, 1, true, (l.getD j (intK .u8).d)⟩ : Acs) A4 c4 tA4 tc4 = s9 := ⟨_, rfl⟩
                  rw [hss4]
                  obtain ⟨h4, x4, F4, _⟩ := hinv.2.2.acc hm hw3 (wf1 hm (by omega)) rfl (show B.1 ≤ B.1 + (l.getD j (intK .u8).d).tmod 64 by omega) (show B.1 + (l.getD j (intK .u8).d).tmod 64 + 1 ≤ B.1 + 64 by omega) (fun _ => show B.1 + (l.getD j (intK .u8).d).tmod 64 + 1 ≤ B.1 + 16 ∨ B.1 + 24 ≤ B.1 + (l.getD j (intK .u8).d).tmod 64 by omega) (by omega) hA4 hss4
                  refine RV.nil ?_
                  refine KV.block_n ?_
                  refine KV.then_n ?_
                  refine KV.env [(0, _), (2, _), (4, _), (5, _), (13, _), (14, _), (15, _), (18, _)] ⟨rfl, rfl, rfl, rfl, rfl, rfl, rfl, rfl, trivial⟩ ?_
                  -- region 17 law.go:156
                  refine CV.region ?_
                  refine RV.op (OV.step gno (Step.move rfl) rfl ?_)
                  (first | refine RV.op (OV.step gno (Step.add rfl rfl (wI64 (by omega) (by omega))) rfl ?_) | refine RV.op (OV.step gno (Step.add rfl rfl rfl) rfl ?_))
                  refine RV.op (OV.step gno (Step.assign rfl) rfl ?_)
                  refine RV.nil ?_
                  refine KV.then_n ?_
                  refine KV.env [(0, _), (2, _), (4, _), (5, _), (13, _), (14, _), (15, _), (18, _)] ⟨rfl, rfl, rfl, rfl, rfl, rfl, rfl, rfl, trivial⟩ ?_
                  refine KV.sel [0, 0, 0, 0] [_, _, _, _] rfl ?_
                  (first | exact KV.loop2 (x := j) (y := z) (j + 1) (⟨z.t + 1, s4, h4⟩) ⟨by omega, by show z.t + 1 ≤ j + 1 + 1; omega, F4⟩ (by omega) ⟨rfl, rfl, rfl, rfl, rfl, rfl, rfl, rfl, trivial⟩ (fun _ h => h) | exact KV.loop2 (x := j) (y := z) (j + 1) (z) ⟨by omega, by omega, hinv.2.2⟩ (by omega) ⟨rfl, rfl, rfl, rfl, rfl, rfl, rfl, rfl, trivial⟩ (fun _ h => h))
                · -- False
                  refine RV.op (OV.step gno (Step.pick_f rfl rfl) rfl ?_)
                  refine RV.nil ?_
                  refine KV.then_n ?_
                  refine KV.env [(0, _), (2, _), (4, _), (5, _), (13, _), (14, _), (15, _), (18, _), (19, _), (86, _)] ⟨rfl, rfl, rfl, rfl, rfl, rfl, rfl, rfl, rfl, rfl, trivial⟩ ?_
                  refine CV.cond_f rfl ?_
                  refine CV.skip ?_
                  refine KV.block_n ?_
                  refine KV.then_n ?_
                  refine KV.env [(0, _), (2, _), (4, _), (5, _), (13, _), (14, _), (15, _), (18, _)] ⟨rfl, rfl, rfl, rfl, rfl, rfl, rfl, rfl, trivial⟩ ?_
                  -- region 17 law.go:156
                  refine CV.region ?_
                  refine RV.op (OV.step gno (Step.move rfl) rfl ?_)
                  (first | refine RV.op (OV.step gno (Step.add rfl rfl (wI64 (by omega) (by omega))) rfl ?_) | refine RV.op (OV.step gno (Step.add rfl rfl rfl) rfl ?_))
                  refine RV.op (OV.step gno (Step.assign rfl) rfl ?_)
                  refine RV.nil ?_
                  refine KV.then_n ?_
                  refine KV.env [(0, _), (2, _), (4, _), (5, _), (13, _), (14, _), (15, _), (18, _)] ⟨rfl, rfl, rfl, rfl, rfl, rfl, rfl, rfl, trivial⟩ ?_
                  refine KV.sel [0, 0, 0, 0] [_, _, _, _] rfl ?_
                  (first | exact KV.loop2 (x := j) (y := z) (j + 1) (⟨z.t + 1, s4, h4⟩) ⟨by omega, by show z.t + 1 ≤ j + 1 + 1; omega, F4⟩ (by omega) ⟨rfl, rfl, rfl, rfl, rfl, rfl, rfl, rfl, trivial⟩ (fun _ h => h) | exact KV.loop2 (x := j) (y := z) (j + 1) (z) ⟨by omega, by omega, hinv.2.2⟩ (by omega) ⟨rfl, rfl, rfl, rfl, rfl, rfl, rfl, rfl, trivial⟩ (fun _ h => h))
            · -- False
              refine RV.op (OV.step gno (Step.pick_t rfl rfl) rfl ?_)
              refine RV.nil ?_
              refine KV.then_n ?_
              refine KV.env [(0, _), (2, _), (4, _), (5, _), (13, _), (14, _), (15, _), (18, _), (72, _)] ⟨rfl, rfl, rfl, rfl, rfl, rfl, rfl, rfl, rfl, trivial⟩ ?_
              refine CV.cond_f rfl ?_
              refine CV.exit ?_
              refine KV.then_exit ?_
              refine KV.then_exit ?_
              refine KV.block_hit ?_
              refine KV.then_n ?_
              refine KV.env [(0, _), (4, _), (13, _), (14, _), (15, _)] ⟨rfl, rfl, rfl, rfl, rfl, trivial⟩ ?_
              refine CV.seq ?_
              -- region 21 law.go:161
              refine CV.region ?_
              refine RV.op (OV.step gno (Step.move rfl) rfl ?_)
              refine RV.op (OV.step gno (Step.move rfl) rfl ?_)
              refine RV.op (OV.step gno (Step.move rfl) rfl ?_)
              refine RV.op (OV.step gno (Step.move rfl) rfl ?_)
              refine RV.op (OV.step gno (Step.build rfl (Bd37_0_1_2 _ _ _)) rfl ?_)
              refine RV.op (OV.call [0, 0, 0, 0] (F := []) Try.func13 B13 N13 rfl rfl (fun w h => accZ_fn b z.s hinv.2.2.ok (⟨m, B.1 + 16, w0, false, 0⟩ : Acs) hAU (show isU 0 by unfold isU; decide) (wf16 hm hw1 hB.1 hB.2.2) (by have := hinv.2.2.tr; omega)) (fun _ hb => hb.elim) gno rfl (fun v L' hp => ?_))
              obtain ⟨A5, c5, tA5, tc5, hA5, rfl, rfl⟩ := hp
              obtain ⟨s5, hss5⟩ : ∃ s9 : BS, accS z.s (⟨m, B.1 + 16, w0, false, 0⟩ : Acs) A5 c5 tA5 tc5 = s9 := ⟨_, rfl⟩
              rw [hss5]
              obtain ⟨h5, x5, _, v5⟩ := hinv.2.2.acc hm hw3 (a := (⟨m, B.1 + 16, w0, false, 0⟩ : Acs)) (wf16 hm hw1 hB.1 hB.2.2) rfl (show B.1 ≤ B.1 + 16 by omega) (show B.1 + 16 + (w0 : Int) ≤ B.1 + 64 by omega) (fun h => by cases h) (by omega) hA5 hss5
              have v6 : accV z.s (⟨m, B.1 + 16, w0, false, 0⟩ : Acs) = v % pw w0 := by rw [v5 rfl]; show rdL z.h.bs (B.1 + 16 - B.1).toNat (w0 : Int).toNat = _; rw [show (B.1 + 16 - B.1).toNat = 16 by omega, Int.toNat_natCast]; exact rd_mod hv.1 hinv.2.2.by'
              rw [x5, v6]
              refine RV.op (OV.step gno (Step.move rfl) rfl ?_)
              refine RV.op (OV.step gno (Step.extract0 rfl rfl) rfl ?_)
              refine RV.op (OV.step gno (Step.extract0 rfl rfl) rfl ?_)
              refine RV.op (OV.step gno (Step.assign rfl) rfl ?_)
              refine RV.op (OV.step gno (Step.assign rfl) rfl ?_)
              refine RV.nil ?_
              refine KV.then_n ?_
              refine KV.env [(4, _), (14, _), (20, _), (21, _)] ⟨rfl, rfl, rfl, rfl, trivial⟩ ?_
              refine CV.seq ?_
              -- region 22 law.go:162
              refine CV.region ?_
              refine RV.op (OV.step gno (Step.move rfl) rfl ?_)
              refine RV.op (OV.split gno (Step.eql rfl rfl) rfl (fun g4 => ?_) (fun g4 => ?_))
              · -- True
                refine RV.op (OV.step gno (Step.move rfl) rfl ?_)
                refine RV.op (OV.step (gyes rfl) (Step.move rfl) rfl ?_)
                refine RV.op (OV.step (gyes rfl) (Step.move rfl) rfl ?_)
                refine RV.op (OV.step (gyes rfl) (Step.move rfl) rfl ?_)
                refine RV.op (OV.call [] Try.func14 B14 N14 rfl rfl (fun w h => (ones_fn w0 hw1).fn w) (fun _ hb => hb.elim) (gyes rfl) rfl (fun v L' hp => ?_))
                obtain ⟨rfl, rfl⟩ := hp
                simp only [List.append_nil]
                refine RV.op (OV.step (gyes rfl) (Step.band rfl rfl (andOnes hv hw1)) rfl ?_)
                refine RV.op (OV.split (gyes rfl) (Step.eql rfl rfl) rfl (fun g5 => ?_) (fun g5 => ?_))
                · -- True
                  refine RV.op (OV.step gno (Step.pick_t rfl rfl) rfl ?_)
                  refine RV.op (OV.step gno (Step.assign rfl) rfl ?_)
                  refine RV.nil ?_
                  refine KV.then_n ?_
                  refine KV.env [(12, _)] ⟨rfl, trivial⟩ ?_
                  refine CV.ret ?_
                  -- return at r22
                  refine KV.sel [] [] rfl ?_
                  exact KV.ret1 rfl rfl _ (fun _ h => h) ⟨rfl, rfl⟩
                · -- False
                  exact absurd (and_ones hv.1 hw1).symm g5
              · -- False
                exact absurd rfl g4
          · -- False
            refine RV.op (OV.step gno (Step.move rfl) rfl ?_)
            refine RV.op (OV.skip rfl rfl ?_)
            refine RV.op (OV.skip rfl rfl ?_)
            refine RV.op (OV.step gno (Step.pick_f rfl rfl) rfl ?_)
            refine RV.nil ?_
            refine KV.then_n ?_
            refine KV.env [(0, _), (2, _), (4, _), (5, _), (13, _), (14, _), (15, _), (18, _), (72, _)] ⟨rfl, rfl, rfl, rfl, rfl, rfl, rfl, rfl, rfl, trivial⟩ ?_
            refine CV.cond_f rfl ?_
            refine CV.exit ?_
            refine KV.then_exit ?_
            refine KV.then_exit ?_
            refine KV.block_hit ?_
            refine KV.then_n ?_
            refine KV.env [(0, _), (4, _), (13, _), (14, _), (15, _)] ⟨rfl, rfl, rfl, rfl, rfl, trivial⟩ ?_
            refine CV.seq ?_
            -- region 21 law.go:161
            refine CV.region ?_
            refine RV.op (OV.step gno (Step.move rfl) rfl ?_)
            refine RV.op (OV.step gno (Step.move rfl) rfl ?_)
            refine RV.op (OV.step gno (Step.move rfl) rfl ?_)
            refine RV.op (OV.step gno (Step.move rfl) rfl ?_)
            refine RV.op (OV.step gno (Step.build rfl (Bd37_0_1_2 _ _ _)) rfl ?_)
            refine RV.op (OV.call [0, 0, 0, 0] (F := []) Try.func13 B13 N13 rfl rfl (fun w h => accZ_fn b z.s hinv.2.2.ok (⟨m, B.1 + 16, w0, false, 0⟩ : Acs) hAU (show isU 0 by unfold isU; decide) (wf16 hm hw1 hB.1 hB.2.2) (by have := hinv.2.2.tr; omega)) (fun _ hb => hb.elim) gno rfl (fun v L' hp => ?_))
            obtain ⟨A5, c5, tA5, tc5, hA5, rfl, rfl⟩ := hp
            obtain ⟨s5, hss5⟩ : ∃ s9 : BS, accS z.s (⟨m, B.1 + 16, w0, false, 0⟩ : Acs) A5 c5 tA5 tc5 = s9 := ⟨_, rfl⟩
            rw [hss5]
            obtain ⟨h5, x5, _, v5⟩ := hinv.2.2.acc hm hw3 (a := (⟨m, B.1 + 16, w0, false, 0⟩ : Acs)) (wf16 hm hw1 hB.1 hB.2.2) rfl (show B.1 ≤ B.1 + 16 by omega) (show B.1 + 16 + (w0 : Int) ≤ B.1 + 64 by omega) (fun h => by cases h) (by omega) hA5 hss5
            have v6 : accV z.s (⟨m, B.1 + 16, w0, false, 0⟩ : Acs) = v % pw w0 := by rw [v5 rfl]; show rdL z.h.bs (B.1 + 16 - B.1).toNat (w0 : Int).toNat = _; rw [show (B.1 + 16 - B.1).toNat = 16 by omega, Int.toNat_natCast]; exact rd_mod hv.1 hinv.2.2.by'
            rw [x5, v6]
            refine RV.op (OV.step gno (Step.move rfl) rfl ?_)
            refine RV.op (OV.step gno (Step.extract0 rfl rfl) rfl ?_)
            refine RV.op (OV.step gno (Step.extract0 rfl rfl) rfl ?_)
            refine RV.op (OV.step gno (Step.assign rfl) rfl ?_)
            refine RV.op (OV.step gno (Step.assign rfl) rfl ?_)
            refine RV.nil ?_
            refine KV.then_n ?_
            refine KV.env [(4, _), (14, _), (20, _), (21, _)] ⟨rfl, rfl, rfl, rfl, trivial⟩ ?_
            refine CV.seq ?_
            -- region 22 law.go:162
            refine CV.region ?_
            refine RV.op (OV.step gno (Step.move rfl) rfl ?_)
            refine RV.op (OV.split gno (Step.eql rfl rfl) rfl (fun g4 => ?_) (fun g4 => ?_))
            · -- True
              refine RV.op (OV.step gno (Step.move rfl) rfl ?_)
              refine RV.op (OV.step (gyes rfl) (Step.move rfl) rfl ?_)
              refine RV.op (OV.step (gyes rfl) (Step.move rfl) rfl ?_)
              refine RV.op (OV.step (gyes rfl) (Step.move rfl) rfl ?_)
              refine RV.op (OV.call [] Try.func14 B14 N14 rfl rfl (fun w h => (ones_fn w0 hw1).fn w) (fun _ hb => hb.elim) (gyes rfl) rfl (fun v L' hp => ?_))
              obtain ⟨rfl, rfl⟩ := hp
              simp only [List.append_nil]
              refine RV.op (OV.step (gyes rfl) (Step.band rfl rfl (andOnes hv hw1)) rfl ?_)
              refine RV.op (OV.split (gyes rfl) (Step.eql rfl rfl) rfl (fun g5 => ?_) (fun g5 => ?_))
              · -- True
                refine RV.op (OV.step gno (Step.pick_t rfl rfl) rfl ?_)
                refine RV.op (OV.step gno (Step.assign rfl) rfl ?_)
                refine RV.nil ?_
                refine KV.then_n ?_
                refine KV.env [(12, _)] ⟨rfl, trivial⟩ ?_
                refine CV.ret ?_
                -- return at r22
                refine KV.sel [] [] rfl ?_
                exact KV.ret1 rfl rfl _ (fun _ h => h) ⟨rfl, rfl⟩
              · -- False
                exact absurd (and_ones hv.1 hw1).symm g5
            · -- False
              exact absurd rfl g4
end Go.Proofs.Ythdpojggdodpfaa
