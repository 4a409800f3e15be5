/-
  Walks, part 9.
-/
import Derived.Test.YthdpojggdodpfaaTabs
import Derived.Test.YthdpojggdodpfaaW8
import Derived.Test.YthdpojggdodpfaaPlA
set_option linter.unusedSimpArgs false
set_option linter.unusedVariables false
namespace Go.Proofs.Ythdpojggdodpfaa
open Go.Sv Go.Ios
theorem mapZ_fn (b : Nat) (s : BS) {w : World} (hk : s.ok) (m : Nat) (hm : m < 3) (p0 q0 o : Int) (hp0 : isU p0) (hr : okR p0 q0) (h1 : 0 ≤ o) (h2 : o < 256) (hb : ¬ busy (s.sp m).hs p0 q0) (ht : s.total ≠ 256) :
    Fx Try.prog 11 [.pointer (some ⟨b, 0, none⟩), .int .i64 m, .agg #[.int .u64 p0, .int .u64 q0], .int .i64 o] w (busL b s) no (fun r L => ∃ bp A c, r = .int .i64 0 ∧ L = busL b (mapG s m ⟨bp, p0, q0, o, none, 0, []⟩ A c)) :=
  (map_fn b s hk m p0 q0 o hp0).mono fun v L hp => by
    obtain ⟨h3, bp, A, c, h4⟩ := ((hp.2 m rfl ⟨⟨by omega, by omega⟩, hr, h1, h2⟩).2 hb).2 ht
    exact ⟨bp, A, c, h3, h4⟩
theorem accZ_fn (b : Nat) (s : BS) {w : World} (hk : s.ok) (a : Acs) (hua : isU a.addr) (huv : isU a.val) (hwf : wfA a) (ht : s.tr.length ≠ 65536) :
    Fx Try.prog 13 [.pointer (some ⟨b, 0, none⟩), .agg #[.int .i64 a.space, .int .u64 a.addr, .int .i64 a.width, .bool a.wr, .int .u64 a.val]] w (busL b s) no (fun v L => ∃ A c tA tc, (wrs s a → A ≠ none) ∧ v = .tuple #[.int .u64 (accV s a), .int .i64 (accE s a)] ∧ L = busL b (accS s a A c tA tc)) :=
  (access_fn b s hk a hua huv).mono fun v L hp => (hp.2 hwf).2 ht
theorem enZ_fn (b : Nat) (s : BS) {w : World} (hk : s.ok) (m : Nat) (hm : m < 256) (v : Bool) : Fx Try.prog 12 [.pointer (some ⟨b, 0, none⟩), .int .i64 m, .bool v] w (busL b s) no (fun r L => r = .int .i64 0 ∧ L = busL b { s with en := s.en.set m v }) :=
  (enable_fn b s hk m v).mono fun r L hp => hp.2 ⟨by omega, by omega⟩
theorem plZ_fn (b : Nat) (s : BS) {w : World} (hk : s.ok) (m : Nat) (hm : m < 3) (p0 q0 n : Int) (hp0 : isU p0) (hr : okR p0 q0) (h1 : 1 ≤ n) (h2 : n ≤ 64) (hl : s.fl.length ≠ 64) :
    Fx Try.prog 16 [.pointer (some ⟨b, 0, none⟩), .int .i64 m, .agg #[.int .u64 p0, .int .u64 q0], .int .i64 n] w (busL b s) no (fun r L => r = .int .i64 0 ∧ ∃ A c, L = busL b (fltG s ⟨m, p0, q0, n⟩ A c)) :=
  (planFault_fn b s hk m p0 q0 n hp0).mono fun r L hp => (hp.2 ⟨⟨by omega, by omega⟩, hr, h1, h2⟩).2 hl

set_option maxRecDepth 100000 in
set_option maxHeartbeats 1000000 in
theorem peek_fn (b : Nat) (s : BS) {w : World} (hk : s.ok) (z x : Int) (hx : isU x) : Fx Try.prog 17 [.pointer (some ⟨b, 0, none⟩), .int .i64 z, .int .u64 x] w (busL b s) no (fun v L => v = .tuple #[.int .u8 (pkM s z x), .bool (fnd s z x).isSome] ∧ L = busL b s) := by
  refine Sv.Fx.body Try.func17 rfl T17 rfl ?_
  intro I hro hI
  refine KV.env [(0, _), (1, _), (2, _)] ⟨rfl, rfl, rfl, trivial⟩ ?_
  have hw := hk.wf
  have hw3 := hw.sp
  refine CV.seq ?_
  -- region 0 iospace.go:230
  refine CV.region ?_
  refine RV.op (OV.step gno (Step.assign rfl) rfl ?_)
  refine RV.op (OV.step gno (Step.assign rfl) rfl ?_)
  refine RV.nil ?_
  refine KV.then_n ?_
  refine KV.env [(0, _), (1, _), (2, _)] ⟨rfl, rfl, rfl, trivial⟩ ?_
  refine CV.seq ?_
  -- region 1 iospace.go:231
  refine CV.region ?_
  refine RV.op (OV.step gno (Step.move rfl) rfl ?_)
  refine RV.op (OV.step gno (Step.move rfl) rfl ?_)
  refine RV.op (OV.step gno (Step.move rfl) rfl ?_)
  refine RV.op (OV.call [0, 0, 0, 0] (F := []) Try.func30 B30 N30 rfl rfl (fun w h => find_fn b s hk z x) (fun _ hb => hb.elim) gno rfl (fun v L' hp => ?_))
  obtain ⟨rfl, rfl⟩ := hp
  refine RV.op (OV.step gno (Step.assign rfl) rfl ?_)
  refine RV.nil ?_
  refine KV.then_n ?_
  refine KV.env [(2, _), (8, _)] ⟨rfl, rfl, trivial⟩ ?_
  refine CV.seq ?_
  refine CV.seq ?_
  -- region 2 iospace.go:232
  refine CV.region ?_
  refine RV.op (OV.step gno (Step.move rfl) rfl ?_)
  refine RV.op (OV.split gno (Step.eqlP Try.underlying78 rfl rfl) rfl (fun hq => ?_) (fun hq => ?_))
  · -- True
    refine RV.nil ?_
    refine KV.then_n ?_
    refine KV.env [(2, _), (8, _), (14, _)] ⟨rfl, rfl, rfl, trivial⟩ ?_
    refine CV.cond_t rfl ?_
    refine CV.seq ?_
    -- region 3 iospace.go:233
    refine CV.region ?_
    refine RV.op (OV.step gno (Step.assign rfl) rfl ?_)
    refine RV.op (OV.step gno (Step.assign rfl) rfl ?_)
    refine RV.nil ?_
    refine KV.then_n ?_
    refine KV.env [(6, _), (7, _)] ⟨rfl, rfl, trivial⟩ ?_
    refine CV.ret ?_
    refine KV.then_ret ?_
    -- return at r3
    refine KV.sel [0, 0, 0, 0] [_, _, _, _] rfl ?_
    exact KV.ret2 rfl rfl rfl _ (fun _ h => h) ⟨by rw [pkM, fptr_no hq]; rfl, rfl⟩
  · -- False
    obtain ⟨m, i, rfl, hm, he, hi, hb1, hb2⟩ := fptr_cases hk hq
    rw [fptr_some he]
    have hmo := (hk.sp m hm).each i hi
    have hyb := hmo.y (x - (mh (s.sp m).hs i).base).toNat
    refine RV.nil ?_
    refine KV.then_n ?_
    refine KV.env [(2, _), (8, _), (14, _)] ⟨rfl, rfl, rfl, trivial⟩ ?_
    refine CV.cond_f rfl ?_
    refine CV.skip ?_
    refine KV.then_n ?_
    refine KV.env [(2, _), (8, _)] ⟨rfl, rfl, trivial⟩ ?_
    refine CV.seq ?_
    -- region 4 iospace.go:235
    refine CV.region ?_
    refine RV.op (OV.step gno (Step.move rfl) rfl ?_)
    refine RV.op (OV.step gno (Step.move rfl) rfl ?_)
    refine RV.op (OV.call [] (F := [_, _, _, _]) Try.func34 B34 N34 rfl rfl (fun w h => read_fn (h0 := (mh (s.sp m).hs i)) (n := 1) ((show SpR w (s.sp m) from Hp.spr h (k := 1) rfl (m := m) (by omega)).2 i hi) hmo rfl hb1 (by have : x ≤ (mh (s.sp m).hs i).base + ((mh (s.sp m).hs i).len - 1) := hb2; omega) (by unfold isU at hx; omega) (by omega)) (fun _ hb => hb.elim) gno rfl (fun v L' hp => ?_))
    obtain ⟨rfl, rfl⟩ := hp
    simp only [List.append_nil]
    rw [rdL_one]
    refine RV.op (OV.step gno (Step.convI Try.underlying22 Try.underlying5 rfl ((show IntKind.u8.wrap (byt (mh (s.sp m).hs i).bs (x - (mh (s.sp m).hs i).base).toNat) = byt (mh (s.sp m).hs i).bs (x - (mh (s.sp m).hs i).base).toNat by rw [IntKind.wrap_u8]; unfold byt; omega))) rfl ?_)
    refine RV.op (OV.step gno (Step.assign rfl) rfl ?_)
    refine RV.op (OV.step gno (Step.assign rfl) rfl ?_)
    refine RV.nil ?_
    refine KV.then_n ?_
    refine KV.env [(6, _), (7, _)] ⟨rfl, rfl, trivial⟩ ?_
    refine CV.ret ?_
    -- return at r4
    refine KV.sel [0, 0, 0, 0] [_, _, _, _] rfl ?_
    exact KV.ret2 rfl rfl rfl _ (fun _ h => h) ⟨by rw [pk_some he, he]; rfl, rfl⟩

set_option maxRecDepth 100000 in
set_option maxHeartbeats 4000000 in
theorem awake_fn {w : World} : Fx Try.prog 9 [] w [] no (fun v L => v = .bool true ∧ L = []) := by
  refine Sv.Fx.body Try.func9 rfl T9 rfl ?_
  intro I hro hI
  refine KV.env [] trivial ?_
  refine CV.seq ?_
  -- region 0 law.go:12
  refine CV.region ?_
  refine RV.op (OV.step gno (Step.assign rfl) rfl ?_)
  refine RV.nil ?_
  refine KV.then_n ?_
  refine KV.env [] trivial ?_
  refine CV.seq ?_
  -- region 1 law.go:13
  refine CV.region ?_
  refine RV.op (OV.call [] (F := []) Try.func8 B8 N8 rfl rfl (fun w h => new_fn) (fun _ hb => hb.elim) gno rfl (fun v L' hp => ?_))
  obtain ⟨b, rfl, rfl⟩ := hp
  refine RV.op (OV.step gno (Step.assign rfl) rfl ?_)
  refine RV.nil ?_
  refine KV.then_n ?_
  refine KV.env [(1, _)] ⟨rfl, trivial⟩ ?_
  refine CV.seq ?_
  refine CV.seq ?_
  -- region 2 law.go:14
  refine CV.region ?_
  refine RV.op (OV.step gno (Step.move rfl) rfl ?_)
  refine RV.op (OV.split gno (Step.eqlP Try.underlying24 rfl rfl) rfl (fun e9 => ?_) (fun e9 => ?_))
  · -- True
    cases e9
  · -- False
    refine RV.op (OV.step gno (Step.move rfl) rfl ?_)
    refine RV.op (OV.step (gyes rfl) (Step.move rfl) rfl ?_)
    refine RV.op (OV.step (gyes rfl) (Step.build rfl (Bd32_0_1 _ _)) rfl ?_)
    refine RV.op (OV.call [0, 0, 0, 0] (F := []) Try.func11 B11 N11 rfl rfl (fun w h => mapZ_fn b bs0 bs0_ok 1 (by decide) 96 8 3 (by unfold isU; decide) (by decide) (by decide) (by decide) (not_busy0 (by decide) _ _) (by decide)) (fun _ hb => hb.elim) (gyes rfl) rfl (fun v L' hp => ?_))
    obtain ⟨bp, A1, c1, rfl, rfl⟩ := hp
    obtain ⟨s1, hss1⟩ : ∃ s9 : BS, mapG bs0 1 ⟨bp, 96, 8, 3, none, 0, []⟩ A1 c1 = s9 := ⟨_, rfl⟩
    rw [hss1]
    obtain ⟨hk1, e1, n1, f1, t1, _⟩ := map0 (by decide) (newH_ok (by unfold isU; decide) (by decide) (by decide) (by decide)) hss1
    refine RV.op (OV.split (gyes rfl) (Step.neq rfl rfl) rfl (fun e9 => ?_) (fun e9 => ?_))
    · -- True
      exact absurd rfl e9
    · -- False
      refine RV.op (OV.step gno (Step.pick_f rfl rfl) rfl ?_)
      refine RV.nil ?_
      refine KV.then_n ?_
      refine KV.env [(1, _), (15, _)] ⟨rfl, rfl, trivial⟩ ?_
      refine CV.cond_f rfl ?_
      refine CV.skip ?_
      refine KV.then_n ?_
      refine KV.env [(1, _)] ⟨rfl, trivial⟩ ?_
      refine CV.seq ?_
      -- region 4 law.go:17
      refine CV.region ?_
      refine RV.op (OV.step gno (Step.move rfl) rfl ?_)
      refine RV.op (OV.step gno (Step.build rfl (Bd37_0_1_2 _ _ _)) rfl ?_)
      refine RV.op (OV.call [0, 0, 0, 0] (F := []) Try.func13 B13 N13 rfl rfl (fun w h => accZ_fn b s1 hk1 (⟨1, 96, 1, false, 0⟩ : Acs) (by unfold isU; decide) (by unfold isU; decide) ⟨by decide, by decide, by decide⟩ (by rw [t1]; decide)) (fun _ hb => hb.elim) gno rfl (fun v L' hp => ?_))
      obtain ⟨A2, c2, tA2, tc2, hA2, rfl, rfl⟩ := hp
      obtain ⟨s2, hss2⟩ : ∃ s9 : BS, accS s1 (⟨1, 96, 1, false, 0⟩ : Acs) A2 c2 tA2 tc2 = s9 := ⟨_, rfl⟩
      rw [hss2]
      obtain ⟨hk2, e2, n2, f2, t2, l1, _, _⟩ := accOne hk1 (m := 1) (by decide) e1 ⟨by decide, by decide, by decide⟩ rfl (show (96 : Int) ≤ 96 by decide) (show (96 : Int) + 1 - 1 ≤ 96 + (8 - 1) by decide) (by rw [t1]; decide) hA2 hss2
      have l1f : lvM s1 (⟨1, 96, 1, false, 0⟩ : Acs) = false := by rw [l1, n1]; rfl
      have nw1 : ¬ wrs s1 (⟨1, 96, 1, false, 0⟩ : Acs) := fun k => by cases k.1
      rw [if_neg nw1] at e2
      rw [l1f, f1] at f2
      have v1 : accV s1 (⟨1, 96, 1, false, 0⟩ : Acs) = 255 := by rw [accV, fl_nil f1, if_neg (by decide), if_neg (by decide), vl_dead rfl l1f]; rfl
      have x1 : accE s1 (⟨1, 96, 1, false, 0⟩ : Acs) = 0 := by rw [accE, fl_nil f1]; rfl
      rw [v1, x1]
      refine RV.op (OV.step gno (Step.move rfl) rfl ?_)
      refine RV.op (OV.step gno (Step.extract0 rfl rfl) rfl ?_)
      refine RV.op (OV.step gno (Step.extract0 rfl rfl) rfl ?_)
      refine RV.op (OV.step gno (Step.assign rfl) rfl ?_)
      refine RV.op (OV.step gno (Step.assign rfl) rfl ?_)
      refine RV.nil ?_
      refine KV.then_n ?_
      refine KV.env [(1, _), (2, _), (3, _)] ⟨rfl, rfl, rfl, trivial⟩ ?_
      refine CV.seq ?_
      -- region 5 law.go:18
      refine CV.region ?_
      refine RV.op (OV.step gno (Step.move rfl) rfl ?_)
      refine RV.op (OV.call [0, 0, 0, 0] (F := []) Try.func12 B12 N12 rfl rfl (fun w h => enZ_fn b s2 hk2 3 (by decide) true) (fun _ hb => hb.elim) gno rfl (fun v L' hp => ?_))
      obtain ⟨rfl, rfl⟩ := hp
      obtain ⟨s3, hss3⟩ : ∃ s9 : BS, ({ s2 with en := s2.en.set 3 true } : BS) = s9 := ⟨_, rfl⟩
      rw [hss3]
      have hk3 : s3.ok := hss3 ▸ hk2.en 3 true
      have e3 : (s3.sp 1).hs = [⟨bp, 96, 8, 3, none, 0, []⟩] := by rw [← hss3]; exact e2
      have f3 : s3.fl = [] := by rw [← hss3]; exact f2
      have n3 : s3.en.getD 3 false = true := by rw [← hss3]; exact getD_set_self _ _ _ _ (by rw [hk2.wf.en]; decide)
      have t3 : s3.tr = s2.tr := by rw [← hss3]
      refine RV.nil ?_
      refine KV.then_n ?_
      refine KV.env [(1, _), (2, _), (3, _)] ⟨rfl, rfl, rfl, trivial⟩ ?_
      refine CV.seq ?_
      -- region 6 law.go:19
      refine CV.region ?_
      refine RV.op (OV.step gno (Step.move rfl) rfl ?_)
      refine RV.op (OV.step gno (Step.build rfl (Bd37_0_1_2 _ _ _)) rfl ?_)
      refine RV.op (OV.call [0, 0, 0, 0] (F := []) Try.func13 B13 N13 rfl rfl (fun w h => accZ_fn b s3 hk3 (⟨1, 96, 1, false, 0⟩ : Acs) (by unfold isU; decide) (by unfold isU; decide) ⟨by decide, by decide, by decide⟩ (by rw [t3, t2, t1]; show 1 ≠ 65536; decide)) (fun _ hb => hb.elim) gno rfl (fun v L' hp => ?_))
      obtain ⟨A4, c4, tA4, tc4, hA4, rfl, rfl⟩ := hp
      obtain ⟨s4, hss4⟩ : ∃ s9 : BS, accS s3 (⟨1, 96, 1, false, 0⟩ : Acs) A4 c4 tA4 tc4 = s9 := ⟨_, rfl⟩
      rw [hss4]
      obtain ⟨hk4, e4, n4, f4, t4, l3, h3, o3⟩ := accOne hk3 (m := 1) (by decide) e3 ⟨by decide, by decide, by decide⟩ rfl (show (96 : Int) ≤ 96 by decide) (show (96 : Int) + 1 - 1 ≤ 96 + (8 - 1) by decide) (by rw [t3, t2, t1]; show 1 ≠ 65536; decide) hA4 hss4
      have l3t : lvM s3 (⟨1, 96, 1, false, 0⟩ : Acs) = true := by rw [l3]; exact n3
      have v3 : accV s3 (⟨1, 96, 1, false, 0⟩ : Acs) = 0 := by rw [accV, fl_nil f3, if_neg (by decide), if_neg (by decide), vlM, if_neg (by decide), if_pos l3t, fl_nil f3, if_neg (by decide), h3]; rfl
      have x3 : accE s3 (⟨1, 96, 1, false, 0⟩ : Acs) = 0 := by rw [accE, fl_nil f3]; rfl
      rw [v3, x3]
      have tt : s4.tr = [rec s1 (⟨1, 96, 1, false, 0⟩ : Acs), rec s3 (⟨1, 96, 1, false, 0⟩ : Acs)] := by rw [t4, t3, t2, t1]; rfl
      refine RV.op (OV.step gno (Step.move rfl) rfl ?_)
      refine RV.op (OV.step gno (Step.extract0 rfl rfl) rfl ?_)
      refine RV.op (OV.step gno (Step.extract0 rfl rfl) rfl ?_)
      refine RV.op (OV.step gno (Step.assign rfl) rfl ?_)
      refine RV.op (OV.step gno (Step.assign rfl) rfl ?_)
      refine RV.nil ?_
      refine KV.then_n ?_
      refine KV.env [(1, _), (2, _), (3, _), (4, _), (5, _)] ⟨rfl, rfl, rfl, rfl, rfl, trivial⟩ ?_
      refine CV.seq ?_
      -- region 7 law.go:20
      refine CV.region ?_
      refine RV.op (OV.step gno (Step.move rfl) rfl ?_)
      refine RV.op (OV.call [0, 0, 0, 0] (F := []) Try.func21 B21 N21 rfl rfl (fun w h => takeTrace_fn b s4 hk4) (fun _ hb => hb.elim) gno rfl (fun v L' hp => ?_))
      obtain ⟨rfl, rfl⟩ := hp
      rw [tt]
      refine RV.op (OV.step gno (Step.assign rfl) rfl ?_)
      refine RV.nil ?_
      refine KV.then_n ?_
      refine KV.env [(2, _), (3, _), (4, _), (5, _), (6, _)] ⟨rfl, rfl, rfl, rfl, rfl, trivial⟩ ?_
      refine CV.seq ?_
      -- region 8 law.go:21
      refine CV.region ?_
      refine RV.op (OV.step gno (Step.move rfl) rfl ?_)
      refine RV.op (OV.split gno (Step.eql rfl rfl) rfl (fun e9 => ?_) (fun e9 => ?_))
      · -- True
        refine RV.op (OV.step gno (Step.move rfl) rfl ?_)
        refine RV.op (OV.step (gyes rfl) (Step.move rfl) rfl ?_)
        refine RV.op (OV.split (gyes rfl) (Step.eql rfl rfl) rfl (fun e9 => ?_) (fun e9 => ?_))
        · -- True
          refine RV.op (OV.step gno (Step.pick_t rfl rfl) rfl ?_)
          refine RV.op (OV.step gno (Step.move rfl) rfl ?_)
          refine RV.op (OV.step (gyes rfl) (Step.move rfl) rfl ?_)
          refine RV.op (OV.split (gyes rfl) (Step.eql rfl rfl) rfl (fun e9 => ?_) (fun e9 => ?_))
          · -- True
            refine RV.op (OV.step gno (Step.pick_t rfl rfl) rfl ?_)
            refine RV.op (OV.step gno (Step.move rfl) rfl ?_)
            refine RV.op (OV.step (gyes rfl) (Step.move rfl) rfl ?_)
            refine RV.op (OV.split (gyes rfl) (Step.eql rfl rfl) rfl (fun e9 => ?_) (fun e9 => ?_))
            · -- True
              refine RV.op (OV.step gno (Step.pick_t rfl rfl) rfl ?_)
              refine RV.op (OV.step gno (Step.move rfl) rfl ?_)
              refine RV.op (OV.step (gyes rfl) (Step.move rfl) rfl ?_)
              refine RV.op (OV.step (gyes rfl) (Step.lenSl Try.underlying54 rfl) rfl ?_)
              refine RV.op (OV.split (gyes rfl) (Step.eql rfl rfl) rfl (fun e9 => ?_) (fun e9 => ?_))
              · -- True
                refine RV.op (OV.step gno (Step.pick_t rfl rfl) rfl ?_)
                refine RV.op (OV.step gno (Step.move rfl) rfl ?_)
                refine RV.op (OV.step (gyes rfl) (Step.move rfl) rfl ?_)
                refine RV.op (OV.step (gyes rfl) (Step.idx Try.underlying54 I63 (fun w h => h.os 4 rfl) rfl rfl (rfl) _ (show (0 : Int) = ((0 : Nat) : Int) from rfl) (by first | (show 0 < 2; decide) | (show 1 < 2; decide))) rfl ?_)
                refine RV.op (OV.step (gyes rfl) (Step.fieldAddr rfl (F63_2 _ _)) rfl ?_)
                refine RV.op (OV.step (gyes rfl) (Step.load Try.underlying4 rfl rfl (fun w h => (h.os 4 rfl).cell (m := 0) (by show 0 < 2; decide) rfl)) rfl ?_)
                rw [show (([rec s1 (⟨1, 96, 1, false, 0⟩ : Acs), rec s3 (⟨1, 96, 1, false, 0⟩ : Acs)] : List Trc).getD 0 trcK.d).live = false from l1f]
                refine RV.op (OV.step (gyes rfl) (Step.not rfl) rfl ?_)
                refine RV.op (OV.step gno (Step.pick_t rfl rfl) rfl ?_)
                refine RV.op (OV.step gno (Step.move rfl) rfl ?_)
                refine RV.op (OV.step (gyes rfl) (Step.move rfl) rfl ?_)
                refine RV.op (OV.step (gyes rfl) (Step.idx Try.underlying54 I63 (fun w h => h.os 4 rfl) rfl rfl (rfl) _ (show (1 : Int) = ((1 : Nat) : Int) from rfl) (by first | (show 0 < 2; decide) | (show 1 < 2; decide))) rfl ?_)
                refine RV.op (OV.step (gyes rfl) (Step.fieldAddr rfl (F63_2 _ _)) rfl ?_)
                refine RV.op (OV.step (gyes rfl) (Step.load Try.underlying4 rfl rfl (fun w h => (h.os 4 rfl).cell (m := 1) (by show 1 < 2; decide) rfl)) rfl ?_)
                rw [show (([rec s1 (⟨1, 96, 1, false, 0⟩ : Acs), rec s3 (⟨1, 96, 1, false, 0⟩ : Acs)] : List Trc).getD 1 trcK.d).live = true from l3t]
                refine RV.op (OV.step gno (Step.pick_t rfl rfl) rfl ?_)
                refine RV.op (OV.step gno (Step.move rfl) rfl ?_)
                refine RV.op (OV.step (gyes rfl) (Step.move rfl) rfl ?_)
                refine RV.op (OV.step (gyes rfl) (Step.idx Try.underlying54 I63 (fun w h => h.os 4 rfl) rfl rfl (rfl) _ (show (1 : Int) = ((1 : Nat) : Int) from rfl) (by first | (show 0 < 2; decide) | (show 1 < 2; decide))) rfl ?_)
                refine RV.op (OV.step (gyes rfl) (Step.fieldAddr rfl (F63_1 _ _)) rfl ?_)
                refine RV.op (OV.step (gyes rfl) (Step.load Try.underlying3 rfl rfl (fun w h => (h.os 4 rfl).cell (m := 1) (by show 1 < 2; decide) rfl)) rfl ?_)
                refine RV.op (OV.split (gyes rfl) (Step.eql rfl rfl) rfl (fun e9 => ?_) (fun e9 => ?_))
                · -- True
                  refine RV.op (OV.step gno (Step.pick_t rfl rfl) rfl ?_)
                  refine RV.op (OV.step gno (Step.assign rfl) rfl ?_)
                  refine RV.nil ?_
                  refine KV.then_n ?_
                  refine KV.env [(0, _)] ⟨rfl, trivial⟩ ?_
                  refine CV.ret ?_
                  -- return at r8
                  refine KV.sel [] [] rfl ?_
                  exact KV.ret1 rfl rfl _ (fun _ h => h) ⟨rfl, rfl⟩
                · -- False
                  exact absurd o3 e9
              · -- False
                exact absurd rfl e9
            · -- False
              exact absurd rfl e9
          · -- False
            exact absurd rfl e9
        · -- False
          exact absurd rfl e9
      · -- False
        exact absurd rfl e9
end Go.Proofs.Ythdpojggdodpfaa
