/-
  Walks, part 11.
-/
import Derived.Test.YtcmalbkflbfidaaTab11
import Derived.Test.YtcmalbkflbfidaaW7
import Derived.Test.YtcmalbkflbfidaaPl4
import Derived.Test.YtcmalbkflbfidaaSv8
set_option linter.unusedSimpArgs false
set_option linter.unusedVariables false
namespace Go.Proofs.Ytcmalbkflbfidaa
open Go.Sv Go.Rails
set_option maxRecDepth 100000 in
set_option maxHeartbeats 1000000 in
theorem countUses_fn {A B : Option Addr} {n c m d : Nat} {raw : List Rail} {l : List RCall} {w : World} (hr : RS w railK A raw) (hn : n = raw.length) (hraw : ∀ i, i < raw.length → okRail (raw.getD i railK.d)) (hl : RS w callK B l) (hm : m = l.length) : Fx Try.prog 8 [.slice A n c, .slice B m d] w [] no (fun v L => v = .bool true ∧ L = []) := by
  subst hn
  subst hm
  have hsl := some_len raw
  obtain ⟨rk, G⟩ := some_good hraw
  have hnew := good_new G
  have hlen := G.len
  refine Sv.Fx.body Try.func8 rfl T8 rfl ?_
  intro I hro hI
  refine KV.env [(0, _), (1, _)] ⟨rfl, rfl, trivial⟩ ?_
  refine CV.seq ?_
  -- region 0 law.go:212
  refine CV.region ?_
  refine RV.op (OV.step gno (Step.assign rfl) rfl ?_)
  refine RV.nil ?_
  refine KV.then_n ?_
  refine KV.env [(0, _), (1, _)] ⟨rfl, rfl, trivial⟩ ?_
  refine CV.seq ?_
  refine CV.seq ?_
  -- region 1 law.go:213
  refine CV.region ?_
  refine RV.op (OV.step gno (Step.move rfl) rfl ?_)
  refine RV.op (OV.step gno (Step.lenSl Try.underlying37 rfl) rfl ?_)
  refine RV.op (OV.split gno (Step.gtr rfl rfl) rfl (fun hlong => ?_) (fun hlong => ?_))
  · -- True
    refine RV.nil ?_
    refine KV.then_n ?_
    refine KV.env [(0, _), (1, _), (21, _)] ⟨rfl, rfl, rfl, trivial⟩ ?_
    refine CV.cond_t rfl ?_
    refine CV.seq ?_
    -- region 2 law.go:214
    refine CV.region ?_
    refine RV.op (OV.call [] (F := []) Try.func12 B12 N12 rfl rfl (fun w h => awake_fn) (fun _ hb => hb.elim) gno rfl (fun v L' hp => ?_))
    obtain ⟨rfl, rfl⟩ := hp
    simp only [List.append_nil]
    refine RV.op (OV.step gno (Step.assign rfl) rfl ?_)
    refine RV.nil ?_
    refine KV.then_n ?_
    refine KV.env [(4, _)] ⟨rfl, trivial⟩ ?_
    refine CV.ret ?_
    refine KV.then_ret ?_
    -- return at r2
    refine KV.sel [] [] rfl ?_
    exact KV.ret1 rfl rfl _ (fun _ h => h) ⟨rfl, rfl⟩
  · -- False
    refine RV.nil ?_
    refine KV.then_n ?_
    refine KV.env [(0, _), (1, _), (21, _)] ⟨rfl, rfl, rfl, trivial⟩ ?_
    refine CV.cond_f rfl ?_
    refine CV.skip ?_
    refine KV.then_n ?_
    refine KV.env [(0, _), (1, _)] ⟨rfl, rfl, trivial⟩ ?_
    refine CV.seq ?_
    -- region 3 law.go:216
    refine CV.region ?_
    refine RV.op (OV.step gno (Step.move rfl) rfl ?_)
    refine RV.op (OV.call [] (F := []) Try.func15 B15 N15 rfl rfl (fun w h => some_fn (h.rs hr (fun _ => hI _))) (fun _ hb => hb.elim) gno rfl (fun v L' hp => ?_))
    obtain ⟨A2, c2, rfl, rfl⟩ := hp
    refine RV.op (OV.step gno (Step.assign rfl) rfl ?_)
    refine RV.nil ?_
    refine KV.then_n ?_
    refine KV.env [(1, _), (5, _)] ⟨rfl, rfl, trivial⟩ ?_
    refine CV.seq ?_
    -- region 4 law.go:217
    refine CV.region ?_
    refine RV.op (OV.step gno (Step.move rfl) rfl ?_)
    refine RV.op (OV.call [] (F := [_]) Try.func13 B13 N13 rfl rfl (fun w h => new_fn (h.os 0 rfl) rfl) (fun _ hb => hb.elim) gno rfl (fun v L' hp => ?_))
    obtain ⟨b, a, rfl, rfl⟩ := hp.1 hnew
    refine RV.op (OV.step gno (Step.move rfl) rfl ?_)
    refine RV.op (OV.step gno (Step.extract0 rfl rfl) rfl ?_)
    refine RV.op (OV.step gno (Step.extract0 rfl rfl) rfl ?_)
    refine RV.op (OV.step gno (Step.assign rfl) rfl ?_)
    refine RV.op (OV.step gno (Step.assign rfl) rfl ?_)
    refine RV.nil ?_
    refine KV.then_n ?_
    refine KV.env [(1, _), (5, _), (6, _), (7, _)] ⟨rfl, rfl, rfl, rfl, trivial⟩ ?_
    refine CV.seq ?_
    refine CV.seq ?_
    -- region 5 law.go:218
    refine CV.region ?_
    refine RV.op (OV.step gno (Step.move rfl) rfl ?_)
    refine RV.op (OV.split gno (Step.neq rfl rfl) rfl (fun z1 => ?_) (fun z1 => ?_))
    · -- True
      exact absurd rfl z1
    · -- False
      refine RV.op (OV.step gno (Step.move rfl) rfl ?_)
      refine RV.op (OV.step (gyes rfl) (Step.move rfl) rfl ?_)
      refine RV.op (OV.split (gyes rfl) (Step.eqlP Try.underlying24 rfl rfl) rfl (fun z2 => ?_) (fun z2 => ?_))
      · -- True
        cases z2
      · -- False
        refine RV.op (OV.step gno (Step.pick_f rfl rfl) rfl ?_)
        refine RV.nil ?_
        refine KV.then_n ?_
        refine KV.env [(1, _), (5, _), (6, _), (35, _)] ⟨rfl, rfl, rfl, rfl, trivial⟩ ?_
        refine CV.cond_f rfl ?_
        refine CV.skip ?_
        refine KV.then_n ?_
        refine KV.env [(1, _), (5, _), (6, _)] ⟨rfl, rfl, rfl, trivial⟩ ?_
        refine CV.seq ?_
        -- region 7 law.go:221
        refine CV.region ?_
        refine RV.op (OV.step gno (Step.move rfl) rfl ?_)
        refine RV.op (OV.step gno (Step.lenSl Try.underlying22 rfl) rfl ?_)
        refine RV.op (OV.make (K := intK .i64) ((someM raw).length) ((someM raw).length) (0) Try.underlying57 I3 rfl rfl rfl rfl rfl (by omega) (by omega) (by omega) gno rfl (fun A5 => ?_))
        refine RV.op (OV.step gno (Step.assign rfl) rfl ?_)
        refine RV.nil ?_
        refine KV.then_n ?_
        refine KV.env [(1, _), (5, _), (6, _), (8, _)] ⟨rfl, rfl, rfl, rfl, trivial⟩ ?_
        refine CV.seq ?_
        -- region 8 law.go:222
        refine CV.region ?_
        refine RV.op (OV.step gno (Step.assign rfl) rfl ?_)
        refine RV.nil ?_
        refine KV.then_n ?_
        refine KV.env [(1, _), (5, _), (6, _), (8, _), (9, _)] ⟨rfl, rfl, rfl, rfl, rfl, trivial⟩ ?_
        refine CV.seq ?_
        refine CV.seq ?_
        -- region 9 law.go:223
        refine CV.region ?_
        refine RV.op (OV.step gno (Step.assign rfl) rfl ?_)
        refine RV.nil ?_
        refine KV.then_n ?_
        refine KV.env [(1, _), (5, _), (6, _), (8, _), (9, _), (10, _)] ⟨rfl, rfl, rfl, rfl, rfl, rfl, trivial⟩ ?_
        refine CV.block ?_
        -- loop L10; live [1, 5, 6, 8, 9, 10]
        refine KV.sel [0, 0, 0, 0, 0, 0] [_, _, _, _, _, _] rfl ?_
        refine CV.loop3 (fun i (st : St) (u : List Int) => i ≤ l.length ∧ IN (someM raw) i st ∧ u.length = (someM raw).length ∧ ∀ j, j < (someM raw).length → u.getD j 0 = st.own j) (fun i _ _ => l.length - i) (fun i st _ => [(1, .slice B l.length d), (5, .slice A2 (someM raw).length c2), (6, .pointer (some ⟨b, 0, none⟩)), (8, .slice A5 (someM raw).length (someM raw).length), (9, .int .u64 st.clock), (10, .int .i64 i)]) (fun _ st u => Hp I w ([OS 35 railK A2 c2 (someM raw)] ++ robj 73 b a st ++ [OS 3 (intK .i64) A5 (someM raw).length u])) 0 (new0 (someM raw)) (List.replicate (someM raw).length 0) ⟨Nat.zero_le _, IN.start _, by simp, fun j hj => by rw [new_own]; simp [List.getD, hj]⟩ ⟨rfl, rfl, rfl, rfl, rfl, rfl, trivial⟩ (fun _ h => h) ?_
        intro i st u hi
        have hrl := hi.2.1.inv.rails
        have hul := hi.2.2.1
        refine CV.seq ?_
        refine CV.seq ?_
        -- region 10 law.go:223
        refine CV.region ?_
        refine RV.op (OV.step gno (Step.move rfl) rfl ?_)
        refine RV.op (OV.step gno (Step.move rfl) rfl ?_)
        refine RV.op (OV.step gno (Step.lenSl Try.underlying37 rfl) rfl ?_)
        refine RV.op (OV.split gno (Step.lss rfl rfl) rfl (fun hlt => ?_) (fun hlt => ?_))
        · -- True
          refine RV.op (OV.step gno (Step.move rfl) rfl ?_)
          refine RV.op (OV.step (gyes rfl) (Step.move rfl) rfl ?_)
          refine RV.op (OV.step (gyes rfl) (Step.lenSl Try.underlying22 rfl) rfl ?_)
          refine RV.op (OV.split (gyes rfl) (Step.gtr rfl rfl) rfl (fun hlt2 => ?_) (fun hlt2 => ?_))
          · -- True
            refine RV.op (OV.step gno (Step.pick_t rfl rfl) rfl ?_)
            refine RV.nil ?_
            refine KV.then_n ?_
            refine KV.env [(1, _), (5, _), (6, _), (8, _), (9, _), (10, _), (47, _)] ⟨rfl, rfl, rfl, rfl, rfl, rfl, rfl, trivial⟩ ?_
            refine CV.cond_t rfl ?_
            refine CV.skip ?_
            refine KV.then_n ?_
            refine KV.env [(1, _), (5, _), (6, _), (8, _), (9, _), (10, _)] ⟨rfl, rfl, rfl, rfl, rfl, rfl, trivial⟩ ?_
            refine CV.seq ?_
            refine CV.block ?_
            refine CV.seq ?_
            -- region 12 law.go:224
            refine CV.region ?_
            refine RV.op (OV.step gno (Step.move rfl) rfl ?_)
            refine RV.op (OV.step gno (Step.move rfl) rfl ?_)
            refine RV.op (OV.step gno (Step.idx Try.underlying37 I48 (fun w h => h.rs hl (fun _ => hI _)) rfl rfl (by first | rfl | omega) _ rfl (by omega)) rfl ?_)
            refine RV.op (OV.step gno (Step.loadN _ Try.underlying48 rfl I48 rfl rfl (fun w h => (h.rs hl (fun _ => hI _)).cells (by omega))) rfl ?_)
            refine RV.op (OV.alloc #[.bool false, .int .i64 0, .int .u64 0, .bool false] I48 rfl gno rfl (fun b12_4 => ?_))
            refine RV.op (OV.store 6 [_, _, _, _] #[_, _, _, _] I48 rfl rfl rfl rfl rfl (Nat.le_of_ble_eq_true rfl) (by simp [Value.oneCell']) rfl gno ?_)
            refine RV.nil ?_
            refine KV.then_n ?_
            refine KV.env [(1, _), (5, _), (6, _), (8, _), (9, _), (10, _), (11, _)] ⟨rfl, rfl, rfl, rfl, rfl, rfl, rfl, trivial⟩ ?_
            refine CV.seq ?_
            -- region 13 law.go:225
            refine CV.region ?_
            refine RV.op (OV.step gno (Step.fieldAddr rfl (F48_3 _ _)) rfl ?_)
            refine RV.op (OV.store 6 [_] #[_, _, _, _] I4 rfl rfl rfl rfl rfl (Nat.le_of_ble_eq_true rfl) (by simp [Value.oneCell']) rfl gno ?_)
            refine RV.nil ?_
            refine KV.then_n ?_
            refine KV.env [(1, _), (5, _), (6, _), (8, _), (9, _), (10, _), (11, _)] ⟨rfl, rfl, rfl, rfl, rfl, rfl, rfl, trivial⟩ ?_
            refine CV.seq ?_
            -- region 14 law.go:226
            refine CV.region ?_
            refine RV.op (OV.step gno (Step.loadN _ Try.underlying48 rfl I48 rfl rfl (fun w h => h.cells 6 rfl)) rfl ?_)
            refine RV.op (OV.step gno (Step.move rfl) rfl ?_)
            refine RV.op (OV.step gno (Step.lenSl Try.underlying22 rfl) rfl ?_)
            refine RV.op (OV.step gno (Step.move rfl) rfl ?_)
            refine RV.op (OV.call [] (F := [_, _, _, _, _, _, _]) Try.func19 B19 N19 rfl rfl (fun w h => at_fn (cf (l.getD i callK.d)) (someM raw).length st.clock (by omega)) (fun _ hb => hb.elim) gno rfl (fun v L' hp => ?_))
            obtain ⟨rfl, rfl⟩ := hp
            simp only [List.append_nil]
            refine RV.op (OV.step gno (Step.move rfl) rfl ?_)
            refine RV.op (OV.step gno (Step.extract0 rfl rfl) rfl ?_)
            refine RV.op (OV.step gno (Step.extract0 rfl rfl) rfl ?_)
            refine RV.op (OV.step gno (Step.assign rfl) rfl ?_)
            refine RV.op (OV.step gno (Step.assign rfl) rfl ?_)
            refine RV.nil ?_
            refine KV.then_n ?_
            refine KV.env [(1, _), (5, _), (6, _), (8, _), (9, _), (10, _), (11, _), (12, _), (13, _)] ⟨rfl, rfl, rfl, rfl, rfl, rfl, rfl, rfl, rfl, trivial⟩ ?_
            refine CV.seq ?_
            -- region 15 law.go:227
            refine CV.region ?_
            refine RV.op (OV.step gno (Step.move rfl) rfl ?_)
            refine RV.op (OV.step gno (Step.loadN _ Try.underlying48 rfl I48 rfl rfl (fun w h => h.cells 6 rfl)) rfl ?_)
            refine RV.op (OV.step gno (Step.move rfl) rfl ?_)
            refine RV.op (OV.step gno (Step.lenSl Try.underlying22 rfl) rfl ?_)
            refine RV.op (OV.step gno (Step.move rfl) rfl ?_)
            refine RV.op (OV.call [1, 1, 1, 1] (F := [_, _, _]) Try.func20 B20 N20 rfl rfl (fun w h => do_fn b a st (cf (l.getD i callK.d)) (someM raw).length st.clock (by omega) 8 rk hi.2.1.inv.wf (G.acy' hi.2.1.inv.rails) (G.rank' hi.2.1.inv.rails) (by omega)) (fun _ hb => hb.elim) gno rfl (fun v L' hp => ?_))
            obtain ⟨A3, c3, rfl, rfl⟩ := hp
            have D := do_did G (m := i) (by omega) hi.2.1 (cf (l.getD i callK.d)) (someM raw).length st.clock
            generalize hdo : doM 8 st (cf (l.getD i callK.d)) (someM raw).length st.clock = r at D ⊢
            obtain ⟨st2, op2, er⟩ := r
            have d1 : IN (someM raw) (i + 1) st2 := D.inn
            have d2 := d1.clock
            have hr2 := d1.inv.rails
            have hrl2 : st2.rails.length = (someM raw).length := by rw [hr2]
            have wf2 := d1.inv.wf
            simp only []
            refine RV.op (OV.step gno (Step.move rfl) rfl ?_)
            refine RV.op (OV.step gno (Step.extract0 rfl rfl) rfl ?_)
            refine RV.op (OV.step gno (Step.extract0 rfl rfl) rfl ?_)
            refine RV.op (OV.step gno (Step.assign rfl) rfl ?_)
            refine RV.op (OV.step gno (Step.assign rfl) rfl ?_)
            refine RV.nil ?_
            refine KV.then_n ?_
            refine KV.env [(1, _), (5, _), (6, _), (8, _), (9, _), (10, _), (11, _), (12, _), (13, _), (15, _)] ⟨rfl, rfl, rfl, rfl, rfl, rfl, rfl, rfl, rfl, rfl, trivial⟩ ?_
            refine CV.seq ?_
            refine CV.seq ?_
            -- region 16 law.go:228
            refine CV.region ?_
            refine RV.op (OV.step gno (Step.move rfl) rfl ?_)
            refine RV.op (OV.split gno (Step.eql rfl rfl) rfl (fun he => ?_) (fun he => ?_))
            · -- True
              obtain ⟨hck, q, hq1, hq2, hq3⟩ := D.good he
              simp only [] at hck
              rw [← hck, hq1]
              have hu := hi.2.2.2 q hq2
              have ho := hi.2.1.inv.own q hq2
              have hup := hi.2.1.up q hq2
              refine RV.nil ?_
              refine KV.then_n ?_
              refine KV.env [(1, _), (5, _), (6, _), (8, _), (9, _), (10, _), (11, _), (12, _), (13, _), (73, _)] ⟨rfl, rfl, rfl, rfl, rfl, rfl, rfl, rfl, rfl, rfl, trivial⟩ ?_
              refine CV.cond_t rfl ?_
              refine CV.seq ?_
              -- region 17 law.go:229
              refine CV.region ?_
              refine RV.op (OV.step gno (Step.move rfl) rfl ?_)
              refine RV.op (OV.step gno (Step.assign rfl) rfl ?_)
              refine RV.nil ?_
              refine KV.then_n ?_
              refine KV.env [(1, _), (5, _), (6, _), (8, _), (9, _), (10, _), (11, _), (12, _)] ⟨rfl, rfl, rfl, rfl, rfl, rfl, rfl, rfl, trivial⟩ ?_
              refine CV.seq ?_
              -- region 18 law.go:230
              refine CV.region ?_
              refine RV.op (OV.step gno (Step.fieldAddr rfl (F48_0 _ _)) rfl ?_)
              refine RV.op (OV.step gno (Step.load Try.underlying4 rfl rfl (fun w h => h.cell 2 rfl rfl)) rfl ?_)
              refine RV.nil ?_
              refine KV.then_n ?_
              refine KV.env [(1, _), (5, _), (6, _), (8, _), (9, _), (10, _), (12, _), (76, _)] ⟨rfl, rfl, rfl, rfl, rfl, rfl, rfl, rfl, trivial⟩ ?_
              refine KV.cases 76 rfl (fun cc1 => ?_) (fun cc1 => ?_)
              · -- True
                refine CV.cond_t rfl ?_
                -- region 19 law.go:231
                refine CV.region ?_
                refine RV.op (OV.step gno (Step.move rfl) rfl ?_)
                refine RV.op (OV.step gno (Step.move rfl) rfl ?_)
                refine RV.op (OV.step gno (Step.idx Try.underlying57 I3 (fun w h => h.os 1 rfl) rfl rfl (by first | rfl | omega) _ rfl (by omega)) rfl ?_)
                refine RV.op (OV.step gno (Step.load Try.underlying3 rfl rfl (fun w h => (h.os 1 rfl).cell0 (by omega) rfl)) rfl ?_)
                rw [show u.getD q (intK .i64).d = st.own q from hu]
                (first | refine RV.op (OV.step gno (Step.sub rfl rfl (wI64 (by omega) (by omega))) rfl ?_) | refine RV.op (OV.step gno (Step.sub rfl rfl rfl) rfl ?_))
                refine RV.op (OV.step gno (Step.idx Try.underlying57 I3 (fun w h => h.os 1 rfl) rfl rfl (by first | rfl | omega) _ rfl (by omega)) rfl ?_)
                refine RV.op (OV.storeE 1 (q) (st.own q - 1) (j := 0) [_] I3 rfl rfl rfl rfl rfl rfl (by omega) rfl (Nat.le_of_ble_eq_true rfl) gno ?_)
                have hu2 : ∀ j, j < (someM raw).length → (u.set q (st.own q - 1)).getD j 0 = st2.own j := fun j hj => by
                  have h3 := hq3 j hj
                  simp only [] at h3
                  rw [h3]
                  by_cases e : j = q
                  · subst e; rw [getD_set_self _ _ _ _ (by omega), if_pos rfl]; rw [show (cf (l.getD i callK.d)).rel = (l.getD i callK.d).rel from rfl, cc1]; simp only [if_true, Bool.false_eq_true, if_false] <;> omega
                  · rw [getD_set_other _ _ _ (fun x => e x.symm), if_neg e, hi.2.2.2 j hj]; omega
                have hul2 : (u.set q (st.own q - 1)).length = (someM raw).length := by rw [List.length_set]; exact hi.2.2.1
                generalize u.set q (st.own q - 1) = u2 at hu2 hul2 ⊢
                refine RV.nil ?_
                refine KV.then_n ?_
                refine KV.env [(1, _), (5, _), (6, _), (8, _), (9, _), (10, _)] ⟨rfl, rfl, rfl, rfl, rfl, rfl, trivial⟩ ?_
                refine CV.seq ?_
                -- region 21 law.go:236
                refine CV.region ?_
                refine RV.op (OV.step gno (Step.assign rfl) rfl ?_)
                refine RV.nil ?_
                refine KV.then_n ?_
                refine KV.env [(1, _), (5, _), (6, _), (8, _), (9, _), (10, _), (16, _)] ⟨rfl, rfl, rfl, rfl, rfl, rfl, rfl, trivial⟩ ?_
                refine CV.block ?_
                -- loop L22; live [1, 5, 6, 8, 9, 10, 16]
                refine KV.sel [0, 2, 2, 2, 2, 0] [_, _, _, _, _, _] rfl ?_
                refine CV.loopI (α := Nat) (fun j => j ≤ (someM raw).length) (fun j => (someM raw).length - j) (fun j => [(1, .slice B l.length d), (5, .slice A2 (someM raw).length c2), (6, .pointer (some ⟨b, 0, none⟩)), (8, .slice A5 (someM raw).length (someM raw).length), (9, .int .u64 st2.clock), (10, .int .i64 i), (16, .int .i64 j)]) (fun _ => Hp I w ([OS 35 railK A2 c2 (someM raw)] ++ robj 73 b a st2 ++ [OS 3 (intK .i64) A5 (someM raw).length u2])) 0 (Nat.zero_le _) ⟨rfl, rfl, rfl, rfl, rfl, rfl, rfl, trivial⟩ (fun _ h => h) ?_
                intro j hj
                refine CV.seq ?_
                refine CV.seq ?_
                -- region 22 law.go:236
                refine CV.region ?_
                refine RV.op (OV.step gno (Step.move rfl) rfl ?_)
                refine RV.op (OV.step gno (Step.move rfl) rfl ?_)
                refine RV.op (OV.step gno (Step.lenSl Try.underlying22 rfl) rfl ?_)
                refine RV.op (OV.split gno (Step.lss rfl rfl) rfl (fun hj2 => ?_) (fun hj2 => ?_))
                · -- True
                  have hcj := d1.cb G.len (j := j) (by omega)
                  have hoj : st2.c j = st2.own j + heldM st2 j (someM raw).length := by unfold St.own; rw [hr2]; omega
                  refine RV.nil ?_
                  refine KV.then_n ?_
                  refine KV.env [(1, _), (5, _), (6, _), (8, _), (9, _), (10, _), (16, _), (92, _)] ⟨rfl, rfl, rfl, rfl, rfl, rfl, rfl, rfl, trivial⟩ ?_
                  refine CV.cond_t rfl ?_
                  refine CV.skip ?_
                  refine KV.then_n ?_
                  refine KV.env [(1, _), (5, _), (6, _), (8, _), (9, _), (10, _), (16, _)] ⟨rfl, rfl, rfl, rfl, rfl, rfl, rfl, trivial⟩ ?_
                  refine CV.seq ?_
                  refine CV.block ?_
                  refine CV.seq ?_
                  -- region 24 law.go:237
                  refine CV.region ?_
                  refine RV.op (OV.step gno (Step.move rfl) rfl ?_)
                  refine RV.op (OV.step gno (Step.move rfl) rfl ?_)
                  refine RV.op (OV.step gno (Step.idx Try.underlying57 I3 (fun w h => h.os 5 rfl) rfl rfl (by first | rfl | omega) _ rfl (by omega)) rfl ?_)
                  refine RV.op (OV.step gno (Step.load Try.underlying3 rfl rfl (fun w h => (h.os 5 rfl).cell0 (by omega) rfl)) rfl ?_)
                  rw [show u2.getD j (intK .i64).d = st2.own j from hu2 j (by omega)]
                  refine RV.op (OV.step gno (Step.assign rfl) rfl ?_)
                  refine RV.nil ?_
                  refine KV.then_n ?_
                  refine KV.env [(1, _), (5, _), (6, _), (8, _), (9, _), (10, _), (16, _), (17, _)] ⟨rfl, rfl, rfl, rfl, rfl, rfl, rfl, rfl, trivial⟩ ?_
                  refine CV.seq ?_
                  refine CV.seq ?_
                  -- region 25 law.go:238
                  refine CV.region ?_
                  refine RV.op (OV.step gno (Step.assign rfl) rfl ?_)
                  refine RV.nil ?_
                  refine KV.then_n ?_
                  refine KV.env [(1, _), (5, _), (6, _), (8, _), (9, _), (10, _), (16, _), (17, _), (18, _)] ⟨rfl, rfl, rfl, rfl, rfl, rfl, rfl, rfl, rfl, trivial⟩ ?_
                  refine CV.block ?_
                  -- loop L26; live [1, 5, 6, 8, 9, 10, 16, 17, 18]
                  refine KV.sel [0, 0, 0, 0, 0, 0] [_, _, _, _, _, _] rfl ?_
                  refine CV.loopI (α := Nat) (fun q => q ≤ (someM raw).length) (fun q => (someM raw).length - q) (fun q => [(1, .slice B l.length d), (5, .slice A2 (someM raw).length c2), (6, .pointer (some ⟨b, 0, none⟩)), (8, .slice A5 (someM raw).length (someM raw).length), (9, .int .u64 st2.clock), (10, .int .i64 i), (16, .int .i64 j), (17, .int .i64 (st2.own j + heldM st2 j q)), (18, .int .i64 q)]) (fun _ => Hp I w ([OS 35 railK A2 c2 (someM raw)] ++ robj 73 b a st2 ++ [OS 3 (intK .i64) A5 (someM raw).length u2])) 0 (Nat.zero_le _) ⟨rfl, rfl, rfl, rfl, rfl, rfl, rfl, by rw [heldM, Int.add_zero]; rfl, rfl, trivial⟩ (fun _ h => h) ?_
                  intro q hq
                  have hhq := heldM_le st2 j q
                  have houp := d1.up j (by omega)
                  have hown0 := d1.inv.own j (by omega)
                  refine CV.seq ?_
                  refine CV.seq ?_
                  -- region 26 law.go:238
                  refine CV.region ?_
                  refine RV.op (OV.step gno (Step.move rfl) rfl ?_)
                  refine RV.op (OV.step gno (Step.move rfl) rfl ?_)
                  refine RV.op (OV.step gno (Step.lenSl Try.underlying22 rfl) rfl ?_)
                  refine RV.op (OV.split gno (Step.lss rfl rfl) rfl (fun hq9 => ?_) (fun hq9 => ?_))
                  · -- True
                    refine RV.nil ?_
                    refine KV.then_n ?_
                    refine KV.env [(1, _), (5, _), (6, _), (8, _), (9, _), (10, _), (16, _), (17, _), (18, _), (102, _)] ⟨rfl, rfl, rfl, rfl, rfl, rfl, rfl, rfl, rfl, rfl, trivial⟩ ?_
                    refine CV.cond_t rfl ?_
                    refine CV.skip ?_
                    refine KV.then_n ?_
                    refine KV.env [(1, _), (5, _), (6, _), (8, _), (9, _), (10, _), (16, _), (17, _), (18, _)] ⟨rfl, rfl, rfl, rfl, rfl, rfl, rfl, rfl, rfl, trivial⟩ ?_
                    refine CV.seq ?_
                    refine CV.block ?_
                    refine CV.seq ?_
                    -- region 28 law.go:239
                    refine CV.region ?_
                    refine RV.op (OV.step gno (Step.move rfl) rfl ?_)
                    refine RV.op (OV.step gno (Step.move rfl) rfl ?_)
                    refine RV.op (OV.step gno (Step.idx Try.underlying22 I35 (fun w h => h.os 0 rfl) rfl rfl (by first | rfl | omega) _ rfl (by omega)) rfl ?_)
                    refine RV.op (OV.step gno (Step.fieldAddr rfl (F35_0 _ _)) rfl ?_)
                    refine RV.op (OV.step gno (Step.load Try.underlying3 rfl rfl (fun w h => (h.os 0 rfl).cell0 (by omega) rfl)) rfl ?_)
                    refine RV.op (OV.step gno (Step.move rfl) rfl ?_)
                    refine RV.op (OV.split gno (Step.eql rfl rfl) rfl (fun hq6 => ?_) (fun hq6 => ?_))
                    · -- True
                      refine RV.op (OV.step gno (Step.move rfl) rfl ?_)
                      refine RV.op (OV.step (gyes rfl) (Step.move rfl) rfl ?_)
                      refine RV.op (OV.step (gyes rfl) (Step.move rfl) rfl ?_)
                      refine RV.op (OV.call [1, 1, 1, 1] (F := [_, _]) Try.func26 B26 N26 rfl rfl (fun w h => count_fn b a st2 q w wf2) (fun _ hb => hb.elim) (gyes rfl) rfl (fun v L' hp => ?_))
                      obtain ⟨rfl, rfl⟩ := hp
                      rw [if_pos ⟨by omega, by omega⟩, Int.toNat_natCast]
                      refine RV.op (OV.split (gyes rfl) (Step.gtr rfl rfl) rfl (fun hq7 => ?_) (fun hq7 => ?_))
                      · -- True
                        refine RV.op (OV.step gno (Step.pick_t rfl rfl) rfl ?_)
                        refine RV.nil ?_
                        refine KV.then_n ?_
                        refine KV.env [(1, _), (5, _), (6, _), (8, _), (9, _), (10, _), (16, _), (17, _), (18, _), (117, _)] ⟨rfl, rfl, rfl, rfl, rfl, rfl, rfl, rfl, rfl, rfl, trivial⟩ ?_
                        refine CV.cond_t rfl ?_
                        -- region 29 law.go:240
                        refine CV.region ?_
                        refine RV.op (OV.step gno (Step.move rfl) rfl ?_)
                        (first | refine RV.op (OV.step gno (Step.add rfl rfl (wI64 (by omega) (by omega))) rfl ?_) | refine RV.op (OV.step gno (Step.add rfl rfl rfl) rfl ?_))
                        refine RV.op (OV.step gno (Step.assign rfl) rfl ?_)
                        refine RV.nil ?_
                        refine KV.block_n ?_
                        refine KV.then_n ?_
                        refine KV.env [(1, _), (5, _), (6, _), (8, _), (9, _), (10, _), (16, _), (17, _), (18, _)] ⟨rfl, rfl, rfl, rfl, rfl, rfl, rfl, rfl, rfl, trivial⟩ ?_
                        -- region 27 law.go:238
                        refine CV.region ?_
                        refine RV.op (OV.step gno (Step.move rfl) rfl ?_)
                        (first | refine RV.op (OV.step gno (Step.add rfl rfl (wI64 (by omega) (by omega))) rfl ?_) | refine RV.op (OV.step gno (Step.add rfl rfl rfl) rfl ?_))
                        refine RV.op (OV.step gno (Step.assign rfl) rfl ?_)
                        refine RV.nil ?_
                        refine KV.then_n ?_
                        refine KV.env [(1, _), (5, _), (6, _), (8, _), (9, _), (10, _), (16, _), (17, _), (18, _)] ⟨rfl, rfl, rfl, rfl, rfl, rfl, rfl, rfl, rfl, trivial⟩ ?_
                        refine KV.sel [0, 1, 1, 1, 1, 0] [_, _, _, _, _, _] rfl ?_
                        refine KV.loopI (q + 1) (by omega) (by omega) ⟨rfl, rfl, rfl, rfl, rfl, rfl, rfl, by first | (rw [heldM_pos (st := st2) (i := (j : Int)) (k := q) (by rw [d1.inv.rs]; exact hq6) hq7]; exact congrArg (fun z => some (Value.int IntKind.i64 z)) (Int.add_assoc _ _ _)) | (rw [heldM_neg (st := st2) (i := (j : Int)) (k := q) (by rw [d1.inv.rs]; exact hq6)]; rfl) | (rw [heldM_neg2 (st := st2) (i := (j : Int)) (k := q) hq7]; rfl), rfl, trivial⟩ (fun _ h => h)
                      · -- False
                        refine RV.op (OV.step gno (Step.pick_t rfl rfl) rfl ?_)
                        refine RV.nil ?_
                        refine KV.then_n ?_
                        refine KV.env [(1, _), (5, _), (6, _), (8, _), (9, _), (10, _), (16, _), (17, _), (18, _), (117, _)] ⟨rfl, rfl, rfl, rfl, rfl, rfl, rfl, rfl, rfl, rfl, trivial⟩ ?_
                        refine CV.cond_f rfl ?_
                        refine CV.skip ?_
                        refine KV.block_n ?_
                        refine KV.then_n ?_
                        refine KV.env [(1, _), (5, _), (6, _), (8, _), (9, _), (10, _), (16, _), (17, _), (18, _)] ⟨rfl, rfl, rfl, rfl, rfl, rfl, rfl, rfl, rfl, trivial⟩ ?_
                        -- region 27 law.go:238
                        refine CV.region ?_
                        refine RV.op (OV.step gno (Step.move rfl) rfl ?_)
                        (first | refine RV.op (OV.step gno (Step.add rfl rfl (wI64 (by omega) (by omega))) rfl ?_) | refine RV.op (OV.step gno (Step.add rfl rfl rfl) rfl ?_))
                        refine RV.op (OV.step gno (Step.assign rfl) rfl ?_)
                        refine RV.nil ?_
                        refine KV.then_n ?_
                        refine KV.env [(1, _), (5, _), (6, _), (8, _), (9, _), (10, _), (16, _), (17, _), (18, _)] ⟨rfl, rfl, rfl, rfl, rfl, rfl, rfl, rfl, rfl, trivial⟩ ?_
                        refine KV.sel [0, 1, 1, 1, 1, 0] [_, _, _, _, _, _] rfl ?_
                        refine KV.loopI (q + 1) (by omega) (by omega) ⟨rfl, rfl, rfl, rfl, rfl, rfl, rfl, by first | (rw [heldM_pos (st := st2) (i := (j : Int)) (k := q) (by rw [d1.inv.rs]; exact hq6) hq7]; exact congrArg (fun z => some (Value.int IntKind.i64 z)) (Int.add_assoc _ _ _)) | (rw [heldM_neg (st := st2) (i := (j : Int)) (k := q) (by rw [d1.inv.rs]; exact hq6)]; rfl) | (rw [heldM_neg2 (st := st2) (i := (j : Int)) (k := q) hq7]; rfl), rfl, trivial⟩ (fun _ h => h)
                    · -- False
                      refine RV.op (OV.step gno (Step.move rfl) rfl ?_)
                      refine RV.op (OV.skip rfl rfl ?_)
                      refine RV.op (OV.skip rfl rfl ?_)
                      refine RV.op (OV.skip rfl rfl ?_)
                      refine RV.op (OV.skip rfl rfl ?_)
                      refine RV.op (OV.step gno (Step.pick_f rfl rfl) rfl ?_)
                      refine RV.nil ?_
                      refine KV.then_n ?_
                      refine KV.env [(1, _), (5, _), (6, _), (8, _), (9, _), (10, _), (16, _), (17, _), (18, _), (117, _)] ⟨rfl, rfl, rfl, rfl, rfl, rfl, rfl, rfl, rfl, rfl, trivial⟩ ?_
                      refine CV.cond_f rfl ?_
                      refine CV.skip ?_
                      refine KV.block_n ?_
                      refine KV.then_n ?_
                      refine KV.env [(1, _), (5, _), (6, _), (8, _), (9, _), (10, _), (16, _), (17, _), (18, _)] ⟨rfl, rfl, rfl, rfl, rfl, rfl, rfl, rfl, rfl, trivial⟩ ?_
                      -- region 27 law.go:238
                      refine CV.region ?_
                      refine RV.op (OV.step gno (Step.move rfl) rfl ?_)
                      (first | refine RV.op (OV.step gno (Step.add rfl rfl (wI64 (by omega) (by omega))) rfl ?_) | refine RV.op (OV.step gno (Step.add rfl rfl rfl) rfl ?_))
                      refine RV.op (OV.step gno (Step.assign rfl) rfl ?_)
                      refine RV.nil ?_
                      refine KV.then_n ?_
                      refine KV.env [(1, _), (5, _), (6, _), (8, _), (9, _), (10, _), (16, _), (17, _), (18, _)] ⟨rfl, rfl, rfl, rfl, rfl, rfl, rfl, rfl, rfl, trivial⟩ ?_
                      refine KV.sel [0, 0, 0, 0, 0, 0] [_, _, _, _, _, _] rfl ?_
                      refine KV.loopI (q + 1) (by omega) (by omega) ⟨rfl, rfl, rfl, rfl, rfl, rfl, rfl, by first | (rw [heldM_pos (st := st2) (i := (j : Int)) (k := q) (by rw [d1.inv.rs]; exact hq6) hq7]; exact congrArg (fun z => some (Value.int IntKind.i64 z)) (Int.add_assoc _ _ _)) | (rw [heldM_neg (st := st2) (i := (j : Int)) (k := q) (by rw [d1.inv.rs]; exact hq6)]; rfl) | (rw [heldM_neg2 (st := st2) (i := (j : Int)) (k := q) hq7]; rfl), rfl, trivial⟩ (fun _ h => h)
                  · -- False
                    obtain hqn : q = (someM raw).length := by omega
                    rw [hqn]
                    refine RV.nil ?_
                    refine KV.then_n ?_
                    refine KV.env [(1, _), (5, _), (6, _), (8, _), (9, _), (10, _), (16, _), (17, _), (18, _), (102, _)] ⟨rfl, rfl, rfl, rfl, rfl, rfl, rfl, rfl, rfl, rfl, trivial⟩ ?_
                    refine CV.cond_f rfl ?_
                    refine CV.exit ?_
                    refine KV.then_exit ?_
                    refine KV.then_exit ?_
                    refine KV.block_hit ?_
                    refine KV.then_n ?_
                    refine KV.env [(1, _), (5, _), (6, _), (8, _), (9, _), (10, _), (16, _), (17, _)] ⟨rfl, rfl, rfl, rfl, rfl, rfl, rfl, rfl, trivial⟩ ?_
                    refine CV.seq ?_
                    -- region 30 law.go:243
                    refine CV.region ?_
                    refine RV.op (OV.step gno (Step.move rfl) rfl ?_)
                    refine RV.op (OV.step gno (Step.move rfl) rfl ?_)
                    refine RV.op (OV.call [1, 1, 1, 1] (F := [_, _]) Try.func26 B26 N26 rfl rfl (fun w h => count_fn b a st2 j w wf2) (fun _ hb => hb.elim) gno rfl (fun v L' hp => ?_))
                    obtain ⟨rfl, rfl⟩ := hp
                    rw [if_pos ⟨by omega, by omega⟩, Int.toNat_natCast]
                    refine RV.op (OV.step gno (Step.move rfl) rfl ?_)
                    refine RV.op (OV.split gno (Step.neq rfl rfl) rfl (fun e1 => ?_) (fun e1 => ?_))
                    · -- True
                      exact absurd hoj e1
                    · -- False
                      refine RV.op (OV.step gno (Step.move rfl) rfl ?_)
                      refine RV.op (OV.step (gyes rfl) (Step.move rfl) rfl ?_)
                      refine RV.op (OV.split (gyes rfl) (Step.lss rfl rfl) rfl (fun e2 => ?_) (fun e2 => ?_))
                      · -- True
                        omega
                      · -- False
                        refine RV.op (OV.step gno (Step.pick_f rfl rfl) rfl ?_)
                        refine RV.nil ?_
                        refine KV.then_n ?_
                        refine KV.env [(1, _), (5, _), (6, _), (8, _), (9, _), (10, _), (16, _), (128, _)] ⟨rfl, rfl, rfl, rfl, rfl, rfl, rfl, rfl, trivial⟩ ?_
                        refine CV.cond_f rfl ?_
                        refine CV.skip ?_
                        refine KV.block_n ?_
                        refine KV.then_n ?_
                        refine KV.env [(1, _), (5, _), (6, _), (8, _), (9, _), (10, _), (16, _)] ⟨rfl, rfl, rfl, rfl, rfl, rfl, rfl, trivial⟩ ?_
                        -- region 23 law.go:236
                        refine CV.region ?_
                        refine RV.op (OV.step gno (Step.move rfl) rfl ?_)
                        (first | refine RV.op (OV.step gno (Step.add rfl rfl (wI64 (by omega) (by omega))) rfl ?_) | refine RV.op (OV.step gno (Step.add rfl rfl rfl) rfl ?_))
                        refine RV.op (OV.step gno (Step.assign rfl) rfl ?_)
                        refine RV.nil ?_
                        refine KV.then_n ?_
                        refine KV.env [(1, _), (5, _), (6, _), (8, _), (9, _), (10, _), (16, _)] ⟨rfl, rfl, rfl, rfl, rfl, rfl, rfl, trivial⟩ ?_
                        refine KV.sel [0, 1, 1, 1, 1, 0] [_, _, _, _, _, _] rfl ?_
                        refine KV.loopI (j + 1) (by omega) (by omega) ⟨rfl, rfl, rfl, rfl, rfl, rfl, rfl, trivial⟩ (fun _ h => h)
                · -- False
                  refine RV.nil ?_
                  refine KV.then_n ?_
                  refine KV.env [(1, _), (5, _), (6, _), (8, _), (9, _), (10, _), (16, _), (92, _)] ⟨rfl, rfl, rfl, rfl, rfl, rfl, rfl, rfl, trivial⟩ ?_
                  refine CV.cond_f rfl ?_
                  refine CV.exit ?_
                  refine KV.then_exit ?_
                  refine KV.then_exit ?_
                  refine KV.block_hit ?_
                  refine KV.block_n ?_
                  refine KV.then_n ?_
                  refine KV.env [(1, _), (5, _), (6, _), (8, _), (9, _), (10, _)] ⟨rfl, rfl, rfl, rfl, rfl, rfl, trivial⟩ ?_
                  -- region 11 law.go:223
                  refine CV.region ?_
                  refine RV.op (OV.step gno (Step.move rfl) rfl ?_)
                  (first | refine RV.op (OV.step gno (Step.add rfl rfl (wI64 (by omega) (by omega))) rfl ?_) | refine RV.op (OV.step gno (Step.add rfl rfl rfl) rfl ?_))
                  refine RV.op (OV.step gno (Step.assign rfl) rfl ?_)
                  refine RV.nil ?_
                  refine KV.then_n ?_
                  refine KV.env [(1, _), (5, _), (6, _), (8, _), (9, _), (10, _)] ⟨rfl, rfl, rfl, rfl, rfl, rfl, trivial⟩ ?_
                  refine KV.sel [0, 0, 0, 0, 0, 0] [_, _, _, _, _, _] rfl ?_
                  first | refine KV.loop3 (y := st) (z := u) (i + 1) st2 u2 ⟨by omega, d1, hul2, hu2⟩ (by omega) ⟨rfl, rfl, rfl, rfl, rfl, rfl, trivial⟩ (fun _ h => h) | refine KV.loop3 (y := st2) (z := u2) (i + 1) st2 u2 ⟨by omega, d1, hul2, hu2⟩ (by omega) ⟨rfl, rfl, rfl, rfl, rfl, rfl, trivial⟩ (fun _ h => h)
              · -- False
                refine CV.cond_f rfl ?_
                -- region 20 law.go:233
                refine CV.region ?_
                refine RV.op (OV.step gno (Step.move rfl) rfl ?_)
                refine RV.op (OV.step gno (Step.move rfl) rfl ?_)
                refine RV.op (OV.step gno (Step.idx Try.underlying57 I3 (fun w h => h.os 1 rfl) rfl rfl (by first | rfl | omega) _ rfl (by omega)) rfl ?_)
                refine RV.op (OV.step gno (Step.load Try.underlying3 rfl rfl (fun w h => (h.os 1 rfl).cell0 (by omega) rfl)) rfl ?_)
                rw [show u.getD q (intK .i64).d = st.own q from hu]
                (first | refine RV.op (OV.step gno (Step.add rfl rfl (wI64 (by omega) (by omega))) rfl ?_) | refine RV.op (OV.step gno (Step.add rfl rfl rfl) rfl ?_))
                refine RV.op (OV.step gno (Step.idx Try.underlying57 I3 (fun w h => h.os 1 rfl) rfl rfl (by first | rfl | omega) _ rfl (by omega)) rfl ?_)
                refine RV.op (OV.storeE 1 (q) (st.own q + 1) (j := 0) [_] I3 rfl rfl rfl rfl rfl rfl (by omega) rfl (Nat.le_of_ble_eq_true rfl) gno ?_)
                have hu2 : ∀ j, j < (someM raw).length → (u.set q (st.own q + 1)).getD j 0 = st2.own j := fun j hj => by
                  have h3 := hq3 j hj
                  simp only [] at h3
                  rw [h3]
                  by_cases e : j = q
                  · subst e; rw [getD_set_self _ _ _ _ (by omega), if_pos rfl]; rw [show (cf (l.getD i callK.d)).rel = (l.getD i callK.d).rel from rfl, cc1]; simp only [if_true, Bool.false_eq_true, if_false] <;> omega
                  · rw [getD_set_other _ _ _ (fun x => e x.symm), if_neg e, hi.2.2.2 j hj]; omega
                have hul2 : (u.set q (st.own q + 1)).length = (someM raw).length := by rw [List.length_set]; exact hi.2.2.1
                generalize u.set q (st.own q + 1) = u2 at hu2 hul2 ⊢
                refine RV.nil ?_
                refine KV.then_n ?_
                refine KV.env [(1, _), (5, _), (6, _), (8, _), (9, _), (10, _)] ⟨rfl, rfl, rfl, rfl, rfl, rfl, trivial⟩ ?_
                refine CV.seq ?_
                -- region 21 law.go:236
                refine CV.region ?_
                refine RV.op (OV.step gno (Step.assign rfl) rfl ?_)
                refine RV.nil ?_
                refine KV.then_n ?_
                refine KV.env [(1, _), (5, _), (6, _), (8, _), (9, _), (10, _), (16, _)] ⟨rfl, rfl, rfl, rfl, rfl, rfl, rfl, trivial⟩ ?_
                refine CV.block ?_
                -- loop L22; live [1, 5, 6, 8, 9, 10, 16]
                refine KV.sel [0, 2, 2, 2, 2, 0] [_, _, _, _, _, _] rfl ?_
                refine CV.loopI (α := Nat) (fun j => j ≤ (someM raw).length) (fun j => (someM raw).length - j) (fun j => [(1, .slice B l.length d), (5, .slice A2 (someM raw).length c2), (6, .pointer (some ⟨b, 0, none⟩)), (8, .slice A5 (someM raw).length (someM raw).length), (9, .int .u64 st2.clock), (10, .int .i64 i), (16, .int .i64 j)]) (fun _ => Hp I w ([OS 35 railK A2 c2 (someM raw)] ++ robj 73 b a st2 ++ [OS 3 (intK .i64) A5 (someM raw).length u2])) 0 (Nat.zero_le _) ⟨rfl, rfl, rfl, rfl, rfl, rfl, rfl, trivial⟩ (fun _ h => h) ?_
                intro j hj
                refine CV.seq ?_
                refine CV.seq ?_
                -- region 22 law.go:236
                refine CV.region ?_
                refine RV.op (OV.step gno (Step.move rfl) rfl ?_)
                refine RV.op (OV.step gno (Step.move rfl) rfl ?_)
                refine RV.op (OV.step gno (Step.lenSl Try.underlying22 rfl) rfl ?_)
                refine RV.op (OV.split gno (Step.lss rfl rfl) rfl (fun hj2 => ?_) (fun hj2 => ?_))
                · -- True
                  have hcj := d1.cb G.len (j := j) (by omega)
                  have hoj : st2.c j = st2.own j + heldM st2 j (someM raw).length := by unfold St.own; rw [hr2]; omega
                  refine RV.nil ?_
                  refine KV.then_n ?_
                  refine KV.env [(1, _), (5, _), (6, _), (8, _), (9, _), (10, _), (16, _), (92, _)] ⟨rfl, rfl, rfl, rfl, rfl, rfl, rfl, rfl, trivial⟩ ?_
                  refine CV.cond_t rfl ?_
                  refine CV.skip ?_
                  refine KV.then_n ?_
                  refine KV.env [(1, _), (5, _), (6, _), (8, _), (9, _), (10, _), (16, _)] ⟨rfl, rfl, rfl, rfl, rfl, rfl, rfl, trivial⟩ ?_
                  refine CV.seq ?_
                  refine CV.block ?_
                  refine CV.seq ?_
                  -- region 24 law.go:237
                  refine CV.region ?_
                  refine RV.op (OV.step gno (Step.move rfl) rfl ?_)
                  refine RV.op (OV.step gno (Step.move rfl) rfl ?_)
                  refine RV.op (OV.step gno (Step.idx Try.underlying57 I3 (fun w h => h.os 5 rfl) rfl rfl (by first | rfl | omega) _ rfl (by omega)) rfl ?_)
                  refine RV.op (OV.step gno (Step.load Try.underlying3 rfl rfl (fun w h => (h.os 5 rfl).cell0 (by omega) rfl)) rfl ?_)
                  rw [show u2.getD j (intK .i64).d = st2.own j from hu2 j (by omega)]
                  refine RV.op (OV.step gno (Step.assign rfl) rfl ?_)
                  refine RV.nil ?_
                  refine KV.then_n ?_
                  refine KV.env [(1, _), (5, _), (6, _), (8, _), (9, _), (10, _), (16, _), (17, _)] ⟨rfl, rfl, rfl, rfl, rfl, rfl, rfl, rfl, trivial⟩ ?_
                  refine CV.seq ?_
                  refine CV.seq ?_
                  -- region 25 law.go:238
                  refine CV.region ?_
                  refine RV.op (OV.step gno (Step.assign rfl) rfl ?_)
                  refine RV.nil ?_
                  refine KV.then_n ?_
                  refine KV.env [(1, _), (5, _), (6, _), (8, _), (9, _), (10, _), (16, _), (17, _), (18, _)] ⟨rfl, rfl, rfl, rfl, rfl, rfl, rfl, rfl, rfl, trivial⟩ ?_
                  refine CV.block ?_
                  -- loop L26; live [1, 5, 6, 8, 9, 10, 16, 17, 18]
                  refine KV.sel [0, 0, 0, 0, 0, 0] [_, _, _, _, _, _] rfl ?_
                  refine CV.loopI (α := Nat) (fun q => q ≤ (someM raw).length) (fun q => (someM raw).length - q) (fun q => [(1, .slice B l.length d), (5, .slice A2 (someM raw).length c2), (6, .pointer (some ⟨b, 0, none⟩)), (8, .slice A5 (someM raw).length (someM raw).length), (9, .int .u64 st2.clock), (10, .int .i64 i), (16, .int .i64 j), (17, .int .i64 (st2.own j + heldM st2 j q)), (18, .int .i64 q)]) (fun _ => Hp I w ([OS 35 railK A2 c2 (someM raw)] ++ robj 73 b a st2 ++ [OS 3 (intK .i64) A5 (someM raw).length u2])) 0 (Nat.zero_le _) ⟨rfl, rfl, rfl, rfl, rfl, rfl, rfl, by rw [heldM, Int.add_zero]; rfl, rfl, trivial⟩ (fun _ h => h) ?_
                  intro q hq
                  have hhq := heldM_le st2 j q
                  have houp := d1.up j (by omega)
                  have hown0 := d1.inv.own j (by omega)
                  refine CV.seq ?_
                  refine CV.seq ?_
                  -- region 26 law.go:238
                  refine CV.region ?_
                  refine RV.op (OV.step gno (Step.move rfl) rfl ?_)
                  refine RV.op (OV.step gno (Step.move rfl) rfl ?_)
                  refine RV.op (OV.step gno (Step.lenSl Try.underlying22 rfl) rfl ?_)
                  refine RV.op (OV.split gno (Step.lss rfl rfl) rfl (fun hq9 => ?_) (fun hq9 => ?_))
                  · -- True
                    refine RV.nil ?_
                    refine KV.then_n ?_
                    refine KV.env [(1, _), (5, _), (6, _), (8, _), (9, _), (10, _), (16, _), (17, _), (18, _), (102, _)] ⟨rfl, rfl, rfl, rfl, rfl, rfl, rfl, rfl, rfl, rfl, trivial⟩ ?_
                    refine CV.cond_t rfl ?_
                    refine CV.skip ?_
                    refine KV.then_n ?_
                    refine KV.env [(1, _), (5, _), (6, _), (8, _), (9, _), (10, _), (16, _), (17, _), (18, _)] ⟨rfl, rfl, rfl, rfl, rfl, rfl, rfl, rfl, rfl, trivial⟩ ?_
                    refine CV.seq ?_
                    refine CV.block ?_
                    refine CV.seq ?_
                    -- region 28 law.go:239
                    refine CV.region ?_
                    refine RV.op (OV.step gno (Step.move rfl) rfl ?_)
                    refine RV.op (OV.step gno (Step.move rfl) rfl ?_)
                    refine RV.op (OV.step gno (Step.idx Try.underlying22 I35 (fun w h => h.os 0 rfl) rfl rfl (by first | rfl | omega) _ rfl (by omega)) rfl ?_)
                    refine RV.op (OV.step gno (Step.fieldAddr rfl (F35_0 _ _)) rfl ?_)
                    refine RV.op (OV.step gno (Step.load Try.underlying3 rfl rfl (fun w h => (h.os 0 rfl).cell0 (by omega) rfl)) rfl ?_)
                    refine RV.op (OV.step gno (Step.move rfl) rfl ?_)
                    refine RV.op (OV.split gno (Step.eql rfl rfl) rfl (fun hq6 => ?_) (fun hq6 => ?_))
                    · -- True
                      refine RV.op (OV.step gno (Step.move rfl) rfl ?_)
                      refine RV.op (OV.step (gyes rfl) (Step.move rfl) rfl ?_)
                      refine RV.op (OV.step (gyes rfl) (Step.move rfl) rfl ?_)
                      refine RV.op (OV.call [1, 1, 1, 1] (F := [_, _]) Try.func26 B26 N26 rfl rfl (fun w h => count_fn b a st2 q w wf2) (fun _ hb => hb.elim) (gyes rfl) rfl (fun v L' hp => ?_))
                      obtain ⟨rfl, rfl⟩ := hp
                      rw [if_pos ⟨by omega, by omega⟩, Int.toNat_natCast]
                      refine RV.op (OV.split (gyes rfl) (Step.gtr rfl rfl) rfl (fun hq7 => ?_) (fun hq7 => ?_))
                      · -- True
                        refine RV.op (OV.step gno (Step.pick_t rfl rfl) rfl ?_)
                        refine RV.nil ?_
                        refine KV.then_n ?_
                        refine KV.env [(1, _), (5, _), (6, _), (8, _), (9, _), (10, _), (16, _), (17, _), (18, _), (117, _)] ⟨rfl, rfl, rfl, rfl, rfl, rfl, rfl, rfl, rfl, rfl, trivial⟩ ?_
                        refine CV.cond_t rfl ?_
                        -- region 29 law.go:240
                        refine CV.region ?_
                        refine RV.op (OV.step gno (Step.move rfl) rfl ?_)
                        (first | refine RV.op (OV.step gno (Step.add rfl rfl (wI64 (by omega) (by omega))) rfl ?_) | refine RV.op (OV.step gno (Step.add rfl rfl rfl) rfl ?_))
                        refine RV.op (OV.step gno (Step.assign rfl) rfl ?_)
                        refine RV.nil ?_
                        refine KV.block_n ?_
                        refine KV.then_n ?_
                        refine KV.env [(1, _), (5, _), (6, _), (8, _), (9, _), (10, _), (16, _), (17, _), (18, _)] ⟨rfl, rfl, rfl, rfl, rfl, rfl, rfl, rfl, rfl, trivial⟩ ?_
                        -- region 27 law.go:238
                        refine CV.region ?_
                        refine RV.op (OV.step gno (Step.move rfl) rfl ?_)
                        (first | refine RV.op (OV.step gno (Step.add rfl rfl (wI64 (by omega) (by omega))) rfl ?_) | refine RV.op (OV.step gno (Step.add rfl rfl rfl) rfl ?_))
                        refine RV.op (OV.step gno (Step.assign rfl) rfl ?_)
                        refine RV.nil ?_
                        refine KV.then_n ?_
                        refine KV.env [(1, _), (5, _), (6, _), (8, _), (9, _), (10, _), (16, _), (17, _), (18, _)] ⟨rfl, rfl, rfl, rfl, rfl, rfl, rfl, rfl, rfl, trivial⟩ ?_
                        refine KV.sel [0, 1, 1, 1, 1, 0] [_, _, _, _, _, _] rfl ?_
                        refine KV.loopI (q + 1) (by omega) (by omega) ⟨rfl, rfl, rfl, rfl, rfl, rfl, rfl, by first | (rw [heldM_pos (st := st2) (i := (j : Int)) (k := q) (by rw [d1.inv.rs]; exact hq6) hq7]; exact congrArg (fun z => some (Value.int IntKind.i64 z)) (Int.add_assoc _ _ _)) | (rw [heldM_neg (st := st2) (i := (j : Int)) (k := q) (by rw [d1.inv.rs]; exact hq6)]; rfl) | (rw [heldM_neg2 (st := st2) (i := (j : Int)) (k := q) hq7]; rfl), rfl, trivial⟩ (fun _ h => h)
                      · -- False
                        refine RV.op (OV.step gno (Step.pick_t rfl rfl) rfl ?_)
                        refine RV.nil ?_
                        refine KV.then_n ?_
                        refine KV.env [(1, _), (5, _), (6, _), (8, _), (9, _), (10, _), (16, _), (17, _), (18, _), (117, _)] ⟨rfl, rfl, rfl, rfl, rfl, rfl, rfl, rfl, rfl, rfl, trivial⟩ ?_
                        refine CV.cond_f rfl ?_
                        refine CV.skip ?_
                        refine KV.block_n ?_
                        refine KV.then_n ?_
                        refine KV.env [(1, _), (5, _), (6, _), (8, _), (9, _), (10, _), (16, _), (17, _), (18, _)] ⟨rfl, rfl, rfl, rfl, rfl, rfl, rfl, rfl, rfl, trivial⟩ ?_
                        -- region 27 law.go:238
                        refine CV.region ?_
                        refine RV.op (OV.step gno (Step.move rfl) rfl ?_)
                        (first | refine RV.op (OV.step gno (Step.add rfl rfl (wI64 (by omega) (by omega))) rfl ?_) | refine RV.op (OV.step gno (Step.add rfl rfl rfl) rfl ?_))
                        refine RV.op (OV.step gno (Step.assign rfl) rfl ?_)
                        refine RV.nil ?_
                        refine KV.then_n ?_
                        refine KV.env [(1, _), (5, _), (6, _), (8, _), (9, _), (10, _), (16, _), (17, _), (18, _)] ⟨rfl, rfl, rfl, rfl, rfl, rfl, rfl, rfl, rfl, trivial⟩ ?_
                        refine KV.sel [0, 1, 1, 1, 1, 0] [_, _, _, _, _, _] rfl ?_
                        refine KV.loopI (q + 1) (by omega) (by omega) ⟨rfl, rfl, rfl, rfl, rfl, rfl, rfl, by first | (rw [heldM_pos (st := st2) (i := (j : Int)) (k := q) (by rw [d1.inv.rs]; exact hq6) hq7]; exact congrArg (fun z => some (Value.int IntKind.i64 z)) (Int.add_assoc _ _ _)) | (rw [heldM_neg (st := st2) (i := (j : Int)) (k := q) (by rw [d1.inv.rs]; exact hq6)]; rfl) | (rw [heldM_neg2 (st := st2) (i := (j : Int)) (k := q) hq7]; rfl), rfl, trivial⟩ (fun _ h => h)
                    · -- False
                      refine RV.op (OV.step gno (Step.move rfl) rfl ?_)
                      refine RV.op (OV.skip rfl rfl ?_)
                      refine RV.op (OV.skip rfl rfl ?_)
                      refine RV.op (OV.skip rfl rfl ?_)
                      refine RV.op (OV.skip rfl rfl ?_)
                      refine RV.op (OV.step gno (Step.pick_f rfl rfl) rfl ?_)
                      refine RV.nil ?_
                      refine KV.then_n ?_
                      refine KV.env [(1, _), (5, _), (6, _), (8, _), (9, _), (10, _), (16, _), (17, _), (18, _), (117, _)] ⟨rfl, rfl, rfl, rfl, rfl, rfl, rfl, rfl, rfl, rfl, trivial⟩ ?_
                      refine CV.cond_f rfl ?_
                      refine CV.skip ?_
                      refine KV.block_n ?_
                      refine KV.then_n ?_
                      refine KV.env [(1, _), (5, _), (6, _), (8, _), (9, _), (10, _), (16, _), (17, _), (18, _)] ⟨rfl, rfl, rfl, rfl, rfl, rfl, rfl, rfl, rfl, trivial⟩ ?_
                      -- region 27 law.go:238
                      refine CV.region ?_
                      refine RV.op (OV.step gno (Step.move rfl) rfl ?_)
                      (first | refine RV.op (OV.step gno (Step.add rfl rfl (wI64 (by omega) (by omega))) rfl ?_) | refine RV.op (OV.step gno (Step.add rfl rfl rfl) rfl ?_))
                      refine RV.op (OV.step gno (Step.assign rfl) rfl ?_)
                      refine RV.nil ?_
                      refine KV.then_n ?_
                      refine KV.env [(1, _), (5, _), (6, _), (8, _), (9, _), (10, _), (16, _), (17, _), (18, _)] ⟨rfl, rfl, rfl, rfl, rfl, rfl, rfl, rfl, rfl, trivial⟩ ?_
                      refine KV.sel [0, 0, 0, 0, 0, 0] [_, _, _, _, _, _] rfl ?_
                      refine KV.loopI (q + 1) (by omega) (by omega) ⟨rfl, rfl, rfl, rfl, rfl, rfl, rfl, by first | (rw [heldM_pos (st := st2) (i := (j : Int)) (k := q) (by rw [d1.inv.rs]; exact hq6) hq7]; exact congrArg (fun z => some (Value.int IntKind.i64 z)) (Int.add_assoc _ _ _)) | (rw [heldM_neg (st := st2) (i := (j : Int)) (k := q) (by rw [d1.inv.rs]; exact hq6)]; rfl) | (rw [heldM_neg2 (st := st2) (i := (j : Int)) (k := q) hq7]; rfl), rfl, trivial⟩ (fun _ h => h)
                  · -- False
                    obtain hqn : q = (someM raw).length := by omega
                    rw [hqn]
                    refine RV.nil ?_
                    refine KV.then_n ?_
                    refine KV.env [(1, _), (5, _), (6, _), (8, _), (9, _), (10, _), (16, _), (17, _), (18, _), (102, _)] ⟨rfl, rfl, rfl, rfl, rfl, rfl, rfl, rfl, rfl, rfl, trivial⟩ ?_
                    refine CV.cond_f rfl ?_
                    refine CV.exit ?_
                    refine KV.then_exit ?_
                    refine KV.then_exit ?_
                    refine KV.block_hit ?_
                    refine KV.then_n ?_
                    refine KV.env [(1, _), (5, _), (6, _), (8, _), (9, _), (10, _), (16, _), (17, _)] ⟨rfl, rfl, rfl, rfl, rfl, rfl, rfl, rfl, trivial⟩ ?_
                    refine CV.seq ?_
                    -- region 30 law.go:243
                    refine CV.region ?_
                    refine RV.op (OV.step gno (Step.move rfl) rfl ?_)
                    refine RV.op (OV.step gno (Step.move rfl) rfl ?_)
                    refine RV.op (OV.call [1, 1, 1, 1] (F := [_, _]) Try.func26 B26 N26 rfl rfl (fun w h => count_fn b a st2 j w wf2) (fun _ hb => hb.elim) gno rfl (fun v L' hp => ?_))
                    obtain ⟨rfl, rfl⟩ := hp
                    rw [if_pos ⟨by omega, by omega⟩, Int.toNat_natCast]
                    refine RV.op (OV.step gno (Step.move rfl) rfl ?_)
                    refine RV.op (OV.split gno (Step.neq rfl rfl) rfl (fun e1 => ?_) (fun e1 => ?_))
                    · -- True
                      exact absurd hoj e1
                    · -- False
                      refine RV.op (OV.step gno (Step.move rfl) rfl ?_)
                      refine RV.op (OV.step (gyes rfl) (Step.move rfl) rfl ?_)
                      refine RV.op (OV.split (gyes rfl) (Step.lss rfl rfl) rfl (fun e2 => ?_) (fun e2 => ?_))
                      · -- True
                        omega
                      · -- False
                        refine RV.op (OV.step gno (Step.pick_f rfl rfl) rfl ?_)
                        refine RV.nil ?_
                        refine KV.then_n ?_
                        refine KV.env [(1, _), (5, _), (6, _), (8, _), (9, _), (10, _), (16, _), (128, _)] ⟨rfl, rfl, rfl, rfl, rfl, rfl, rfl, rfl, trivial⟩ ?_
                        refine CV.cond_f rfl ?_
                        refine CV.skip ?_
                        refine KV.block_n ?_
                        refine KV.then_n ?_
                        refine KV.env [(1, _), (5, _), (6, _), (8, _), (9, _), (10, _), (16, _)] ⟨rfl, rfl, rfl, rfl, rfl, rfl, rfl, trivial⟩ ?_
                        -- region 23 law.go:236
                        refine CV.region ?_
                        refine RV.op (OV.step gno (Step.move rfl) rfl ?_)
                        (first | refine RV.op (OV.step gno (Step.add rfl rfl (wI64 (by omega) (by omega))) rfl ?_) | refine RV.op (OV.step gno (Step.add rfl rfl rfl) rfl ?_))
                        refine RV.op (OV.step gno (Step.assign rfl) rfl ?_)
                        refine RV.nil ?_
                        refine KV.then_n ?_
                        refine KV.env [(1, _), (5, _), (6, _), (8, _), (9, _), (10, _), (16, _)] ⟨rfl, rfl, rfl, rfl, rfl, rfl, rfl, trivial⟩ ?_
                        refine KV.sel [0, 1, 1, 1, 1, 0] [_, _, _, _, _, _] rfl ?_
                        refine KV.loopI (j + 1) (by omega) (by omega) ⟨rfl, rfl, rfl, rfl, rfl, rfl, rfl, trivial⟩ (fun _ h => h)
                · -- False
                  refine RV.nil ?_
                  refine KV.then_n ?_
                  refine KV.env [(1, _), (5, _), (6, _), (8, _), (9, _), (10, _), (16, _), (92, _)] ⟨rfl, rfl, rfl, rfl, rfl, rfl, rfl, rfl, trivial⟩ ?_
                  refine CV.cond_f rfl ?_
                  refine CV.exit ?_
                  refine KV.then_exit ?_
                  refine KV.then_exit ?_
                  refine KV.block_hit ?_
                  refine KV.block_n ?_
                  refine KV.then_n ?_
                  refine KV.env [(1, _), (5, _), (6, _), (8, _), (9, _), (10, _)] ⟨rfl, rfl, rfl, rfl, rfl, rfl, trivial⟩ ?_
                  -- region 11 law.go:223
                  refine CV.region ?_
                  refine RV.op (OV.step gno (Step.move rfl) rfl ?_)
                  (first | refine RV.op (OV.step gno (Step.add rfl rfl (wI64 (by omega) (by omega))) rfl ?_) | refine RV.op (OV.step gno (Step.add rfl rfl rfl) rfl ?_))
                  refine RV.op (OV.step gno (Step.assign rfl) rfl ?_)
                  refine RV.nil ?_
                  refine KV.then_n ?_
                  refine KV.env [(1, _), (5, _), (6, _), (8, _), (9, _), (10, _)] ⟨rfl, rfl, rfl, rfl, rfl, rfl, trivial⟩ ?_
                  refine KV.sel [0, 0, 0, 0, 0, 0] [_, _, _, _, _, _] rfl ?_
                  first | refine KV.loop3 (y := st) (z := u) (i + 1) st2 u2 ⟨by omega, d1, hul2, hu2⟩ (by omega) ⟨rfl, rfl, rfl, rfl, rfl, rfl, trivial⟩ (fun _ h => h) | refine KV.loop3 (y := st2) (z := u2) (i + 1) st2 u2 ⟨by omega, d1, hul2, hu2⟩ (by omega) ⟨rfl, rfl, rfl, rfl, rfl, rfl, trivial⟩ (fun _ h => h)
            · -- False
              obtain ⟨hs1, hs2⟩ := D.bad he
              simp only [] at hs1 hs2
              subst hs1
              obtain ⟨hul2, hu2⟩ := hi.2.2
              generalize u = u2 at hul2 hu2 ⊢
              refine RV.nil ?_
              refine KV.then_n ?_
              refine KV.env [(1, _), (5, _), (6, _), (8, _), (9, _), (10, _), (11, _), (12, _), (13, _), (73, _)] ⟨rfl, rfl, rfl, rfl, rfl, rfl, rfl, rfl, rfl, rfl, trivial⟩ ?_
              refine CV.cond_f rfl ?_
              refine CV.skip ?_
              refine KV.then_n ?_
              refine KV.env [(1, _), (5, _), (6, _), (8, _), (9, _), (10, _)] ⟨rfl, rfl, rfl, rfl, rfl, rfl, trivial⟩ ?_
              refine CV.seq ?_
              -- region 21 law.go:236
              refine CV.region ?_
              refine RV.op (OV.step gno (Step.assign rfl) rfl ?_)
              refine RV.nil ?_
              refine KV.then_n ?_
              refine KV.env [(1, _), (5, _), (6, _), (8, _), (9, _), (10, _), (16, _)] ⟨rfl, rfl, rfl, rfl, rfl, rfl, rfl, trivial⟩ ?_
              refine CV.block ?_
              -- loop L22; live [1, 5, 6, 8, 9, 10, 16]
              refine KV.sel [0, 2, 2, 2, 2, 0] [_, _, _, _, _, _] rfl ?_
              refine CV.loopI (α := Nat) (fun j => j ≤ (someM raw).length) (fun j => (someM raw).length - j) (fun j => [(1, .slice B l.length d), (5, .slice A2 (someM raw).length c2), (6, .pointer (some ⟨b, 0, none⟩)), (8, .slice A5 (someM raw).length (someM raw).length), (9, .int .u64 st2.clock), (10, .int .i64 i), (16, .int .i64 j)]) (fun _ => Hp I w ([OS 35 railK A2 c2 (someM raw)] ++ robj 73 b a st2 ++ [OS 3 (intK .i64) A5 (someM raw).length u2])) 0 (Nat.zero_le _) ⟨rfl, rfl, rfl, rfl, rfl, rfl, rfl, trivial⟩ (fun _ h => h) ?_
              intro j hj
              refine CV.seq ?_
              refine CV.seq ?_
              -- region 22 law.go:236
              refine CV.region ?_
              refine RV.op (OV.step gno (Step.move rfl) rfl ?_)
              refine RV.op (OV.step gno (Step.move rfl) rfl ?_)
              refine RV.op (OV.step gno (Step.lenSl Try.underlying22 rfl) rfl ?_)
              refine RV.op (OV.split gno (Step.lss rfl rfl) rfl (fun hj2 => ?_) (fun hj2 => ?_))
              · -- True
                have hcj := d1.cb G.len (j := j) (by omega)
                have hoj : st2.c j = st2.own j + heldM st2 j (someM raw).length := by unfold St.own; rw [hr2]; omega
                refine RV.nil ?_
                refine KV.then_n ?_
                refine KV.env [(1, _), (5, _), (6, _), (8, _), (9, _), (10, _), (16, _), (92, _)] ⟨rfl, rfl, rfl, rfl, rfl, rfl, rfl, rfl, trivial⟩ ?_
                refine CV.cond_t rfl ?_
                refine CV.skip ?_
                refine KV.then_n ?_
                refine KV.env [(1, _), (5, _), (6, _), (8, _), (9, _), (10, _), (16, _)] ⟨rfl, rfl, rfl, rfl, rfl, rfl, rfl, trivial⟩ ?_
                refine CV.seq ?_
                refine CV.block ?_
                refine CV.seq ?_
                -- region 24 law.go:237
                refine CV.region ?_
                refine RV.op (OV.step gno (Step.move rfl) rfl ?_)
                refine RV.op (OV.step gno (Step.move rfl) rfl ?_)
                refine RV.op (OV.step gno (Step.idx Try.underlying57 I3 (fun w h => h.os 5 rfl) rfl rfl (by first | rfl | omega) _ rfl (by omega)) rfl ?_)
                refine RV.op (OV.step gno (Step.load Try.underlying3 rfl rfl (fun w h => (h.os 5 rfl).cell0 (by omega) rfl)) rfl ?_)
                rw [show u2.getD j (intK .i64).d = st2.own j from hu2 j (by omega)]
                refine RV.op (OV.step gno (Step.assign rfl) rfl ?_)
                refine RV.nil ?_
                refine KV.then_n ?_
                refine KV.env [(1, _), (5, _), (6, _), (8, _), (9, _), (10, _), (16, _), (17, _)] ⟨rfl, rfl, rfl, rfl, rfl, rfl, rfl, rfl, trivial⟩ ?_
                refine CV.seq ?_
                refine CV.seq ?_
                -- region 25 law.go:238
                refine CV.region ?_
                refine RV.op (OV.step gno (Step.assign rfl) rfl ?_)
                refine RV.nil ?_
                refine KV.then_n ?_
                refine KV.env [(1, _), (5, _), (6, _), (8, _), (9, _), (10, _), (16, _), (17, _), (18, _)] ⟨rfl, rfl, rfl, rfl, rfl, rfl, rfl, rfl, rfl, trivial⟩ ?_
                refine CV.block ?_
                -- loop L26; live [1, 5, 6, 8, 9, 10, 16, 17, 18]
                refine KV.sel [0, 0, 0, 0, 0, 0] [_, _, _, _, _, _] rfl ?_
                refine CV.loopI (α := Nat) (fun q => q ≤ (someM raw).length) (fun q => (someM raw).length - q) (fun q => [(1, .slice B l.length d), (5, .slice A2 (someM raw).length c2), (6, .pointer (some ⟨b, 0, none⟩)), (8, .slice A5 (someM raw).length (someM raw).length), (9, .int .u64 st2.clock), (10, .int .i64 i), (16, .int .i64 j), (17, .int .i64 (st2.own j + heldM st2 j q)), (18, .int .i64 q)]) (fun _ => Hp I w ([OS 35 railK A2 c2 (someM raw)] ++ robj 73 b a st2 ++ [OS 3 (intK .i64) A5 (someM raw).length u2])) 0 (Nat.zero_le _) ⟨rfl, rfl, rfl, rfl, rfl, rfl, rfl, by rw [heldM, Int.add_zero]; rfl, rfl, trivial⟩ (fun _ h => h) ?_
                intro q hq
                have hhq := heldM_le st2 j q
                have houp := d1.up j (by omega)
                have hown0 := d1.inv.own j (by omega)
                refine CV.seq ?_
                refine CV.seq ?_
                -- region 26 law.go:238
                refine CV.region ?_
                refine RV.op (OV.step gno (Step.move rfl) rfl ?_)
                refine RV.op (OV.step gno (Step.move rfl) rfl ?_)
                refine RV.op (OV.step gno (Step.lenSl Try.underlying22 rfl) rfl ?_)
                refine RV.op (OV.split gno (Step.lss rfl rfl) rfl (fun hq9 => ?_) (fun hq9 => ?_))
                · -- True
                  refine RV.nil ?_
                  refine KV.then_n ?_
                  refine KV.env [(1, _), (5, _), (6, _), (8, _), (9, _), (10, _), (16, _), (17, _), (18, _), (102, _)] ⟨rfl, rfl, rfl, rfl, rfl, rfl, rfl, rfl, rfl, rfl, trivial⟩ ?_
                  refine CV.cond_t rfl ?_
                  refine CV.skip ?_
                  refine KV.then_n ?_
                  refine KV.env [(1, _), (5, _), (6, _), (8, _), (9, _), (10, _), (16, _), (17, _), (18, _)] ⟨rfl, rfl, rfl, rfl, rfl, rfl, rfl, rfl, rfl, trivial⟩ ?_
                  refine CV.seq ?_
                  refine CV.block ?_
                  refine CV.seq ?_
                  -- region 28 law.go:239
                  refine CV.region ?_
                  refine RV.op (OV.step gno (Step.move rfl) rfl ?_)
                  refine RV.op (OV.step gno (Step.move rfl) rfl ?_)
                  refine RV.op (OV.step gno (Step.idx Try.underlying22 I35 (fun w h => h.os 0 rfl) rfl rfl (by first | rfl | omega) _ rfl (by omega)) rfl ?_)
                  refine RV.op (OV.step gno (Step.fieldAddr rfl (F35_0 _ _)) rfl ?_)
                  refine RV.op (OV.step gno (Step.load Try.underlying3 rfl rfl (fun w h => (h.os 0 rfl).cell0 (by omega) rfl)) rfl ?_)
                  refine RV.op (OV.step gno (Step.move rfl) rfl ?_)
                  refine RV.op (OV.split gno (Step.eql rfl rfl) rfl (fun hq6 => ?_) (fun hq6 => ?_))
                  · -- True
                    refine RV.op (OV.step gno (Step.move rfl) rfl ?_)
                    refine RV.op (OV.step (gyes rfl) (Step.move rfl) rfl ?_)
                    refine RV.op (OV.step (gyes rfl) (Step.move rfl) rfl ?_)
                    refine RV.op (OV.call [1, 1, 1, 1] (F := [_, _]) Try.func26 B26 N26 rfl rfl (fun w h => count_fn b a st2 q w wf2) (fun _ hb => hb.elim) (gyes rfl) rfl (fun v L' hp => ?_))
                    obtain ⟨rfl, rfl⟩ := hp
                    rw [if_pos ⟨by omega, by omega⟩, Int.toNat_natCast]
                    refine RV.op (OV.split (gyes rfl) (Step.gtr rfl rfl) rfl (fun hq7 => ?_) (fun hq7 => ?_))
                    · -- True
                      refine RV.op (OV.step gno (Step.pick_t rfl rfl) rfl ?_)
                      refine RV.nil ?_
                      refine KV.then_n ?_
                      refine KV.env [(1, _), (5, _), (6, _), (8, _), (9, _), (10, _), (16, _), (17, _), (18, _), (117, _)] ⟨rfl, rfl, rfl, rfl, rfl, rfl, rfl, rfl, rfl, rfl, trivial⟩ ?_
                      refine CV.cond_t rfl ?_
                      -- region 29 law.go:240
                      refine CV.region ?_
                      refine RV.op (OV.step gno (Step.move rfl) rfl ?_)
                      (first | refine RV.op (OV.step gno (Step.add rfl rfl (wI64 (by omega) (by omega))) rfl ?_) | refine RV.op (OV.step gno (Step.add rfl rfl rfl) rfl ?_))
                      refine RV.op (OV.step gno (Step.assign rfl) rfl ?_)
                      refine RV.nil ?_
                      refine KV.block_n ?_
                      refine KV.then_n ?_
                      refine KV.env [(1, _), (5, _), (6, _), (8, _), (9, _), (10, _), (16, _), (17, _), (18, _)] ⟨rfl, rfl, rfl, rfl, rfl, rfl, rfl, rfl, rfl, trivial⟩ ?_
                      -- region 27 law.go:238
                      refine CV.region ?_
                      refine RV.op (OV.step gno (Step.move rfl) rfl ?_)
                      (first | refine RV.op (OV.step gno (Step.add rfl rfl (wI64 (by omega) (by omega))) rfl ?_) | refine RV.op (OV.step gno (Step.add rfl rfl rfl) rfl ?_))
                      refine RV.op (OV.step gno (Step.assign rfl) rfl ?_)
                      refine RV.nil ?_
                      refine KV.then_n ?_
                      refine KV.env [(1, _), (5, _), (6, _), (8, _), (9, _), (10, _), (16, _), (17, _), (18, _)] ⟨rfl, rfl, rfl, rfl, rfl, rfl, rfl, rfl, rfl, trivial⟩ ?_
                      refine KV.sel [0, 1, 1, 1, 1, 0] [_, _, _, _, _, _] rfl ?_
                      refine KV.loopI (q + 1) (by omega) (by omega) ⟨rfl, rfl, rfl, rfl, rfl, rfl, rfl, by first | (rw [heldM_pos (st := st2) (i := (j : Int)) (k := q) (by rw [d1.inv.rs]; exact hq6) hq7]; exact congrArg (fun z => some (Value.int IntKind.i64 z)) (Int.add_assoc _ _ _)) | (rw [heldM_neg (st := st2) (i := (j : Int)) (k := q) (by rw [d1.inv.rs]; exact hq6)]; rfl) | (rw [heldM_neg2 (st := st2) (i := (j : Int)) (k := q) hq7]; rfl), rfl, trivial⟩ (fun _ h => h)
                    · -- False
                      refine RV.op (OV.step gno (Step.pick_t rfl rfl) rfl ?_)
                      refine RV.nil ?_
                      refine KV.then_n ?_
                      refine KV.env [(1, _), (5, _), (6, _), (8, _), (9, _), (10, _), (16, _), (17, _), (18, _), (117, _)] ⟨rfl, rfl, rfl, rfl, rfl, rfl, rfl, rfl, rfl, rfl, trivial⟩ ?_
                      refine CV.cond_f rfl ?_
                      refine CV.skip ?_
                      refine KV.block_n ?_
                      refine KV.then_n ?_
                      refine KV.env [(1, _), (5, _), (6, _), (8, _), (9, _), (10, _), (16, _), (17, _), (18, _)] ⟨rfl, rfl, rfl, rfl, rfl, rfl, rfl, rfl, rfl, trivial⟩ ?_
                      -- region 27 law.go:238
                      refine CV.region ?_
                      refine RV.op (OV.step gno (Step.move rfl) rfl ?_)
                      (first | refine RV.op (OV.step gno (Step.add rfl rfl (wI64 (by omega) (by omega))) rfl ?_) | refine RV.op (OV.step gno (Step.add rfl rfl rfl) rfl ?_))
                      refine RV.op (OV.step gno (Step.assign rfl) rfl ?_)
                      refine RV.nil ?_
                      refine KV.then_n ?_
                      refine KV.env [(1, _), (5, _), (6, _), (8, _), (9, _), (10, _), (16, _), (17, _), (18, _)] ⟨rfl, rfl, rfl, rfl, rfl, rfl, rfl, rfl, rfl, trivial⟩ ?_
                      refine KV.sel [0, 1, 1, 1, 1, 0] [_, _, _, _, _, _] rfl ?_
                      refine KV.loopI (q + 1) (by omega) (by omega) ⟨rfl, rfl, rfl, rfl, rfl, rfl, rfl, by first | (rw [heldM_pos (st := st2) (i := (j : Int)) (k := q) (by rw [d1.inv.rs]; exact hq6) hq7]; exact congrArg (fun z => some (Value.int IntKind.i64 z)) (Int.add_assoc _ _ _)) | (rw [heldM_neg (st := st2) (i := (j : Int)) (k := q) (by rw [d1.inv.rs]; exact hq6)]; rfl) | (rw [heldM_neg2 (st := st2) (i := (j : Int)) (k := q) hq7]; rfl), rfl, trivial⟩ (fun _ h => h)
                  · -- False
                    refine RV.op (OV.step gno (Step.move rfl) rfl ?_)
                    refine RV.op (OV.skip rfl rfl ?_)
                    refine RV.op (OV.skip rfl rfl ?_)
                    refine RV.op (OV.skip rfl rfl ?_)
                    refine RV.op (OV.skip rfl rfl ?_)
                    refine RV.op (OV.step gno (Step.pick_f rfl rfl) rfl ?_)
                    refine RV.nil ?_
                    refine KV.then_n ?_
                    refine KV.env [(1, _), (5, _), (6, _), (8, _), (9, _), (10, _), (16, _), (17, _), (18, _), (117, _)] ⟨rfl, rfl, rfl, rfl, rfl, rfl, rfl, rfl, rfl, rfl, trivial⟩ ?_
                    refine CV.cond_f rfl ?_
                    refine CV.skip ?_
                    refine KV.block_n ?_
                    refine KV.then_n ?_
                    refine KV.env [(1, _), (5, _), (6, _), (8, _), (9, _), (10, _), (16, _), (17, _), (18, _)] ⟨rfl, rfl, rfl, rfl, rfl, rfl, rfl, rfl, rfl, trivial⟩ ?_
                    -- region 27 law.go:238
                    refine CV.region ?_
                    refine RV.op (OV.step gno (Step.move rfl) rfl ?_)
                    (first | refine RV.op (OV.step gno (Step.add rfl rfl (wI64 (by omega) (by omega))) rfl ?_) | refine RV.op (OV.step gno (Step.add rfl rfl rfl) rfl ?_))
                    refine RV.op (OV.step gno (Step.assign rfl) rfl ?_)
                    refine RV.nil ?_
                    refine KV.then_n ?_
                    refine KV.env [(1, _), (5, _), (6, _), (8, _), (9, _), (10, _), (16, _), (17, _), (18, _)] ⟨rfl, rfl, rfl, rfl, rfl, rfl, rfl, rfl, rfl, trivial⟩ ?_
                    refine KV.sel [0, 0, 0, 0, 0, 0] [_, _, _, _, _, _] rfl ?_
                    refine KV.loopI (q + 1) (by omega) (by omega) ⟨rfl, rfl, rfl, rfl, rfl, rfl, rfl, by first | (rw [heldM_pos (st := st2) (i := (j : Int)) (k := q) (by rw [d1.inv.rs]; exact hq6) hq7]; exact congrArg (fun z => some (Value.int IntKind.i64 z)) (Int.add_assoc _ _ _)) | (rw [heldM_neg (st := st2) (i := (j : Int)) (k := q) (by rw [d1.inv.rs]; exact hq6)]; rfl) | (rw [heldM_neg2 (st := st2) (i := (j : Int)) (k := q) hq7]; rfl), rfl, trivial⟩ (fun _ h => h)
                · -- False
                  obtain hqn : q = (someM raw).length := by omega
                  rw [hqn]
                  refine RV.nil ?_
                  refine KV.then_n ?_
                  refine KV.env [(1, _), (5, _), (6, _), (8, _), (9, _), (10, _), (16, _), (17, _), (18, _), (102, _)] ⟨rfl, rfl, rfl, rfl, rfl, rfl, rfl, rfl, rfl, rfl, trivial⟩ ?_
                  refine CV.cond_f rfl ?_
                  refine CV.exit ?_
                  refine KV.then_exit ?_
                  refine KV.then_exit ?_
                  refine KV.block_hit ?_
                  refine KV.then_n ?_
                  refine KV.env [(1, _), (5, _), (6, _), (8, _), (9, _), (10, _), (16, _), (17, _)] ⟨rfl, rfl, rfl, rfl, rfl, rfl, rfl, rfl, trivial⟩ ?_
                  refine CV.seq ?_
                  -- region 30 law.go:243
                  refine CV.region ?_
                  refine RV.op (OV.step gno (Step.move rfl) rfl ?_)
                  refine RV.op (OV.step gno (Step.move rfl) rfl ?_)
                  refine RV.op (OV.call [1, 1, 1, 1] (F := [_, _]) Try.func26 B26 N26 rfl rfl (fun w h => count_fn b a st2 j w wf2) (fun _ hb => hb.elim) gno rfl (fun v L' hp => ?_))
                  obtain ⟨rfl, rfl⟩ := hp
                  rw [if_pos ⟨by omega, by omega⟩, Int.toNat_natCast]
                  refine RV.op (OV.step gno (Step.move rfl) rfl ?_)
                  refine RV.op (OV.split gno (Step.neq rfl rfl) rfl (fun e1 => ?_) (fun e1 => ?_))
                  · -- True
                    exact absurd hoj e1
                  · -- False
                    refine RV.op (OV.step gno (Step.move rfl) rfl ?_)
                    refine RV.op (OV.step (gyes rfl) (Step.move rfl) rfl ?_)
                    refine RV.op (OV.split (gyes rfl) (Step.lss rfl rfl) rfl (fun e2 => ?_) (fun e2 => ?_))
                    · -- True
                      omega
                    · -- False
                      refine RV.op (OV.step gno (Step.pick_f rfl rfl) rfl ?_)
                      refine RV.nil ?_
                      refine KV.then_n ?_
                      refine KV.env [(1, _), (5, _), (6, _), (8, _), (9, _), (10, _), (16, _), (128, _)] ⟨rfl, rfl, rfl, rfl, rfl, rfl, rfl, rfl, trivial⟩ ?_
                      refine CV.cond_f rfl ?_
                      refine CV.skip ?_
                      refine KV.block_n ?_
                      refine KV.then_n ?_
                      refine KV.env [(1, _), (5, _), (6, _), (8, _), (9, _), (10, _), (16, _)] ⟨rfl, rfl, rfl, rfl, rfl, rfl, rfl, trivial⟩ ?_
                      -- region 23 law.go:236
                      refine CV.region ?_
                      refine RV.op (OV.step gno (Step.move rfl) rfl ?_)
                      (first | refine RV.op (OV.step gno (Step.add rfl rfl (wI64 (by omega) (by omega))) rfl ?_) | refine RV.op (OV.step gno (Step.add rfl rfl rfl) rfl ?_))
                      refine RV.op (OV.step gno (Step.assign rfl) rfl ?_)
                      refine RV.nil ?_
                      refine KV.then_n ?_
                      refine KV.env [(1, _), (5, _), (6, _), (8, _), (9, _), (10, _), (16, _)] ⟨rfl, rfl, rfl, rfl, rfl, rfl, rfl, trivial⟩ ?_
                      refine KV.sel [0, 1, 1, 1, 1, 0] [_, _, _, _, _, _] rfl ?_
                      refine KV.loopI (j + 1) (by omega) (by omega) ⟨rfl, rfl, rfl, rfl, rfl, rfl, rfl, trivial⟩ (fun _ h => h)
              · -- False
                refine RV.nil ?_
                refine KV.then_n ?_
                refine KV.env [(1, _), (5, _), (6, _), (8, _), (9, _), (10, _), (16, _), (92, _)] ⟨rfl, rfl, rfl, rfl, rfl, rfl, rfl, rfl, trivial⟩ ?_
                refine CV.cond_f rfl ?_
                refine CV.exit ?_
                refine KV.then_exit ?_
                refine KV.then_exit ?_
                refine KV.block_hit ?_
                refine KV.block_n ?_
                refine KV.then_n ?_
                refine KV.env [(1, _), (5, _), (6, _), (8, _), (9, _), (10, _)] ⟨rfl, rfl, rfl, rfl, rfl, rfl, trivial⟩ ?_
                -- region 11 law.go:223
                refine CV.region ?_
                refine RV.op (OV.step gno (Step.move rfl) rfl ?_)
                (first | refine RV.op (OV.step gno (Step.add rfl rfl (wI64 (by omega) (by omega))) rfl ?_) | refine RV.op (OV.step gno (Step.add rfl rfl rfl) rfl ?_))
                refine RV.op (OV.step gno (Step.assign rfl) rfl ?_)
                refine RV.nil ?_
                refine KV.then_n ?_
                refine KV.env [(1, _), (5, _), (6, _), (8, _), (9, _), (10, _)] ⟨rfl, rfl, rfl, rfl, rfl, rfl, trivial⟩ ?_
                refine KV.sel [0, 0, 0, 0, 0, 0] [_, _, _, _, _, _] rfl ?_
                first | refine KV.loop3 (y := st) (z := u) (i + 1) st2 u2 ⟨by omega, d1, hul2, hu2⟩ (by omega) ⟨rfl, rfl, rfl, rfl, rfl, rfl, trivial⟩ (fun _ h => h) | refine KV.loop3 (y := st2) (z := u2) (i + 1) st2 u2 ⟨by omega, d1, hul2, hu2⟩ (by omega) ⟨rfl, rfl, rfl, rfl, rfl, rfl, trivial⟩ (fun _ h => h)
          · -- False
            refine RV.op (OV.step gno (Step.pick_t rfl rfl) rfl ?_)
            refine RV.nil ?_
            refine KV.then_n ?_
            refine KV.env [(1, _), (5, _), (6, _), (8, _), (9, _), (10, _), (47, _)] ⟨rfl, rfl, rfl, rfl, rfl, rfl, rfl, trivial⟩ ?_
            refine CV.cond_f rfl ?_
            refine CV.exit ?_
            refine KV.then_exit ?_
            refine KV.then_exit ?_
            refine KV.block_hit ?_
            refine KV.then_n ?_
            refine KV.env [] trivial ?_
            refine CV.seq ?_
            -- region 32 law.go:248
            refine CV.region ?_
            refine RV.op (OV.call [] (F := [_, _, _, _, _, _]) Try.func12 B12 N12 rfl rfl (fun w h => awake_fn) (fun _ hb => hb.elim) gno rfl (fun v L' hp => ?_))
            obtain ⟨rfl, rfl⟩ := hp
            simp only [List.append_nil]
            refine RV.op (OV.step gno (Step.assign rfl) rfl ?_)
            refine RV.nil ?_
            refine KV.then_n ?_
            refine KV.env [(4, _)] ⟨rfl, trivial⟩ ?_
            refine CV.ret ?_
            -- return at r32
            refine KV.sel [] [] rfl ?_
            exact KV.ret1 rfl rfl _ (fun _ h => h) ⟨rfl, rfl⟩
        · -- False
          refine RV.op (OV.step gno (Step.move rfl) rfl ?_)
          refine RV.op (OV.skip rfl rfl ?_)
          refine RV.op (OV.skip rfl rfl ?_)
          refine RV.op (OV.skip rfl rfl ?_)
          refine RV.op (OV.step gno (Step.pick_f rfl rfl) rfl ?_)
          refine RV.nil ?_
          refine KV.then_n ?_
          refine KV.env [(1, _), (5, _), (6, _), (8, _), (9, _), (10, _), (47, _)] ⟨rfl, rfl, rfl, rfl, rfl, rfl, rfl, trivial⟩ ?_
          refine CV.cond_f rfl ?_
          refine CV.exit ?_
          refine KV.then_exit ?_
          refine KV.then_exit ?_
          refine KV.block_hit ?_
          refine KV.then_n ?_
          refine KV.env [] trivial ?_
          refine CV.seq ?_
          -- region 32 law.go:248
          refine CV.region ?_
          refine RV.op (OV.call [] (F := [_, _, _, _, _, _]) Try.func12 B12 N12 rfl rfl (fun w h => awake_fn) (fun _ hb => hb.elim) gno rfl (fun v L' hp => ?_))
          obtain ⟨rfl, rfl⟩ := hp
          simp only [List.append_nil]
          refine RV.op (OV.step gno (Step.assign rfl) rfl ?_)
          refine RV.nil ?_
          refine KV.then_n ?_
          refine KV.env [(4, _)] ⟨rfl, trivial⟩ ?_
          refine CV.ret ?_
          -- return at r32
          refine KV.sel [] [] rfl ?_
          exact KV.ret1 rfl rfl _ (fun _ h => h) ⟨rfl, rfl⟩
end Go.Proofs.Ytcmalbkflbfidaa
