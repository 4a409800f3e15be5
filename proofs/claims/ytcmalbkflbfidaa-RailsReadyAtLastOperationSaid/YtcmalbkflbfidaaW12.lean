/-
  Walks, part 12.
-/
import Derived.Test.YtcmalbkflbfidaaTab12
import Derived.Test.YtcmalbkflbfidaaW7
import Derived.Test.YtcmalbkflbfidaaPl5
import Derived.Test.YtcmalbkflbfidaaSv8
set_option linter.unusedSimpArgs false
set_option linter.unusedVariables false
namespace Go.Proofs.Ytcmalbkflbfidaa
open Go.Sv Go.Rails
set_option maxRecDepth 100000 in
set_option maxHeartbeats 1000000 in
theorem readyAtLast_fn {A B : Option Addr} {n c m d : Nat} {raw : List Rail} {l : List RCall} (t : Int) {w : World} (hr : RS w railK A raw) (hn : n = raw.length) (hraw : ∀ i, i < raw.length → okRail (raw.getD i railK.d)) (hl : RS w callK B l) (hm : m = l.length) : Fx Try.prog 9 [.slice A n c, .slice B m d, .int .u64 t] w [] no (fun v L => v = .bool true ∧ L = []) := by
  subst hn
  subst hm
  have hsl := some_len raw
  obtain ⟨rk, G⟩ := some_good hraw
  have hnew := good_new G
  have hlen := G.len
  refine Sv.Fx.body Try.func9 rfl T9 rfl ?_
  intro I hro hI
  refine KV.env [(0, _), (1, _), (2, _)] ⟨rfl, rfl, rfl, trivial⟩ ?_
  refine CV.seq ?_
  -- region 0 law.go:252
  refine CV.region ?_
  refine RV.op (OV.step gno (Step.assign rfl) rfl ?_)
  refine RV.nil ?_
  refine KV.then_n ?_
  refine KV.env [(0, _), (1, _), (2, _)] ⟨rfl, rfl, rfl, trivial⟩ ?_
  refine CV.seq ?_
  refine CV.seq ?_
  -- region 1 law.go:253
  refine CV.region ?_
  refine RV.op (OV.step gno (Step.move rfl) rfl ?_)
  refine RV.op (OV.step gno (Step.lenSl Try.underlying37 rfl) rfl ?_)
  refine RV.op (OV.split gno (Step.gtr rfl rfl) rfl (fun hlong => ?_) (fun hlong => ?_))
  · -- True
    refine RV.nil ?_
    refine KV.then_n ?_
    refine KV.env [(0, _), (1, _), (2, _), (24, _)] ⟨rfl, rfl, rfl, rfl, trivial⟩ ?_
    refine CV.cond_t rfl ?_
    refine CV.seq ?_
    -- region 2 law.go:254
    refine CV.region ?_
    refine RV.op (OV.call [] (F := []) Try.func12 B12 N12 rfl rfl (fun w h => awake_fn) (fun _ hb => hb.elim) gno rfl (fun v L' hp => ?_))
    obtain ⟨rfl, rfl⟩ := hp
    simp only [List.append_nil]
    refine RV.op (OV.step gno (Step.assign rfl) rfl ?_)
    refine RV.nil ?_
    refine KV.then_n ?_
    refine KV.env [(6, _)] ⟨rfl, trivial⟩ ?_
    refine CV.ret ?_
    refine KV.then_ret ?_
    -- return at r2
    refine KV.sel [] [] rfl ?_
    exact KV.ret1 rfl rfl _ (fun _ h => h) ⟨rfl, rfl⟩
  · -- False
    refine RV.nil ?_
    refine KV.then_n ?_
    refine KV.env [(0, _), (1, _), (2, _), (24, _)] ⟨rfl, rfl, rfl, rfl, trivial⟩ ?_
    refine CV.cond_f rfl ?_
    refine CV.skip ?_
    refine KV.then_n ?_
    refine KV.env [(0, _), (1, _), (2, _)] ⟨rfl, rfl, rfl, trivial⟩ ?_
    refine CV.seq ?_
    -- region 3 law.go:256
    refine CV.region ?_
    refine RV.op (OV.step gno (Step.move rfl) rfl ?_)
    refine RV.op (OV.call [] (F := []) Try.func15 B15 N15 rfl rfl (fun w h => some_fn (h.rs hr (fun _ => hI _))) (fun _ hb => hb.elim) gno rfl (fun v L' hp => ?_))
    obtain ⟨A2, c2, rfl, rfl⟩ := hp
    refine RV.op (OV.step gno (Step.assign rfl) rfl ?_)
    refine RV.nil ?_
    refine KV.then_n ?_
    refine KV.env [(1, _), (2, _), (7, _)] ⟨rfl, rfl, rfl, trivial⟩ ?_
    refine CV.seq ?_
    -- region 4 law.go:257
    refine CV.region ?_
    refine RV.op (OV.step gno (Step.move rfl) rfl ?_)
    refine RV.op (OV.call [] (F := [_]) Try.func13 B13 N13 rfl rfl (fun w h => new_fn (h.os 0 rfl) rfl) (fun _ hb => hb.elim) gno rfl (fun v L' hp => ?_))
    obtain ⟨b, a, rfl, rfl⟩ := hp.1 hnew
    refine RV.op (OV.step gno (Step.move rfl) rfl ?_)
    refine RV.op (OV.step gno (Step.extract0 rfl rfl) rfl ?_)
    refine RV.op (OV.step gno (Step.extract0 rfl rfl) rfl ?_)
    refine RV.op (OV.step gno (Step.assign rfl) rfl ?_)
    refine RV.op (OV.step gno (Step.assign rfl) rfl ?_)
    refine RV.nil ?_
    refine KV.then_n ?_
    refine KV.env [(1, _), (2, _), (7, _), (8, _), (9, _)] ⟨rfl, rfl, rfl, rfl, rfl, trivial⟩ ?_
    refine CV.seq ?_
    refine CV.seq ?_
    -- region 5 law.go:258
    refine CV.region ?_
    refine RV.op (OV.step gno (Step.move rfl) rfl ?_)
    refine RV.op (OV.split gno (Step.neq rfl rfl) rfl (fun z1 => ?_) (fun z1 => ?_))
    · -- True
      exact absurd rfl z1
    · -- False
      refine RV.op (OV.step gno (Step.move rfl) rfl ?_)
      refine RV.op (OV.step (gyes rfl) (Step.move rfl) rfl ?_)
      refine RV.op (OV.split (gyes rfl) (Step.eqlP Try.underlying24 rfl rfl) rfl (fun z2 => ?_) (fun z2 => ?_))
      · -- True
        cases z2
      · -- False
        refine RV.op (OV.step gno (Step.pick_f rfl rfl) rfl ?_)
        refine RV.nil ?_
        refine KV.then_n ?_
        refine KV.env [(1, _), (2, _), (7, _), (8, _), (38, _)] ⟨rfl, rfl, rfl, rfl, rfl, trivial⟩ ?_
        refine CV.cond_f rfl ?_
        refine CV.skip ?_
        refine KV.then_n ?_
        refine KV.env [(1, _), (2, _), (7, _), (8, _)] ⟨rfl, rfl, rfl, rfl, trivial⟩ ?_
        refine CV.seq ?_
        -- region 7 law.go:261
        refine CV.region ?_
        refine RV.op (OV.step gno (Step.move rfl) rfl ?_)
        refine RV.op (OV.step gno (Step.lenSl Try.underlying22 rfl) rfl ?_)
        refine RV.op (OV.make (K := intK .u64) ((someM raw).length) ((someM raw).length) (0) Try.underlying43 I33 rfl rfl rfl rfl rfl (by omega) (by omega) (by omega) gno rfl (fun A5 => ?_))
        refine RV.op (OV.step gno (Step.assign rfl) rfl ?_)
        refine RV.nil ?_
        refine KV.then_n ?_
        refine KV.env [(1, _), (2, _), (7, _), (8, _), (10, _)] ⟨rfl, rfl, rfl, rfl, rfl, trivial⟩ ?_
        refine CV.seq ?_
        -- region 8 law.go:262
        refine CV.region ?_
        refine RV.op (OV.step gno (Step.assign rfl) rfl ?_)
        refine RV.nil ?_
        refine KV.then_n ?_
        refine KV.env [(1, _), (2, _), (7, _), (8, _), (10, _), (11, _)] ⟨rfl, rfl, rfl, rfl, rfl, rfl, trivial⟩ ?_
        refine CV.seq ?_
        refine CV.seq ?_
        -- region 9 law.go:263
        refine CV.region ?_
        refine RV.op (OV.step gno (Step.assign rfl) rfl ?_)
        refine RV.nil ?_
        refine KV.then_n ?_
        refine KV.env [(1, _), (2, _), (7, _), (8, _), (10, _), (11, _), (12, _)] ⟨rfl, rfl, rfl, rfl, rfl, rfl, rfl, trivial⟩ ?_
        refine CV.block ?_
        -- loop L10; live [1, 2, 7, 8, 10, 11, 12]
        refine KV.sel [0, 0, 0, 0, 0, 0] [_, _, _, _, _, _] rfl ?_
        refine CV.loop2 (fun i (st : St) => i ≤ l.length ∧ IN (someM raw) i st) (fun i _ => l.length - i) (fun i st => [(1, .slice B l.length d), (2, .int .u64 t), (7, .slice A2 (someM raw).length c2), (8, .pointer (some ⟨b, 0, none⟩)), (10, .slice A5 (someM raw).length (someM raw).length), (11, .int .u64 st.clock), (12, .int .i64 i)]) (fun _ st => Hp I w ([OS 35 railK A2 c2 (someM raw)] ++ robj 73 b a st ++ [OS 33 (intK .u64) A5 (someM raw).length st.done])) 0 (new0 (someM raw)) ⟨Nat.zero_le _, IN.start _⟩ ⟨rfl, rfl, rfl, rfl, rfl, rfl, rfl, trivial⟩ (fun _ h => h) ?_
        intro i st hi
        have hrl := hi.2.inv.rails
        have hrl3 : st.rails.length = (someM raw).length := by rw [hrl]
        have hdl3 := hi.2.inv.dl
        refine CV.seq ?_
        refine CV.seq ?_
        -- region 10 law.go:263
        refine CV.region ?_
        refine RV.op (OV.step gno (Step.move rfl) rfl ?_)
        refine RV.op (OV.step gno (Step.move rfl) rfl ?_)
        refine RV.op (OV.step gno (Step.lenSl Try.underlying37 rfl) rfl ?_)
        refine RV.op (OV.split gno (Step.lss rfl rfl) rfl (fun hlt => ?_) (fun hlt => ?_))
        · -- True
          refine RV.nil ?_
          refine KV.then_n ?_
          refine KV.env [(1, _), (2, _), (7, _), (8, _), (10, _), (11, _), (12, _), (45, _)] ⟨rfl, rfl, rfl, rfl, rfl, rfl, rfl, rfl, trivial⟩ ?_
          refine CV.cond_t rfl ?_
          refine CV.skip ?_
          refine KV.then_n ?_
          refine KV.env [(1, _), (2, _), (7, _), (8, _), (10, _), (11, _), (12, _)] ⟨rfl, rfl, rfl, rfl, rfl, rfl, rfl, trivial⟩ ?_
          refine CV.seq ?_
          refine CV.block ?_
          refine CV.seq ?_
          -- region 12 law.go:264
          refine CV.region ?_
          refine RV.op (OV.step gno (Step.move rfl) rfl ?_)
          refine RV.op (OV.step gno (Step.move rfl) rfl ?_)
          refine RV.op (OV.step gno (Step.idx Try.underlying37 I48 (fun w h => h.rs hl (fun _ => hI _)) rfl rfl (by first | rfl | omega) _ rfl (by omega)) rfl ?_)
          refine RV.op (OV.step gno (Step.loadN _ Try.underlying48 rfl I48 rfl rfl (fun w h => (h.rs hl (fun _ => hI _)).cells (by omega))) rfl ?_)
          refine RV.op (OV.alloc #[.bool false, .int .i64 0, .int .u64 0, .bool false] I48 rfl gno rfl (fun b12_4 => ?_))
          refine RV.op (OV.store 6 [_, _, _, _] #[_, _, _, _] I48 rfl rfl rfl rfl rfl (Nat.le_of_ble_eq_true rfl) (by simp [Value.oneCell']) rfl gno ?_)
          refine RV.nil ?_
          refine KV.then_n ?_
          refine KV.env [(1, _), (2, _), (7, _), (8, _), (10, _), (11, _), (12, _), (13, _)] ⟨rfl, rfl, rfl, rfl, rfl, rfl, rfl, rfl, trivial⟩ ?_
          refine CV.seq ?_
          -- region 13 law.go:265
          refine CV.region ?_
          refine RV.op (OV.step gno (Step.fieldAddr rfl (F48_3 _ _)) rfl ?_)
          refine RV.op (OV.store 6 [_] #[_, _, _, _] I4 rfl rfl rfl rfl rfl (Nat.le_of_ble_eq_true rfl) (by simp [Value.oneCell']) rfl gno ?_)
          refine RV.nil ?_
          refine KV.then_n ?_
          refine KV.env [(1, _), (2, _), (7, _), (8, _), (10, _), (11, _), (12, _), (13, _)] ⟨rfl, rfl, rfl, rfl, rfl, rfl, rfl, rfl, trivial⟩ ?_
          refine CV.seq ?_
          -- region 14 law.go:266
          refine CV.region ?_
          refine RV.op (OV.step gno (Step.loadN _ Try.underlying48 rfl I48 rfl rfl (fun w h => h.cells 6 rfl)) rfl ?_)
          refine RV.op (OV.step gno (Step.move rfl) rfl ?_)
          refine RV.op (OV.step gno (Step.lenSl Try.underlying22 rfl) rfl ?_)
          refine RV.op (OV.step gno (Step.move rfl) rfl ?_)
          refine RV.op (OV.call [] (F := [_, _, _, _, _, _, _]) Try.func19 B19 N19 rfl rfl (fun w h => at_fn (cf (l.getD i callK.d)) (someM raw).length st.clock (by omega)) (fun _ hb => hb.elim) gno rfl (fun v L' hp => ?_))
          obtain ⟨rfl, rfl⟩ := hp
          simp only [List.append_nil]
          refine RV.op (OV.step gno (Step.move rfl) rfl ?_)
          refine RV.op (OV.step gno (Step.extract0 rfl rfl) rfl ?_)
          refine RV.op (OV.step gno (Step.extract0 rfl rfl) rfl ?_)
          refine RV.op (OV.step gno (Step.assign rfl) rfl ?_)
          refine RV.op (OV.step gno (Step.assign rfl) rfl ?_)
          refine RV.nil ?_
          refine KV.then_n ?_
          refine KV.env [(1, _), (2, _), (7, _), (8, _), (10, _), (11, _), (12, _), (13, _), (15, _)] ⟨rfl, rfl, rfl, rfl, rfl, rfl, rfl, rfl, rfl, trivial⟩ ?_
          refine CV.seq ?_
          -- region 15 law.go:267
          refine CV.region ?_
          refine RV.op (OV.step gno (Step.move rfl) rfl ?_)
          refine RV.op (OV.step gno (Step.loadN _ Try.underlying48 rfl I48 rfl rfl (fun w h => h.cells 6 rfl)) rfl ?_)
          refine RV.op (OV.step gno (Step.move rfl) rfl ?_)
          refine RV.op (OV.step gno (Step.lenSl Try.underlying22 rfl) rfl ?_)
          refine RV.op (OV.step gno (Step.move rfl) rfl ?_)
          refine RV.op (OV.call [1, 1, 1, 1] (F := [_, _, _]) Try.func20 B20 N20 rfl rfl (fun w h => do_fn b a st (cf (l.getD i callK.d)) (someM raw).length st.clock (by omega) 8 rk hi.2.inv.wf (G.acy' hi.2.inv.rails) (G.rank' hi.2.inv.rails) (by omega)) (fun _ hb => hb.elim) gno rfl (fun v L' hp => ?_))
          obtain ⟨A3, c3, rfl, rfl⟩ := hp
          have D := do_did G (m := i) (by omega) hi.2 (cf (l.getD i callK.d)) (someM raw).length st.clock
          have hle := do_len 8 st (cf (l.getD i callK.d)) (someM raw).length st.clock
          generalize hdo : doM 8 st (cf (l.getD i callK.d)) (someM raw).length st.clock = r at D hle ⊢
          obtain ⟨st2, op2, er⟩ := r
          have d1 : IN (someM raw) (i + 1) st2 := D.inn
          have d2 := d1.clock
          have hr2 := d1.inv.rails
          have hrl2 : st2.rails.length = (someM raw).length := by rw [hr2]
          have wf2 := d1.inv.wf
          simp only []
          have hle2 : op2.length ≤ 8 := hle
          have htr : Tr (someM raw) st.sg op2 st2.sg := D.tr
          obtain ⟨σ, hσ⟩ : ∃ σ, σ = st.sg := ⟨_, rfl⟩
          rw [← hσ] at htr
          have hσ2 : st.done = σ.2 := by rw [hσ]; rfl
          have hσl : σ.2.length = (someM raw).length := by rw [← hσ2]; exact hi.2.inv.dl
          rw [hσ2]
          refine RV.op (OV.step gno (Step.move rfl) rfl ?_)
          refine RV.op (OV.step gno (Step.extract0 rfl rfl) rfl ?_)
          refine RV.op (OV.step gno (Step.extract0 rfl rfl) rfl ?_)
          refine RV.op (OV.step gno (Step.assign rfl) rfl ?_)
          refine RV.op (OV.step gno (Step.assign rfl) rfl ?_)
          refine RV.nil ?_
          refine KV.then_n ?_
          refine KV.env [(1, _), (2, _), (7, _), (8, _), (10, _), (11, _), (12, _), (15, _), (16, _), (17, _)] ⟨rfl, rfl, rfl, rfl, rfl, rfl, rfl, rfl, rfl, rfl, trivial⟩ ?_
          refine CV.seq ?_
          refine CV.seq ?_
          -- region 16 law.go:268
          refine CV.region ?_
          refine RV.op (OV.step gno (Step.move rfl) rfl ?_)
          refine RV.op (OV.split gno (Step.eql rfl rfl) rfl (fun he => ?_) (fun he => ?_))
          · -- True
            have hck := (D.good he).1
            simp only [] at hck
            rw [← hck]
            refine RV.nil ?_
            refine KV.then_n ?_
            refine KV.env [(1, _), (2, _), (7, _), (8, _), (10, _), (11, _), (12, _), (15, _), (16, _), (71, _)] ⟨rfl, rfl, rfl, rfl, rfl, rfl, rfl, rfl, rfl, rfl, trivial⟩ ?_
            refine CV.cond_t rfl ?_
            -- region 17 law.go:269
            refine CV.region ?_
            refine RV.op (OV.step gno (Step.move rfl) rfl ?_)
            refine RV.op (OV.step gno (Step.assign rfl) rfl ?_)
            refine RV.nil ?_
            refine KV.then_n ?_
            refine KV.env [(1, _), (2, _), (7, _), (8, _), (10, _), (11, _), (12, _), (16, _)] ⟨rfl, rfl, rfl, rfl, rfl, rfl, rfl, rfl, trivial⟩ ?_
            refine CV.seq ?_
            refine CV.seq ?_
            -- region 18 law.go:271
            refine CV.region ?_
            refine RV.op (OV.step gno (Step.move rfl) rfl ?_)
            refine RV.op (OV.step gno (Step.move rfl) rfl ?_)
            refine RV.op (OV.step gno (Step.lenSl Try.underlying22 rfl) rfl ?_)
            refine RV.op (OV.call [] (F := [_, _, _, _, _, _, _, _]) Try.func18 B18 N18 rfl rfl (fun w h => named2_fn (someM raw).length (h.os 7 rfl) (by omega)) (fun _ hb => hb.elim) gno rfl (fun v L' hp => ?_))
            obtain ⟨rfl, rfl⟩ := hp
            rw [List.append_nil]
            by_cases hnm : namedM op2 (someM raw).length
            · rw [decide_eq_true hnm]
              refine RV.op (OV.step gno (Step.not rfl) rfl ?_)
              refine RV.nil ?_
              refine KV.then_n ?_
              refine KV.env [(1, _), (2, _), (7, _), (8, _), (10, _), (11, _), (12, _), (16, _), (77, _)] ⟨rfl, rfl, rfl, rfl, rfl, rfl, rfl, rfl, rfl, trivial⟩ ?_
              refine CV.cond_f rfl ?_
              refine CV.skip ?_
              refine KV.then_n ?_
              refine KV.env [(1, _), (2, _), (7, _), (8, _), (10, _), (11, _), (12, _), (16, _)] ⟨rfl, rfl, rfl, rfl, rfl, rfl, rfl, rfl, trivial⟩ ?_
              refine CV.seq ?_
              -- region 20 law.go:274
              refine CV.region ?_
              refine RV.op (OV.step gno (Step.assign rfl) rfl ?_)
              refine RV.nil ?_
              refine KV.then_n ?_
              refine KV.env [(1, _), (2, _), (7, _), (8, _), (10, _), (11, _), (12, _), (16, _), (18, _)] ⟨rfl, rfl, rfl, rfl, rfl, rfl, rfl, rfl, rfl, trivial⟩ ?_
              refine CV.block ?_
              -- loop L21; live [1, 2, 7, 8, 10, 11, 12, 16, 18]
              refine KV.sel [0, 2, 2, 2, 2, 2, 0] [_, _, _, _, _, _, _] rfl ?_
              refine CV.loopI (α := Nat) (fun k => k ≤ op2.length) (fun k => op2.length - k) (fun k => [(1, .slice B l.length d), (2, .int .u64 t), (7, .slice A2 (someM raw).length c2), (8, .pointer (some ⟨b, 0, none⟩)), (10, .slice A5 (someM raw).length (someM raw).length), (11, .int .u64 st2.clock), (12, .int .i64 i), (16, .slice A3 op2.length c3), (18, .int .i64 k)]) (fun k => Hp I w ([OS 35 railK A2 c2 (someM raw)] ++ robj 73 b a st2 ++ [OS 45 opK A3 c3 op2, OS 33 (intK .u64) A5 (someM raw).length (trS σ op2 k).2])) 0 (Nat.zero_le _) ⟨rfl, rfl, rfl, rfl, rfl, rfl, rfl, rfl, rfl, trivial⟩ (fun _ h => h) ?_
              intro k hk
              have htl := (trS_len σ op2 k).2
              refine CV.seq ?_
              refine CV.seq ?_
              -- region 21 law.go:274
              refine CV.region ?_
              refine RV.op (OV.step gno (Step.move rfl) rfl ?_)
              refine RV.op (OV.step gno (Step.move rfl) rfl ?_)
              refine RV.op (OV.step gno (Step.lenSl Try.underlying38 rfl) rfl ?_)
              refine RV.op (OV.split gno (Step.lss rfl rfl) rfl (fun hk2 => ?_) (fun hk2 => ?_))
              · -- True
                refine RV.nil ?_
                refine KV.then_n ?_
                refine KV.env [(1, _), (2, _), (7, _), (8, _), (10, _), (11, _), (12, _), (16, _), (18, _), (81, _)] ⟨rfl, rfl, rfl, rfl, rfl, rfl, rfl, rfl, rfl, rfl, trivial⟩ ?_
                refine CV.cond_t rfl ?_
                refine CV.skip ?_
                refine KV.then_n ?_
                refine KV.env [(1, _), (2, _), (7, _), (8, _), (10, _), (11, _), (12, _), (16, _), (18, _)] ⟨rfl, rfl, rfl, rfl, rfl, rfl, rfl, rfl, rfl, trivial⟩ ?_
                refine CV.seq ?_
                refine CV.block ?_
                -- region 23 law.go:275
                obtain ⟨q, hq1, hq2⟩ := htr.named' (k := k) (by omega)
                refine CV.stillTail 12 (by kernel_rfl) (by kernel_rfl) (fun _ h => h.drew) ?_
                refine SV.step gno (Step.move rfl) rfl ?_
                refine SV.step gno (Step.move rfl) rfl ?_
                refine SV.step gno (Step.move rfl) rfl ?_
                refine SV.step gno (Step.idx Try.underlying38 I45 (fun w h => h.os 5 rfl) rfl rfl (by first | rfl | omega) _ rfl (by omega)) rfl ?_
                refine SV.step gno (Step.fieldAddr rfl (F45_0 _ _)) rfl ?_
                refine SV.step gno (Step.load Try.underlying3 rfl rfl (fun w h => (h.os 5 rfl).cell0 (by omega) rfl)) rfl ?_
                rw [hq1]
                refine SV.step gno (Step.move rfl) rfl ?_
                refine SV.step gno (Step.move rfl) rfl ?_
                refine SV.step gno (Step.idx Try.underlying38 I45 (fun w h => h.os 5 rfl) rfl rfl (by first | rfl | omega) _ rfl (by omega)) rfl ?_
                refine SV.step gno (Step.fieldAddr rfl (F45_3 _ _)) rfl ?_
                refine SV.step gno (Step.load Try.underlying33 rfl rfl (fun w h => (h.os 5 rfl).cell (by omega) rfl)) rfl ?_
                refine SV.step gno (Step.idx Try.underlying43 I33 (fun w h => h.os 6 rfl) rfl rfl (by first | rfl | omega) _ rfl (by omega)) rfl ?_
                refine SV.nil ?_
                show KV _ (wpList _ _ _ _) _ _
                refine RV.op (OV.storeE 6 (q) (_) (j := 0) [_] I33 rfl rfl rfl rfl rfl rfl (by omega) rfl (Nat.le_of_ble_eq_true rfl) gno ?_)
                refine RV.nil ?_
                refine KV.block_n ?_
                refine KV.then_n ?_
                refine KV.env [(1, _), (2, _), (7, _), (8, _), (10, _), (11, _), (12, _), (16, _), (18, _)] ⟨rfl, rfl, rfl, rfl, rfl, rfl, rfl, rfl, rfl, trivial⟩ ?_
                -- region 22 law.go:274
                refine CV.region ?_
                refine RV.op (OV.step gno (Step.move rfl) rfl ?_)
                (first | refine RV.op (OV.step gno (Step.add rfl rfl (wI64 (by omega) (by omega))) rfl ?_) | refine RV.op (OV.step gno (Step.add rfl rfl rfl) rfl ?_))
                refine RV.op (OV.step gno (Step.assign rfl) rfl ?_)
                refine RV.nil ?_
                refine KV.then_n ?_
                refine KV.env [(1, _), (2, _), (7, _), (8, _), (10, _), (11, _), (12, _), (16, _), (18, _)] ⟨rfl, rfl, rfl, rfl, rfl, rfl, rfl, rfl, rfl, trivial⟩ ?_
                refine KV.sel [0, 0, 0, 0, 0, 0, 0] [_, _, _, _, _, _, _] rfl ?_
                refine KV.loopI (k + 1) (by omega) (by omega) ⟨rfl, rfl, rfl, rfl, rfl, rfl, rfl, rfl, rfl, trivial⟩ (fun _ h => by rw [trS_done (by omega) hq1]; exact h)
              · -- False
                have hke : k = op2.length := by omega
                rw [hke, htr.get.2]
                refine RV.nil ?_
                refine KV.then_n ?_
                refine KV.env [(1, _), (2, _), (7, _), (8, _), (10, _), (11, _), (12, _), (16, _), (18, _), (81, _)] ⟨rfl, rfl, rfl, rfl, rfl, rfl, rfl, rfl, rfl, rfl, trivial⟩ ?_
                refine CV.cond_f rfl ?_
                refine CV.exit ?_
                refine KV.then_exit ?_
                refine KV.then_exit ?_
                refine KV.block_hit ?_
                refine KV.block_n ?_
                refine KV.then_n ?_
                refine KV.env [(1, _), (2, _), (7, _), (8, _), (10, _), (11, _), (12, _)] ⟨rfl, rfl, rfl, rfl, rfl, rfl, rfl, trivial⟩ ?_
                -- region 11 law.go:263
                refine CV.region ?_
                refine RV.op (OV.step gno (Step.move rfl) rfl ?_)
                (first | refine RV.op (OV.step gno (Step.add rfl rfl (wI64 (by omega) (by omega))) rfl ?_) | refine RV.op (OV.step gno (Step.add rfl rfl rfl) rfl ?_))
                refine RV.op (OV.step gno (Step.assign rfl) rfl ?_)
                refine RV.nil ?_
                refine KV.then_n ?_
                refine KV.env [(1, _), (2, _), (7, _), (8, _), (10, _), (11, _), (12, _)] ⟨rfl, rfl, rfl, rfl, rfl, rfl, rfl, trivial⟩ ?_
                refine KV.sel [0, 0, 0, 0, 0, 1] [_, _, _, _, _, _] rfl ?_
                first | refine KV.loop2 (y := st) (i + 1) st2 ⟨by omega, d1⟩ (by omega) ⟨rfl, rfl, rfl, rfl, rfl, rfl, rfl, trivial⟩ (fun _ h => h) | refine KV.loop2 (y := st2) (i + 1) st2 ⟨by omega, d1⟩ (by omega) ⟨rfl, rfl, rfl, rfl, rfl, rfl, rfl, trivial⟩ (fun _ h => h)
            · rw [decide_eq_false hnm]
              exact absurd htr.named hnm
          · -- False
            obtain ⟨hs1, hs2⟩ := D.bad he
            simp only [] at hs1 hs2
            subst hs1
            refine RV.nil ?_
            refine KV.then_n ?_
            refine KV.env [(1, _), (2, _), (7, _), (8, _), (10, _), (11, _), (12, _), (15, _), (16, _), (71, _)] ⟨rfl, rfl, rfl, rfl, rfl, rfl, rfl, rfl, rfl, rfl, trivial⟩ ?_
            refine CV.cond_f rfl ?_
            refine CV.skip ?_
            refine KV.then_n ?_
            refine KV.env [(1, _), (2, _), (7, _), (8, _), (10, _), (11, _), (12, _), (16, _)] ⟨rfl, rfl, rfl, rfl, rfl, rfl, rfl, rfl, trivial⟩ ?_
            refine CV.seq ?_
            refine CV.seq ?_
            -- region 18 law.go:271
            refine CV.region ?_
            refine RV.op (OV.step gno (Step.move rfl) rfl ?_)
            refine RV.op (OV.step gno (Step.move rfl) rfl ?_)
            refine RV.op (OV.step gno (Step.lenSl Try.underlying22 rfl) rfl ?_)
            refine RV.op (OV.call [] (F := [_, _, _, _, _, _, _, _]) Try.func18 B18 N18 rfl rfl (fun w h => named2_fn (someM raw).length (h.os 7 rfl) (by omega)) (fun _ hb => hb.elim) gno rfl (fun v L' hp => ?_))
            obtain ⟨rfl, rfl⟩ := hp
            rw [List.append_nil]
            by_cases hnm : namedM op2 (someM raw).length
            · rw [decide_eq_true hnm]
              refine RV.op (OV.step gno (Step.not rfl) rfl ?_)
              refine RV.nil ?_
              refine KV.then_n ?_
              refine KV.env [(1, _), (2, _), (7, _), (8, _), (10, _), (11, _), (12, _), (16, _), (77, _)] ⟨rfl, rfl, rfl, rfl, rfl, rfl, rfl, rfl, rfl, trivial⟩ ?_
              refine CV.cond_f rfl ?_
              refine CV.skip ?_
              refine KV.then_n ?_
              refine KV.env [(1, _), (2, _), (7, _), (8, _), (10, _), (11, _), (12, _), (16, _)] ⟨rfl, rfl, rfl, rfl, rfl, rfl, rfl, rfl, trivial⟩ ?_
              refine CV.seq ?_
              -- region 20 law.go:274
              refine CV.region ?_
              refine RV.op (OV.step gno (Step.assign rfl) rfl ?_)
              refine RV.nil ?_
              refine KV.then_n ?_
              refine KV.env [(1, _), (2, _), (7, _), (8, _), (10, _), (11, _), (12, _), (16, _), (18, _)] ⟨rfl, rfl, rfl, rfl, rfl, rfl, rfl, rfl, rfl, trivial⟩ ?_
              refine CV.block ?_
              -- loop L21; live [1, 2, 7, 8, 10, 11, 12, 16, 18]
              refine KV.sel [0, 2, 2, 2, 2, 2, 0] [_, _, _, _, _, _, _] rfl ?_
              refine CV.loopI (α := Nat) (fun k => k ≤ op2.length) (fun k => op2.length - k) (fun k => [(1, .slice B l.length d), (2, .int .u64 t), (7, .slice A2 (someM raw).length c2), (8, .pointer (some ⟨b, 0, none⟩)), (10, .slice A5 (someM raw).length (someM raw).length), (11, .int .u64 st2.clock), (12, .int .i64 i), (16, .slice A3 op2.length c3), (18, .int .i64 k)]) (fun k => Hp I w ([OS 35 railK A2 c2 (someM raw)] ++ robj 73 b a st2 ++ [OS 45 opK A3 c3 op2, OS 33 (intK .u64) A5 (someM raw).length (trS σ op2 k).2])) 0 (Nat.zero_le _) ⟨rfl, rfl, rfl, rfl, rfl, rfl, rfl, rfl, rfl, trivial⟩ (fun _ h => h) ?_
              intro k hk
              have htl := (trS_len σ op2 k).2
              refine CV.seq ?_
              refine CV.seq ?_
              -- region 21 law.go:274
              refine CV.region ?_
              refine RV.op (OV.step gno (Step.move rfl) rfl ?_)
              refine RV.op (OV.step gno (Step.move rfl) rfl ?_)
              refine RV.op (OV.step gno (Step.lenSl Try.underlying38 rfl) rfl ?_)
              refine RV.op (OV.split gno (Step.lss rfl rfl) rfl (fun hk2 => ?_) (fun hk2 => ?_))
              · -- True
                refine RV.nil ?_
                refine KV.then_n ?_
                refine KV.env [(1, _), (2, _), (7, _), (8, _), (10, _), (11, _), (12, _), (16, _), (18, _), (81, _)] ⟨rfl, rfl, rfl, rfl, rfl, rfl, rfl, rfl, rfl, rfl, trivial⟩ ?_
                refine CV.cond_t rfl ?_
                refine CV.skip ?_
                refine KV.then_n ?_
                refine KV.env [(1, _), (2, _), (7, _), (8, _), (10, _), (11, _), (12, _), (16, _), (18, _)] ⟨rfl, rfl, rfl, rfl, rfl, rfl, rfl, rfl, rfl, trivial⟩ ?_
                refine CV.seq ?_
                refine CV.block ?_
                -- region 23 law.go:275
                obtain ⟨q, hq1, hq2⟩ := htr.named' (k := k) (by omega)
                refine CV.stillTail 12 (by kernel_rfl) (by kernel_rfl) (fun _ h => h.drew) ?_
                refine SV.step gno (Step.move rfl) rfl ?_
                refine SV.step gno (Step.move rfl) rfl ?_
                refine SV.step gno (Step.move rfl) rfl ?_
                refine SV.step gno (Step.idx Try.underlying38 I45 (fun w h => h.os 5 rfl) rfl rfl (by first | rfl | omega) _ rfl (by omega)) rfl ?_
                refine SV.step gno (Step.fieldAddr rfl (F45_0 _ _)) rfl ?_
                refine SV.step gno (Step.load Try.underlying3 rfl rfl (fun w h => (h.os 5 rfl).cell0 (by omega) rfl)) rfl ?_
                rw [hq1]
                refine SV.step gno (Step.move rfl) rfl ?_
                refine SV.step gno (Step.move rfl) rfl ?_
                refine SV.step gno (Step.idx Try.underlying38 I45 (fun w h => h.os 5 rfl) rfl rfl (by first | rfl | omega) _ rfl (by omega)) rfl ?_
                refine SV.step gno (Step.fieldAddr rfl (F45_3 _ _)) rfl ?_
                refine SV.step gno (Step.load Try.underlying33 rfl rfl (fun w h => (h.os 5 rfl).cell (by omega) rfl)) rfl ?_
                refine SV.step gno (Step.idx Try.underlying43 I33 (fun w h => h.os 6 rfl) rfl rfl (by first | rfl | omega) _ rfl (by omega)) rfl ?_
                refine SV.nil ?_
                show KV _ (wpList _ _ _ _) _ _
                refine RV.op (OV.storeE 6 (q) (_) (j := 0) [_] I33 rfl rfl rfl rfl rfl rfl (by omega) rfl (Nat.le_of_ble_eq_true rfl) gno ?_)
                refine RV.nil ?_
                refine KV.block_n ?_
                refine KV.then_n ?_
                refine KV.env [(1, _), (2, _), (7, _), (8, _), (10, _), (11, _), (12, _), (16, _), (18, _)] ⟨rfl, rfl, rfl, rfl, rfl, rfl, rfl, rfl, rfl, trivial⟩ ?_
                -- region 22 law.go:274
                refine CV.region ?_
                refine RV.op (OV.step gno (Step.move rfl) rfl ?_)
                (first | refine RV.op (OV.step gno (Step.add rfl rfl (wI64 (by omega) (by omega))) rfl ?_) | refine RV.op (OV.step gno (Step.add rfl rfl rfl) rfl ?_))
                refine RV.op (OV.step gno (Step.assign rfl) rfl ?_)
                refine RV.nil ?_
                refine KV.then_n ?_
                refine KV.env [(1, _), (2, _), (7, _), (8, _), (10, _), (11, _), (12, _), (16, _), (18, _)] ⟨rfl, rfl, rfl, rfl, rfl, rfl, rfl, rfl, rfl, trivial⟩ ?_
                refine KV.sel [0, 0, 0, 0, 0, 0, 0] [_, _, _, _, _, _, _] rfl ?_
                refine KV.loopI (k + 1) (by omega) (by omega) ⟨rfl, rfl, rfl, rfl, rfl, rfl, rfl, rfl, rfl, trivial⟩ (fun _ h => by rw [trS_done (by omega) hq1]; exact h)
              · -- False
                have hke : k = op2.length := by omega
                rw [hke, htr.get.2]
                refine RV.nil ?_
                refine KV.then_n ?_
                refine KV.env [(1, _), (2, _), (7, _), (8, _), (10, _), (11, _), (12, _), (16, _), (18, _), (81, _)] ⟨rfl, rfl, rfl, rfl, rfl, rfl, rfl, rfl, rfl, rfl, trivial⟩ ?_
                refine CV.cond_f rfl ?_
                refine CV.exit ?_
                refine KV.then_exit ?_
                refine KV.then_exit ?_
                refine KV.block_hit ?_
                refine KV.block_n ?_
                refine KV.then_n ?_
                refine KV.env [(1, _), (2, _), (7, _), (8, _), (10, _), (11, _), (12, _)] ⟨rfl, rfl, rfl, rfl, rfl, rfl, rfl, trivial⟩ ?_
                -- region 11 law.go:263
                refine CV.region ?_
                refine RV.op (OV.step gno (Step.move rfl) rfl ?_)
                (first | refine RV.op (OV.step gno (Step.add rfl rfl (wI64 (by omega) (by omega))) rfl ?_) | refine RV.op (OV.step gno (Step.add rfl rfl rfl) rfl ?_))
                refine RV.op (OV.step gno (Step.assign rfl) rfl ?_)
                refine RV.nil ?_
                refine KV.then_n ?_
                refine KV.env [(1, _), (2, _), (7, _), (8, _), (10, _), (11, _), (12, _)] ⟨rfl, rfl, rfl, rfl, rfl, rfl, rfl, trivial⟩ ?_
                refine KV.sel [0, 0, 0, 0, 0, 1] [_, _, _, _, _, _] rfl ?_
                first | refine KV.loop2 (y := st) (i + 1) st2 ⟨by omega, d1⟩ (by omega) ⟨rfl, rfl, rfl, rfl, rfl, rfl, rfl, trivial⟩ (fun _ h => h) | refine KV.loop2 (y := st2) (i + 1) st2 ⟨by omega, d1⟩ (by omega) ⟨rfl, rfl, rfl, rfl, rfl, rfl, rfl, trivial⟩ (fun _ h => h)
            · rw [decide_eq_false hnm]
              exact absurd htr.named hnm
        · -- False
          refine RV.nil ?_
          refine KV.then_n ?_
          refine KV.env [(1, _), (2, _), (7, _), (8, _), (10, _), (11, _), (12, _), (45, _)] ⟨rfl, rfl, rfl, rfl, rfl, rfl, rfl, rfl, trivial⟩ ?_
          refine CV.cond_f rfl ?_
          refine CV.exit ?_
          refine KV.then_exit ?_
          refine KV.then_exit ?_
          refine KV.block_hit ?_
          refine KV.then_n ?_
          refine KV.env [(2, _), (7, _), (8, _), (10, _)] ⟨rfl, rfl, rfl, rfl, trivial⟩ ?_
          refine CV.seq ?_
          refine CV.seq ?_
          -- region 24 law.go:278
          refine CV.region ?_
          refine RV.op (OV.step gno (Step.assign rfl) rfl ?_)
          refine RV.nil ?_
          refine KV.then_n ?_
          refine KV.env [(2, _), (7, _), (8, _), (10, _), (19, _)] ⟨rfl, rfl, rfl, rfl, rfl, trivial⟩ ?_
          refine CV.block ?_
          -- loop L25; live [2, 7, 8, 10, 19]
          refine KV.sel [0, 0, 0, 0, 0, 0] [_, _, _, _, _, _] rfl ?_
          refine CV.loopI (α := Nat) (fun k => k ≤ (someM raw).length) (fun k => (someM raw).length - k) (fun k => [(2, .int .u64 t), (7, .slice A2 (someM raw).length c2), (8, .pointer (some ⟨b, 0, none⟩)), (10, .slice A5 (someM raw).length (someM raw).length), (19, .int .i64 k)]) (fun _ => Hp I w ([OS 35 railK A2 c2 (someM raw)] ++ robj 73 b a st ++ [OS 33 (intK .u64) A5 (someM raw).length st.done])) 0 (Nat.zero_le _) ⟨rfl, rfl, rfl, rfl, rfl, trivial⟩ (fun _ h => h) ?_
          intro k hk
          refine CV.seq ?_
          refine CV.seq ?_
          -- region 25 law.go:278
          refine CV.region ?_
          refine RV.op (OV.step gno (Step.move rfl) rfl ?_)
          refine RV.op (OV.step gno (Step.move rfl) rfl ?_)
          refine RV.op (OV.step gno (Step.lenSl Try.underlying22 rfl) rfl ?_)
          refine RV.op (OV.split gno (Step.lss rfl rfl) rfl (fun hk2 => ?_) (fun hk2 => ?_))
          · -- True
            refine RV.nil ?_
            refine KV.then_n ?_
            refine KV.env [(2, _), (7, _), (8, _), (10, _), (19, _), (99, _)] ⟨rfl, rfl, rfl, rfl, rfl, rfl, trivial⟩ ?_
            refine CV.cond_t rfl ?_
            refine CV.skip ?_
            refine KV.then_n ?_
            refine KV.env [(2, _), (7, _), (8, _), (10, _), (19, _)] ⟨rfl, rfl, rfl, rfl, rfl, trivial⟩ ?_
            refine CV.seq ?_
            refine CV.block ?_
            refine CV.seq ?_
            -- region 27 law.go:279
            refine CV.region ?_
            refine RV.op (OV.step gno (Step.move rfl) rfl ?_)
            refine RV.op (OV.step gno (Step.move rfl) rfl ?_)
            refine RV.op (OV.call [1, 1, 1, 1] (F := [_, _]) Try.func21 B21 N21 rfl rfl (fun w h => readyAt_fn b a st k w hi.2.inv.wf) (fun _ hb => hb.elim) gno rfl (fun v L' hp => ?_))
            obtain ⟨rfl, rfl⟩ := hp
            refine RV.op (OV.step gno (Step.move rfl) rfl ?_)
            refine RV.op (OV.step gno (Step.extract0 rfl rfl) rfl ?_)
            refine RV.op (OV.step gno (Step.extract0 rfl rfl) rfl ?_)
            refine RV.op (OV.step gno (Step.assign rfl) rfl ?_)
            refine RV.op (OV.step gno (Step.assign rfl) rfl ?_)
            refine RV.nil ?_
            refine KV.then_n ?_
            refine KV.env [(2, _), (7, _), (8, _), (10, _), (19, _), (20, _), (21, _)] ⟨rfl, rfl, rfl, rfl, rfl, rfl, rfl, trivial⟩ ?_
            refine CV.seq ?_
            -- region 28 law.go:280
            have hc0 := hi.2.inv.c0 (j := k) (by omega)
            refine CV.region ?_
            refine RV.op (OV.step gno (Step.move rfl) rfl ?_)
            refine RV.op (OV.step gno (Step.move rfl) rfl ?_)
            refine RV.op (OV.step gno (Step.move rfl) rfl ?_)
            refine RV.op (OV.call [2, 2, 2, 2] (F := [_, _]) Try.func26 B26 N26 rfl rfl (fun w h => count_fn b a st k w hi.2.inv.wf) (fun _ hb => hb.elim) gno rfl (fun v L' hp => ?_))
            obtain ⟨rfl, rfl⟩ := hp
            rw [if_pos (show 0 ≤ (k : Int) ∧ (k : Int) < st.rails.length from ⟨by omega, by omega⟩), Int.toNat_natCast]
            refine RV.op (OV.step gno (Step.gtr rfl rfl) rfl ?_)
            refine RV.op (OV.split gno (Step.neqBool Try.underlying4 rfl rfl) rfl (fun cc1 => ?_) (fun cc1 => ?_))
            · -- True
              refine RV.op (OV.step gno (Step.move rfl) rfl ?_)
              refine RV.op (OV.skip rfl rfl ?_)
              refine RV.op (OV.skip rfl rfl ?_)
              refine RV.op (OV.skipU rfl rfl ?_)
              refine RV.op (OV.skipU rfl rfl ?_)
              refine RV.op (OV.skipU rfl rfl ?_)
              refine RV.op (OV.skipU rfl rfl ?_)
              refine RV.op (OV.skipU rfl rfl ?_)
              refine RV.op (OV.skipU rfl rfl ?_)
              refine RV.op (OV.skip rfl rfl ?_)
              refine RV.op (OV.step gno (Step.pick_t rfl rfl) rfl ?_)
              refine RV.op (OV.step gno (Step.move rfl) rfl ?_)
              refine RV.op (OV.skip rfl rfl ?_)
              refine RV.op (OV.skip rfl rfl ?_)
              refine RV.op (OV.skip rfl rfl ?_)
              refine RV.op (OV.skipU rfl rfl ?_)
              refine RV.op (OV.skipU rfl rfl ?_)
              refine RV.op (OV.skip rfl rfl ?_)
              refine RV.op (OV.step gno (Step.pick_t rfl rfl) rfl ?_)
              refine RV.op (OV.step gno (Step.move rfl) rfl ?_)
              refine RV.op (OV.skip rfl rfl ?_)
              refine RV.op (OV.skip rfl rfl ?_)
              refine RV.op (OV.skip rfl rfl ?_)
              refine RV.op (OV.skip rfl rfl ?_)
              refine RV.op (OV.skip rfl rfl ?_)
              refine RV.op (OV.skip rfl rfl ?_)
              refine RV.op (OV.skipU rfl rfl ?_)
              refine RV.op (OV.skipU rfl rfl ?_)
              refine RV.op (OV.skipU rfl rfl ?_)
              refine RV.op (OV.skip rfl rfl ?_)
              refine RV.op (OV.skip rfl rfl ?_)
              refine RV.op (OV.step gno (Step.pick_t rfl rfl) rfl ?_)
              refine RV.nil ?_
              refine KV.then_n ?_
              refine KV.env [(2, _), (7, _), (8, _), (10, _), (19, _), (145, _)] ⟨rfl, rfl, rfl, rfl, rfl, rfl, trivial⟩ ?_
              refine CV.cond_t rfl ?_
              refine CV.seq ?_
              -- region 29 law.go:281
              refine CV.region ?_
              refine RV.op (OV.step gno (Step.assign rfl) rfl ?_)
              refine RV.nil ?_
              refine KV.then_n ?_
              refine KV.env [(6, _)] ⟨rfl, trivial⟩ ?_
              refine CV.ret ?_
              refine KV.block_ret ?_
              refine KV.then_ret ?_
              refine KV.then_ret ?_
              refine KV.block_ret ?_
              refine KV.then_ret ?_
              -- return at r29
              refine KV.sel [] [] rfl ?_
              exfalso
              (simp only [bl] at *) <;> omega
            · -- False
              refine RV.op (OV.step gno (Step.move rfl) rfl ?_)
              refine RV.op (OV.step (gyes rfl) (Step.move rfl) rfl ?_)
              refine RV.op (OV.step (gyes rfl) (Step.move rfl) rfl ?_)
              refine KV.cases 116 rfl (fun cc2 => ?_) (fun cc2 => ?_)
              · -- True
                refine RV.op (OV.step (gyes rfl) (Step.move rfl) rfl ?_)
                refine RV.op (OV.step (gyes rfl) (Step.move rfl) rfl ?_)
                refine RV.op (OV.step (gyes rfl) (Step.move rfl) rfl ?_)
                refine RV.op (OV.step (gyes rfl) (Step.idx Try.underlying43 I33 (fun w h => h.os 1 rfl) rfl rfl (by first | rfl | omega) _ rfl (by omega)) rfl ?_)
                refine RV.op (OV.step (gyes rfl) (Step.load Try.underlying33 rfl rfl (fun w h => (h.os 1 rfl).cell0 (by omega) rfl)) rfl ?_)
                rw [show st.done.getD k (intK .u64).d = st.t k from rfl]
                refine RV.op (OV.split (gyes rfl) (Step.neq rfl rfl) rfl (fun cc3 => ?_) (fun cc3 => ?_))
                · -- True
                  refine RV.op (OV.step (gyes rfl) (Step.pick_t rfl rfl) rfl ?_)
                  refine RV.op (OV.step gno (Step.pick_f rfl rfl) rfl ?_)
                  refine RV.op (OV.step gno (Step.move rfl) rfl ?_)
                  refine RV.op (OV.skip rfl rfl ?_)
                  refine RV.op (OV.skip rfl rfl ?_)
                  refine RV.op (OV.skip rfl rfl ?_)
                  refine RV.op (OV.skipU rfl rfl ?_)
                  refine RV.op (OV.skipU rfl rfl ?_)
                  refine RV.op (OV.skip rfl rfl ?_)
                  refine RV.op (OV.step gno (Step.pick_t rfl rfl) rfl ?_)
                  refine RV.op (OV.step gno (Step.move rfl) rfl ?_)
                  refine RV.op (OV.skip rfl rfl ?_)
                  refine RV.op (OV.skip rfl rfl ?_)
                  refine RV.op (OV.skip rfl rfl ?_)
                  refine RV.op (OV.skip rfl rfl ?_)
                  refine RV.op (OV.skip rfl rfl ?_)
                  refine RV.op (OV.skip rfl rfl ?_)
                  refine RV.op (OV.skipU rfl rfl ?_)
                  refine RV.op (OV.skipU rfl rfl ?_)
                  refine RV.op (OV.skipU rfl rfl ?_)
                  refine RV.op (OV.skip rfl rfl ?_)
                  refine RV.op (OV.skip rfl rfl ?_)
                  refine RV.op (OV.step gno (Step.pick_t rfl rfl) rfl ?_)
                  refine RV.nil ?_
                  refine KV.then_n ?_
                  refine KV.env [(2, _), (7, _), (8, _), (10, _), (19, _), (145, _)] ⟨rfl, rfl, rfl, rfl, rfl, rfl, trivial⟩ ?_
                  refine CV.cond_t rfl ?_
                  refine CV.seq ?_
                  -- region 29 law.go:281
                  refine CV.region ?_
                  refine RV.op (OV.step gno (Step.assign rfl) rfl ?_)
                  refine RV.nil ?_
                  refine KV.then_n ?_
                  refine KV.env [(6, _)] ⟨rfl, trivial⟩ ?_
                  refine CV.ret ?_
                  refine KV.block_ret ?_
                  refine KV.then_ret ?_
                  refine KV.then_ret ?_
                  refine KV.block_ret ?_
                  refine KV.then_ret ?_
                  -- return at r29
                  refine KV.sel [] [] rfl ?_
                  exfalso
                  (simp only [bl] at *) <;> omega
                · -- False
                  refine RV.op (OV.step (gyes rfl) (Step.pick_t rfl rfl) rfl ?_)
                  refine RV.op (OV.step gno (Step.pick_f rfl rfl) rfl ?_)
                  refine RV.op (OV.step gno (Step.move rfl) rfl ?_)
                  refine RV.op (OV.step (gyes rfl) (Step.move rfl) rfl ?_)
                  refine RV.op (OV.step (gyes rfl) (Step.not rfl) rfl ?_)
                  refine RV.op (OV.step (gyes rfl) (Step.move rfl) rfl ?_)
                  refine KV.cases 128 rfl (fun cc4 => ?_) (fun cc4 => ?_)
                  · -- True
                    refine RV.op (OV.step (gyes rfl) (Step.move rfl) rfl ?_)
                    refine RV.op (OV.split (gyes rfl) (Step.neq rfl rfl) rfl (fun cc5 => ?_) (fun cc5 => ?_))
                    · -- True
                      refine RV.op (OV.step (gyes rfl) (Step.pick_t rfl rfl) rfl ?_)
                      refine RV.op (OV.step gno (Step.pick_f rfl rfl) rfl ?_)
                      refine RV.op (OV.step gno (Step.move rfl) rfl ?_)
                      refine RV.op (OV.skip rfl rfl ?_)
                      refine RV.op (OV.skip rfl rfl ?_)
                      refine RV.op (OV.skip rfl rfl ?_)
                      refine RV.op (OV.skip rfl rfl ?_)
                      refine RV.op (OV.skip rfl rfl ?_)
                      refine RV.op (OV.skip rfl rfl ?_)
                      refine RV.op (OV.skipU rfl rfl ?_)
                      refine RV.op (OV.skipU rfl rfl ?_)
                      refine RV.op (OV.skipU rfl rfl ?_)
                      refine RV.op (OV.skip rfl rfl ?_)
                      refine RV.op (OV.skip rfl rfl ?_)
                      refine RV.op (OV.step gno (Step.pick_t rfl rfl) rfl ?_)
                      refine RV.nil ?_
                      refine KV.then_n ?_
                      refine KV.env [(2, _), (7, _), (8, _), (10, _), (19, _), (145, _)] ⟨rfl, rfl, rfl, rfl, rfl, rfl, trivial⟩ ?_
                      refine CV.cond_t rfl ?_
                      refine CV.seq ?_
                      -- region 29 law.go:281
                      refine CV.region ?_
                      refine RV.op (OV.step gno (Step.assign rfl) rfl ?_)
                      refine RV.nil ?_
                      refine KV.then_n ?_
                      refine KV.env [(6, _)] ⟨rfl, trivial⟩ ?_
                      refine CV.ret ?_
                      refine KV.block_ret ?_
                      refine KV.then_ret ?_
                      refine KV.then_ret ?_
                      refine KV.block_ret ?_
                      refine KV.then_ret ?_
                      -- return at r29
                      refine KV.sel [] [] rfl ?_
                      exfalso
                      (simp only [bl] at *) <;> omega
                    · -- False
                      refine RV.op (OV.step (gyes rfl) (Step.pick_t rfl rfl) rfl ?_)
                      refine RV.op (OV.step gno (Step.pick_f rfl rfl) rfl ?_)
                      refine RV.op (OV.step gno (Step.move rfl) rfl ?_)
                      refine RV.op (OV.step (gyes rfl) (Step.move rfl) rfl ?_)
                      refine RV.op (OV.step (gyes rfl) (Step.move rfl) rfl ?_)
                      refine RV.op (OV.step (gyes rfl) (Step.move rfl) rfl ?_)
                      refine RV.op (OV.call [2, 2, 2, 2] (F := [_, _]) Try.func22 B22 N22 rfl rfl (fun w h => powered_fn b a st k t w hi.2.inv.wf) (fun _ hb => hb.elim) (gyes rfl) rfl (fun v L' hp => ?_))
                      obtain ⟨rfl, rfl⟩ := hp
                      by_cases hpw : ((0 ≤ (k : Int) ∧ (k : Int) < st.rails.length) ∧ ¬ st.c (k : Int).toNat = 0) ∧ st.t (k : Int).toNat ≤ t
                      · rw [decide_eq_true hpw]
                        refine RV.op (OV.step (gyes rfl) (Step.move rfl) rfl ?_)
                        refine RV.op (OV.step (gyes rfl) (Step.move rfl) rfl ?_)
                        refine KV.cases 139 rfl (fun cc6 => ?_) (fun cc6 => ?_)
                        · -- True
                          refine RV.op (OV.step (gyes rfl) (Step.move rfl) rfl ?_)
                          refine RV.op (OV.step (gyes rfl) (Step.move rfl) rfl ?_)
                          refine RV.op (OV.split (gyes rfl) (Step.leq rfl rfl) rfl (fun cc7 => ?_) (fun cc7 => ?_))
                          · -- True
                            refine RV.op (OV.step (gyes rfl) (Step.pick_t rfl rfl) rfl ?_)
                            refine RV.op (OV.split (gyes rfl) (Step.neqBool Try.underlying4 rfl rfl) rfl (fun cc8 => ?_) (fun cc8 => ?_))
                            · -- True
                              refine RV.op (OV.step gno (Step.pick_f rfl rfl) rfl ?_)
                              refine RV.nil ?_
                              refine KV.then_n ?_
                              refine KV.env [(2, _), (7, _), (8, _), (10, _), (19, _), (145, _)] ⟨rfl, rfl, rfl, rfl, rfl, rfl, trivial⟩ ?_
                              refine CV.cond_t rfl ?_
                              refine CV.seq ?_
                              -- region 29 law.go:281
                              refine CV.region ?_
                              refine RV.op (OV.step gno (Step.assign rfl) rfl ?_)
                              refine RV.nil ?_
                              refine KV.then_n ?_
                              refine KV.env [(6, _)] ⟨rfl, trivial⟩ ?_
                              refine CV.ret ?_
                              refine KV.block_ret ?_
                              refine KV.then_ret ?_
                              refine KV.then_ret ?_
                              refine KV.block_ret ?_
                              refine KV.then_ret ?_
                              -- return at r29
                              refine KV.sel [] [] rfl ?_
                              exfalso
                              (simp only [bl] at *) <;> omega
                            · -- False
                              refine RV.op (OV.step gno (Step.pick_f rfl rfl) rfl ?_)
                              refine RV.nil ?_
                              refine KV.then_n ?_
                              refine KV.env [(2, _), (7, _), (8, _), (10, _), (19, _), (145, _)] ⟨rfl, rfl, rfl, rfl, rfl, rfl, trivial⟩ ?_
                              refine CV.cond_f rfl ?_
                              refine CV.skip ?_
                              refine KV.block_n ?_
                              refine KV.then_n ?_
                              refine KV.env [(2, _), (7, _), (8, _), (10, _), (19, _)] ⟨rfl, rfl, rfl, rfl, rfl, trivial⟩ ?_
                              -- region 26 law.go:278
                              refine CV.region ?_
                              refine RV.op (OV.step gno (Step.move rfl) rfl ?_)
                              (first | refine RV.op (OV.step gno (Step.add rfl rfl (wI64 (by omega) (by omega))) rfl ?_) | refine RV.op (OV.step gno (Step.add rfl rfl rfl) rfl ?_))
                              refine RV.op (OV.step gno (Step.assign rfl) rfl ?_)
                              refine RV.nil ?_
                              refine KV.then_n ?_
                              refine KV.env [(2, _), (7, _), (8, _), (10, _), (19, _)] ⟨rfl, rfl, rfl, rfl, rfl, trivial⟩ ?_
                              refine KV.sel [0, 1, 1, 1, 1, 0] [_, _, _, _, _, _] rfl ?_
                              refine KV.loopI (k + 1) (by omega) (by omega) ⟨rfl, rfl, rfl, rfl, rfl, trivial⟩ (fun _ h => h)
                          · -- False
                            refine RV.op (OV.step (gyes rfl) (Step.pick_t rfl rfl) rfl ?_)
                            refine RV.op (OV.split (gyes rfl) (Step.neqBool Try.underlying4 rfl rfl) rfl (fun cc9 => ?_) (fun cc9 => ?_))
                            · -- True
                              refine RV.op (OV.step gno (Step.pick_f rfl rfl) rfl ?_)
                              refine RV.nil ?_
                              refine KV.then_n ?_
                              refine KV.env [(2, _), (7, _), (8, _), (10, _), (19, _), (145, _)] ⟨rfl, rfl, rfl, rfl, rfl, rfl, trivial⟩ ?_
                              refine CV.cond_t rfl ?_
                              refine CV.seq ?_
                              -- region 29 law.go:281
                              refine CV.region ?_
                              refine RV.op (OV.step gno (Step.assign rfl) rfl ?_)
                              refine RV.nil ?_
                              refine KV.then_n ?_
                              refine KV.env [(6, _)] ⟨rfl, trivial⟩ ?_
                              refine CV.ret ?_
                              refine KV.block_ret ?_
                              refine KV.then_ret ?_
                              refine KV.then_ret ?_
                              refine KV.block_ret ?_
                              refine KV.then_ret ?_
                              -- return at r29
                              refine KV.sel [] [] rfl ?_
                              exfalso
                              (simp only [bl] at *) <;> omega
                            · -- False
                              refine RV.op (OV.step gno (Step.pick_f rfl rfl) rfl ?_)
                              refine RV.nil ?_
                              refine KV.then_n ?_
                              refine KV.env [(2, _), (7, _), (8, _), (10, _), (19, _), (145, _)] ⟨rfl, rfl, rfl, rfl, rfl, rfl, trivial⟩ ?_
                              refine CV.cond_f rfl ?_
                              refine CV.skip ?_
                              refine KV.block_n ?_
                              refine KV.then_n ?_
                              refine KV.env [(2, _), (7, _), (8, _), (10, _), (19, _)] ⟨rfl, rfl, rfl, rfl, rfl, trivial⟩ ?_
                              -- region 26 law.go:278
                              refine CV.region ?_
                              refine RV.op (OV.step gno (Step.move rfl) rfl ?_)
                              (first | refine RV.op (OV.step gno (Step.add rfl rfl (wI64 (by omega) (by omega))) rfl ?_) | refine RV.op (OV.step gno (Step.add rfl rfl rfl) rfl ?_))
                              refine RV.op (OV.step gno (Step.assign rfl) rfl ?_)
                              refine RV.nil ?_
                              refine KV.then_n ?_
                              refine KV.env [(2, _), (7, _), (8, _), (10, _), (19, _)] ⟨rfl, rfl, rfl, rfl, rfl, trivial⟩ ?_
                              refine KV.sel [0, 1, 1, 1, 1, 0] [_, _, _, _, _, _] rfl ?_
                              refine KV.loopI (k + 1) (by omega) (by omega) ⟨rfl, rfl, rfl, rfl, rfl, trivial⟩ (fun _ h => h)
                        · -- False
                          refine RV.op (OV.skip rfl rfl ?_)
                          refine RV.op (OV.skip rfl rfl ?_)
                          refine RV.op (OV.skip rfl rfl ?_)
                          refine RV.op (OV.step (gyes rfl) (Step.pick_f rfl rfl) rfl ?_)
                          refine RV.op (OV.split (gyes rfl) (Step.neqBool Try.underlying4 rfl rfl) rfl (fun cc10 => ?_) (fun cc10 => ?_))
                          · -- True
                            refine RV.op (OV.step gno (Step.pick_f rfl rfl) rfl ?_)
                            refine RV.nil ?_
                            refine KV.then_n ?_
                            refine KV.env [(2, _), (7, _), (8, _), (10, _), (19, _), (145, _)] ⟨rfl, rfl, rfl, rfl, rfl, rfl, trivial⟩ ?_
                            refine CV.cond_t rfl ?_
                            refine CV.seq ?_
                            -- region 29 law.go:281
                            refine CV.region ?_
                            refine RV.op (OV.step gno (Step.assign rfl) rfl ?_)
                            refine RV.nil ?_
                            refine KV.then_n ?_
                            refine KV.env [(6, _)] ⟨rfl, trivial⟩ ?_
                            refine CV.ret ?_
                            refine KV.block_ret ?_
                            refine KV.then_ret ?_
                            refine KV.then_ret ?_
                            refine KV.block_ret ?_
                            refine KV.then_ret ?_
                            -- return at r29
                            refine KV.sel [] [] rfl ?_
                            exfalso
                            (simp only [bl] at *) <;> omega
                          · -- False
                            refine RV.op (OV.step gno (Step.pick_f rfl rfl) rfl ?_)
                            refine RV.nil ?_
                            refine KV.then_n ?_
                            refine KV.env [(2, _), (7, _), (8, _), (10, _), (19, _), (145, _)] ⟨rfl, rfl, rfl, rfl, rfl, rfl, trivial⟩ ?_
                            refine CV.cond_f rfl ?_
                            refine CV.skip ?_
                            refine KV.block_n ?_
                            refine KV.then_n ?_
                            refine KV.env [(2, _), (7, _), (8, _), (10, _), (19, _)] ⟨rfl, rfl, rfl, rfl, rfl, trivial⟩ ?_
                            -- region 26 law.go:278
                            refine CV.region ?_
                            refine RV.op (OV.step gno (Step.move rfl) rfl ?_)
                            (first | refine RV.op (OV.step gno (Step.add rfl rfl (wI64 (by omega) (by omega))) rfl ?_) | refine RV.op (OV.step gno (Step.add rfl rfl rfl) rfl ?_))
                            refine RV.op (OV.step gno (Step.assign rfl) rfl ?_)
                            refine RV.nil ?_
                            refine KV.then_n ?_
                            refine KV.env [(2, _), (7, _), (8, _), (10, _), (19, _)] ⟨rfl, rfl, rfl, rfl, rfl, trivial⟩ ?_
                            refine KV.sel [0, 1, 1, 1, 1, 0] [_, _, _, _, _, _] rfl ?_
                            refine KV.loopI (k + 1) (by omega) (by omega) ⟨rfl, rfl, rfl, rfl, rfl, trivial⟩ (fun _ h => h)
                      · rw [decide_eq_false hpw]
                        refine RV.op (OV.step (gyes rfl) (Step.move rfl) rfl ?_)
                        refine RV.op (OV.step (gyes rfl) (Step.move rfl) rfl ?_)
                        refine KV.cases 139 rfl (fun cc11 => ?_) (fun cc11 => ?_)
                        · -- True
                          refine RV.op (OV.step (gyes rfl) (Step.move rfl) rfl ?_)
                          refine RV.op (OV.step (gyes rfl) (Step.move rfl) rfl ?_)
                          refine RV.op (OV.split (gyes rfl) (Step.leq rfl rfl) rfl (fun cc12 => ?_) (fun cc12 => ?_))
                          · -- True
                            refine RV.op (OV.step (gyes rfl) (Step.pick_t rfl rfl) rfl ?_)
                            refine RV.op (OV.split (gyes rfl) (Step.neqBool Try.underlying4 rfl rfl) rfl (fun cc13 => ?_) (fun cc13 => ?_))
                            · -- True
                              refine RV.op (OV.step gno (Step.pick_f rfl rfl) rfl ?_)
                              refine RV.nil ?_
                              refine KV.then_n ?_
                              refine KV.env [(2, _), (7, _), (8, _), (10, _), (19, _), (145, _)] ⟨rfl, rfl, rfl, rfl, rfl, rfl, trivial⟩ ?_
                              refine CV.cond_t rfl ?_
                              refine CV.seq ?_
                              -- region 29 law.go:281
                              refine CV.region ?_
                              refine RV.op (OV.step gno (Step.assign rfl) rfl ?_)
                              refine RV.nil ?_
                              refine KV.then_n ?_
                              refine KV.env [(6, _)] ⟨rfl, trivial⟩ ?_
                              refine CV.ret ?_
                              refine KV.block_ret ?_
                              refine KV.then_ret ?_
                              refine KV.then_ret ?_
                              refine KV.block_ret ?_
                              refine KV.then_ret ?_
                              -- return at r29
                              refine KV.sel [] [] rfl ?_
                              exfalso
                              (simp only [bl] at *) <;> omega
                            · -- False
                              refine RV.op (OV.step gno (Step.pick_f rfl rfl) rfl ?_)
                              refine RV.nil ?_
                              refine KV.then_n ?_
                              refine KV.env [(2, _), (7, _), (8, _), (10, _), (19, _), (145, _)] ⟨rfl, rfl, rfl, rfl, rfl, rfl, trivial⟩ ?_
                              refine CV.cond_f rfl ?_
                              refine CV.skip ?_
                              refine KV.block_n ?_
                              refine KV.then_n ?_
                              refine KV.env [(2, _), (7, _), (8, _), (10, _), (19, _)] ⟨rfl, rfl, rfl, rfl, rfl, trivial⟩ ?_
                              -- region 26 law.go:278
                              refine CV.region ?_
                              refine RV.op (OV.step gno (Step.move rfl) rfl ?_)
                              (first | refine RV.op (OV.step gno (Step.add rfl rfl (wI64 (by omega) (by omega))) rfl ?_) | refine RV.op (OV.step gno (Step.add rfl rfl rfl) rfl ?_))
                              refine RV.op (OV.step gno (Step.assign rfl) rfl ?_)
                              refine RV.nil ?_
                              refine KV.then_n ?_
                              refine KV.env [(2, _), (7, _), (8, _), (10, _), (19, _)] ⟨rfl, rfl, rfl, rfl, rfl, trivial⟩ ?_
                              refine KV.sel [0, 1, 1, 1, 1, 0] [_, _, _, _, _, _] rfl ?_
                              refine KV.loopI (k + 1) (by omega) (by omega) ⟨rfl, rfl, rfl, rfl, rfl, trivial⟩ (fun _ h => h)
                          · -- False
                            refine RV.op (OV.step (gyes rfl) (Step.pick_t rfl rfl) rfl ?_)
                            refine RV.op (OV.split (gyes rfl) (Step.neqBool Try.underlying4 rfl rfl) rfl (fun cc14 => ?_) (fun cc14 => ?_))
                            · -- True
                              refine RV.op (OV.step gno (Step.pick_f rfl rfl) rfl ?_)
                              refine RV.nil ?_
                              refine KV.then_n ?_
                              refine KV.env [(2, _), (7, _), (8, _), (10, _), (19, _), (145, _)] ⟨rfl, rfl, rfl, rfl, rfl, rfl, trivial⟩ ?_
                              refine CV.cond_t rfl ?_
                              refine CV.seq ?_
                              -- region 29 law.go:281
                              refine CV.region ?_
                              refine RV.op (OV.step gno (Step.assign rfl) rfl ?_)
                              refine RV.nil ?_
                              refine KV.then_n ?_
                              refine KV.env [(6, _)] ⟨rfl, trivial⟩ ?_
                              refine CV.ret ?_
                              refine KV.block_ret ?_
                              refine KV.then_ret ?_
                              refine KV.then_ret ?_
                              refine KV.block_ret ?_
                              refine KV.then_ret ?_
                              -- return at r29
                              refine KV.sel [] [] rfl ?_
                              exfalso
                              (simp only [bl] at *) <;> omega
                            · -- False
                              refine RV.op (OV.step gno (Step.pick_f rfl rfl) rfl ?_)
                              refine RV.nil ?_
                              refine KV.then_n ?_
                              refine KV.env [(2, _), (7, _), (8, _), (10, _), (19, _), (145, _)] ⟨rfl, rfl, rfl, rfl, rfl, rfl, trivial⟩ ?_
                              refine CV.cond_f rfl ?_
                              refine CV.skip ?_
                              refine KV.block_n ?_
                              refine KV.then_n ?_
                              refine KV.env [(2, _), (7, _), (8, _), (10, _), (19, _)] ⟨rfl, rfl, rfl, rfl, rfl, trivial⟩ ?_
                              -- region 26 law.go:278
                              refine CV.region ?_
                              refine RV.op (OV.step gno (Step.move rfl) rfl ?_)
                              (first | refine RV.op (OV.step gno (Step.add rfl rfl (wI64 (by omega) (by omega))) rfl ?_) | refine RV.op (OV.step gno (Step.add rfl rfl rfl) rfl ?_))
                              refine RV.op (OV.step gno (Step.assign rfl) rfl ?_)
                              refine RV.nil ?_
                              refine KV.then_n ?_
                              refine KV.env [(2, _), (7, _), (8, _), (10, _), (19, _)] ⟨rfl, rfl, rfl, rfl, rfl, trivial⟩ ?_
                              refine KV.sel [0, 1, 1, 1, 1, 0] [_, _, _, _, _, _] rfl ?_
                              refine KV.loopI (k + 1) (by omega) (by omega) ⟨rfl, rfl, rfl, rfl, rfl, trivial⟩ (fun _ h => h)
                        · -- False
                          refine RV.op (OV.skip rfl rfl ?_)
                          refine RV.op (OV.skip rfl rfl ?_)
                          refine RV.op (OV.skip rfl rfl ?_)
                          refine RV.op (OV.step (gyes rfl) (Step.pick_f rfl rfl) rfl ?_)
                          refine RV.op (OV.split (gyes rfl) (Step.neqBool Try.underlying4 rfl rfl) rfl (fun cc15 => ?_) (fun cc15 => ?_))
                          · -- True
                            refine RV.op (OV.step gno (Step.pick_f rfl rfl) rfl ?_)
                            refine RV.nil ?_
                            refine KV.then_n ?_
                            refine KV.env [(2, _), (7, _), (8, _), (10, _), (19, _), (145, _)] ⟨rfl, rfl, rfl, rfl, rfl, rfl, trivial⟩ ?_
                            refine CV.cond_t rfl ?_
                            refine CV.seq ?_
                            -- region 29 law.go:281
                            refine CV.region ?_
                            refine RV.op (OV.step gno (Step.assign rfl) rfl ?_)
                            refine RV.nil ?_
                            refine KV.then_n ?_
                            refine KV.env [(6, _)] ⟨rfl, trivial⟩ ?_
                            refine CV.ret ?_
                            refine KV.block_ret ?_
                            refine KV.then_ret ?_
                            refine KV.then_ret ?_
                            refine KV.block_ret ?_
                            refine KV.then_ret ?_
                            -- return at r29
                            refine KV.sel [] [] rfl ?_
                            exfalso
                            (simp only [bl] at *) <;> omega
                          · -- False
                            refine RV.op (OV.step gno (Step.pick_f rfl rfl) rfl ?_)
                            refine RV.nil ?_
                            refine KV.then_n ?_
                            refine KV.env [(2, _), (7, _), (8, _), (10, _), (19, _), (145, _)] ⟨rfl, rfl, rfl, rfl, rfl, rfl, trivial⟩ ?_
                            refine CV.cond_f rfl ?_
                            refine CV.skip ?_
                            refine KV.block_n ?_
                            refine KV.then_n ?_
                            refine KV.env [(2, _), (7, _), (8, _), (10, _), (19, _)] ⟨rfl, rfl, rfl, rfl, rfl, trivial⟩ ?_
                            -- region 26 law.go:278
                            refine CV.region ?_
                            refine RV.op (OV.step gno (Step.move rfl) rfl ?_)
                            (first | refine RV.op (OV.step gno (Step.add rfl rfl (wI64 (by omega) (by omega))) rfl ?_) | refine RV.op (OV.step gno (Step.add rfl rfl rfl) rfl ?_))
                            refine RV.op (OV.step gno (Step.assign rfl) rfl ?_)
                            refine RV.nil ?_
                            refine KV.then_n ?_
                            refine KV.env [(2, _), (7, _), (8, _), (10, _), (19, _)] ⟨rfl, rfl, rfl, rfl, rfl, trivial⟩ ?_
                            refine KV.sel [0, 1, 1, 1, 1, 0] [_, _, _, _, _, _] rfl ?_
                            refine KV.loopI (k + 1) (by omega) (by omega) ⟨rfl, rfl, rfl, rfl, rfl, trivial⟩ (fun _ h => h)
                  · -- False
                    refine RV.op (OV.skip rfl rfl ?_)
                    refine RV.op (OV.skip rfl rfl ?_)
                    refine RV.op (OV.step (gyes rfl) (Step.pick_f rfl rfl) rfl ?_)
                    refine RV.op (OV.step gno (Step.pick_f rfl rfl) rfl ?_)
                    refine RV.op (OV.step gno (Step.move rfl) rfl ?_)
                    refine RV.op (OV.step (gyes rfl) (Step.move rfl) rfl ?_)
                    refine RV.op (OV.step (gyes rfl) (Step.move rfl) rfl ?_)
                    refine RV.op (OV.step (gyes rfl) (Step.move rfl) rfl ?_)
                    refine RV.op (OV.call [2, 2, 2, 2] (F := [_, _]) Try.func22 B22 N22 rfl rfl (fun w h => powered_fn b a st k t w hi.2.inv.wf) (fun _ hb => hb.elim) (gyes rfl) rfl (fun v L' hp => ?_))
                    obtain ⟨rfl, rfl⟩ := hp
                    by_cases hpw : ((0 ≤ (k : Int) ∧ (k : Int) < st.rails.length) ∧ ¬ st.c (k : Int).toNat = 0) ∧ st.t (k : Int).toNat ≤ t
                    · rw [decide_eq_true hpw]
                      refine RV.op (OV.step (gyes rfl) (Step.move rfl) rfl ?_)
                      refine RV.op (OV.step (gyes rfl) (Step.move rfl) rfl ?_)
                      refine KV.cases 139 rfl (fun cc16 => ?_) (fun cc16 => ?_)
                      · -- True
                        refine RV.op (OV.step (gyes rfl) (Step.move rfl) rfl ?_)
                        refine RV.op (OV.step (gyes rfl) (Step.move rfl) rfl ?_)
                        refine RV.op (OV.split (gyes rfl) (Step.leq rfl rfl) rfl (fun cc17 => ?_) (fun cc17 => ?_))
                        · -- True
                          refine RV.op (OV.step (gyes rfl) (Step.pick_t rfl rfl) rfl ?_)
                          refine RV.op (OV.split (gyes rfl) (Step.neqBool Try.underlying4 rfl rfl) rfl (fun cc18 => ?_) (fun cc18 => ?_))
                          · -- True
                            refine RV.op (OV.step gno (Step.pick_f rfl rfl) rfl ?_)
                            refine RV.nil ?_
                            refine KV.then_n ?_
                            refine KV.env [(2, _), (7, _), (8, _), (10, _), (19, _), (145, _)] ⟨rfl, rfl, rfl, rfl, rfl, rfl, trivial⟩ ?_
                            refine CV.cond_t rfl ?_
                            refine CV.seq ?_
                            -- region 29 law.go:281
                            refine CV.region ?_
                            refine RV.op (OV.step gno (Step.assign rfl) rfl ?_)
                            refine RV.nil ?_
                            refine KV.then_n ?_
                            refine KV.env [(6, _)] ⟨rfl, trivial⟩ ?_
                            refine CV.ret ?_
                            refine KV.block_ret ?_
                            refine KV.then_ret ?_
                            refine KV.then_ret ?_
                            refine KV.block_ret ?_
                            refine KV.then_ret ?_
                            -- return at r29
                            refine KV.sel [] [] rfl ?_
                            exfalso
                            (simp only [bl] at *) <;> omega
                          · -- False
                            refine RV.op (OV.step gno (Step.pick_f rfl rfl) rfl ?_)
                            refine RV.nil ?_
                            refine KV.then_n ?_
                            refine KV.env [(2, _), (7, _), (8, _), (10, _), (19, _), (145, _)] ⟨rfl, rfl, rfl, rfl, rfl, rfl, trivial⟩ ?_
                            refine CV.cond_f rfl ?_
                            refine CV.skip ?_
                            refine KV.block_n ?_
                            refine KV.then_n ?_
                            refine KV.env [(2, _), (7, _), (8, _), (10, _), (19, _)] ⟨rfl, rfl, rfl, rfl, rfl, trivial⟩ ?_
                            -- region 26 law.go:278
                            refine CV.region ?_
                            refine RV.op (OV.step gno (Step.move rfl) rfl ?_)
                            (first | refine RV.op (OV.step gno (Step.add rfl rfl (wI64 (by omega) (by omega))) rfl ?_) | refine RV.op (OV.step gno (Step.add rfl rfl rfl) rfl ?_))
                            refine RV.op (OV.step gno (Step.assign rfl) rfl ?_)
                            refine RV.nil ?_
                            refine KV.then_n ?_
                            refine KV.env [(2, _), (7, _), (8, _), (10, _), (19, _)] ⟨rfl, rfl, rfl, rfl, rfl, trivial⟩ ?_
                            refine KV.sel [0, 1, 1, 1, 1, 0] [_, _, _, _, _, _] rfl ?_
                            refine KV.loopI (k + 1) (by omega) (by omega) ⟨rfl, rfl, rfl, rfl, rfl, trivial⟩ (fun _ h => h)
                        · -- False
                          refine RV.op (OV.step (gyes rfl) (Step.pick_t rfl rfl) rfl ?_)
                          refine RV.op (OV.split (gyes rfl) (Step.neqBool Try.underlying4 rfl rfl) rfl (fun cc19 => ?_) (fun cc19 => ?_))
                          · -- True
                            refine RV.op (OV.step gno (Step.pick_f rfl rfl) rfl ?_)
                            refine RV.nil ?_
                            refine KV.then_n ?_
                            refine KV.env [(2, _), (7, _), (8, _), (10, _), (19, _), (145, _)] ⟨rfl, rfl, rfl, rfl, rfl, rfl, trivial⟩ ?_
                            refine CV.cond_t rfl ?_
                            refine CV.seq ?_
                            -- region 29 law.go:281
                            refine CV.region ?_
                            refine RV.op (OV.step gno (Step.assign rfl) rfl ?_)
                            refine RV.nil ?_
                            refine KV.then_n ?_
                            refine KV.env [(6, _)] ⟨rfl, trivial⟩ ?_
                            refine CV.ret ?_
                            refine KV.block_ret ?_
                            refine KV.then_ret ?_
                            refine KV.then_ret ?_
                            refine KV.block_ret ?_
                            refine KV.then_ret ?_
                            -- return at r29
                            refine KV.sel [] [] rfl ?_
                            exfalso
                            (simp only [bl] at *) <;> omega
                          · -- False
                            refine RV.op (OV.step gno (Step.pick_f rfl rfl) rfl ?_)
                            refine RV.nil ?_
                            refine KV.then_n ?_
                            refine KV.env [(2, _), (7, _), (8, _), (10, _), (19, _), (145, _)] ⟨rfl, rfl, rfl, rfl, rfl, rfl, trivial⟩ ?_
                            refine CV.cond_f rfl ?_
                            refine CV.skip ?_
                            refine KV.block_n ?_
                            refine KV.then_n ?_
                            refine KV.env [(2, _), (7, _), (8, _), (10, _), (19, _)] ⟨rfl, rfl, rfl, rfl, rfl, trivial⟩ ?_
                            -- region 26 law.go:278
                            refine CV.region ?_
                            refine RV.op (OV.step gno (Step.move rfl) rfl ?_)
                            (first | refine RV.op (OV.step gno (Step.add rfl rfl (wI64 (by omega) (by omega))) rfl ?_) | refine RV.op (OV.step gno (Step.add rfl rfl rfl) rfl ?_))
                            refine RV.op (OV.step gno (Step.assign rfl) rfl ?_)
                            refine RV.nil ?_
                            refine KV.then_n ?_
                            refine KV.env [(2, _), (7, _), (8, _), (10, _), (19, _)] ⟨rfl, rfl, rfl, rfl, rfl, trivial⟩ ?_
                            refine KV.sel [0, 1, 1, 1, 1, 0] [_, _, _, _, _, _] rfl ?_
                            refine KV.loopI (k + 1) (by omega) (by omega) ⟨rfl, rfl, rfl, rfl, rfl, trivial⟩ (fun _ h => h)
                      · -- False
                        refine RV.op (OV.skip rfl rfl ?_)
                        refine RV.op (OV.skip rfl rfl ?_)
                        refine RV.op (OV.skip rfl rfl ?_)
                        refine RV.op (OV.step (gyes rfl) (Step.pick_f rfl rfl) rfl ?_)
                        refine RV.op (OV.split (gyes rfl) (Step.neqBool Try.underlying4 rfl rfl) rfl (fun cc20 => ?_) (fun cc20 => ?_))
                        · -- True
                          refine RV.op (OV.step gno (Step.pick_f rfl rfl) rfl ?_)
                          refine RV.nil ?_
                          refine KV.then_n ?_
                          refine KV.env [(2, _), (7, _), (8, _), (10, _), (19, _), (145, _)] ⟨rfl, rfl, rfl, rfl, rfl, rfl, trivial⟩ ?_
                          refine CV.cond_t rfl ?_
                          refine CV.seq ?_
                          -- region 29 law.go:281
                          refine CV.region ?_
                          refine RV.op (OV.step gno (Step.assign rfl) rfl ?_)
                          refine RV.nil ?_
                          refine KV.then_n ?_
                          refine KV.env [(6, _)] ⟨rfl, trivial⟩ ?_
                          refine CV.ret ?_
                          refine KV.block_ret ?_
                          refine KV.then_ret ?_
                          refine KV.then_ret ?_
                          refine KV.block_ret ?_
                          refine KV.then_ret ?_
                          -- return at r29
                          refine KV.sel [] [] rfl ?_
                          exfalso
                          (simp only [bl] at *) <;> omega
                        · -- False
                          refine RV.op (OV.step gno (Step.pick_f rfl rfl) rfl ?_)
                          refine RV.nil ?_
                          refine KV.then_n ?_
                          refine KV.env [(2, _), (7, _), (8, _), (10, _), (19, _), (145, _)] ⟨rfl, rfl, rfl, rfl, rfl, rfl, trivial⟩ ?_
                          refine CV.cond_f rfl ?_
                          refine CV.skip ?_
                          refine KV.block_n ?_
                          refine KV.then_n ?_
                          refine KV.env [(2, _), (7, _), (8, _), (10, _), (19, _)] ⟨rfl, rfl, rfl, rfl, rfl, trivial⟩ ?_
                          -- region 26 law.go:278
                          refine CV.region ?_
                          refine RV.op (OV.step gno (Step.move rfl) rfl ?_)
                          (first | refine RV.op (OV.step gno (Step.add rfl rfl (wI64 (by omega) (by omega))) rfl ?_) | refine RV.op (OV.step gno (Step.add rfl rfl rfl) rfl ?_))
                          refine RV.op (OV.step gno (Step.assign rfl) rfl ?_)
                          refine RV.nil ?_
                          refine KV.then_n ?_
                          refine KV.env [(2, _), (7, _), (8, _), (10, _), (19, _)] ⟨rfl, rfl, rfl, rfl, rfl, trivial⟩ ?_
                          refine KV.sel [0, 1, 1, 1, 1, 0] [_, _, _, _, _, _] rfl ?_
                          refine KV.loopI (k + 1) (by omega) (by omega) ⟨rfl, rfl, rfl, rfl, rfl, trivial⟩ (fun _ h => h)
                    · rw [decide_eq_false hpw]
                      refine RV.op (OV.step (gyes rfl) (Step.move rfl) rfl ?_)
                      refine RV.op (OV.step (gyes rfl) (Step.move rfl) rfl ?_)
                      refine KV.cases 139 rfl (fun cc21 => ?_) (fun cc21 => ?_)
                      · -- True
                        refine RV.op (OV.step (gyes rfl) (Step.move rfl) rfl ?_)
                        refine RV.op (OV.step (gyes rfl) (Step.move rfl) rfl ?_)
                        refine RV.op (OV.split (gyes rfl) (Step.leq rfl rfl) rfl (fun cc22 => ?_) (fun cc22 => ?_))
                        · -- True
                          refine RV.op (OV.step (gyes rfl) (Step.pick_t rfl rfl) rfl ?_)
                          refine RV.op (OV.split (gyes rfl) (Step.neqBool Try.underlying4 rfl rfl) rfl (fun cc23 => ?_) (fun cc23 => ?_))
                          · -- True
                            refine RV.op (OV.step gno (Step.pick_f rfl rfl) rfl ?_)
                            refine RV.nil ?_
                            refine KV.then_n ?_
                            refine KV.env [(2, _), (7, _), (8, _), (10, _), (19, _), (145, _)] ⟨rfl, rfl, rfl, rfl, rfl, rfl, trivial⟩ ?_
                            refine CV.cond_t rfl ?_
                            refine CV.seq ?_
                            -- region 29 law.go:281
                            refine CV.region ?_
                            refine RV.op (OV.step gno (Step.assign rfl) rfl ?_)
                            refine RV.nil ?_
                            refine KV.then_n ?_
                            refine KV.env [(6, _)] ⟨rfl, trivial⟩ ?_
                            refine CV.ret ?_
                            refine KV.block_ret ?_
                            refine KV.then_ret ?_
                            refine KV.then_ret ?_
                            refine KV.block_ret ?_
                            refine KV.then_ret ?_
                            -- return at r29
                            refine KV.sel [] [] rfl ?_
                            exfalso
                            (simp only [bl] at *) <;> omega
                          · -- False
                            refine RV.op (OV.step gno (Step.pick_f rfl rfl) rfl ?_)
                            refine RV.nil ?_
                            refine KV.then_n ?_
                            refine KV.env [(2, _), (7, _), (8, _), (10, _), (19, _), (145, _)] ⟨rfl, rfl, rfl, rfl, rfl, rfl, trivial⟩ ?_
                            refine CV.cond_f rfl ?_
                            refine CV.skip ?_
                            refine KV.block_n ?_
                            refine KV.then_n ?_
                            refine KV.env [(2, _), (7, _), (8, _), (10, _), (19, _)] ⟨rfl, rfl, rfl, rfl, rfl, trivial⟩ ?_
                            -- region 26 law.go:278
                            refine CV.region ?_
                            refine RV.op (OV.step gno (Step.move rfl) rfl ?_)
                            (first | refine RV.op (OV.step gno (Step.add rfl rfl (wI64 (by omega) (by omega))) rfl ?_) | refine RV.op (OV.step gno (Step.add rfl rfl rfl) rfl ?_))
                            refine RV.op (OV.step gno (Step.assign rfl) rfl ?_)
                            refine RV.nil ?_
                            refine KV.then_n ?_
                            refine KV.env [(2, _), (7, _), (8, _), (10, _), (19, _)] ⟨rfl, rfl, rfl, rfl, rfl, trivial⟩ ?_
                            refine KV.sel [0, 1, 1, 1, 1, 0] [_, _, _, _, _, _] rfl ?_
                            refine KV.loopI (k + 1) (by omega) (by omega) ⟨rfl, rfl, rfl, rfl, rfl, trivial⟩ (fun _ h => h)
                        · -- False
                          refine RV.op (OV.step (gyes rfl) (Step.pick_t rfl rfl) rfl ?_)
                          refine RV.op (OV.split (gyes rfl) (Step.neqBool Try.underlying4 rfl rfl) rfl (fun cc24 => ?_) (fun cc24 => ?_))
                          · -- True
                            refine RV.op (OV.step gno (Step.pick_f rfl rfl) rfl ?_)
                            refine RV.nil ?_
                            refine KV.then_n ?_
                            refine KV.env [(2, _), (7, _), (8, _), (10, _), (19, _), (145, _)] ⟨rfl, rfl, rfl, rfl, rfl, rfl, trivial⟩ ?_
                            refine CV.cond_t rfl ?_
                            refine CV.seq ?_
                            -- region 29 law.go:281
                            refine CV.region ?_
                            refine RV.op (OV.step gno (Step.assign rfl) rfl ?_)
                            refine RV.nil ?_
                            refine KV.then_n ?_
                            refine KV.env [(6, _)] ⟨rfl, trivial⟩ ?_
                            refine CV.ret ?_
                            refine KV.block_ret ?_
                            refine KV.then_ret ?_
                            refine KV.then_ret ?_
                            refine KV.block_ret ?_
                            refine KV.then_ret ?_
                            -- return at r29
                            refine KV.sel [] [] rfl ?_
                            exfalso
                            (simp only [bl] at *) <;> omega
                          · -- False
                            refine RV.op (OV.step gno (Step.pick_f rfl rfl) rfl ?_)
                            refine RV.nil ?_
                            refine KV.then_n ?_
                            refine KV.env [(2, _), (7, _), (8, _), (10, _), (19, _), (145, _)] ⟨rfl, rfl, rfl, rfl, rfl, rfl, trivial⟩ ?_
                            refine CV.cond_f rfl ?_
                            refine CV.skip ?_
                            refine KV.block_n ?_
                            refine KV.then_n ?_
                            refine KV.env [(2, _), (7, _), (8, _), (10, _), (19, _)] ⟨rfl, rfl, rfl, rfl, rfl, trivial⟩ ?_
                            -- region 26 law.go:278
                            refine CV.region ?_
                            refine RV.op (OV.step gno (Step.move rfl) rfl ?_)
                            (first | refine RV.op (OV.step gno (Step.add rfl rfl (wI64 (by omega) (by omega))) rfl ?_) | refine RV.op (OV.step gno (Step.add rfl rfl rfl) rfl ?_))
                            refine RV.op (OV.step gno (Step.assign rfl) rfl ?_)
                            refine RV.nil ?_
                            refine KV.then_n ?_
                            refine KV.env [(2, _), (7, _), (8, _), (10, _), (19, _)] ⟨rfl, rfl, rfl, rfl, rfl, trivial⟩ ?_
                            refine KV.sel [0, 1, 1, 1, 1, 0] [_, _, _, _, _, _] rfl ?_
                            refine KV.loopI (k + 1) (by omega) (by omega) ⟨rfl, rfl, rfl, rfl, rfl, trivial⟩ (fun _ h => h)
                      · -- False
                        refine RV.op (OV.skip rfl rfl ?_)
                        refine RV.op (OV.skip rfl rfl ?_)
                        refine RV.op (OV.skip rfl rfl ?_)
                        refine RV.op (OV.step (gyes rfl) (Step.pick_f rfl rfl) rfl ?_)
                        refine RV.op (OV.split (gyes rfl) (Step.neqBool Try.underlying4 rfl rfl) rfl (fun cc25 => ?_) (fun cc25 => ?_))
                        · -- True
                          refine RV.op (OV.step gno (Step.pick_f rfl rfl) rfl ?_)
                          refine RV.nil ?_
                          refine KV.then_n ?_
                          refine KV.env [(2, _), (7, _), (8, _), (10, _), (19, _), (145, _)] ⟨rfl, rfl, rfl, rfl, rfl, rfl, trivial⟩ ?_
                          refine CV.cond_t rfl ?_
                          refine CV.seq ?_
                          -- region 29 law.go:281
                          refine CV.region ?_
                          refine RV.op (OV.step gno (Step.assign rfl) rfl ?_)
                          refine RV.nil ?_
                          refine KV.then_n ?_
                          refine KV.env [(6, _)] ⟨rfl, trivial⟩ ?_
                          refine CV.ret ?_
                          refine KV.block_ret ?_
                          refine KV.then_ret ?_
                          refine KV.then_ret ?_
                          refine KV.block_ret ?_
                          refine KV.then_ret ?_
                          -- return at r29
                          refine KV.sel [] [] rfl ?_
                          exfalso
                          (simp only [bl] at *) <;> omega
                        · -- False
                          refine RV.op (OV.step gno (Step.pick_f rfl rfl) rfl ?_)
                          refine RV.nil ?_
                          refine KV.then_n ?_
                          refine KV.env [(2, _), (7, _), (8, _), (10, _), (19, _), (145, _)] ⟨rfl, rfl, rfl, rfl, rfl, rfl, trivial⟩ ?_
                          refine CV.cond_f rfl ?_
                          refine CV.skip ?_
                          refine KV.block_n ?_
                          refine KV.then_n ?_
                          refine KV.env [(2, _), (7, _), (8, _), (10, _), (19, _)] ⟨rfl, rfl, rfl, rfl, rfl, trivial⟩ ?_
                          -- region 26 law.go:278
                          refine CV.region ?_
                          refine RV.op (OV.step gno (Step.move rfl) rfl ?_)
                          (first | refine RV.op (OV.step gno (Step.add rfl rfl (wI64 (by omega) (by omega))) rfl ?_) | refine RV.op (OV.step gno (Step.add rfl rfl rfl) rfl ?_))
                          refine RV.op (OV.step gno (Step.assign rfl) rfl ?_)
                          refine RV.nil ?_
                          refine KV.then_n ?_
                          refine KV.env [(2, _), (7, _), (8, _), (10, _), (19, _)] ⟨rfl, rfl, rfl, rfl, rfl, trivial⟩ ?_
                          refine KV.sel [0, 1, 1, 1, 1, 0] [_, _, _, _, _, _] rfl ?_
                          refine KV.loopI (k + 1) (by omega) (by omega) ⟨rfl, rfl, rfl, rfl, rfl, trivial⟩ (fun _ h => h)
              · -- False
                refine RV.op (OV.skip rfl rfl ?_)
                refine RV.op (OV.skip rfl rfl ?_)
                refine RV.op (OV.skip rfl rfl ?_)
                refine RV.op (OV.skip rfl rfl ?_)
                refine RV.op (OV.skip rfl rfl ?_)
                refine RV.op (OV.skip rfl rfl ?_)
                refine RV.op (OV.step (gyes rfl) (Step.pick_f rfl rfl) rfl ?_)
                refine RV.op (OV.step gno (Step.pick_f rfl rfl) rfl ?_)
                refine RV.op (OV.step gno (Step.move rfl) rfl ?_)
                refine RV.op (OV.step (gyes rfl) (Step.move rfl) rfl ?_)
                refine RV.op (OV.step (gyes rfl) (Step.not rfl) rfl ?_)
                refine RV.op (OV.step (gyes rfl) (Step.move rfl) rfl ?_)
                refine KV.cases 128 rfl (fun cc26 => ?_) (fun cc26 => ?_)
                · -- True
                  refine RV.op (OV.step (gyes rfl) (Step.move rfl) rfl ?_)
                  refine RV.op (OV.split (gyes rfl) (Step.neq rfl rfl) rfl (fun cc27 => ?_) (fun cc27 => ?_))
                  · -- True
                    refine RV.op (OV.step (gyes rfl) (Step.pick_t rfl rfl) rfl ?_)
                    refine RV.op (OV.step gno (Step.pick_f rfl rfl) rfl ?_)
                    refine RV.op (OV.step gno (Step.move rfl) rfl ?_)
                    refine RV.op (OV.skip rfl rfl ?_)
                    refine RV.op (OV.skip rfl rfl ?_)
                    refine RV.op (OV.skip rfl rfl ?_)
                    refine RV.op (OV.skip rfl rfl ?_)
                    refine RV.op (OV.skip rfl rfl ?_)
                    refine RV.op (OV.skip rfl rfl ?_)
                    refine RV.op (OV.skipU rfl rfl ?_)
                    refine RV.op (OV.skipU rfl rfl ?_)
                    refine RV.op (OV.skipU rfl rfl ?_)
                    refine RV.op (OV.skip rfl rfl ?_)
                    refine RV.op (OV.skip rfl rfl ?_)
                    refine RV.op (OV.step gno (Step.pick_t rfl rfl) rfl ?_)
                    refine RV.nil ?_
                    refine KV.then_n ?_
                    refine KV.env [(2, _), (7, _), (8, _), (10, _), (19, _), (145, _)] ⟨rfl, rfl, rfl, rfl, rfl, rfl, trivial⟩ ?_
                    refine CV.cond_t rfl ?_
                    refine CV.seq ?_
                    -- region 29 law.go:281
                    refine CV.region ?_
                    refine RV.op (OV.step gno (Step.assign rfl) rfl ?_)
                    refine RV.nil ?_
                    refine KV.then_n ?_
                    refine KV.env [(6, _)] ⟨rfl, trivial⟩ ?_
                    refine CV.ret ?_
                    refine KV.block_ret ?_
                    refine KV.then_ret ?_
                    refine KV.then_ret ?_
                    refine KV.block_ret ?_
                    refine KV.then_ret ?_
                    -- return at r29
                    refine KV.sel [] [] rfl ?_
                    exfalso
                    (simp only [bl] at *) <;> omega
                  · -- False
                    refine RV.op (OV.step (gyes rfl) (Step.pick_t rfl rfl) rfl ?_)
                    refine RV.op (OV.step gno (Step.pick_f rfl rfl) rfl ?_)
                    refine RV.op (OV.step gno (Step.move rfl) rfl ?_)
                    refine RV.op (OV.step (gyes rfl) (Step.move rfl) rfl ?_)
                    refine RV.op (OV.step (gyes rfl) (Step.move rfl) rfl ?_)
                    refine RV.op (OV.step (gyes rfl) (Step.move rfl) rfl ?_)
                    refine RV.op (OV.call [2, 2, 2, 2] (F := [_, _]) Try.func22 B22 N22 rfl rfl (fun w h => powered_fn b a st k t w hi.2.inv.wf) (fun _ hb => hb.elim) (gyes rfl) rfl (fun v L' hp => ?_))
                    obtain ⟨rfl, rfl⟩ := hp
                    by_cases hpw : ((0 ≤ (k : Int) ∧ (k : Int) < st.rails.length) ∧ ¬ st.c (k : Int).toNat = 0) ∧ st.t (k : Int).toNat ≤ t
                    · rw [decide_eq_true hpw]
                      refine RV.op (OV.step (gyes rfl) (Step.move rfl) rfl ?_)
                      refine RV.op (OV.step (gyes rfl) (Step.move rfl) rfl ?_)
                      refine KV.cases 139 rfl (fun cc28 => ?_) (fun cc28 => ?_)
                      · -- True
                        refine RV.op (OV.step (gyes rfl) (Step.move rfl) rfl ?_)
                        refine RV.op (OV.step (gyes rfl) (Step.move rfl) rfl ?_)
                        refine RV.op (OV.split (gyes rfl) (Step.leq rfl rfl) rfl (fun cc29 => ?_) (fun cc29 => ?_))
                        · -- True
                          refine RV.op (OV.step (gyes rfl) (Step.pick_t rfl rfl) rfl ?_)
                          refine RV.op (OV.split (gyes rfl) (Step.neqBool Try.underlying4 rfl rfl) rfl (fun cc30 => ?_) (fun cc30 => ?_))
                          · -- True
                            refine RV.op (OV.step gno (Step.pick_f rfl rfl) rfl ?_)
                            refine RV.nil ?_
                            refine KV.then_n ?_
                            refine KV.env [(2, _), (7, _), (8, _), (10, _), (19, _), (145, _)] ⟨rfl, rfl, rfl, rfl, rfl, rfl, trivial⟩ ?_
                            refine CV.cond_t rfl ?_
                            refine CV.seq ?_
                            -- region 29 law.go:281
                            refine CV.region ?_
                            refine RV.op (OV.step gno (Step.assign rfl) rfl ?_)
                            refine RV.nil ?_
                            refine KV.then_n ?_
                            refine KV.env [(6, _)] ⟨rfl, trivial⟩ ?_
                            refine CV.ret ?_
                            refine KV.block_ret ?_
                            refine KV.then_ret ?_
                            refine KV.then_ret ?_
                            refine KV.block_ret ?_
                            refine KV.then_ret ?_
                            -- return at r29
                            refine KV.sel [] [] rfl ?_
                            exfalso
                            (simp only [bl] at *) <;> omega
                          · -- False
                            refine RV.op (OV.step gno (Step.pick_f rfl rfl) rfl ?_)
                            refine RV.nil ?_
                            refine KV.then_n ?_
                            refine KV.env [(2, _), (7, _), (8, _), (10, _), (19, _), (145, _)] ⟨rfl, rfl, rfl, rfl, rfl, rfl, trivial⟩ ?_
                            refine CV.cond_f rfl ?_
                            refine CV.skip ?_
                            refine KV.block_n ?_
                            refine KV.then_n ?_
                            refine KV.env [(2, _), (7, _), (8, _), (10, _), (19, _)] ⟨rfl, rfl, rfl, rfl, rfl, trivial⟩ ?_
                            -- region 26 law.go:278
                            refine CV.region ?_
                            refine RV.op (OV.step gno (Step.move rfl) rfl ?_)
                            (first | refine RV.op (OV.step gno (Step.add rfl rfl (wI64 (by omega) (by omega))) rfl ?_) | refine RV.op (OV.step gno (Step.add rfl rfl rfl) rfl ?_))
                            refine RV.op (OV.step gno (Step.assign rfl) rfl ?_)
                            refine RV.nil ?_
                            refine KV.then_n ?_
                            refine KV.env [(2, _), (7, _), (8, _), (10, _), (19, _)] ⟨rfl, rfl, rfl, rfl, rfl, trivial⟩ ?_
                            refine KV.sel [0, 1, 1, 1, 1, 0] [_, _, _, _, _, _] rfl ?_
                            refine KV.loopI (k + 1) (by omega) (by omega) ⟨rfl, rfl, rfl, rfl, rfl, trivial⟩ (fun _ h => h)
                        · -- False
                          refine RV.op (OV.step (gyes rfl) (Step.pick_t rfl rfl) rfl ?_)
                          refine RV.op (OV.split (gyes rfl) (Step.neqBool Try.underlying4 rfl rfl) rfl (fun cc31 => ?_) (fun cc31 => ?_))
                          · -- True
                            refine RV.op (OV.step gno (Step.pick_f rfl rfl) rfl ?_)
                            refine RV.nil ?_
                            refine KV.then_n ?_
                            refine KV.env [(2, _), (7, _), (8, _), (10, _), (19, _), (145, _)] ⟨rfl, rfl, rfl, rfl, rfl, rfl, trivial⟩ ?_
                            refine CV.cond_t rfl ?_
                            refine CV.seq ?_
                            -- region 29 law.go:281
                            refine CV.region ?_
                            refine RV.op (OV.step gno (Step.assign rfl) rfl ?_)
                            refine RV.nil ?_
                            refine KV.then_n ?_
                            refine KV.env [(6, _)] ⟨rfl, trivial⟩ ?_
                            refine CV.ret ?_
                            refine KV.block_ret ?_
                            refine KV.then_ret ?_
                            refine KV.then_ret ?_
                            refine KV.block_ret ?_
                            refine KV.then_ret ?_
                            -- return at r29
                            refine KV.sel [] [] rfl ?_
                            exfalso
                            (simp only [bl] at *) <;> omega
                          · -- False
                            refine RV.op (OV.step gno (Step.pick_f rfl rfl) rfl ?_)
                            refine RV.nil ?_
                            refine KV.then_n ?_
                            refine KV.env [(2, _), (7, _), (8, _), (10, _), (19, _), (145, _)] ⟨rfl, rfl, rfl, rfl, rfl, rfl, trivial⟩ ?_
                            refine CV.cond_f rfl ?_
                            refine CV.skip ?_
                            refine KV.block_n ?_
                            refine KV.then_n ?_
                            refine KV.env [(2, _), (7, _), (8, _), (10, _), (19, _)] ⟨rfl, rfl, rfl, rfl, rfl, trivial⟩ ?_
                            -- region 26 law.go:278
                            refine CV.region ?_
                            refine RV.op (OV.step gno (Step.move rfl) rfl ?_)
                            (first | refine RV.op (OV.step gno (Step.add rfl rfl (wI64 (by omega) (by omega))) rfl ?_) | refine RV.op (OV.step gno (Step.add rfl rfl rfl) rfl ?_))
                            refine RV.op (OV.step gno (Step.assign rfl) rfl ?_)
                            refine RV.nil ?_
                            refine KV.then_n ?_
                            refine KV.env [(2, _), (7, _), (8, _), (10, _), (19, _)] ⟨rfl, rfl, rfl, rfl, rfl, trivial⟩ ?_
                            refine KV.sel [0, 1, 1, 1, 1, 0] [_, _, _, _, _, _] rfl ?_
                            refine KV.loopI (k + 1) (by omega) (by omega) ⟨rfl, rfl, rfl, rfl, rfl, trivial⟩ (fun _ h => h)
                      · -- False
                        refine RV.op (OV.skip rfl rfl ?_)
                        refine RV.op (OV.skip rfl rfl ?_)
                        refine RV.op (OV.skip rfl rfl ?_)
                        refine RV.op (OV.step (gyes rfl) (Step.pick_f rfl rfl) rfl ?_)
                        refine RV.op (OV.split (gyes rfl) (Step.neqBool Try.underlying4 rfl rfl) rfl (fun cc32 => ?_) (fun cc32 => ?_))
                        · -- True
                          refine RV.op (OV.step gno (Step.pick_f rfl rfl) rfl ?_)
                          refine RV.nil ?_
                          refine KV.then_n ?_
                          refine KV.env [(2, _), (7, _), (8, _), (10, _), (19, _), (145, _)] ⟨rfl, rfl, rfl, rfl, rfl, rfl, trivial⟩ ?_
                          refine CV.cond_t rfl ?_
                          refine CV.seq ?_
                          -- region 29 law.go:281
                          refine CV.region ?_
                          refine RV.op (OV.step gno (Step.assign rfl) rfl ?_)
                          refine RV.nil ?_
                          refine KV.then_n ?_
                          refine KV.env [(6, _)] ⟨rfl, trivial⟩ ?_
                          refine CV.ret ?_
                          refine KV.block_ret ?_
                          refine KV.then_ret ?_
                          refine KV.then_ret ?_
                          refine KV.block_ret ?_
                          refine KV.then_ret ?_
                          -- return at r29
                          refine KV.sel [] [] rfl ?_
                          exfalso
                          (simp only [bl] at *) <;> omega
                        · -- False
                          refine RV.op (OV.step gno (Step.pick_f rfl rfl) rfl ?_)
                          refine RV.nil ?_
                          refine KV.then_n ?_
                          refine KV.env [(2, _), (7, _), (8, _), (10, _), (19, _), (145, _)] ⟨rfl, rfl, rfl, rfl, rfl, rfl, trivial⟩ ?_
                          refine CV.cond_f rfl ?_
                          refine CV.skip ?_
                          refine KV.block_n ?_
                          refine KV.then_n ?_
                          refine KV.env [(2, _), (7, _), (8, _), (10, _), (19, _)] ⟨rfl, rfl, rfl, rfl, rfl, trivial⟩ ?_
                          -- region 26 law.go:278
                          refine CV.region ?_
                          refine RV.op (OV.step gno (Step.move rfl) rfl ?_)
                          (first | refine RV.op (OV.step gno (Step.add rfl rfl (wI64 (by omega) (by omega))) rfl ?_) | refine RV.op (OV.step gno (Step.add rfl rfl rfl) rfl ?_))
                          refine RV.op (OV.step gno (Step.assign rfl) rfl ?_)
                          refine RV.nil ?_
                          refine KV.then_n ?_
                          refine KV.env [(2, _), (7, _), (8, _), (10, _), (19, _)] ⟨rfl, rfl, rfl, rfl, rfl, trivial⟩ ?_
                          refine KV.sel [0, 1, 1, 1, 1, 0] [_, _, _, _, _, _] rfl ?_
                          refine KV.loopI (k + 1) (by omega) (by omega) ⟨rfl, rfl, rfl, rfl, rfl, trivial⟩ (fun _ h => h)
                    · rw [decide_eq_false hpw]
                      refine RV.op (OV.step (gyes rfl) (Step.move rfl) rfl ?_)
                      refine RV.op (OV.step (gyes rfl) (Step.move rfl) rfl ?_)
                      refine KV.cases 139 rfl (fun cc33 => ?_) (fun cc33 => ?_)
                      · -- True
                        refine RV.op (OV.step (gyes rfl) (Step.move rfl) rfl ?_)
                        refine RV.op (OV.step (gyes rfl) (Step.move rfl) rfl ?_)
                        refine RV.op (OV.split (gyes rfl) (Step.leq rfl rfl) rfl (fun cc34 => ?_) (fun cc34 => ?_))
                        · -- True
                          refine RV.op (OV.step (gyes rfl) (Step.pick_t rfl rfl) rfl ?_)
                          refine RV.op (OV.split (gyes rfl) (Step.neqBool Try.underlying4 rfl rfl) rfl (fun cc35 => ?_) (fun cc35 => ?_))
                          · -- True
                            refine RV.op (OV.step gno (Step.pick_f rfl rfl) rfl ?_)
                            refine RV.nil ?_
                            refine KV.then_n ?_
                            refine KV.env [(2, _), (7, _), (8, _), (10, _), (19, _), (145, _)] ⟨rfl, rfl, rfl, rfl, rfl, rfl, trivial⟩ ?_
                            refine CV.cond_t rfl ?_
                            refine CV.seq ?_
                            -- region 29 law.go:281
                            refine CV.region ?_
                            refine RV.op (OV.step gno (Step.assign rfl) rfl ?_)
                            refine RV.nil ?_
                            refine KV.then_n ?_
                            refine KV.env [(6, _)] ⟨rfl, trivial⟩ ?_
                            refine CV.ret ?_
                            refine KV.block_ret ?_
                            refine KV.then_ret ?_
                            refine KV.then_ret ?_
                            refine KV.block_ret ?_
                            refine KV.then_ret ?_
                            -- return at r29
                            refine KV.sel [] [] rfl ?_
                            exfalso
                            (simp only [bl] at *) <;> omega
                          · -- False
                            refine RV.op (OV.step gno (Step.pick_f rfl rfl) rfl ?_)
                            refine RV.nil ?_
                            refine KV.then_n ?_
                            refine KV.env [(2, _), (7, _), (8, _), (10, _), (19, _), (145, _)] ⟨rfl, rfl, rfl, rfl, rfl, rfl, trivial⟩ ?_
                            refine CV.cond_f rfl ?_
                            refine CV.skip ?_
                            refine KV.block_n ?_
                            refine KV.then_n ?_
                            refine KV.env [(2, _), (7, _), (8, _), (10, _), (19, _)] ⟨rfl, rfl, rfl, rfl, rfl, trivial⟩ ?_
                            -- region 26 law.go:278
                            refine CV.region ?_
                            refine RV.op (OV.step gno (Step.move rfl) rfl ?_)
                            (first | refine RV.op (OV.step gno (Step.add rfl rfl (wI64 (by omega) (by omega))) rfl ?_) | refine RV.op (OV.step gno (Step.add rfl rfl rfl) rfl ?_))
                            refine RV.op (OV.step gno (Step.assign rfl) rfl ?_)
                            refine RV.nil ?_
                            refine KV.then_n ?_
                            refine KV.env [(2, _), (7, _), (8, _), (10, _), (19, _)] ⟨rfl, rfl, rfl, rfl, rfl, trivial⟩ ?_
                            refine KV.sel [0, 1, 1, 1, 1, 0] [_, _, _, _, _, _] rfl ?_
                            refine KV.loopI (k + 1) (by omega) (by omega) ⟨rfl, rfl, rfl, rfl, rfl, trivial⟩ (fun _ h => h)
                        · -- False
                          refine RV.op (OV.step (gyes rfl) (Step.pick_t rfl rfl) rfl ?_)
                          refine RV.op (OV.split (gyes rfl) (Step.neqBool Try.underlying4 rfl rfl) rfl (fun cc36 => ?_) (fun cc36 => ?_))
                          · -- True
                            refine RV.op (OV.step gno (Step.pick_f rfl rfl) rfl ?_)
                            refine RV.nil ?_
                            refine KV.then_n ?_
                            refine KV.env [(2, _), (7, _), (8, _), (10, _), (19, _), (145, _)] ⟨rfl, rfl, rfl, rfl, rfl, rfl, trivial⟩ ?_
                            refine CV.cond_t rfl ?_
                            refine CV.seq ?_
                            -- region 29 law.go:281
                            refine CV.region ?_
                            refine RV.op (OV.step gno (Step.assign rfl) rfl ?_)
                            refine RV.nil ?_
                            refine KV.then_n ?_
                            refine KV.env [(6, _)] ⟨rfl, trivial⟩ ?_
                            refine CV.ret ?_
                            refine KV.block_ret ?_
                            refine KV.then_ret ?_
                            refine KV.then_ret ?_
                            refine KV.block_ret ?_
                            refine KV.then_ret ?_
                            -- return at r29
                            refine KV.sel [] [] rfl ?_
                            exfalso
                            (simp only [bl] at *) <;> omega
                          · -- False
                            refine RV.op (OV.step gno (Step.pick_f rfl rfl) rfl ?_)
                            refine RV.nil ?_
                            refine KV.then_n ?_
                            refine KV.env [(2, _), (7, _), (8, _), (10, _), (19, _), (145, _)] ⟨rfl, rfl, rfl, rfl, rfl, rfl, trivial⟩ ?_
                            refine CV.cond_f rfl ?_
                            refine CV.skip ?_
                            refine KV.block_n ?_
                            refine KV.then_n ?_
                            refine KV.env [(2, _), (7, _), (8, _), (10, _), (19, _)] ⟨rfl, rfl, rfl, rfl, rfl, trivial⟩ ?_
                            -- region 26 law.go:278
                            refine CV.region ?_
                            refine RV.op (OV.step gno (Step.move rfl) rfl ?_)
                            (first | refine RV.op (OV.step gno (Step.add rfl rfl (wI64 (by omega) (by omega))) rfl ?_) | refine RV.op (OV.step gno (Step.add rfl rfl rfl) rfl ?_))
                            refine RV.op (OV.step gno (Step.assign rfl) rfl ?_)
                            refine RV.nil ?_
                            refine KV.then_n ?_
                            refine KV.env [(2, _), (7, _), (8, _), (10, _), (19, _)] ⟨rfl, rfl, rfl, rfl, rfl, trivial⟩ ?_
                            refine KV.sel [0, 1, 1, 1, 1, 0] [_, _, _, _, _, _] rfl ?_
                            refine KV.loopI (k + 1) (by omega) (by omega) ⟨rfl, rfl, rfl, rfl, rfl, trivial⟩ (fun _ h => h)
                      · -- False
                        refine RV.op (OV.skip rfl rfl ?_)
                        refine RV.op (OV.skip rfl rfl ?_)
                        refine RV.op (OV.skip rfl rfl ?_)
                        refine RV.op (OV.step (gyes rfl) (Step.pick_f rfl rfl) rfl ?_)
                        refine RV.op (OV.split (gyes rfl) (Step.neqBool Try.underlying4 rfl rfl) rfl (fun cc37 => ?_) (fun cc37 => ?_))
                        · -- True
                          refine RV.op (OV.step gno (Step.pick_f rfl rfl) rfl ?_)
                          refine RV.nil ?_
                          refine KV.then_n ?_
                          refine KV.env [(2, _), (7, _), (8, _), (10, _), (19, _), (145, _)] ⟨rfl, rfl, rfl, rfl, rfl, rfl, trivial⟩ ?_
                          refine CV.cond_t rfl ?_
                          refine CV.seq ?_
                          -- region 29 law.go:281
                          refine CV.region ?_
                          refine RV.op (OV.step gno (Step.assign rfl) rfl ?_)
                          refine RV.nil ?_
                          refine KV.then_n ?_
                          refine KV.env [(6, _)] ⟨rfl, trivial⟩ ?_
                          refine CV.ret ?_
                          refine KV.block_ret ?_
                          refine KV.then_ret ?_
                          refine KV.then_ret ?_
                          refine KV.block_ret ?_
                          refine KV.then_ret ?_
                          -- return at r29
                          refine KV.sel [] [] rfl ?_
                          exfalso
                          (simp only [bl] at *) <;> omega
                        · -- False
                          refine RV.op (OV.step gno (Step.pick_f rfl rfl) rfl ?_)
                          refine RV.nil ?_
                          refine KV.then_n ?_
                          refine KV.env [(2, _), (7, _), (8, _), (10, _), (19, _), (145, _)] ⟨rfl, rfl, rfl, rfl, rfl, rfl, trivial⟩ ?_
                          refine CV.cond_f rfl ?_
                          refine CV.skip ?_
                          refine KV.block_n ?_
                          refine KV.then_n ?_
                          refine KV.env [(2, _), (7, _), (8, _), (10, _), (19, _)] ⟨rfl, rfl, rfl, rfl, rfl, trivial⟩ ?_
                          -- region 26 law.go:278
                          refine CV.region ?_
                          refine RV.op (OV.step gno (Step.move rfl) rfl ?_)
                          (first | refine RV.op (OV.step gno (Step.add rfl rfl (wI64 (by omega) (by omega))) rfl ?_) | refine RV.op (OV.step gno (Step.add rfl rfl rfl) rfl ?_))
                          refine RV.op (OV.step gno (Step.assign rfl) rfl ?_)
                          refine RV.nil ?_
                          refine KV.then_n ?_
                          refine KV.env [(2, _), (7, _), (8, _), (10, _), (19, _)] ⟨rfl, rfl, rfl, rfl, rfl, trivial⟩ ?_
                          refine KV.sel [0, 1, 1, 1, 1, 0] [_, _, _, _, _, _] rfl ?_
                          refine KV.loopI (k + 1) (by omega) (by omega) ⟨rfl, rfl, rfl, rfl, rfl, trivial⟩ (fun _ h => h)
                · -- False
                  refine RV.op (OV.skip rfl rfl ?_)
                  refine RV.op (OV.skip rfl rfl ?_)
                  refine RV.op (OV.step (gyes rfl) (Step.pick_f rfl rfl) rfl ?_)
                  refine RV.op (OV.step gno (Step.pick_f rfl rfl) rfl ?_)
                  refine RV.op (OV.step gno (Step.move rfl) rfl ?_)
                  refine RV.op (OV.step (gyes rfl) (Step.move rfl) rfl ?_)
                  refine RV.op (OV.step (gyes rfl) (Step.move rfl) rfl ?_)
                  refine RV.op (OV.step (gyes rfl) (Step.move rfl) rfl ?_)
                  refine RV.op (OV.call [2, 2, 2, 2] (F := [_, _]) Try.func22 B22 N22 rfl rfl (fun w h => powered_fn b a st k t w hi.2.inv.wf) (fun _ hb => hb.elim) (gyes rfl) rfl (fun v L' hp => ?_))
                  obtain ⟨rfl, rfl⟩ := hp
                  by_cases hpw : ((0 ≤ (k : Int) ∧ (k : Int) < st.rails.length) ∧ ¬ st.c (k : Int).toNat = 0) ∧ st.t (k : Int).toNat ≤ t
                  · rw [decide_eq_true hpw]
                    refine RV.op (OV.step (gyes rfl) (Step.move rfl) rfl ?_)
                    refine RV.op (OV.step (gyes rfl) (Step.move rfl) rfl ?_)
                    refine KV.cases 139 rfl (fun cc38 => ?_) (fun cc38 => ?_)
                    · -- True
                      refine RV.op (OV.step (gyes rfl) (Step.move rfl) rfl ?_)
                      refine RV.op (OV.step (gyes rfl) (Step.move rfl) rfl ?_)
                      refine RV.op (OV.split (gyes rfl) (Step.leq rfl rfl) rfl (fun cc39 => ?_) (fun cc39 => ?_))
                      · -- True
                        refine RV.op (OV.step (gyes rfl) (Step.pick_t rfl rfl) rfl ?_)
                        refine RV.op (OV.split (gyes rfl) (Step.neqBool Try.underlying4 rfl rfl) rfl (fun cc40 => ?_) (fun cc40 => ?_))
                        · -- True
                          refine RV.op (OV.step gno (Step.pick_f rfl rfl) rfl ?_)
                          refine RV.nil ?_
                          refine KV.then_n ?_
                          refine KV.env [(2, _), (7, _), (8, _), (10, _), (19, _), (145, _)] ⟨rfl, rfl, rfl, rfl, rfl, rfl, trivial⟩ ?_
                          refine CV.cond_t rfl ?_
                          refine CV.seq ?_
                          -- region 29 law.go:281
                          refine CV.region ?_
                          refine RV.op (OV.step gno (Step.assign rfl) rfl ?_)
                          refine RV.nil ?_
                          refine KV.then_n ?_
                          refine KV.env [(6, _)] ⟨rfl, trivial⟩ ?_
                          refine CV.ret ?_
                          refine KV.block_ret ?_
                          refine KV.then_ret ?_
                          refine KV.then_ret ?_
                          refine KV.block_ret ?_
                          refine KV.then_ret ?_
                          -- return at r29
                          refine KV.sel [] [] rfl ?_
                          exfalso
                          (simp only [bl] at *) <;> omega
                        · -- False
                          refine RV.op (OV.step gno (Step.pick_f rfl rfl) rfl ?_)
                          refine RV.nil ?_
                          refine KV.then_n ?_
                          refine KV.env [(2, _), (7, _), (8, _), (10, _), (19, _), (145, _)] ⟨rfl, rfl, rfl, rfl, rfl, rfl, trivial⟩ ?_
                          refine CV.cond_f rfl ?_
                          refine CV.skip ?_
                          refine KV.block_n ?_
                          refine KV.then_n ?_
                          refine KV.env [(2, _), (7, _), (8, _), (10, _), (19, _)] ⟨rfl, rfl, rfl, rfl, rfl, trivial⟩ ?_
                          -- region 26 law.go:278
                          refine CV.region ?_
                          refine RV.op (OV.step gno (Step.move rfl) rfl ?_)
                          (first | refine RV.op (OV.step gno (Step.add rfl rfl (wI64 (by omega) (by omega))) rfl ?_) | refine RV.op (OV.step gno (Step.add rfl rfl rfl) rfl ?_))
                          refine RV.op (OV.step gno (Step.assign rfl) rfl ?_)
                          refine RV.nil ?_
                          refine KV.then_n ?_
                          refine KV.env [(2, _), (7, _), (8, _), (10, _), (19, _)] ⟨rfl, rfl, rfl, rfl, rfl, trivial⟩ ?_
                          refine KV.sel [0, 1, 1, 1, 1, 0] [_, _, _, _, _, _] rfl ?_
                          refine KV.loopI (k + 1) (by omega) (by omega) ⟨rfl, rfl, rfl, rfl, rfl, trivial⟩ (fun _ h => h)
                      · -- False
                        refine RV.op (OV.step (gyes rfl) (Step.pick_t rfl rfl) rfl ?_)
                        refine RV.op (OV.split (gyes rfl) (Step.neqBool Try.underlying4 rfl rfl) rfl (fun cc41 => ?_) (fun cc41 => ?_))
                        · -- True
                          refine RV.op (OV.step gno (Step.pick_f rfl rfl) rfl ?_)
                          refine RV.nil ?_
                          refine KV.then_n ?_
                          refine KV.env [(2, _), (7, _), (8, _), (10, _), (19, _), (145, _)] ⟨rfl, rfl, rfl, rfl, rfl, rfl, trivial⟩ ?_
                          refine CV.cond_t rfl ?_
                          refine CV.seq ?_
                          -- region 29 law.go:281
                          refine CV.region ?_
                          refine RV.op (OV.step gno (Step.assign rfl) rfl ?_)
                          refine RV.nil ?_
                          refine KV.then_n ?_
                          refine KV.env [(6, _)] ⟨rfl, trivial⟩ ?_
                          refine CV.ret ?_
                          refine KV.block_ret ?_
                          refine KV.then_ret ?_
                          refine KV.then_ret ?_
                          refine KV.block_ret ?_
                          refine KV.then_ret ?_
                          -- return at r29
                          refine KV.sel [] [] rfl ?_
                          exfalso
                          (simp only [bl] at *) <;> omega
                        · -- False
                          refine RV.op (OV.step gno (Step.pick_f rfl rfl) rfl ?_)
                          refine RV.nil ?_
                          refine KV.then_n ?_
                          refine KV.env [(2, _), (7, _), (8, _), (10, _), (19, _), (145, _)] ⟨rfl, rfl, rfl, rfl, rfl, rfl, trivial⟩ ?_
                          refine CV.cond_f rfl ?_
                          refine CV.skip ?_
                          refine KV.block_n ?_
                          refine KV.then_n ?_
                          refine KV.env [(2, _), (7, _), (8, _), (10, _), (19, _)] ⟨rfl, rfl, rfl, rfl, rfl, trivial⟩ ?_
                          -- region 26 law.go:278
                          refine CV.region ?_
                          refine RV.op (OV.step gno (Step.move rfl) rfl ?_)
                          (first | refine RV.op (OV.step gno (Step.add rfl rfl (wI64 (by omega) (by omega))) rfl ?_) | refine RV.op (OV.step gno (Step.add rfl rfl rfl) rfl ?_))
                          refine RV.op (OV.step gno (Step.assign rfl) rfl ?_)
                          refine RV.nil ?_
                          refine KV.then_n ?_
                          refine KV.env [(2, _), (7, _), (8, _), (10, _), (19, _)] ⟨rfl, rfl, rfl, rfl, rfl, trivial⟩ ?_
                          refine KV.sel [0, 1, 1, 1, 1, 0] [_, _, _, _, _, _] rfl ?_
                          refine KV.loopI (k + 1) (by omega) (by omega) ⟨rfl, rfl, rfl, rfl, rfl, trivial⟩ (fun _ h => h)
                    · -- False
                      refine RV.op (OV.skip rfl rfl ?_)
                      refine RV.op (OV.skip rfl rfl ?_)
                      refine RV.op (OV.skip rfl rfl ?_)
                      refine RV.op (OV.step (gyes rfl) (Step.pick_f rfl rfl) rfl ?_)
                      refine RV.op (OV.split (gyes rfl) (Step.neqBool Try.underlying4 rfl rfl) rfl (fun cc42 => ?_) (fun cc42 => ?_))
                      · -- True
                        refine RV.op (OV.step gno (Step.pick_f rfl rfl) rfl ?_)
                        refine RV.nil ?_
                        refine KV.then_n ?_
                        refine KV.env [(2, _), (7, _), (8, _), (10, _), (19, _), (145, _)] ⟨rfl, rfl, rfl, rfl, rfl, rfl, trivial⟩ ?_
                        refine CV.cond_t rfl ?_
                        refine CV.seq ?_
                        -- region 29 law.go:281
                        refine CV.region ?_
                        refine RV.op (OV.step gno (Step.assign rfl) rfl ?_)
                        refine RV.nil ?_
                        refine KV.then_n ?_
                        refine KV.env [(6, _)] ⟨rfl, trivial⟩ ?_
                        refine CV.ret ?_
                        refine KV.block_ret ?_
                        refine KV.then_ret ?_
                        refine KV.then_ret ?_
                        refine KV.block_ret ?_
                        refine KV.then_ret ?_
                        -- return at r29
                        refine KV.sel [] [] rfl ?_
                        exfalso
                        (simp only [bl] at *) <;> omega
                      · -- False
                        refine RV.op (OV.step gno (Step.pick_f rfl rfl) rfl ?_)
                        refine RV.nil ?_
                        refine KV.then_n ?_
                        refine KV.env [(2, _), (7, _), (8, _), (10, _), (19, _), (145, _)] ⟨rfl, rfl, rfl, rfl, rfl, rfl, trivial⟩ ?_
                        refine CV.cond_f rfl ?_
                        refine CV.skip ?_
                        refine KV.block_n ?_
                        refine KV.then_n ?_
                        refine KV.env [(2, _), (7, _), (8, _), (10, _), (19, _)] ⟨rfl, rfl, rfl, rfl, rfl, trivial⟩ ?_
                        -- region 26 law.go:278
                        refine CV.region ?_
                        refine RV.op (OV.step gno (Step.move rfl) rfl ?_)
                        (first | refine RV.op (OV.step gno (Step.add rfl rfl (wI64 (by omega) (by omega))) rfl ?_) | refine RV.op (OV.step gno (Step.add rfl rfl rfl) rfl ?_))
                        refine RV.op (OV.step gno (Step.assign rfl) rfl ?_)
                        refine RV.nil ?_
                        refine KV.then_n ?_
                        refine KV.env [(2, _), (7, _), (8, _), (10, _), (19, _)] ⟨rfl, rfl, rfl, rfl, rfl, trivial⟩ ?_
                        refine KV.sel [0, 1, 1, 1, 1, 0] [_, _, _, _, _, _] rfl ?_
                        refine KV.loopI (k + 1) (by omega) (by omega) ⟨rfl, rfl, rfl, rfl, rfl, trivial⟩ (fun _ h => h)
                  · rw [decide_eq_false hpw]
                    refine RV.op (OV.step (gyes rfl) (Step.move rfl) rfl ?_)
                    refine RV.op (OV.step (gyes rfl) (Step.move rfl) rfl ?_)
                    refine KV.cases 139 rfl (fun cc43 => ?_) (fun cc43 => ?_)
                    · -- True
                      refine RV.op (OV.step (gyes rfl) (Step.move rfl) rfl ?_)
                      refine RV.op (OV.step (gyes rfl) (Step.move rfl) rfl ?_)
                      refine RV.op (OV.split (gyes rfl) (Step.leq rfl rfl) rfl (fun cc44 => ?_) (fun cc44 => ?_))
                      · -- True
                        refine RV.op (OV.step (gyes rfl) (Step.pick_t rfl rfl) rfl ?_)
                        refine RV.op (OV.split (gyes rfl) (Step.neqBool Try.underlying4 rfl rfl) rfl (fun cc45 => ?_) (fun cc45 => ?_))
                        · -- True
                          refine RV.op (OV.step gno (Step.pick_f rfl rfl) rfl ?_)
                          refine RV.nil ?_
                          refine KV.then_n ?_
                          refine KV.env [(2, _), (7, _), (8, _), (10, _), (19, _), (145, _)] ⟨rfl, rfl, rfl, rfl, rfl, rfl, trivial⟩ ?_
                          refine CV.cond_t rfl ?_
                          refine CV.seq ?_
                          -- region 29 law.go:281
                          refine CV.region ?_
                          refine RV.op (OV.step gno (Step.assign rfl) rfl ?_)
                          refine RV.nil ?_
                          refine KV.then_n ?_
                          refine KV.env [(6, _)] ⟨rfl, trivial⟩ ?_
                          refine CV.ret ?_
                          refine KV.block_ret ?_
                          refine KV.then_ret ?_
                          refine KV.then_ret ?_
                          refine KV.block_ret ?_
                          refine KV.then_ret ?_
                          -- return at r29
                          refine KV.sel [] [] rfl ?_
                          exfalso
                          (simp only [bl] at *) <;> omega
                        · -- False
                          refine RV.op (OV.step gno (Step.pick_f rfl rfl) rfl ?_)
                          refine RV.nil ?_
                          refine KV.then_n ?_
                          refine KV.env [(2, _), (7, _), (8, _), (10, _), (19, _), (145, _)] ⟨rfl, rfl, rfl, rfl, rfl, rfl, trivial⟩ ?_
                          refine CV.cond_f rfl ?_
                          refine CV.skip ?_
                          refine KV.block_n ?_
                          refine KV.then_n ?_
                          refine KV.env [(2, _), (7, _), (8, _), (10, _), (19, _)] ⟨rfl, rfl, rfl, rfl, rfl, trivial⟩ ?_
                          -- region 26 law.go:278
                          refine CV.region ?_
                          refine RV.op (OV.step gno (Step.move rfl) rfl ?_)
                          (first | refine RV.op (OV.step gno (Step.add rfl rfl (wI64 (by omega) (by omega))) rfl ?_) | refine RV.op (OV.step gno (Step.add rfl rfl rfl) rfl ?_))
                          refine RV.op (OV.step gno (Step.assign rfl) rfl ?_)
                          refine RV.nil ?_
                          refine KV.then_n ?_
                          refine KV.env [(2, _), (7, _), (8, _), (10, _), (19, _)] ⟨rfl, rfl, rfl, rfl, rfl, trivial⟩ ?_
                          refine KV.sel [0, 1, 1, 1, 1, 0] [_, _, _, _, _, _] rfl ?_
                          refine KV.loopI (k + 1) (by omega) (by omega) ⟨rfl, rfl, rfl, rfl, rfl, trivial⟩ (fun _ h => h)
                      · -- False
                        refine RV.op (OV.step (gyes rfl) (Step.pick_t rfl rfl) rfl ?_)
                        refine RV.op (OV.split (gyes rfl) (Step.neqBool Try.underlying4 rfl rfl) rfl (fun cc46 => ?_) (fun cc46 => ?_))
                        · -- True
                          refine RV.op (OV.step gno (Step.pick_f rfl rfl) rfl ?_)
                          refine RV.nil ?_
                          refine KV.then_n ?_
                          refine KV.env [(2, _), (7, _), (8, _), (10, _), (19, _), (145, _)] ⟨rfl, rfl, rfl, rfl, rfl, rfl, trivial⟩ ?_
                          refine CV.cond_t rfl ?_
                          refine CV.seq ?_
                          -- region 29 law.go:281
                          refine CV.region ?_
                          refine RV.op (OV.step gno (Step.assign rfl) rfl ?_)
                          refine RV.nil ?_
                          refine KV.then_n ?_
                          refine KV.env [(6, _)] ⟨rfl, trivial⟩ ?_
                          refine CV.ret ?_
                          refine KV.block_ret ?_
                          refine KV.then_ret ?_
                          refine KV.then_ret ?_
                          refine KV.block_ret ?_
                          refine KV.then_ret ?_
                          -- return at r29
                          refine KV.sel [] [] rfl ?_
                          exfalso
                          (simp only [bl] at *) <;> omega
                        · -- False
                          refine RV.op (OV.step gno (Step.pick_f rfl rfl) rfl ?_)
                          refine RV.nil ?_
                          refine KV.then_n ?_
                          refine KV.env [(2, _), (7, _), (8, _), (10, _), (19, _), (145, _)] ⟨rfl, rfl, rfl, rfl, rfl, rfl, trivial⟩ ?_
                          refine CV.cond_f rfl ?_
                          refine CV.skip ?_
                          refine KV.block_n ?_
                          refine KV.then_n ?_
                          refine KV.env [(2, _), (7, _), (8, _), (10, _), (19, _)] ⟨rfl, rfl, rfl, rfl, rfl, trivial⟩ ?_
                          -- region 26 law.go:278
                          refine CV.region ?_
                          refine RV.op (OV.step gno (Step.move rfl) rfl ?_)
                          (first | refine RV.op (OV.step gno (Step.add rfl rfl (wI64 (by omega) (by omega))) rfl ?_) | refine RV.op (OV.step gno (Step.add rfl rfl rfl) rfl ?_))
                          refine RV.op (OV.step gno (Step.assign rfl) rfl ?_)
                          refine RV.nil ?_
                          refine KV.then_n ?_
                          refine KV.env [(2, _), (7, _), (8, _), (10, _), (19, _)] ⟨rfl, rfl, rfl, rfl, rfl, trivial⟩ ?_
                          refine KV.sel [0, 1, 1, 1, 1, 0] [_, _, _, _, _, _] rfl ?_
                          refine KV.loopI (k + 1) (by omega) (by omega) ⟨rfl, rfl, rfl, rfl, rfl, trivial⟩ (fun _ h => h)
                    · -- False
                      refine RV.op (OV.skip rfl rfl ?_)
                      refine RV.op (OV.skip rfl rfl ?_)
                      refine RV.op (OV.skip rfl rfl ?_)
                      refine RV.op (OV.step (gyes rfl) (Step.pick_f rfl rfl) rfl ?_)
                      refine RV.op (OV.split (gyes rfl) (Step.neqBool Try.underlying4 rfl rfl) rfl (fun cc47 => ?_) (fun cc47 => ?_))
                      · -- True
                        refine RV.op (OV.step gno (Step.pick_f rfl rfl) rfl ?_)
                        refine RV.nil ?_
                        refine KV.then_n ?_
                        refine KV.env [(2, _), (7, _), (8, _), (10, _), (19, _), (145, _)] ⟨rfl, rfl, rfl, rfl, rfl, rfl, trivial⟩ ?_
                        refine CV.cond_t rfl ?_
                        refine CV.seq ?_
                        -- region 29 law.go:281
                        refine CV.region ?_
                        refine RV.op (OV.step gno (Step.assign rfl) rfl ?_)
                        refine RV.nil ?_
                        refine KV.then_n ?_
                        refine KV.env [(6, _)] ⟨rfl, trivial⟩ ?_
                        refine CV.ret ?_
                        refine KV.block_ret ?_
                        refine KV.then_ret ?_
                        refine KV.then_ret ?_
                        refine KV.block_ret ?_
                        refine KV.then_ret ?_
                        -- return at r29
                        refine KV.sel [] [] rfl ?_
                        exfalso
                        (simp only [bl] at *) <;> omega
                      · -- False
                        refine RV.op (OV.step gno (Step.pick_f rfl rfl) rfl ?_)
                        refine RV.nil ?_
                        refine KV.then_n ?_
                        refine KV.env [(2, _), (7, _), (8, _), (10, _), (19, _), (145, _)] ⟨rfl, rfl, rfl, rfl, rfl, rfl, trivial⟩ ?_
                        refine CV.cond_f rfl ?_
                        refine CV.skip ?_
                        refine KV.block_n ?_
                        refine KV.then_n ?_
                        refine KV.env [(2, _), (7, _), (8, _), (10, _), (19, _)] ⟨rfl, rfl, rfl, rfl, rfl, trivial⟩ ?_
                        -- region 26 law.go:278
                        refine CV.region ?_
                        refine RV.op (OV.step gno (Step.move rfl) rfl ?_)
                        (first | refine RV.op (OV.step gno (Step.add rfl rfl (wI64 (by omega) (by omega))) rfl ?_) | refine RV.op (OV.step gno (Step.add rfl rfl rfl) rfl ?_))
                        refine RV.op (OV.step gno (Step.assign rfl) rfl ?_)
                        refine RV.nil ?_
                        refine KV.then_n ?_
                        refine KV.env [(2, _), (7, _), (8, _), (10, _), (19, _)] ⟨rfl, rfl, rfl, rfl, rfl, trivial⟩ ?_
                        refine KV.sel [0, 1, 1, 1, 1, 0] [_, _, _, _, _, _] rfl ?_
                        refine KV.loopI (k + 1) (by omega) (by omega) ⟨rfl, rfl, rfl, rfl, rfl, trivial⟩ (fun _ h => h)
          · -- False
            refine RV.nil ?_
            refine KV.then_n ?_
            refine KV.env [(2, _), (7, _), (8, _), (10, _), (19, _), (99, _)] ⟨rfl, rfl, rfl, rfl, rfl, rfl, trivial⟩ ?_
            refine CV.cond_f rfl ?_
            refine CV.exit ?_
            refine KV.then_exit ?_
            refine KV.then_exit ?_
            refine KV.block_hit ?_
            refine KV.then_n ?_
            refine KV.env [] trivial ?_
            refine CV.seq ?_
            -- region 30 law.go:284
            refine CV.region ?_
            refine RV.op (OV.call [] (F := [_, _, _, _, _, _]) Try.func12 B12 N12 rfl rfl (fun w h => awake_fn) (fun _ hb => hb.elim) gno rfl (fun v L' hp => ?_))
            obtain ⟨rfl, rfl⟩ := hp
            simp only [List.append_nil]
            refine RV.op (OV.step gno (Step.assign rfl) rfl ?_)
            refine RV.nil ?_
            refine KV.then_n ?_
            refine KV.env [(6, _)] ⟨rfl, trivial⟩ ?_
            refine CV.ret ?_
            -- return at r30
            refine KV.sel [] [] rfl ?_
            exact KV.ret1 rfl rfl _ (fun _ h => h) ⟨rfl, rfl⟩
end Go.Proofs.Ytcmalbkflbfidaa
