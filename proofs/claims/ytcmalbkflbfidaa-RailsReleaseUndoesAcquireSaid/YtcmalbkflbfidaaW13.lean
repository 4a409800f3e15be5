/-
  Walks, part 13.
-/
import Derived.Test.YtcmalbkflbfidaaTab13
import Derived.Test.YtcmalbkflbfidaaW7
import Derived.Test.YtcmalbkflbfidaaPl6
import Derived.Test.YtcmalbkflbfidaaSv8
set_option linter.unusedSimpArgs false
set_option linter.unusedVariables false
namespace Go.Proofs.Ytcmalbkflbfidaa
open Go.Sv Go.Rails
set_option maxRecDepth 100000 in
set_option maxHeartbeats 1000000 in
theorem releaseUndoes_fn {A B : Option Addr} {n c m d : Nat} {raw : List Rail} {l : List RCall} (t : Int) {w : World} (hr : RS w railK A raw) (hn : n = raw.length) (hraw : ∀ i, i < raw.length → okRail (raw.getD i railK.d)) (hl : RS w callK B l) (hm : m = l.length) : Fx Try.prog 11 [.slice A n c, .slice B m d, .int .i64 t] w [] no (fun v L => v = .bool true ∧ L = []) := by
  subst hn
  subst hm
  have hsl := some_len raw
  obtain ⟨rk, G⟩ := some_good hraw
  have hnew := good_new G
  have hlen := G.len
  refine Sv.Fx.body Try.func11 rfl T11 rfl ?_
  intro I hro hI
  refine KV.env [(0, _), (1, _), (2, _)] ⟨rfl, rfl, rfl, trivial⟩ ?_
  refine CV.seq ?_
  -- region 0 law.go:326
  refine CV.region ?_
  refine RV.op (OV.step gno (Step.assign rfl) rfl ?_)
  refine RV.nil ?_
  refine KV.then_n ?_
  refine KV.env [(0, _), (1, _), (2, _)] ⟨rfl, rfl, rfl, trivial⟩ ?_
  refine CV.seq ?_
  refine CV.seq ?_
  -- region 1 law.go:327
  refine CV.region ?_
  refine RV.op (OV.step gno (Step.move rfl) rfl ?_)
  refine RV.op (OV.step gno (Step.lenSl Try.underlying37 rfl) rfl ?_)
  refine RV.op (OV.split gno (Step.gtr rfl rfl) rfl (fun hlong => ?_) (fun hlong => ?_))
  · -- True
    refine RV.nil ?_
    refine KV.then_n ?_
    refine KV.env [(0, _), (1, _), (2, _), (27, _)] ⟨rfl, rfl, rfl, rfl, trivial⟩ ?_
    refine CV.cond_t rfl ?_
    refine CV.seq ?_
    -- region 2 law.go:328
    refine CV.region ?_
    refine RV.op (OV.call [] (F := []) Try.func12 B12 N12 rfl rfl (fun w h => awake_fn) (fun _ hb => hb.elim) gno rfl (fun v L' hp => ?_))
    obtain ⟨rfl, rfl⟩ := hp
    simp only [List.append_nil]
    refine RV.op (OV.step gno (Step.assign rfl) rfl ?_)
    refine RV.nil ?_
    refine KV.then_n ?_
    refine KV.env [(6, _)] ⟨rfl, trivial⟩ ?_
    refine CV.ret ?_
    refine KV.then_ret ?_
    -- return at r2
    refine KV.sel [] [] rfl ?_
    exact KV.ret1 rfl rfl _ (fun _ h => h) ⟨rfl, rfl⟩
  · -- False
    refine RV.nil ?_
    refine KV.then_n ?_
    refine KV.env [(0, _), (1, _), (2, _), (27, _)] ⟨rfl, rfl, rfl, rfl, trivial⟩ ?_
    refine CV.cond_f rfl ?_
    refine CV.skip ?_
    refine KV.then_n ?_
    refine KV.env [(0, _), (1, _), (2, _)] ⟨rfl, rfl, rfl, trivial⟩ ?_
    refine CV.seq ?_
    -- region 3 law.go:330
    refine CV.region ?_
    refine RV.op (OV.step gno (Step.move rfl) rfl ?_)
    refine RV.op (OV.call [] (F := []) Try.func15 B15 N15 rfl rfl (fun w h => some_fn (h.rs hr (fun _ => hI _))) (fun _ hb => hb.elim) gno rfl (fun v L' hp => ?_))
    obtain ⟨A2, c2, rfl, rfl⟩ := hp
    refine RV.op (OV.step gno (Step.assign rfl) rfl ?_)
    refine RV.nil ?_
    refine KV.then_n ?_
    refine KV.env [(1, _), (2, _), (7, _)] ⟨rfl, rfl, rfl, trivial⟩ ?_
    refine CV.seq ?_
    -- region 4 law.go:331
    refine CV.region ?_
    refine RV.op (OV.step gno (Step.move rfl) rfl ?_)
    refine RV.op (OV.call [] (F := [_]) Try.func13 B13 N13 rfl rfl (fun w h => new_fn (h.os 0 rfl) rfl) (fun _ hb => hb.elim) gno rfl (fun v L' hp => ?_))
    obtain ⟨b, a, rfl, rfl⟩ := hp.1 hnew
    refine RV.op (OV.step gno (Step.move rfl) rfl ?_)
    refine RV.op (OV.step gno (Step.extract0 rfl rfl) rfl ?_)
    refine RV.op (OV.step gno (Step.extract0 rfl rfl) rfl ?_)
    refine RV.op (OV.step gno (Step.assign rfl) rfl ?_)
    refine RV.op (OV.step gno (Step.assign rfl) rfl ?_)
    refine RV.nil ?_
    refine KV.then_n ?_
    refine KV.env [(1, _), (2, _), (7, _), (8, _), (9, _)] ⟨rfl, rfl, rfl, rfl, rfl, trivial⟩ ?_
    refine CV.seq ?_
    refine CV.seq ?_
    -- region 5 law.go:332
    refine CV.region ?_
    refine RV.op (OV.step gno (Step.move rfl) rfl ?_)
    refine RV.op (OV.split gno (Step.neq rfl rfl) rfl (fun z1 => ?_) (fun z1 => ?_))
    · -- True
      exact absurd rfl z1
    · -- False
      refine RV.op (OV.step gno (Step.move rfl) rfl ?_)
      refine RV.op (OV.step (gyes rfl) (Step.move rfl) rfl ?_)
      refine RV.op (OV.split (gyes rfl) (Step.eqlP Try.underlying24 rfl rfl) rfl (fun z2 => ?_) (fun z2 => ?_))
      · -- True
        cases z2
      · -- False
        refine RV.op (OV.step gno (Step.pick_f rfl rfl) rfl ?_)
        refine RV.nil ?_
        refine KV.then_n ?_
        refine KV.env [(1, _), (2, _), (7, _), (8, _), (41, _)] ⟨rfl, rfl, rfl, rfl, rfl, trivial⟩ ?_
        refine CV.cond_f rfl ?_
        refine CV.skip ?_
        refine KV.then_n ?_
        refine KV.env [(1, _), (2, _), (7, _), (8, _)] ⟨rfl, rfl, rfl, rfl, trivial⟩ ?_
        refine CV.seq ?_
        -- region 7 law.go:335
        refine CV.region ?_
        refine RV.op (OV.step gno (Step.assign rfl) rfl ?_)
        refine RV.nil ?_
        refine KV.then_n ?_
        refine KV.env [(1, _), (2, _), (7, _), (8, _), (10, _)] ⟨rfl, rfl, rfl, rfl, rfl, trivial⟩ ?_
        refine CV.seq ?_
        refine CV.seq ?_
        -- region 8 law.go:336
        refine CV.region ?_
        refine RV.op (OV.step gno (Step.assign rfl) rfl ?_)
        refine RV.nil ?_
        refine KV.then_n ?_
        refine KV.env [(1, _), (2, _), (7, _), (8, _), (10, _), (11, _)] ⟨rfl, rfl, rfl, rfl, rfl, rfl, trivial⟩ ?_
        refine CV.block ?_
        -- loop L9; live [1, 2, 7, 8, 10, 11]
        refine KV.sel [0, 0, 0, 0, 0] [_, _, _, _, _] rfl ?_
        refine CV.loop2 (fun i (st : St) => i ≤ l.length ∧ IN (someM raw) i st) (fun i _ => l.length - i) (fun i st => [(1, .slice B l.length d), (2, .int .i64 t), (7, .slice A2 (someM raw).length c2), (8, .pointer (some ⟨b, 0, none⟩)), (10, .int .u64 st.clock), (11, .int .i64 i)]) (fun _ st => Hp I w ([OS 35 railK A2 c2 (someM raw)] ++ robj 73 b a st)) 0 (new0 (someM raw)) ⟨Nat.zero_le _, IN.start _⟩ ⟨rfl, rfl, rfl, rfl, rfl, rfl, trivial⟩ (fun _ h => h) ?_
        intro i st hi
        have hrl := hi.2.inv.rails
        have hrl3 : st.rails.length = (someM raw).length := by rw [hrl]
        refine CV.seq ?_
        refine CV.seq ?_
        -- region 9 law.go:336
        refine CV.region ?_
        refine RV.op (OV.step gno (Step.move rfl) rfl ?_)
        refine RV.op (OV.step gno (Step.move rfl) rfl ?_)
        refine RV.op (OV.step gno (Step.lenSl Try.underlying37 rfl) rfl ?_)
        refine RV.op (OV.split gno (Step.lss rfl rfl) rfl (fun hlt => ?_) (fun hlt => ?_))
        · -- True
          refine RV.nil ?_
          refine KV.then_n ?_
          refine KV.env [(1, _), (2, _), (7, _), (8, _), (10, _), (11, _), (45, _)] ⟨rfl, rfl, rfl, rfl, rfl, rfl, rfl, trivial⟩ ?_
          refine CV.cond_t rfl ?_
          refine CV.skip ?_
          refine KV.then_n ?_
          refine KV.env [(1, _), (2, _), (7, _), (8, _), (10, _), (11, _)] ⟨rfl, rfl, rfl, rfl, rfl, rfl, trivial⟩ ?_
          refine CV.seq ?_
          refine CV.block ?_
          refine CV.seq ?_
          -- region 11 law.go:337
          refine CV.region ?_
          refine RV.op (OV.step gno (Step.move rfl) rfl ?_)
          refine RV.op (OV.step gno (Step.move rfl) rfl ?_)
          refine RV.op (OV.step gno (Step.idx Try.underlying37 I48 (fun w h => h.rs hl (fun _ => hI _)) rfl rfl (by first | rfl | omega) _ rfl (by omega)) rfl ?_)
          refine RV.op (OV.step gno (Step.loadN _ Try.underlying48 rfl I48 rfl rfl (fun w h => (h.rs hl (fun _ => hI _)).cells (by omega))) rfl ?_)
          refine RV.op (OV.alloc #[.bool false, .int .i64 0, .int .u64 0, .bool false] I48 rfl gno rfl (fun b11_4 => ?_))
          refine RV.op (OV.store 5 [_, _, _, _] #[_, _, _, _] I48 rfl rfl rfl rfl rfl (Nat.le_of_ble_eq_true rfl) (by simp [Value.oneCell']) rfl gno ?_)
          refine RV.nil ?_
          refine KV.then_n ?_
          refine KV.env [(1, _), (2, _), (7, _), (8, _), (10, _), (11, _), (12, _)] ⟨rfl, rfl, rfl, rfl, rfl, rfl, rfl, trivial⟩ ?_
          refine CV.seq ?_
          -- region 12 law.go:338
          refine CV.region ?_
          refine RV.op (OV.step gno (Step.fieldAddr rfl (F48_3 _ _)) rfl ?_)
          refine RV.op (OV.store 5 [_] #[_, _, _, _] I4 rfl rfl rfl rfl rfl (Nat.le_of_ble_eq_true rfl) (by simp [Value.oneCell']) rfl gno ?_)
          refine RV.nil ?_
          refine KV.then_n ?_
          refine KV.env [(1, _), (2, _), (7, _), (8, _), (10, _), (11, _), (12, _)] ⟨rfl, rfl, rfl, rfl, rfl, rfl, rfl, trivial⟩ ?_
          refine CV.seq ?_
          -- region 13 law.go:339
          refine CV.region ?_
          refine RV.op (OV.step gno (Step.loadN _ Try.underlying48 rfl I48 rfl rfl (fun w h => h.cells 5 rfl)) rfl ?_)
          refine RV.op (OV.step gno (Step.move rfl) rfl ?_)
          refine RV.op (OV.step gno (Step.lenSl Try.underlying22 rfl) rfl ?_)
          refine RV.op (OV.step gno (Step.move rfl) rfl ?_)
          refine RV.op (OV.call [] (F := [_, _, _, _, _, _]) Try.func19 B19 N19 rfl rfl (fun w h => at_fn (cf (l.getD i callK.d)) (someM raw).length st.clock (by omega)) (fun _ hb => hb.elim) gno rfl (fun v L' hp => ?_))
          obtain ⟨rfl, rfl⟩ := hp
          simp only [List.append_nil]
          refine RV.op (OV.step gno (Step.move rfl) rfl ?_)
          refine RV.op (OV.step gno (Step.extract0 rfl rfl) rfl ?_)
          refine RV.op (OV.step gno (Step.extract0 rfl rfl) rfl ?_)
          refine RV.op (OV.step gno (Step.assign rfl) rfl ?_)
          refine RV.op (OV.step gno (Step.assign rfl) rfl ?_)
          refine RV.nil ?_
          refine KV.then_n ?_
          refine KV.env [(1, _), (2, _), (7, _), (8, _), (10, _), (11, _), (12, _), (14, _)] ⟨rfl, rfl, rfl, rfl, rfl, rfl, rfl, rfl, trivial⟩ ?_
          refine CV.seq ?_
          -- region 14 law.go:340
          refine CV.region ?_
          refine RV.op (OV.step gno (Step.move rfl) rfl ?_)
          refine RV.op (OV.step gno (Step.loadN _ Try.underlying48 rfl I48 rfl rfl (fun w h => h.cells 5 rfl)) rfl ?_)
          refine RV.op (OV.step gno (Step.move rfl) rfl ?_)
          refine RV.op (OV.step gno (Step.lenSl Try.underlying22 rfl) rfl ?_)
          refine RV.op (OV.step gno (Step.move rfl) rfl ?_)
          refine RV.op (OV.call [1, 1, 1, 1] (F := [_, _]) Try.func20 B20 N20 rfl rfl (fun w h => do_fn b a st (cf (l.getD i callK.d)) (someM raw).length st.clock (by omega) 8 rk hi.2.inv.wf (G.acy' hi.2.inv.rails) (G.rank' hi.2.inv.rails) (by omega)) (fun _ hb => hb.elim) gno rfl (fun v L' hp => ?_))
          obtain ⟨A3, c3, rfl, rfl⟩ := hp
          have D := do_did G (m := i) (by omega) hi.2 (cf (l.getD i callK.d)) (someM raw).length st.clock
          generalize hdo : doM 8 st (cf (l.getD i callK.d)) (someM raw).length st.clock = r at D ⊢
          obtain ⟨st2, op2, er⟩ := r
          have d1 : IN (someM raw) (i + 1) st2 := D.inn
          have d2 := d1.clock
          have hr2 := d1.inv.rails
          have hrl2 : st2.rails.length = (someM raw).length := by rw [hr2]
          have wf2 := d1.inv.wf
          simp only []
          refine RV.op (OV.step gno (Step.move rfl) rfl ?_)
          refine RV.op (OV.step gno (Step.extract0 rfl rfl) rfl ?_)
          refine RV.op (OV.step gno (Step.extract0 rfl rfl) rfl ?_)
          refine RV.op (OV.step gno (Step.assign rfl) rfl ?_)
          refine RV.op (OV.step gno (Step.assign rfl) rfl ?_)
          refine RV.nil ?_
          refine KV.then_n ?_
          refine KV.env [(1, _), (2, _), (7, _), (8, _), (10, _), (11, _), (14, _), (16, _)] ⟨rfl, rfl, rfl, rfl, rfl, rfl, rfl, rfl, trivial⟩ ?_
          refine CV.seq ?_
          -- region 15 law.go:340
          refine CV.region ?_
          refine RV.op (OV.step gno (Step.move rfl) rfl ?_)
          refine RV.op (OV.split gno (Step.eql rfl rfl) rfl (fun he => ?_) (fun he => ?_))
          · -- True
            have hck := (D.good he).1
            simp only [] at hck
            rw [← hck]
            refine RV.nil ?_
            refine KV.then_n ?_
            refine KV.env [(1, _), (2, _), (7, _), (8, _), (10, _), (11, _), (14, _), (71, _)] ⟨rfl, rfl, rfl, rfl, rfl, rfl, rfl, rfl, trivial⟩ ?_
            refine CV.cond_t rfl ?_
            -- region 16 law.go:341
            refine CV.region ?_
            refine RV.op (OV.step gno (Step.move rfl) rfl ?_)
            refine RV.op (OV.step gno (Step.assign rfl) rfl ?_)
            refine RV.nil ?_
            refine KV.block_n ?_
            refine KV.then_n ?_
            refine KV.env [(1, _), (2, _), (7, _), (8, _), (10, _), (11, _)] ⟨rfl, rfl, rfl, rfl, rfl, rfl, trivial⟩ ?_
            -- region 10 law.go:336
            refine CV.region ?_
            refine RV.op (OV.step gno (Step.move rfl) rfl ?_)
            (first | refine RV.op (OV.step gno (Step.add rfl rfl (wI64 (by omega) (by omega))) rfl ?_) | refine RV.op (OV.step gno (Step.add rfl rfl rfl) rfl ?_))
            refine RV.op (OV.step gno (Step.assign rfl) rfl ?_)
            refine RV.nil ?_
            refine KV.then_n ?_
            refine KV.env [(1, _), (2, _), (7, _), (8, _), (10, _), (11, _)] ⟨rfl, rfl, rfl, rfl, rfl, rfl, trivial⟩ ?_
            refine KV.sel [0, 1, 1, 1, 1] [_, _, _, _, _] rfl ?_
            first | refine KV.loop2 (y := st) (i + 1) st2 ⟨by omega, d1⟩ (by omega) ⟨rfl, rfl, rfl, rfl, rfl, rfl, trivial⟩ (fun _ h => h) | refine KV.loop2 (y := st2) (i + 1) st2 ⟨by omega, d1⟩ (by omega) ⟨rfl, rfl, rfl, rfl, rfl, rfl, trivial⟩ (fun _ h => h)
          · -- False
            obtain ⟨hs1, hs2⟩ := D.bad he
            simp only [] at hs1 hs2
            subst hs1
            refine RV.nil ?_
            refine KV.then_n ?_
            refine KV.env [(1, _), (2, _), (7, _), (8, _), (10, _), (11, _), (14, _), (71, _)] ⟨rfl, rfl, rfl, rfl, rfl, rfl, rfl, rfl, trivial⟩ ?_
            refine CV.cond_f rfl ?_
            refine CV.skip ?_
            refine KV.block_n ?_
            refine KV.then_n ?_
            refine KV.env [(1, _), (2, _), (7, _), (8, _), (10, _), (11, _)] ⟨rfl, rfl, rfl, rfl, rfl, rfl, trivial⟩ ?_
            -- region 10 law.go:336
            refine CV.region ?_
            refine RV.op (OV.step gno (Step.move rfl) rfl ?_)
            (first | refine RV.op (OV.step gno (Step.add rfl rfl (wI64 (by omega) (by omega))) rfl ?_) | refine RV.op (OV.step gno (Step.add rfl rfl rfl) rfl ?_))
            refine RV.op (OV.step gno (Step.assign rfl) rfl ?_)
            refine RV.nil ?_
            refine KV.then_n ?_
            refine KV.env [(1, _), (2, _), (7, _), (8, _), (10, _), (11, _)] ⟨rfl, rfl, rfl, rfl, rfl, rfl, trivial⟩ ?_
            refine KV.sel [0, 1, 1, 1, 1] [_, _, _, _, _] rfl ?_
            first | refine KV.loop2 (y := st) (i + 1) st2 ⟨by omega, d1⟩ (by omega) ⟨rfl, rfl, rfl, rfl, rfl, rfl, trivial⟩ (fun _ h => h) | refine KV.loop2 (y := st2) (i + 1) st2 ⟨by omega, d1⟩ (by omega) ⟨rfl, rfl, rfl, rfl, rfl, rfl, trivial⟩ (fun _ h => h)
        · -- False
          refine RV.nil ?_
          refine KV.then_n ?_
          refine KV.env [(1, _), (2, _), (7, _), (8, _), (10, _), (11, _), (45, _)] ⟨rfl, rfl, rfl, rfl, rfl, rfl, rfl, trivial⟩ ?_
          refine CV.cond_f rfl ?_
          refine CV.exit ?_
          refine KV.then_exit ?_
          refine KV.then_exit ?_
          refine KV.block_hit ?_
          refine KV.then_n ?_
          refine KV.env [(2, _), (7, _), (8, _), (10, _)] ⟨rfl, rfl, rfl, rfl, trivial⟩ ?_
          refine CV.seq ?_
          refine CV.seq ?_
          -- region 17 law.go:344
          refine CV.region ?_
          refine RV.op (OV.step gno (Step.move rfl) rfl ?_)
          refine RV.op (OV.step gno (Step.lenSl Try.underlying22 rfl) rfl ?_)
          refine RV.op (OV.split gno (Step.eql rfl rfl) rfl (fun hz => ?_) (fun hz => ?_))
          · -- True
            refine RV.nil ?_
            refine KV.then_n ?_
            refine KV.env [(2, _), (7, _), (8, _), (10, _), (75, _)] ⟨rfl, rfl, rfl, rfl, rfl, trivial⟩ ?_
            refine CV.cond_t rfl ?_
            refine CV.seq ?_
            -- region 18 law.go:345
            refine CV.region ?_
            refine RV.op (OV.call [] (F := [_, _, _, _, _]) Try.func12 B12 N12 rfl rfl (fun w h => awake_fn) (fun _ hb => hb.elim) gno rfl (fun v L' hp => ?_))
            obtain ⟨rfl, rfl⟩ := hp
            simp only [List.append_nil]
            refine RV.op (OV.step gno (Step.assign rfl) rfl ?_)
            refine RV.nil ?_
            refine KV.then_n ?_
            refine KV.env [(6, _)] ⟨rfl, trivial⟩ ?_
            refine CV.ret ?_
            refine KV.then_ret ?_
            -- return at r18
            refine KV.sel [] [] rfl ?_
            exact KV.ret1 rfl rfl _ (fun _ h => h) ⟨rfl, rfl⟩
          · -- False
            refine RV.nil ?_
            refine KV.then_n ?_
            refine KV.env [(2, _), (7, _), (8, _), (10, _), (75, _)] ⟨rfl, rfl, rfl, rfl, rfl, trivial⟩ ?_
            refine CV.cond_f rfl ?_
            refine CV.skip ?_
            refine KV.then_n ?_
            refine KV.env [(2, _), (7, _), (8, _), (10, _)] ⟨rfl, rfl, rfl, rfl, trivial⟩ ?_
            refine CV.seq ?_
            -- region 19 law.go:347
            refine CV.region ?_
            refine RV.op (OV.step gno (Step.move rfl) rfl ?_)
            refine RV.op (OV.step gno (Step.move rfl) rfl ?_)
            refine RV.op (OV.step gno (Step.lenSl Try.underlying22 rfl) rfl ?_)
            refine RV.op (OV.call [] Try.func16 B16 N16 rfl rfl (fun w h => (mod_fn t (someM raw).length (by omega) (by omega)).fn w) (fun _ hb => hb.elim) gno rfl (fun v L' hp => ?_))
            obtain ⟨rfl, rfl⟩ := hp
            simp only [List.append_nil]
            obtain ⟨q, hq⟩ := Int.eq_ofNat_of_zero_le (modM_lt t (n := (someM raw).length) (by omega)).1
            have hqn := (modM_lt t (n := (someM raw).length) (by omega)).2
            rw [hq]
            rw [hq] at hqn
            obtain ⟨sa, na, sb, nb, ea, eb, ia, ib, hcount, hna, hnb, hall⟩ := acq_rel G (m := i) (by omega) hi.2 (q := q) (by omega)
            have hrb := ib.inv.rails
            have hrbl : sb.rails.length = (someM raw).length := by rw [hrb]
            refine RV.op (OV.step gno (Step.assign rfl) rfl ?_)
            refine RV.nil ?_
            refine KV.then_n ?_
            refine KV.env [(7, _), (8, _), (10, _), (17, _)] ⟨rfl, rfl, rfl, rfl, trivial⟩ ?_
            refine CV.seq ?_
            -- region 20 law.go:348
            refine CV.region ?_
            refine RV.op (OV.step gno (Step.move rfl) rfl ?_)
            refine RV.op (OV.call [1, 1, 1, 1] (F := [_]) Try.func29 B29 N29 rfl rfl (fun w h => copy_fn b a st hi.2.inv.wf (by omega)) (fun _ hb => hb.elim) gno rfl (fun v L' hp => ?_))
            obtain ⟨b3, a3, rfl, rfl⟩ := hp
            refine RV.op (OV.step gno (Step.assign rfl) rfl ?_)
            refine RV.nil ?_
            refine KV.then_n ?_
            refine KV.env [(7, _), (8, _), (10, _), (17, _), (18, _)] ⟨rfl, rfl, rfl, rfl, rfl, trivial⟩ ?_
            refine CV.seq ?_
            refine CV.seq ?_
            -- region 21 law.go:349
            refine CV.region ?_
            refine RV.op (OV.step gno (Step.move rfl) rfl ?_)
            refine RV.op (OV.split gno (Step.eqlP Try.underlying24 rfl rfl) rfl (fun z3 => ?_) (fun z3 => ?_))
            · -- True
              cases z3
            · -- False
              refine RV.nil ?_
              refine KV.then_n ?_
              refine KV.env [(7, _), (8, _), (10, _), (17, _), (18, _), (84, _)] ⟨rfl, rfl, rfl, rfl, rfl, rfl, trivial⟩ ?_
              refine CV.cond_f rfl ?_
              refine CV.skip ?_
              refine KV.then_n ?_
              refine KV.env [(7, _), (8, _), (10, _), (17, _), (18, _)] ⟨rfl, rfl, rfl, rfl, rfl, trivial⟩ ?_
              refine CV.seq ?_
              -- region 23 law.go:352
              refine CV.region ?_
              refine RV.op (OV.step gno (Step.move rfl) rfl ?_)
              refine RV.op (OV.step gno (Step.move rfl) rfl ?_)
              refine RV.op (OV.step gno (Step.move rfl) rfl ?_)
              refine RV.op (OV.call [1, 1, 1, 1] (F := [_, _, _, _, _]) Try.func31 B31 N31 rfl rfl (fun w h => acquire_fn b a st q st.clock w 8 rk hi.2.inv.wf (G.acy' hi.2.inv.rails) (G.rank' hi.2.inv.rails) (by omega)) (fun _ hb => hb.elim) gno rfl (fun v L' hp => ?_))
              rw [ea] at hp
              obtain ⟨A5, c5, rfl, rfl⟩ := hp
              simp only []
              refine RV.op (OV.step gno (Step.move rfl) rfl ?_)
              refine RV.op (OV.step gno (Step.extract0 rfl rfl) rfl ?_)
              refine RV.op (OV.step gno (Step.extract0 rfl rfl) rfl ?_)
              refine RV.op (OV.step gno (Step.assign rfl) rfl ?_)
              refine RV.op (OV.step gno (Step.assign rfl) rfl ?_)
              refine RV.nil ?_
              refine KV.then_n ?_
              refine KV.env [(7, _), (8, _), (10, _), (17, _), (18, _), (19, _), (20, _)] ⟨rfl, rfl, rfl, rfl, rfl, rfl, rfl, trivial⟩ ?_
              refine CV.seq ?_
              -- region 24 law.go:353
              refine CV.region ?_
              refine RV.op (OV.step gno (Step.move rfl) rfl ?_)
              refine RV.op (OV.step gno (Step.move rfl) rfl ?_)
              refine RV.op (OV.step gno (Step.move rfl) rfl ?_)
              refine RV.op (OV.call [5, 5, 5, 5] (F := [_, _, _, _, _, _]) Try.func32 B32 N32 rfl rfl (fun w h => release_fn b a sa q st.clock w 8 rk ia.inv.wf (G.acy' ia.inv.rails) (G.rank' ia.inv.rails) (by omega)) (fun _ hb => hb.elim) gno rfl (fun v L' hp => ?_))
              rw [eb] at hp
              obtain ⟨A6, c6, rfl, rfl⟩ := hp
              simp only []
              refine RV.op (OV.step gno (Step.move rfl) rfl ?_)
              refine RV.op (OV.step gno (Step.extract0 rfl rfl) rfl ?_)
              refine RV.op (OV.step gno (Step.extract0 rfl rfl) rfl ?_)
              refine RV.op (OV.step gno (Step.assign rfl) rfl ?_)
              refine RV.op (OV.step gno (Step.assign rfl) rfl ?_)
              refine RV.nil ?_
              refine KV.then_n ?_
              refine KV.env [(7, _), (8, _), (18, _), (19, _), (20, _), (21, _), (22, _)] ⟨rfl, rfl, rfl, rfl, rfl, rfl, rfl, trivial⟩ ?_
              refine CV.seq ?_
              refine CV.seq ?_
              -- region 25 law.go:354
              refine CV.region ?_
              refine RV.op (OV.step gno (Step.move rfl) rfl ?_)
              refine RV.op (OV.split gno (Step.neq rfl rfl) rfl (fun z4 => ?_) (fun z4 => ?_))
              · -- True
                exact absurd rfl z4
              · -- False
                refine RV.op (OV.step gno (Step.move rfl) rfl ?_)
                refine RV.op (OV.step (gyes rfl) (Step.move rfl) rfl ?_)
                refine RV.op (OV.split (gyes rfl) (Step.neq rfl rfl) rfl (fun z5 => ?_) (fun z5 => ?_))
                · -- True
                  exact absurd rfl z5
                · -- False
                  refine RV.op (OV.step gno (Step.pick_f rfl rfl) rfl ?_)
                  refine RV.op (OV.step gno (Step.move rfl) rfl ?_)
                  refine RV.op (OV.step (gyes rfl) (Step.move rfl) rfl ?_)
                  refine RV.op (OV.step (gyes rfl) (Step.lenSl Try.underlying38 rfl) rfl ?_)
                  refine RV.op (OV.step (gyes rfl) (Step.move rfl) rfl ?_)
                  refine RV.op (OV.step (gyes rfl) (Step.lenSl Try.underlying38 rfl) rfl ?_)
                  refine RV.op (OV.split (gyes rfl) (Step.neq rfl rfl) rfl (fun z6 => ?_) (fun z6 => ?_))
                  · -- True
                    omega
                  · -- False
                    refine RV.op (OV.step gno (Step.pick_f rfl rfl) rfl ?_)
                    refine RV.nil ?_
                    refine KV.then_n ?_
                    refine KV.env [(7, _), (8, _), (18, _), (19, _), (21, _), (111, _)] ⟨rfl, rfl, rfl, rfl, rfl, rfl, trivial⟩ ?_
                    refine CV.cond_f rfl ?_
                    refine CV.skip ?_
                    refine KV.then_n ?_
                    refine KV.env [(7, _), (8, _), (18, _), (19, _), (21, _)] ⟨rfl, rfl, rfl, rfl, rfl, trivial⟩ ?_
                    refine CV.seq ?_
                    refine CV.seq ?_
                    -- region 27 law.go:357
                    refine CV.region ?_
                    refine RV.op (OV.step gno (Step.assign rfl) rfl ?_)
                    refine RV.nil ?_
                    refine KV.then_n ?_
                    refine KV.env [(7, _), (8, _), (18, _), (19, _), (21, _), (23, _)] ⟨rfl, rfl, rfl, rfl, rfl, rfl, trivial⟩ ?_
                    refine CV.block ?_
                    -- loop L28; live [7, 8, 18, 19, 21, 23]
                    refine KV.sel [0, 5, 5, 5, 5, 0, 0, 0, 0, 0, 0] [_, _, _, _, _, _, _, _, _, _, _] rfl ?_
                    refine CV.loopI (α := Nat) (fun k => k ≤ na.length) (fun k => na.length - k) (fun k => [(7, .slice A2 (someM raw).length c2), (8, .pointer (some ⟨b, 0, none⟩)), (18, .pointer (some ⟨b3, 0, none⟩)), (19, .slice A5 na.length c5), (21, .slice A6 nb.length c6), (23, .int .i64 k)]) (fun _ => Hp I w ([OS 35 railK A2 c2 (someM raw)] ++ robj 73 b a sb ++ robj 73 b3 a3 st ++ [OS 45 opK A5 c5 na, OS 45 opK A6 c6 nb])) 0 (Nat.zero_le _) ⟨rfl, rfl, rfl, rfl, rfl, rfl, trivial⟩ (fun _ h => h) ?_
                    intro k hk
                    refine CV.seq ?_
                    refine CV.seq ?_
                    -- region 28 law.go:357
                    refine CV.region ?_
                    refine RV.op (OV.step gno (Step.move rfl) rfl ?_)
                    refine RV.op (OV.step gno (Step.move rfl) rfl ?_)
                    refine RV.op (OV.step gno (Step.lenSl Try.underlying38 rfl) rfl ?_)
                    refine RV.op (OV.split gno (Step.lss rfl rfl) rfl (fun hk2 => ?_) (fun hk2 => ?_))
                    · -- True
                      refine RV.nil ?_
                      refine KV.then_n ?_
                      refine KV.env [(7, _), (8, _), (18, _), (19, _), (21, _), (23, _), (115, _)] ⟨rfl, rfl, rfl, rfl, rfl, rfl, rfl, trivial⟩ ?_
                      refine CV.cond_t rfl ?_
                      refine CV.skip ?_
                      refine KV.then_n ?_
                      refine KV.env [(7, _), (8, _), (18, _), (19, _), (21, _), (23, _)] ⟨rfl, rfl, rfl, rfl, rfl, rfl, trivial⟩ ?_
                      refine CV.seq ?_
                      refine CV.block ?_
                      refine CV.seq ?_
                      -- region 30 law.go:358
                      refine CV.still (by kernel_rfl) (by kernel_rfl) (fun _ h => h.drew) ?_
                      refine SV.step gno (Step.move rfl) rfl ?_
                      refine SV.step gno (Step.move rfl) rfl ?_
                      refine SV.step gno (Step.idx Try.underlying38 I45 (fun w h => h.os 9 rfl) rfl rfl (by first | rfl | omega) _ rfl (by omega)) rfl ?_
                      refine SV.step gno (Step.fieldAddr rfl (F45_0 _ _)) rfl ?_
                      refine SV.step gno (Step.load Try.underlying3 rfl rfl (fun w h => (h.os 9 rfl).cell0 (by omega) rfl)) rfl ?_
                      refine SV.step gno (Step.move rfl) rfl ?_
                      refine SV.step gno (Step.move rfl) rfl ?_
                      refine SV.step gno (Step.lenSl Try.underlying38 rfl) rfl ?_
                      (first | refine SV.step gno (Step.sub rfl rfl (wI64 (by omega) (by omega))) rfl ?_ | refine SV.step gno (Step.sub rfl rfl rfl) rfl ?_)
                      refine SV.step gno (Step.move rfl) rfl ?_
                      (first | refine SV.step gno (Step.sub rfl rfl (wI64 (by omega) (by omega))) rfl ?_ | refine SV.step gno (Step.sub rfl rfl rfl) rfl ?_)
                      refine SV.step gno (Step.idx Try.underlying38 I45 (fun w h => h.os 10 rfl) rfl rfl (by first | rfl | omega) _ (show ((nb.length : Int) - 1 - k) = ((na.length - 1 - k : Nat) : Int) by omega) (by omega)) rfl ?_
                      refine SV.step gno (Step.fieldAddr rfl (F45_0 _ _)) rfl ?_
                      refine SV.step gno (Step.load Try.underlying3 rfl rfl (fun w h => (h.os 10 rfl).cell0 (by omega) rfl)) rfl ?_
                      refine SV.split gno (Step.neq rfl rfl) rfl (fun e1 => ?_) (fun e1 => ?_)
                      · -- True
                        exact absurd (hall k (by omega)).1 e1
                      · -- False
                        refine SV.step gno (Step.move rfl) rfl ?_
                        refine SV.step (gyes rfl) (Step.move rfl) rfl ?_
                        refine SV.step (gyes rfl) (Step.move rfl) rfl ?_
                        refine SV.step (gyes rfl) (Step.idx Try.underlying38 I45 (fun w h => h.os 9 rfl) rfl rfl (by first | rfl | omega) _ rfl (by omega)) rfl ?_
                        refine SV.step (gyes rfl) (Step.fieldAddr rfl (F45_1 _ _)) rfl ?_
                        refine SV.step (gyes rfl) (Step.load Try.underlying4 rfl rfl (fun w h => (h.os 9 rfl).cell (by omega) rfl)) rfl ?_
                        rw [(hall k (by omega)).2.1]
                        refine SV.step (gyes rfl) (Step.not rfl) rfl ?_
                        refine SV.step gno (Step.pick_f rfl rfl) rfl ?_
                        refine SV.step gno (Step.move rfl) rfl ?_
                        refine SV.cases 141 rfl (fun cc1 => ?_) (fun cc1 => ?_)
                        · -- True
                          refine SV.skip rfl rfl ?_
                          refine SV.skip rfl rfl ?_
                          refine SV.skip rfl rfl ?_
                          refine SV.skip rfl rfl ?_
                          refine SV.skip rfl rfl ?_
                          refine SV.step gno (Step.pick_t rfl rfl) rfl ?_
                          refine SV.nil ?_
                          refine KV.then_n ?_
                          refine KV.env [(7, _), (8, _), (18, _), (19, _), (21, _), (23, _), (147, _)] ⟨rfl, rfl, rfl, rfl, rfl, rfl, rfl, trivial⟩ ?_
                          refine CV.cond_t rfl ?_
                          refine CV.seq ?_
                          -- region 31 law.go:359
                          refine CV.region ?_
                          refine RV.op (OV.step gno (Step.assign rfl) rfl ?_)
                          refine RV.nil ?_
                          refine KV.then_n ?_
                          refine KV.env [(6, _)] ⟨rfl, trivial⟩ ?_
                          refine CV.ret ?_
                          refine KV.block_ret ?_
                          refine KV.then_ret ?_
                          refine KV.then_ret ?_
                          refine KV.block_ret ?_
                          refine KV.then_ret ?_
                          -- return at r31
                          refine KV.sel [] [] rfl ?_
                          exfalso
                          simp_all
                        · -- False
                          refine SV.step (gyes rfl) (Step.move rfl) rfl ?_
                          refine SV.step (gyes rfl) (Step.move rfl) rfl ?_
                          refine SV.step (gyes rfl) (Step.idx Try.underlying38 I45 (fun w h => h.os 10 rfl) rfl rfl (by first | rfl | omega) _ rfl (by omega)) rfl ?_
                          refine SV.step (gyes rfl) (Step.fieldAddr rfl (F45_1 _ _)) rfl ?_
                          refine SV.step (gyes rfl) (Step.load Try.underlying4 rfl rfl (fun w h => (h.os 10 rfl).cell (by omega) rfl)) rfl ?_
                          rw [(hall k (by omega)).2.2]
                          refine SV.step gno (Step.pick_f rfl rfl) rfl ?_
                          refine SV.nil ?_
                          refine KV.then_n ?_
                          refine KV.env [(7, _), (8, _), (18, _), (19, _), (21, _), (23, _), (147, _)] ⟨rfl, rfl, rfl, rfl, rfl, rfl, rfl, trivial⟩ ?_
                          refine KV.cases 147 rfl (fun cc2 => ?_) (fun cc2 => ?_)
                          · -- True
                            refine CV.cond_t rfl ?_
                            refine CV.seq ?_
                            -- region 31 law.go:359
                            refine CV.region ?_
                            refine RV.op (OV.step gno (Step.assign rfl) rfl ?_)
                            refine RV.nil ?_
                            refine KV.then_n ?_
                            refine KV.env [(6, _)] ⟨rfl, trivial⟩ ?_
                            refine CV.ret ?_
                            refine KV.block_ret ?_
                            refine KV.then_ret ?_
                            refine KV.then_ret ?_
                            refine KV.block_ret ?_
                            refine KV.then_ret ?_
                            -- return at r31
                            refine KV.sel [] [] rfl ?_
                            exfalso
                            simp_all
                          · -- False
                            refine CV.cond_f rfl ?_
                            refine CV.skip ?_
                            refine KV.block_n ?_
                            refine KV.then_n ?_
                            refine KV.env [(7, _), (8, _), (18, _), (19, _), (21, _), (23, _)] ⟨rfl, rfl, rfl, rfl, rfl, rfl, trivial⟩ ?_
                            -- region 29 law.go:357
                            refine CV.region ?_
                            refine RV.op (OV.step gno (Step.move rfl) rfl ?_)
                            (first | refine RV.op (OV.step gno (Step.add rfl rfl (wI64 (by omega) (by omega))) rfl ?_) | refine RV.op (OV.step gno (Step.add rfl rfl rfl) rfl ?_))
                            refine RV.op (OV.step gno (Step.assign rfl) rfl ?_)
                            refine RV.nil ?_
                            refine KV.then_n ?_
                            refine KV.env [(7, _), (8, _), (18, _), (19, _), (21, _), (23, _)] ⟨rfl, rfl, rfl, rfl, rfl, rfl, trivial⟩ ?_
                            refine KV.sel [0, 0, 0, 0, 0, 0, 0, 0, 0, 0, 0] [_, _, _, _, _, _, _, _, _, _, _] rfl ?_
                            refine KV.loopI (k + 1) (by omega) (by omega) ⟨rfl, rfl, rfl, rfl, rfl, rfl, trivial⟩ (fun _ h => h)
                    · -- False
                      refine RV.nil ?_
                      refine KV.then_n ?_
                      refine KV.env [(7, _), (8, _), (18, _), (19, _), (21, _), (23, _), (115, _)] ⟨rfl, rfl, rfl, rfl, rfl, rfl, rfl, trivial⟩ ?_
                      refine CV.cond_f rfl ?_
                      refine CV.exit ?_
                      refine KV.then_exit ?_
                      refine KV.then_exit ?_
                      refine KV.block_hit ?_
                      refine KV.then_n ?_
                      refine KV.env [(7, _), (8, _), (18, _)] ⟨rfl, rfl, rfl, trivial⟩ ?_
                      refine CV.seq ?_
                      refine CV.seq ?_
                      -- region 32 law.go:362
                      refine CV.region ?_
                      refine RV.op (OV.step gno (Step.assign rfl) rfl ?_)
                      refine RV.nil ?_
                      refine KV.then_n ?_
                      refine KV.env [(7, _), (8, _), (18, _), (24, _)] ⟨rfl, rfl, rfl, rfl, trivial⟩ ?_
                      refine CV.block ?_
                      -- loop L33; live [7, 8, 18, 24]
                      refine KV.sel [0, 0, 0, 0, 0, 0, 0, 0, 0, 0, 0] [_, _, _, _, _, _, _, _, _, _, _] rfl ?_
                      refine CV.loopI (α := Nat) (fun j => j ≤ (someM raw).length) (fun j => (someM raw).length - j) (fun j => [(7, .slice A2 (someM raw).length c2), (8, .pointer (some ⟨b, 0, none⟩)), (18, .pointer (some ⟨b3, 0, none⟩)), (24, .int .i64 j)]) (fun _ => Hp I w ([OS 35 railK A2 c2 (someM raw)] ++ robj 73 b a sb ++ robj 73 b3 a3 st ++ [OS 45 opK A5 c5 na, OS 45 opK A6 c6 nb])) 0 (Nat.zero_le _) ⟨rfl, rfl, rfl, rfl, trivial⟩ (fun _ h => h) ?_
                      intro j hj
                      refine CV.seq ?_
                      refine CV.seq ?_
                      -- region 33 law.go:362
                      refine CV.region ?_
                      refine RV.op (OV.step gno (Step.move rfl) rfl ?_)
                      refine RV.op (OV.step gno (Step.move rfl) rfl ?_)
                      refine RV.op (OV.step gno (Step.lenSl Try.underlying22 rfl) rfl ?_)
                      refine RV.op (OV.split gno (Step.lss rfl rfl) rfl (fun hj2 => ?_) (fun hj2 => ?_))
                      · -- True
                        refine RV.nil ?_
                        refine KV.then_n ?_
                        refine KV.env [(7, _), (8, _), (18, _), (24, _), (151, _)] ⟨rfl, rfl, rfl, rfl, rfl, trivial⟩ ?_
                        refine CV.cond_t rfl ?_
                        refine CV.skip ?_
                        refine KV.then_n ?_
                        refine KV.env [(7, _), (8, _), (18, _), (24, _)] ⟨rfl, rfl, rfl, rfl, trivial⟩ ?_
                        refine CV.seq ?_
                        refine CV.block ?_
                        refine CV.seq ?_
                        -- region 35 law.go:363
                        refine CV.region ?_
                        refine RV.op (OV.step gno (Step.move rfl) rfl ?_)
                        refine RV.op (OV.step gno (Step.move rfl) rfl ?_)
                        refine RV.op (OV.call [1, 1, 1, 1] (F := [_, _, _, _, _, _, _]) Try.func26 B26 N26 rfl rfl (fun w h => count_fn b a sb j w ib.inv.wf) (fun _ hb => hb.elim) gno rfl (fun v L' hp => ?_))
                        obtain ⟨rfl, rfl⟩ := hp
                        rw [if_pos ⟨by omega, by omega⟩, Int.toNat_natCast]
                        refine RV.op (OV.step gno (Step.move rfl) rfl ?_)
                        refine RV.op (OV.step gno (Step.move rfl) rfl ?_)
                        refine RV.op (OV.call [1, 1, 1, 1] (F := [_, _, _, _, _, _, _]) Try.func26 B26 N26 rfl rfl (fun w h => count_fn b3 a3 st j w hi.2.inv.wf) (fun _ hb => hb.elim) gno rfl (fun v L' hp => ?_))
                        obtain ⟨rfl, rfl⟩ := hp
                        rw [if_pos ⟨by omega, by omega⟩, Int.toNat_natCast]
                        refine RV.op (OV.split gno (Step.neq rfl rfl) rfl (fun e3 => ?_) (fun e3 => ?_))
                        · -- True
                          exact absurd (show sb.c j = st.c j by unfold St.c; rw [hcount]) e3
                        · -- False
                          refine RV.nil ?_
                          refine KV.then_n ?_
                          refine KV.env [(7, _), (8, _), (18, _), (24, _), (160, _)] ⟨rfl, rfl, rfl, rfl, rfl, trivial⟩ ?_
                          refine CV.cond_f rfl ?_
                          refine CV.skip ?_
                          refine KV.block_n ?_
                          refine KV.then_n ?_
                          refine KV.env [(7, _), (8, _), (18, _), (24, _)] ⟨rfl, rfl, rfl, rfl, trivial⟩ ?_
                          -- region 34 law.go:362
                          refine CV.region ?_
                          refine RV.op (OV.step gno (Step.move rfl) rfl ?_)
                          (first | refine RV.op (OV.step gno (Step.add rfl rfl (wI64 (by omega) (by omega))) rfl ?_) | refine RV.op (OV.step gno (Step.add rfl rfl rfl) rfl ?_))
                          refine RV.op (OV.step gno (Step.assign rfl) rfl ?_)
                          refine RV.nil ?_
                          refine KV.then_n ?_
                          refine KV.env [(7, _), (8, _), (18, _), (24, _)] ⟨rfl, rfl, rfl, rfl, trivial⟩ ?_
                          refine KV.sel [0, 2, 2, 2, 2, 2, 2, 2, 2, 0, 0] [_, _, _, _, _, _, _, _, _, _, _] rfl ?_
                          refine KV.loopI (j + 1) (by omega) (by omega) ⟨rfl, rfl, rfl, rfl, trivial⟩ (fun _ h => h)
                      · -- False
                        refine RV.nil ?_
                        refine KV.then_n ?_
                        refine KV.env [(7, _), (8, _), (18, _), (24, _), (151, _)] ⟨rfl, rfl, rfl, rfl, rfl, trivial⟩ ?_
                        refine CV.cond_f rfl ?_
                        refine CV.exit ?_
                        refine KV.then_exit ?_
                        refine KV.then_exit ?_
                        refine KV.block_hit ?_
                        refine KV.then_n ?_
                        refine KV.env [] trivial ?_
                        refine CV.seq ?_
                        -- region 37 law.go:367
                        refine CV.region ?_
                        refine RV.op (OV.call [] (F := [_, _, _, _, _, _, _, _, _, _, _]) Try.func12 B12 N12 rfl rfl (fun w h => awake_fn) (fun _ hb => hb.elim) gno rfl (fun v L' hp => ?_))
                        obtain ⟨rfl, rfl⟩ := hp
                        simp only [List.append_nil]
                        refine RV.op (OV.step gno (Step.assign rfl) rfl ?_)
                        refine RV.nil ?_
                        refine KV.then_n ?_
                        refine KV.env [(6, _)] ⟨rfl, trivial⟩ ?_
                        refine CV.ret ?_
                        -- return at r37
                        refine KV.sel [] [] rfl ?_
                        exact KV.ret1 rfl rfl _ (fun _ h => h) ⟨rfl, rfl⟩
end Go.Proofs.Ytcmalbkflbfidaa
