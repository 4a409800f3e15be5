/-
  Walks, part 9.
-/
import Derived.Test.YtcmalbkflbfidaaTab9
import Derived.Test.YtcmalbkflbfidaaW7
import Derived.Test.YtcmalbkflbfidaaPl4
import Derived.Test.YtcmalbkflbfidaaSv8
set_option linter.unusedSimpArgs false
set_option linter.unusedVariables false
namespace Go.Proofs.Ytcmalbkflbfidaa
open Go.Sv Go.Rails
set_option maxRecDepth 100000 in
set_option maxHeartbeats 1000000 in
theorem poweredChain_fn {A B : Option Addr} {n c m d : Nat} {raw : List Rail} {l : List RCall} (t : Int) (ht : 0 ≤ t) {w : World} (hr : RS w railK A raw) (hn : n = raw.length) (hraw : ∀ i, i < raw.length → okRail (raw.getD i railK.d)) (hl : RS w callK B l) (hm : m = l.length) : Fx Try.prog 6 [.slice A n c, .slice B m d, .int .u64 t] w [] no (fun v L => v = .bool true ∧ L = []) := by
  subst hn
  subst hm
  have hsl := some_len raw
  obtain ⟨rk, G⟩ := some_good hraw
  have hnew := good_new G
  have hlen := G.len
  have ht80 := tmod80 ht
  refine Sv.Fx.body Try.func6 rfl T6 rfl ?_
  intro I hro hI
  refine KV.env [(0, _), (1, _), (2, _)] ⟨rfl, rfl, rfl, trivial⟩ ?_
  refine CV.seq ?_
  -- region 0 more.go:9
  refine CV.region ?_
  refine RV.op (OV.step gno (Step.assign rfl) rfl ?_)
  refine RV.nil ?_
  refine KV.then_n ?_
  refine KV.env [(0, _), (1, _), (2, _)] ⟨rfl, rfl, rfl, trivial⟩ ?_
  refine CV.seq ?_
  refine CV.seq ?_
  -- region 1 more.go:10
  refine CV.region ?_
  refine RV.op (OV.step gno (Step.move rfl) rfl ?_)
  refine RV.op (OV.step gno (Step.lenSl Try.underlying37 rfl) rfl ?_)
  refine RV.op (OV.split gno (Step.gtr rfl rfl) rfl (fun hlong => ?_) (fun hlong => ?_))
  · -- True
    refine RV.nil ?_
    refine KV.then_n ?_
    refine KV.env [(0, _), (1, _), (2, _), (26, _)] ⟨rfl, rfl, rfl, rfl, trivial⟩ ?_
    refine CV.cond_t rfl ?_
    refine CV.seq ?_
    -- region 2 more.go:11
    refine CV.region ?_
    refine RV.op (OV.call [] (F := []) Try.func12 B12 N12 rfl rfl (fun w h => awake_fn) (fun _ hb => hb.elim) gno rfl (fun v L' hp => ?_))
    obtain ⟨rfl, rfl⟩ := hp
    simp only [List.append_nil]
    refine RV.op (OV.step gno (Step.assign rfl) rfl ?_)
    refine RV.nil ?_
    refine KV.then_n ?_
    refine KV.env [(6, _)] ⟨rfl, trivial⟩ ?_
    refine CV.ret ?_
    refine KV.then_ret ?_
    -- return at r2
    refine KV.sel [] [] rfl ?_
    exact KV.ret1 rfl rfl _ (fun _ h => h) ⟨rfl, rfl⟩
  · -- False
    refine RV.nil ?_
    refine KV.then_n ?_
    refine KV.env [(0, _), (1, _), (2, _), (26, _)] ⟨rfl, rfl, rfl, rfl, trivial⟩ ?_
    refine CV.cond_f rfl ?_
    refine CV.skip ?_
    refine KV.then_n ?_
    refine KV.env [(0, _), (1, _), (2, _)] ⟨rfl, rfl, rfl, trivial⟩ ?_
    refine CV.seq ?_
    -- region 3 more.go:13
    refine CV.region ?_
    refine RV.op (OV.step gno (Step.move rfl) rfl ?_)
    refine RV.op (OV.call [] (F := []) Try.func15 B15 N15 rfl rfl (fun w h => some_fn (h.rs hr (fun _ => hI _))) (fun _ hb => hb.elim) gno rfl (fun v L' hp => ?_))
    obtain ⟨A2, c2, rfl, rfl⟩ := hp
    refine RV.op (OV.step gno (Step.assign rfl) rfl ?_)
    refine RV.nil ?_
    refine KV.then_n ?_
    refine KV.env [(1, _), (2, _), (7, _)] ⟨rfl, rfl, rfl, trivial⟩ ?_
    refine CV.seq ?_
    -- region 4 more.go:14
    refine CV.region ?_
    refine RV.op (OV.step gno (Step.move rfl) rfl ?_)
    refine RV.op (OV.call [] (F := [_]) Try.func13 B13 N13 rfl rfl (fun w h => new_fn (h.os 0 rfl) rfl) (fun _ hb => hb.elim) gno rfl (fun v L' hp => ?_))
    obtain ⟨b, a, rfl, rfl⟩ := hp.1 hnew
    refine RV.op (OV.step gno (Step.move rfl) rfl ?_)
    refine RV.op (OV.step gno (Step.extract0 rfl rfl) rfl ?_)
    refine RV.op (OV.step gno (Step.extract0 rfl rfl) rfl ?_)
    refine RV.op (OV.step gno (Step.assign rfl) rfl ?_)
    refine RV.op (OV.step gno (Step.assign rfl) rfl ?_)
    refine RV.nil ?_
    refine KV.then_n ?_
    refine KV.env [(1, _), (2, _), (7, _), (8, _), (9, _)] ⟨rfl, rfl, rfl, rfl, rfl, trivial⟩ ?_
    refine CV.seq ?_
    refine CV.seq ?_
    -- region 5 more.go:15
    refine CV.region ?_
    refine RV.op (OV.step gno (Step.move rfl) rfl ?_)
    refine RV.op (OV.split gno (Step.neq rfl rfl) rfl (fun z1 => ?_) (fun z1 => ?_))
    · -- True
      exact absurd rfl z1
    · -- False
      refine RV.op (OV.step gno (Step.move rfl) rfl ?_)
      refine RV.op (OV.step (gyes rfl) (Step.move rfl) rfl ?_)
      refine RV.op (OV.split (gyes rfl) (Step.eqlP Try.underlying24 rfl rfl) rfl (fun z2 => ?_) (fun z2 => ?_))
      · -- True
        cases z2
      · -- False
        refine RV.op (OV.step gno (Step.pick_f rfl rfl) rfl ?_)
        refine RV.nil ?_
        refine KV.then_n ?_
        refine KV.env [(1, _), (2, _), (7, _), (8, _), (40, _)] ⟨rfl, rfl, rfl, rfl, rfl, trivial⟩ ?_
        refine CV.cond_f rfl ?_
        refine CV.skip ?_
        refine KV.then_n ?_
        refine KV.env [(1, _), (2, _), (7, _), (8, _)] ⟨rfl, rfl, rfl, rfl, trivial⟩ ?_
        refine CV.seq ?_
        -- region 7 more.go:18
        refine CV.region ?_
        refine RV.op (OV.step gno (Step.assign rfl) rfl ?_)
        refine RV.nil ?_
        refine KV.then_n ?_
        refine KV.env [(1, _), (2, _), (7, _), (8, _), (10, _)] ⟨rfl, rfl, rfl, rfl, rfl, trivial⟩ ?_
        refine CV.seq ?_
        refine CV.seq ?_
        -- region 8 more.go:19
        refine CV.region ?_
        refine RV.op (OV.step gno (Step.assign rfl) rfl ?_)
        refine RV.nil ?_
        refine KV.then_n ?_
        refine KV.env [(1, _), (2, _), (7, _), (8, _), (10, _), (11, _)] ⟨rfl, rfl, rfl, rfl, rfl, rfl, trivial⟩ ?_
        refine CV.block ?_
        -- loop L9; live [1, 2, 7, 8, 10, 11]
        refine KV.sel [0, 0, 0, 0, 0] [_, _, _, _, _] rfl ?_
        refine CV.loop2 (fun i (st : St) => i ≤ l.length ∧ IN (someM raw) i st) (fun i _ => l.length - i) (fun i st => [(1, .slice B l.length d), (2, .int .u64 t), (7, .slice A2 (someM raw).length c2), (8, .pointer (some ⟨b, 0, none⟩)), (10, .int .u64 st.clock), (11, .int .i64 i)]) (fun _ st => Hp I w ([OS 35 railK A2 c2 (someM raw)] ++ robj 73 b a st)) 0 (new0 (someM raw)) ⟨Nat.zero_le _, IN.start _⟩ ⟨rfl, rfl, rfl, rfl, rfl, rfl, trivial⟩ (fun _ h => h) ?_
        intro i st hi
        have hrl := hi.2.inv.rails
        refine CV.seq ?_
        refine CV.seq ?_
        -- region 9 more.go:19
        refine CV.region ?_
        refine RV.op (OV.step gno (Step.move rfl) rfl ?_)
        refine RV.op (OV.step gno (Step.move rfl) rfl ?_)
        refine RV.op (OV.step gno (Step.lenSl Try.underlying37 rfl) rfl ?_)
        refine RV.op (OV.split gno (Step.lss rfl rfl) rfl (fun hlt => ?_) (fun hlt => ?_))
        · -- True
          refine RV.nil ?_
          refine KV.then_n ?_
          refine KV.env [(1, _), (2, _), (7, _), (8, _), (10, _), (11, _), (44, _)] ⟨rfl, rfl, rfl, rfl, rfl, rfl, rfl, trivial⟩ ?_
          refine CV.cond_t rfl ?_
          refine CV.skip ?_
          refine KV.then_n ?_
          refine KV.env [(1, _), (2, _), (7, _), (8, _), (10, _), (11, _)] ⟨rfl, rfl, rfl, rfl, rfl, rfl, trivial⟩ ?_
          refine CV.seq ?_
          refine CV.block ?_
          refine CV.seq ?_
          -- region 11 more.go:20
          refine CV.region ?_
          refine RV.op (OV.step gno (Step.move rfl) rfl ?_)
          refine RV.op (OV.step gno (Step.move rfl) rfl ?_)
          refine RV.op (OV.step gno (Step.idx Try.underlying37 I48 (fun w h => h.rs hl (fun _ => hI _)) rfl rfl (rfl) _ rfl (by omega)) rfl ?_)
          refine RV.op (OV.step gno (Step.loadN _ Try.underlying48 rfl I48 rfl rfl (fun w h => (h.rs hl (fun _ => hI _)).cells (by omega))) rfl ?_)
          refine RV.op (OV.alloc #[.bool false, .int .i64 0, .int .u64 0, .bool false] I48 rfl gno rfl (fun b11_4 => ?_))
          refine RV.op (OV.store 5 [_, _, _, _] #[_, _, _, _] I48 rfl rfl rfl rfl rfl (Nat.le_of_ble_eq_true rfl) (by simp [Value.oneCell']) rfl gno ?_)
          refine RV.nil ?_
          refine KV.then_n ?_
          refine KV.env [(1, _), (2, _), (7, _), (8, _), (10, _), (11, _), (12, _)] ⟨rfl, rfl, rfl, rfl, rfl, rfl, rfl, trivial⟩ ?_
          refine CV.seq ?_
          -- region 12 more.go:21
          refine CV.region ?_
          refine RV.op (OV.step gno (Step.fieldAddr rfl (F48_3 _ _)) rfl ?_)
          refine RV.op (OV.store 5 [_] #[_, _, _, _] I4 rfl rfl rfl rfl rfl (Nat.le_of_ble_eq_true rfl) (by simp [Value.oneCell']) rfl gno ?_)
          refine RV.nil ?_
          refine KV.then_n ?_
          refine KV.env [(1, _), (2, _), (7, _), (8, _), (10, _), (11, _), (12, _)] ⟨rfl, rfl, rfl, rfl, rfl, rfl, rfl, trivial⟩ ?_
          refine CV.seq ?_
          -- region 13 more.go:22
          refine CV.region ?_
          refine RV.op (OV.step gno (Step.loadN _ Try.underlying48 rfl I48 rfl rfl (fun w h => h.cells 5 rfl)) rfl ?_)
          refine RV.op (OV.step gno (Step.move rfl) rfl ?_)
          refine RV.op (OV.step gno (Step.lenSl Try.underlying22 rfl) rfl ?_)
          refine RV.op (OV.step gno (Step.move rfl) rfl ?_)
          refine RV.op (OV.call [] (F := [_, _, _, _, _, _]) Try.func19 B19 N19 rfl rfl (fun w h => at_fn (cf (l.getD i callK.d)) (someM raw).length st.clock (by omega)) (fun _ hb => hb.elim) gno rfl (fun v L' hp => ?_))
          obtain ⟨rfl, rfl⟩ := hp
          simp only [List.append_nil]
          refine RV.op (OV.step gno (Step.move rfl) rfl ?_)
          refine RV.op (OV.step gno (Step.extract0 rfl rfl) rfl ?_)
          refine RV.op (OV.step gno (Step.extract0 rfl rfl) rfl ?_)
          refine RV.op (OV.step gno (Step.assign rfl) rfl ?_)
          refine RV.op (OV.step gno (Step.assign rfl) rfl ?_)
          refine RV.nil ?_
          refine KV.then_n ?_
          refine KV.env [(1, _), (2, _), (7, _), (8, _), (10, _), (11, _), (12, _), (14, _)] ⟨rfl, rfl, rfl, rfl, rfl, rfl, rfl, rfl, trivial⟩ ?_
          refine CV.seq ?_
          refine CV.seq ?_
          -- region 14 more.go:23
          refine CV.region ?_
          refine RV.op (OV.step gno (Step.move rfl) rfl ?_)
          refine RV.op (OV.step gno (Step.loadN _ Try.underlying48 rfl I48 rfl rfl (fun w h => h.cells 5 rfl)) rfl ?_)
          refine RV.op (OV.step gno (Step.move rfl) rfl ?_)
          refine RV.op (OV.step gno (Step.lenSl Try.underlying22 rfl) rfl ?_)
          refine RV.op (OV.step gno (Step.move rfl) rfl ?_)
          refine RV.op (OV.call [1, 1, 1, 1] (F := [_, _]) Try.func20 B20 N20 rfl rfl (fun w h => do_fn b a st (cf (l.getD i callK.d)) (someM raw).length st.clock (by omega) 8 rk hi.2.inv.wf (G.acy' hi.2.inv.rails) (G.rank' hi.2.inv.rails) (by omega)) (fun _ hb => hb.elim) gno rfl (fun v L' hp => ?_))
          obtain ⟨A3, c3, rfl, rfl⟩ := hp
          have D := do_did G (m := i) (by omega) hi.2 (cf (l.getD i callK.d)) (someM raw).length st.clock
          generalize hdo : doM 8 st (cf (l.getD i callK.d)) (someM raw).length st.clock = r at D ⊢
          obtain ⟨st2, op2, er⟩ := r
          have d1 : IN (someM raw) (i + 1) st2 := D.inn
          have d2 := d1.clock
          have hr2 := d1.inv.rails
          have hrl2 : st2.rails.length = (someM raw).length := by rw [hr2]
          have wf2 := d1.inv.wf
          simp only []
          refine RV.op (OV.step gno (Step.move rfl) rfl ?_)
          refine RV.op (OV.step gno (Step.extract0 rfl rfl) rfl ?_)
          refine RV.op (OV.step gno (Step.extract0 rfl rfl) rfl ?_)
          refine RV.op (OV.step gno (Step.assign rfl) rfl ?_)
          refine RV.op (OV.step gno (Step.assign rfl) rfl ?_)
          refine RV.nil ?_
          refine KV.then_n ?_
          refine KV.env [(1, _), (2, _), (7, _), (8, _), (10, _), (11, _), (14, _), (16, _)] ⟨rfl, rfl, rfl, rfl, rfl, rfl, rfl, rfl, trivial⟩ ?_
          refine CV.seq ?_
          -- region 15 more.go:23
          refine CV.region ?_
          refine RV.op (OV.step gno (Step.move rfl) rfl ?_)
          refine RV.op (OV.split gno (Step.eql rfl rfl) rfl (fun he => ?_) (fun he => ?_))
          · -- True
            have hck := (D.good he).1
            simp only [] at hck
            rw [← hck]
            refine RV.nil ?_
            refine KV.then_n ?_
            refine KV.env [(1, _), (2, _), (7, _), (8, _), (10, _), (11, _), (14, _), (70, _)] ⟨rfl, rfl, rfl, rfl, rfl, rfl, rfl, rfl, trivial⟩ ?_
            refine CV.cond_t rfl ?_
            -- region 16 more.go:24
            refine CV.region ?_
            refine RV.op (OV.step gno (Step.move rfl) rfl ?_)
            refine RV.op (OV.step gno (Step.assign rfl) rfl ?_)
            refine RV.nil ?_
            refine KV.then_n ?_
            refine KV.env [(1, _), (2, _), (7, _), (8, _), (10, _), (11, _)] ⟨rfl, rfl, rfl, rfl, rfl, rfl, trivial⟩ ?_
            refine CV.seq ?_
            -- region 17 more.go:26
            refine CV.region ?_
            refine RV.op (OV.step gno (Step.move rfl) rfl ?_)
            refine RV.op (OV.step gno (Step.move rfl) rfl ?_)
            refine RV.op (OV.step gno (Step.rem rfl rfl (by omega) (rfl)) rfl ?_)
            (first | refine RV.op (OV.step gno (Step.add rfl rfl (wU64 (by omega) (by omega))) rfl ?_) | refine RV.op (OV.step gno (Step.add rfl rfl rfl) rfl ?_))
            refine RV.op (OV.step gno (Step.assign rfl) rfl ?_)
            refine RV.nil ?_
            refine KV.then_n ?_
            refine KV.env [(1, _), (2, _), (7, _), (8, _), (10, _), (11, _), (17, _)] ⟨rfl, rfl, rfl, rfl, rfl, rfl, rfl, trivial⟩ ?_
            refine CV.seq ?_
            -- region 18 more.go:27
            refine CV.region ?_
            refine RV.op (OV.step gno (Step.assign rfl) rfl ?_)
            refine RV.nil ?_
            refine KV.then_n ?_
            refine KV.env [(1, _), (2, _), (7, _), (8, _), (10, _), (11, _), (17, _), (18, _)] ⟨rfl, rfl, rfl, rfl, rfl, rfl, rfl, rfl, trivial⟩ ?_
            refine CV.block ?_
            -- loop L19; live [1, 2, 7, 8, 10, 11, 17, 18]
            refine KV.sel [0, 1, 1, 1, 1] [_, _, _, _, _] rfl ?_
            refine CV.loopI (α := Nat) (fun k => k ≤ (someM raw).length) (fun k => (someM raw).length - k) (fun k => [(1, .slice B l.length d), (2, .int .u64 t), (7, .slice A2 (someM raw).length c2), (8, .pointer (some ⟨b, 0, none⟩)), (10, .int .u64 st2.clock), (11, .int .i64 i), (17, .int .u64 (st2.clock + t.tmod 80)), (18, .int .i64 k)]) (fun _ => Hp I w ([OS 35 railK A2 c2 (someM raw)] ++ robj 73 b a st2)) 0 (Nat.zero_le _) ⟨rfl, rfl, rfl, rfl, rfl, rfl, rfl, rfl, trivial⟩ (fun _ h => h) ?_
            intro k hk
            refine CV.seq ?_
            refine CV.seq ?_
            -- region 19 more.go:27
            refine CV.region ?_
            refine RV.op (OV.step gno (Step.move rfl) rfl ?_)
            refine RV.op (OV.step gno (Step.move rfl) rfl ?_)
            refine RV.op (OV.step gno (Step.lenSl Try.underlying22 rfl) rfl ?_)
            refine RV.op (OV.split gno (Step.lss rfl rfl) rfl (fun hk2 => ?_) (fun hk2 => ?_))
            · -- True
              refine RV.nil ?_
              refine KV.then_n ?_
              refine KV.env [(1, _), (2, _), (7, _), (8, _), (10, _), (11, _), (17, _), (18, _), (79, _)] ⟨rfl, rfl, rfl, rfl, rfl, rfl, rfl, rfl, rfl, trivial⟩ ?_
              refine CV.cond_t rfl ?_
              refine CV.skip ?_
              refine KV.then_n ?_
              refine KV.env [(1, _), (2, _), (7, _), (8, _), (10, _), (11, _), (17, _), (18, _)] ⟨rfl, rfl, rfl, rfl, rfl, rfl, rfl, rfl, trivial⟩ ?_
              refine CV.seq ?_
              refine CV.block ?_
              refine CV.seq ?_
              -- region 21 more.go:28
              refine CV.region ?_
              refine RV.op (OV.step gno (Step.move rfl) rfl ?_)
              refine RV.op (OV.step gno (Step.move rfl) rfl ?_)
              refine RV.op (OV.step gno (Step.idx Try.underlying22 I35 (fun w h => h.os 0 rfl) rfl rfl (rfl) _ rfl (by omega)) rfl ?_)
              refine RV.op (OV.step gno (Step.fieldAddr rfl (F35_0 _ _)) rfl ?_)
              refine RV.op (OV.step gno (Step.load Try.underlying3 rfl rfl (fun w h => (h.os 0 rfl).cell0 (by omega) rfl)) rfl ?_)
              refine RV.op (OV.step gno (Step.assign rfl) rfl ?_)
              refine RV.nil ?_
              refine KV.then_n ?_
              refine KV.env [(1, _), (2, _), (7, _), (8, _), (10, _), (11, _), (17, _), (18, _), (19, _)] ⟨rfl, rfl, rfl, rfl, rfl, rfl, rfl, rfl, rfl, trivial⟩ ?_
              refine CV.seq ?_
              refine CV.seq ?_
              -- region 22 more.go:29
              refine CV.region ?_
              refine RV.op (OV.step gno (Step.move rfl) rfl ?_)
              refine RV.op (OV.split gno (Step.lss rfl rfl) rfl (fun hneg => ?_) (fun hneg => ?_))
              · -- True
                refine RV.nil ?_
                refine KV.then_n ?_
                refine KV.env [(1, _), (2, _), (7, _), (8, _), (10, _), (11, _), (17, _), (18, _), (19, _), (88, _)] ⟨rfl, rfl, rfl, rfl, rfl, rfl, rfl, rfl, rfl, rfl, trivial⟩ ?_
                refine CV.cond_t rfl ?_
                refine CV.exit ?_
                refine KV.then_exit ?_
                refine KV.block_hit ?_
                refine KV.then_n ?_
                refine KV.env [(1, _), (2, _), (7, _), (8, _), (10, _), (11, _), (17, _), (18, _)] ⟨rfl, rfl, rfl, rfl, rfl, rfl, rfl, rfl, trivial⟩ ?_
                -- region 20 more.go:27
                refine CV.region ?_
                refine RV.op (OV.step gno (Step.move rfl) rfl ?_)
                (first | refine RV.op (OV.step gno (Step.add rfl rfl (wI64 (by omega) (by omega))) rfl ?_) | refine RV.op (OV.step gno (Step.add rfl rfl rfl) rfl ?_))
                refine RV.op (OV.step gno (Step.assign rfl) rfl ?_)
                refine RV.nil ?_
                refine KV.then_n ?_
                refine KV.env [(1, _), (2, _), (7, _), (8, _), (10, _), (11, _), (17, _), (18, _)] ⟨rfl, rfl, rfl, rfl, rfl, rfl, rfl, rfl, trivial⟩ ?_
                refine KV.sel [0, 0, 0, 0, 0] [_, _, _, _, _] rfl ?_
                refine KV.loopI (k + 1) (by omega) (by omega) ⟨rfl, rfl, rfl, rfl, rfl, rfl, rfl, rfl, trivial⟩ (fun _ h => h)
              · -- False
                obtain ⟨p, hp2⟩ := Int.eq_ofNat_of_zero_le (show 0 ≤ ((someM raw).getD k railK.d).supply by omega)
                have hpn := (G.acy k (by omega) p hp2).1
                have hkp := fun x => d1.supply (k := k) (p := p) (by omega) hpn hp2 x
                rw [hp2]
                refine RV.nil ?_
                refine KV.then_n ?_
                refine KV.env [(1, _), (2, _), (7, _), (8, _), (10, _), (11, _), (17, _), (18, _), (19, _), (88, _)] ⟨rfl, rfl, rfl, rfl, rfl, rfl, rfl, rfl, rfl, rfl, trivial⟩ ?_
                refine CV.cond_f rfl ?_
                refine CV.skip ?_
                refine KV.then_n ?_
                refine KV.env [(1, _), (2, _), (7, _), (8, _), (10, _), (11, _), (17, _), (18, _), (19, _)] ⟨rfl, rfl, rfl, rfl, rfl, rfl, rfl, rfl, rfl, trivial⟩ ?_
                refine CV.seq ?_
                -- region 23 more.go:32
                refine CV.region ?_
                refine RV.op (OV.step gno (Step.move rfl) rfl ?_)
                refine RV.op (OV.step gno (Step.move rfl) rfl ?_)
                refine RV.op (OV.call [1, 1, 1, 1] (F := [_]) Try.func21 B21 N21 rfl rfl (fun w h => readyAt_fn b a st2 k w wf2) (fun _ hb => hb.elim) gno rfl (fun v L' hp => ?_))
                obtain ⟨rfl, rfl⟩ := hp
                refine RV.op (OV.step gno (Step.move rfl) rfl ?_)
                refine RV.op (OV.step gno (Step.extract0 rfl rfl) rfl ?_)
                refine RV.op (OV.step gno (Step.extract0 rfl rfl) rfl ?_)
                refine RV.op (OV.step gno (Step.assign rfl) rfl ?_)
                refine RV.op (OV.step gno (Step.assign rfl) rfl ?_)
                refine RV.nil ?_
                refine KV.then_n ?_
                refine KV.env [(1, _), (2, _), (7, _), (8, _), (10, _), (11, _), (17, _), (18, _), (19, _), (20, _), (21, _)] ⟨rfl, rfl, rfl, rfl, rfl, rfl, rfl, rfl, rfl, rfl, rfl, trivial⟩ ?_
                refine CV.seq ?_
                -- region 24 more.go:33
                refine CV.region ?_
                refine RV.op (OV.step gno (Step.move rfl) rfl ?_)
                refine RV.op (OV.step gno (Step.move rfl) rfl ?_)
                refine RV.op (OV.call [1, 1, 1, 1] (F := [_]) Try.func21 B21 N21 rfl rfl (fun w h => readyAt_fn b a st2 p w wf2) (fun _ hb => hb.elim) gno rfl (fun v L' hp => ?_))
                obtain ⟨rfl, rfl⟩ := hp
                refine RV.op (OV.step gno (Step.move rfl) rfl ?_)
                refine RV.op (OV.step gno (Step.extract0 rfl rfl) rfl ?_)
                refine RV.op (OV.step gno (Step.extract0 rfl rfl) rfl ?_)
                refine RV.op (OV.step gno (Step.assign rfl) rfl ?_)
                refine RV.op (OV.step gno (Step.assign rfl) rfl ?_)
                refine RV.nil ?_
                refine KV.then_n ?_
                refine KV.env [(1, _), (2, _), (7, _), (8, _), (10, _), (11, _), (17, _), (18, _), (19, _), (20, _), (21, _), (22, _), (23, _)] ⟨rfl, rfl, rfl, rfl, rfl, rfl, rfl, rfl, rfl, rfl, rfl, rfl, rfl, trivial⟩ ?_
                refine CV.seq ?_
                -- region 25 more.go:34
                refine CV.region ?_
                refine RV.op (OV.step gno (Step.move rfl) rfl ?_)
                refine RV.op (OV.step gno (Step.move rfl) rfl ?_)
                refine RV.op (OV.step gno (Step.move rfl) rfl ?_)
                refine RV.op (OV.call [1, 1, 1, 1] (F := [_]) Try.func22 B22 N22 rfl rfl (fun w h => powered_fn b a st2 k (st2.clock + t.tmod 80) w wf2) (fun _ hb => hb.elim) gno rfl (fun v L' hp => ?_))
                obtain ⟨rfl, rfl⟩ := hp
                by_cases hpk : ((0 ≤ (k : Int) ∧ (k : Int) < st2.rails.length) ∧ ¬ st2.c (k : Int).toNat = 0) ∧ st2.t (k : Int).toNat ≤ st2.clock + t.tmod 80
                · rw [decide_eq_true hpk]
                  refine RV.op (OV.step gno (Step.move rfl) rfl ?_)
                  refine RV.op (OV.step (gyes rfl) (Step.move rfl) rfl ?_)
                  refine RV.op (OV.step (gyes rfl) (Step.move rfl) rfl ?_)
                  refine RV.op (OV.step (gyes rfl) (Step.move rfl) rfl ?_)
                  refine RV.op (OV.call [1, 1, 1, 1] (F := [_]) Try.func22 B22 N22 rfl rfl (fun w h => powered_fn b a st2 p (st2.clock + t.tmod 80) w wf2) (fun _ hb => hb.elim) (gyes rfl) rfl (fun v L' hp => ?_))
                  obtain ⟨rfl, rfl⟩ := hp
                  by_cases hpp : ((0 ≤ (p : Int) ∧ (p : Int) < st2.rails.length) ∧ ¬ st2.c (p : Int).toNat = 0) ∧ st2.t (p : Int).toNat ≤ st2.clock + t.tmod 80
                  · rw [decide_eq_true hpp]
                    refine RV.op (OV.step (gyes rfl) (Step.not rfl) rfl ?_)
                    refine RV.op (OV.step gno (Step.pick_t rfl rfl) rfl ?_)
                    refine RV.op (OV.step gno (Step.move rfl) rfl ?_)
                    refine RV.op (OV.step (gyes rfl) (Step.move rfl) rfl ?_)
                    refine RV.op (OV.step (gyes rfl) (Step.move rfl) rfl ?_)
                    refine KV.cases 114 rfl (fun cc1 => ?_) (fun cc1 => ?_)
                    · -- True
                      refine RV.op (OV.step (gyes rfl) (Step.move rfl) rfl ?_)
                      refine RV.op (OV.step (gyes rfl) (Step.not rfl) rfl ?_)
                      refine RV.op (OV.step (gyes rfl) (Step.move rfl) rfl ?_)
                      refine KV.cases 117 rfl (fun cc2 => ?_) (fun cc2 => ?_)
                      · -- True
                        refine RV.op (OV.skip rfl rfl ?_)
                        refine RV.op (OV.skip rfl rfl ?_)
                        refine RV.op (OV.skip rfl rfl ?_)
                        refine RV.op (OV.step (gyes rfl) (Step.pick_t rfl rfl) rfl ?_)
                        refine RV.op (OV.step (gyes rfl) (Step.pick_t rfl rfl) rfl ?_)
                        refine RV.op (OV.step gno (Step.pick_f rfl rfl) rfl ?_)
                        refine RV.nil ?_
                        refine KV.then_n ?_
                        refine KV.env [(1, _), (2, _), (7, _), (8, _), (10, _), (11, _), (17, _), (18, _), (123, _)] ⟨rfl, rfl, rfl, rfl, rfl, rfl, rfl, rfl, rfl, trivial⟩ ?_
                        refine CV.cond_t rfl ?_
                        refine CV.seq ?_
                        -- region 26 more.go:35
                        refine CV.region ?_
                        refine RV.op (OV.step gno (Step.assign rfl) rfl ?_)
                        refine RV.nil ?_
                        refine KV.then_n ?_
                        refine KV.env [(6, _)] ⟨rfl, trivial⟩ ?_
                        refine CV.ret ?_
                        refine KV.block_ret ?_
                        refine KV.then_ret ?_
                        refine KV.then_ret ?_
                        refine KV.block_ret ?_
                        refine KV.block_ret ?_
                        refine KV.then_ret ?_
                        refine KV.then_ret ?_
                        refine KV.block_ret ?_
                        refine KV.then_ret ?_
                        -- return at r26
                        refine KV.sel [] [] rfl ?_
                        exfalso
                        simp only [Int.toNat_natCast, decide_eq_true_eq, decide_eq_false_iff_not, Bool.not_eq_true', Bool.not_eq_false'] at *
                        by_cases hck : st2.c k = 0 <;> by_cases hcp : st2.c p = 0 <;> simp_all <;> omega
                      · -- False
                        refine RV.op (OV.step (gyes rfl) (Step.move rfl) rfl ?_)
                        refine RV.op (OV.step (gyes rfl) (Step.move rfl) rfl ?_)
                        refine RV.op (OV.split (gyes rfl) (Step.gtr rfl rfl) rfl (fun cc3 => ?_) (fun cc3 => ?_))
                        · -- True
                          refine RV.op (OV.step (gyes rfl) (Step.pick_f rfl rfl) rfl ?_)
                          refine RV.op (OV.step (gyes rfl) (Step.pick_t rfl rfl) rfl ?_)
                          refine RV.op (OV.step gno (Step.pick_f rfl rfl) rfl ?_)
                          refine RV.nil ?_
                          refine KV.then_n ?_
                          refine KV.env [(1, _), (2, _), (7, _), (8, _), (10, _), (11, _), (17, _), (18, _), (123, _)] ⟨rfl, rfl, rfl, rfl, rfl, rfl, rfl, rfl, rfl, trivial⟩ ?_
                          refine CV.cond_t rfl ?_
                          refine CV.seq ?_
                          -- region 26 more.go:35
                          refine CV.region ?_
                          refine RV.op (OV.step gno (Step.assign rfl) rfl ?_)
                          refine RV.nil ?_
                          refine KV.then_n ?_
                          refine KV.env [(6, _)] ⟨rfl, trivial⟩ ?_
                          refine CV.ret ?_
                          refine KV.block_ret ?_
                          refine KV.then_ret ?_
                          refine KV.then_ret ?_
                          refine KV.block_ret ?_
                          refine KV.block_ret ?_
                          refine KV.then_ret ?_
                          refine KV.then_ret ?_
                          refine KV.block_ret ?_
                          refine KV.then_ret ?_
                          -- return at r26
                          refine KV.sel [] [] rfl ?_
                          exfalso
                          simp only [Int.toNat_natCast, decide_eq_true_eq, decide_eq_false_iff_not, Bool.not_eq_true', Bool.not_eq_false'] at *
                          by_cases hck : st2.c k = 0 <;> by_cases hcp : st2.c p = 0 <;> simp_all <;> omega
                        · -- False
                          refine RV.op (OV.step (gyes rfl) (Step.pick_f rfl rfl) rfl ?_)
                          refine RV.op (OV.step (gyes rfl) (Step.pick_t rfl rfl) rfl ?_)
                          refine RV.op (OV.step gno (Step.pick_f rfl rfl) rfl ?_)
                          refine RV.nil ?_
                          refine KV.then_n ?_
                          refine KV.env [(1, _), (2, _), (7, _), (8, _), (10, _), (11, _), (17, _), (18, _), (123, _)] ⟨rfl, rfl, rfl, rfl, rfl, rfl, rfl, rfl, rfl, trivial⟩ ?_
                          refine CV.cond_f rfl ?_
                          refine CV.skip ?_
                          refine KV.block_n ?_
                          refine KV.then_n ?_
                          refine KV.env [(1, _), (2, _), (7, _), (8, _), (10, _), (11, _), (17, _), (18, _)] ⟨rfl, rfl, rfl, rfl, rfl, rfl, rfl, rfl, trivial⟩ ?_
                          -- region 20 more.go:27
                          refine CV.region ?_
                          refine RV.op (OV.step gno (Step.move rfl) rfl ?_)
                          (first | refine RV.op (OV.step gno (Step.add rfl rfl (wI64 (by omega) (by omega))) rfl ?_) | refine RV.op (OV.step gno (Step.add rfl rfl rfl) rfl ?_))
                          refine RV.op (OV.step gno (Step.assign rfl) rfl ?_)
                          refine RV.nil ?_
                          refine KV.then_n ?_
                          refine KV.env [(1, _), (2, _), (7, _), (8, _), (10, _), (11, _), (17, _), (18, _)] ⟨rfl, rfl, rfl, rfl, rfl, rfl, rfl, rfl, trivial⟩ ?_
                          refine KV.sel [0, 0, 0, 0, 0] [_, _, _, _, _] rfl ?_
                          refine KV.loopI (k + 1) (by omega) (by omega) ⟨rfl, rfl, rfl, rfl, rfl, rfl, rfl, rfl, trivial⟩ (fun _ h => h)
                    · -- False
                      refine RV.op (OV.skip rfl rfl ?_)
                      refine RV.op (OV.skip rfl rfl ?_)
                      refine RV.op (OV.skip rfl rfl ?_)
                      refine RV.op (OV.skipU rfl rfl ?_)
                      refine RV.op (OV.skipU rfl rfl ?_)
                      refine RV.op (OV.skipU rfl rfl ?_)
                      refine RV.op (OV.skip rfl rfl ?_)
                      refine RV.op (OV.step (gyes rfl) (Step.pick_f rfl rfl) rfl ?_)
                      refine RV.op (OV.step gno (Step.pick_f rfl rfl) rfl ?_)
                      refine RV.nil ?_
                      refine KV.then_n ?_
                      refine KV.env [(1, _), (2, _), (7, _), (8, _), (10, _), (11, _), (17, _), (18, _), (123, _)] ⟨rfl, rfl, rfl, rfl, rfl, rfl, rfl, rfl, rfl, trivial⟩ ?_
                      refine CV.cond_f rfl ?_
                      refine CV.skip ?_
                      refine KV.block_n ?_
                      refine KV.then_n ?_
                      refine KV.env [(1, _), (2, _), (7, _), (8, _), (10, _), (11, _), (17, _), (18, _)] ⟨rfl, rfl, rfl, rfl, rfl, rfl, rfl, rfl, trivial⟩ ?_
                      -- region 20 more.go:27
                      refine CV.region ?_
                      refine RV.op (OV.step gno (Step.move rfl) rfl ?_)
                      (first | refine RV.op (OV.step gno (Step.add rfl rfl (wI64 (by omega) (by omega))) rfl ?_) | refine RV.op (OV.step gno (Step.add rfl rfl rfl) rfl ?_))
                      refine RV.op (OV.step gno (Step.assign rfl) rfl ?_)
                      refine RV.nil ?_
                      refine KV.then_n ?_
                      refine KV.env [(1, _), (2, _), (7, _), (8, _), (10, _), (11, _), (17, _), (18, _)] ⟨rfl, rfl, rfl, rfl, rfl, rfl, rfl, rfl, trivial⟩ ?_
                      refine KV.sel [0, 0, 0, 0, 0] [_, _, _, _, _] rfl ?_
                      refine KV.loopI (k + 1) (by omega) (by omega) ⟨rfl, rfl, rfl, rfl, rfl, rfl, rfl, rfl, trivial⟩ (fun _ h => h)
                  · rw [decide_eq_false hpp]
                    refine RV.op (OV.step (gyes rfl) (Step.not rfl) rfl ?_)
                    refine RV.op (OV.step gno (Step.pick_t rfl rfl) rfl ?_)
                    refine RV.op (OV.step gno (Step.move rfl) rfl ?_)
                    refine RV.op (OV.skip rfl rfl ?_)
                    refine RV.op (OV.skip rfl rfl ?_)
                    refine RV.op (OV.skipU rfl rfl ?_)
                    refine RV.op (OV.skipU rfl rfl ?_)
                    refine RV.op (OV.skipU rfl rfl ?_)
                    refine RV.op (OV.skipU rfl rfl ?_)
                    refine RV.op (OV.skipU rfl rfl ?_)
                    refine RV.op (OV.skipU rfl rfl ?_)
                    refine RV.op (OV.skipU rfl rfl ?_)
                    refine RV.op (OV.skip rfl rfl ?_)
                    refine RV.op (OV.step gno (Step.pick_t rfl rfl) rfl ?_)
                    refine RV.nil ?_
                    refine KV.then_n ?_
                    refine KV.env [(1, _), (2, _), (7, _), (8, _), (10, _), (11, _), (17, _), (18, _), (123, _)] ⟨rfl, rfl, rfl, rfl, rfl, rfl, rfl, rfl, rfl, trivial⟩ ?_
                    refine CV.cond_t rfl ?_
                    refine CV.seq ?_
                    -- region 26 more.go:35
                    refine CV.region ?_
                    refine RV.op (OV.step gno (Step.assign rfl) rfl ?_)
                    refine RV.nil ?_
                    refine KV.then_n ?_
                    refine KV.env [(6, _)] ⟨rfl, trivial⟩ ?_
                    refine CV.ret ?_
                    refine KV.block_ret ?_
                    refine KV.then_ret ?_
                    refine KV.then_ret ?_
                    refine KV.block_ret ?_
                    refine KV.block_ret ?_
                    refine KV.then_ret ?_
                    refine KV.then_ret ?_
                    refine KV.block_ret ?_
                    refine KV.then_ret ?_
                    -- return at r26
                    refine KV.sel [] [] rfl ?_
                    exfalso
                    simp only [Int.toNat_natCast, decide_eq_true_eq, decide_eq_false_iff_not, Bool.not_eq_true', Bool.not_eq_false'] at *
                    by_cases hck : st2.c k = 0 <;> by_cases hcp : st2.c p = 0 <;> simp_all <;> omega
                · rw [decide_eq_false hpk]
                  refine RV.op (OV.step gno (Step.move rfl) rfl ?_)
                  refine RV.op (OV.skip rfl rfl ?_)
                  refine RV.op (OV.skip rfl rfl ?_)
                  refine RV.op (OV.skip rfl rfl ?_)
                  refine RV.op (OV.skip rfl rfl ?_)
                  refine RV.op (OV.skip rfl rfl ?_)
                  refine RV.op (OV.step gno (Step.pick_f rfl rfl) rfl ?_)
                  refine RV.op (OV.step gno (Step.move rfl) rfl ?_)
                  refine RV.op (OV.step (gyes rfl) (Step.move rfl) rfl ?_)
                  refine RV.op (OV.step (gyes rfl) (Step.move rfl) rfl ?_)
                  refine KV.cases 114 rfl (fun cc4 => ?_) (fun cc4 => ?_)
                  · -- True
                    refine RV.op (OV.step (gyes rfl) (Step.move rfl) rfl ?_)
                    refine RV.op (OV.step (gyes rfl) (Step.not rfl) rfl ?_)
                    refine RV.op (OV.step (gyes rfl) (Step.move rfl) rfl ?_)
                    refine KV.cases 117 rfl (fun cc5 => ?_) (fun cc5 => ?_)
                    · -- True
                      refine RV.op (OV.skip rfl rfl ?_)
                      refine RV.op (OV.skip rfl rfl ?_)
                      refine RV.op (OV.skip rfl rfl ?_)
                      refine RV.op (OV.step (gyes rfl) (Step.pick_t rfl rfl) rfl ?_)
                      refine RV.op (OV.step (gyes rfl) (Step.pick_t rfl rfl) rfl ?_)
                      refine RV.op (OV.step gno (Step.pick_f rfl rfl) rfl ?_)
                      refine RV.nil ?_
                      refine KV.then_n ?_
                      refine KV.env [(1, _), (2, _), (7, _), (8, _), (10, _), (11, _), (17, _), (18, _), (123, _)] ⟨rfl, rfl, rfl, rfl, rfl, rfl, rfl, rfl, rfl, trivial⟩ ?_
                      refine CV.cond_t rfl ?_
                      refine CV.seq ?_
                      -- region 26 more.go:35
                      refine CV.region ?_
                      refine RV.op (OV.step gno (Step.assign rfl) rfl ?_)
                      refine RV.nil ?_
                      refine KV.then_n ?_
                      refine KV.env [(6, _)] ⟨rfl, trivial⟩ ?_
                      refine CV.ret ?_
                      refine KV.block_ret ?_
                      refine KV.then_ret ?_
                      refine KV.then_ret ?_
                      refine KV.block_ret ?_
                      refine KV.block_ret ?_
                      refine KV.then_ret ?_
                      refine KV.then_ret ?_
                      refine KV.block_ret ?_
                      refine KV.then_ret ?_
                      -- return at r26
                      refine KV.sel [] [] rfl ?_
                      exfalso
                      simp only [Int.toNat_natCast, decide_eq_true_eq, decide_eq_false_iff_not, Bool.not_eq_true', Bool.not_eq_false'] at *
                      by_cases hck : st2.c k = 0 <;> by_cases hcp : st2.c p = 0 <;> simp_all <;> omega
                    · -- False
                      refine RV.op (OV.step (gyes rfl) (Step.move rfl) rfl ?_)
                      refine RV.op (OV.step (gyes rfl) (Step.move rfl) rfl ?_)
                      refine RV.op (OV.split (gyes rfl) (Step.gtr rfl rfl) rfl (fun cc6 => ?_) (fun cc6 => ?_))
                      · -- True
                        refine RV.op (OV.step (gyes rfl) (Step.pick_f rfl rfl) rfl ?_)
                        refine RV.op (OV.step (gyes rfl) (Step.pick_t rfl rfl) rfl ?_)
                        refine RV.op (OV.step gno (Step.pick_f rfl rfl) rfl ?_)
                        refine RV.nil ?_
                        refine KV.then_n ?_
                        refine KV.env [(1, _), (2, _), (7, _), (8, _), (10, _), (11, _), (17, _), (18, _), (123, _)] ⟨rfl, rfl, rfl, rfl, rfl, rfl, rfl, rfl, rfl, trivial⟩ ?_
                        refine CV.cond_t rfl ?_
                        refine CV.seq ?_
                        -- region 26 more.go:35
                        refine CV.region ?_
                        refine RV.op (OV.step gno (Step.assign rfl) rfl ?_)
                        refine RV.nil ?_
                        refine KV.then_n ?_
                        refine KV.env [(6, _)] ⟨rfl, trivial⟩ ?_
                        refine CV.ret ?_
                        refine KV.block_ret ?_
                        refine KV.then_ret ?_
                        refine KV.then_ret ?_
                        refine KV.block_ret ?_
                        refine KV.block_ret ?_
                        refine KV.then_ret ?_
                        refine KV.then_ret ?_
                        refine KV.block_ret ?_
                        refine KV.then_ret ?_
                        -- return at r26
                        refine KV.sel [] [] rfl ?_
                        exfalso
                        simp only [Int.toNat_natCast, decide_eq_true_eq, decide_eq_false_iff_not, Bool.not_eq_true', Bool.not_eq_false'] at *
                        by_cases hck : st2.c k = 0 <;> by_cases hcp : st2.c p = 0 <;> simp_all <;> omega
                      · -- False
                        refine RV.op (OV.step (gyes rfl) (Step.pick_f rfl rfl) rfl ?_)
                        refine RV.op (OV.step (gyes rfl) (Step.pick_t rfl rfl) rfl ?_)
                        refine RV.op (OV.step gno (Step.pick_f rfl rfl) rfl ?_)
                        refine RV.nil ?_
                        refine KV.then_n ?_
                        refine KV.env [(1, _), (2, _), (7, _), (8, _), (10, _), (11, _), (17, _), (18, _), (123, _)] ⟨rfl, rfl, rfl, rfl, rfl, rfl, rfl, rfl, rfl, trivial⟩ ?_
                        refine CV.cond_f rfl ?_
                        refine CV.skip ?_
                        refine KV.block_n ?_
                        refine KV.then_n ?_
                        refine KV.env [(1, _), (2, _), (7, _), (8, _), (10, _), (11, _), (17, _), (18, _)] ⟨rfl, rfl, rfl, rfl, rfl, rfl, rfl, rfl, trivial⟩ ?_
                        -- region 20 more.go:27
                        refine CV.region ?_
                        refine RV.op (OV.step gno (Step.move rfl) rfl ?_)
                        (first | refine RV.op (OV.step gno (Step.add rfl rfl (wI64 (by omega) (by omega))) rfl ?_) | refine RV.op (OV.step gno (Step.add rfl rfl rfl) rfl ?_))
                        refine RV.op (OV.step gno (Step.assign rfl) rfl ?_)
                        refine RV.nil ?_
                        refine KV.then_n ?_
                        refine KV.env [(1, _), (2, _), (7, _), (8, _), (10, _), (11, _), (17, _), (18, _)] ⟨rfl, rfl, rfl, rfl, rfl, rfl, rfl, rfl, trivial⟩ ?_
                        refine KV.sel [0, 0, 0, 0, 0] [_, _, _, _, _] rfl ?_
                        refine KV.loopI (k + 1) (by omega) (by omega) ⟨rfl, rfl, rfl, rfl, rfl, rfl, rfl, rfl, trivial⟩ (fun _ h => h)
                  · -- False
                    refine RV.op (OV.skip rfl rfl ?_)
                    refine RV.op (OV.skip rfl rfl ?_)
                    refine RV.op (OV.skip rfl rfl ?_)
                    refine RV.op (OV.skipU rfl rfl ?_)
                    refine RV.op (OV.skipU rfl rfl ?_)
                    refine RV.op (OV.skipU rfl rfl ?_)
                    refine RV.op (OV.skip rfl rfl ?_)
                    refine RV.op (OV.step (gyes rfl) (Step.pick_f rfl rfl) rfl ?_)
                    refine RV.op (OV.step gno (Step.pick_f rfl rfl) rfl ?_)
                    refine RV.nil ?_
                    refine KV.then_n ?_
                    refine KV.env [(1, _), (2, _), (7, _), (8, _), (10, _), (11, _), (17, _), (18, _), (123, _)] ⟨rfl, rfl, rfl, rfl, rfl, rfl, rfl, rfl, rfl, trivial⟩ ?_
                    refine CV.cond_f rfl ?_
                    refine CV.skip ?_
                    refine KV.block_n ?_
                    refine KV.then_n ?_
                    refine KV.env [(1, _), (2, _), (7, _), (8, _), (10, _), (11, _), (17, _), (18, _)] ⟨rfl, rfl, rfl, rfl, rfl, rfl, rfl, rfl, trivial⟩ ?_
                    -- region 20 more.go:27
                    refine CV.region ?_
                    refine RV.op (OV.step gno (Step.move rfl) rfl ?_)
                    (first | refine RV.op (OV.step gno (Step.add rfl rfl (wI64 (by omega) (by omega))) rfl ?_) | refine RV.op (OV.step gno (Step.add rfl rfl rfl) rfl ?_))
                    refine RV.op (OV.step gno (Step.assign rfl) rfl ?_)
                    refine RV.nil ?_
                    refine KV.then_n ?_
                    refine KV.env [(1, _), (2, _), (7, _), (8, _), (10, _), (11, _), (17, _), (18, _)] ⟨rfl, rfl, rfl, rfl, rfl, rfl, rfl, rfl, trivial⟩ ?_
                    refine KV.sel [0, 0, 0, 0, 0] [_, _, _, _, _] rfl ?_
                    refine KV.loopI (k + 1) (by omega) (by omega) ⟨rfl, rfl, rfl, rfl, rfl, rfl, rfl, rfl, trivial⟩ (fun _ h => h)
            · -- False
              refine RV.nil ?_
              refine KV.then_n ?_
              refine KV.env [(1, _), (2, _), (7, _), (8, _), (10, _), (11, _), (17, _), (18, _), (79, _)] ⟨rfl, rfl, rfl, rfl, rfl, rfl, rfl, rfl, rfl, trivial⟩ ?_
              refine CV.cond_f rfl ?_
              refine CV.exit ?_
              refine KV.then_exit ?_
              refine KV.then_exit ?_
              refine KV.block_hit ?_
              refine KV.block_n ?_
              refine KV.then_n ?_
              refine KV.env [(1, _), (2, _), (7, _), (8, _), (10, _), (11, _)] ⟨rfl, rfl, rfl, rfl, rfl, rfl, trivial⟩ ?_
              -- region 10 more.go:19
              refine CV.region ?_
              refine RV.op (OV.step gno (Step.move rfl) rfl ?_)
              (first | refine RV.op (OV.step gno (Step.add rfl rfl (wI64 (by omega) (by omega))) rfl ?_) | refine RV.op (OV.step gno (Step.add rfl rfl rfl) rfl ?_))
              refine RV.op (OV.step gno (Step.assign rfl) rfl ?_)
              refine RV.nil ?_
              refine KV.then_n ?_
              refine KV.env [(1, _), (2, _), (7, _), (8, _), (10, _), (11, _)] ⟨rfl, rfl, rfl, rfl, rfl, rfl, trivial⟩ ?_
              refine KV.sel [0, 0, 0, 0, 0] [_, _, _, _, _] rfl ?_
              first | refine KV.loop2 (y := st) (i + 1) st2 ⟨by omega, d1⟩ (by omega) ⟨rfl, rfl, rfl, rfl, rfl, rfl, trivial⟩ (fun _ h => h) | refine KV.loop2 (y := st2) (i + 1) st2 ⟨by omega, d1⟩ (by omega) ⟨rfl, rfl, rfl, rfl, rfl, rfl, trivial⟩ (fun _ h => h)
          · -- False
            obtain ⟨hs1, hs2⟩ := D.bad he
            simp only [] at hs1 hs2
            subst hs1
            refine RV.nil ?_
            refine KV.then_n ?_
            refine KV.env [(1, _), (2, _), (7, _), (8, _), (10, _), (11, _), (14, _), (70, _)] ⟨rfl, rfl, rfl, rfl, rfl, rfl, rfl, rfl, trivial⟩ ?_
            refine CV.cond_f rfl ?_
            refine CV.skip ?_
            refine KV.then_n ?_
            refine KV.env [(1, _), (2, _), (7, _), (8, _), (10, _), (11, _)] ⟨rfl, rfl, rfl, rfl, rfl, rfl, trivial⟩ ?_
            refine CV.seq ?_
            -- region 17 more.go:26
            refine CV.region ?_
            refine RV.op (OV.step gno (Step.move rfl) rfl ?_)
            refine RV.op (OV.step gno (Step.move rfl) rfl ?_)
            refine RV.op (OV.step gno (Step.rem rfl rfl (by omega) (rfl)) rfl ?_)
            (first | refine RV.op (OV.step gno (Step.add rfl rfl (wU64 (by omega) (by omega))) rfl ?_) | refine RV.op (OV.step gno (Step.add rfl rfl rfl) rfl ?_))
            refine RV.op (OV.step gno (Step.assign rfl) rfl ?_)
            refine RV.nil ?_
            refine KV.then_n ?_
            refine KV.env [(1, _), (2, _), (7, _), (8, _), (10, _), (11, _), (17, _)] ⟨rfl, rfl, rfl, rfl, rfl, rfl, rfl, trivial⟩ ?_
            refine CV.seq ?_
            -- region 18 more.go:27
            refine CV.region ?_
            refine RV.op (OV.step gno (Step.assign rfl) rfl ?_)
            refine RV.nil ?_
            refine KV.then_n ?_
            refine KV.env [(1, _), (2, _), (7, _), (8, _), (10, _), (11, _), (17, _), (18, _)] ⟨rfl, rfl, rfl, rfl, rfl, rfl, rfl, rfl, trivial⟩ ?_
            refine CV.block ?_
            -- loop L19; live [1, 2, 7, 8, 10, 11, 17, 18]
            refine KV.sel [0, 1, 1, 1, 1] [_, _, _, _, _] rfl ?_
            refine CV.loopI (α := Nat) (fun k => k ≤ (someM raw).length) (fun k => (someM raw).length - k) (fun k => [(1, .slice B l.length d), (2, .int .u64 t), (7, .slice A2 (someM raw).length c2), (8, .pointer (some ⟨b, 0, none⟩)), (10, .int .u64 st2.clock), (11, .int .i64 i), (17, .int .u64 (st2.clock + t.tmod 80)), (18, .int .i64 k)]) (fun _ => Hp I w ([OS 35 railK A2 c2 (someM raw)] ++ robj 73 b a st2)) 0 (Nat.zero_le _) ⟨rfl, rfl, rfl, rfl, rfl, rfl, rfl, rfl, trivial⟩ (fun _ h => h) ?_
            intro k hk
            refine CV.seq ?_
            refine CV.seq ?_
            -- region 19 more.go:27
            refine CV.region ?_
            refine RV.op (OV.step gno (Step.move rfl) rfl ?_)
            refine RV.op (OV.step gno (Step.move rfl) rfl ?_)
            refine RV.op (OV.step gno (Step.lenSl Try.underlying22 rfl) rfl ?_)
            refine RV.op (OV.split gno (Step.lss rfl rfl) rfl (fun hk2 => ?_) (fun hk2 => ?_))
            · -- True
              refine RV.nil ?_
              refine KV.then_n ?_
              refine KV.env [(1, _), (2, _), (7, _), (8, _), (10, _), (11, _), (17, _), (18, _), (79, _)] ⟨rfl, rfl, rfl, rfl, rfl, rfl, rfl, rfl, rfl, trivial⟩ ?_
              refine CV.cond_t rfl ?_
              refine CV.skip ?_
              refine KV.then_n ?_
              refine KV.env [(1, _), (2, _), (7, _), (8, _), (10, _), (11, _), (17, _), (18, _)] ⟨rfl, rfl, rfl, rfl, rfl, rfl, rfl, rfl, trivial⟩ ?_
              refine CV.seq ?_
              refine CV.block ?_
              refine CV.seq ?_
              -- region 21 more.go:28
              refine CV.region ?_
              refine RV.op (OV.step gno (Step.move rfl) rfl ?_)
              refine RV.op (OV.step gno (Step.move rfl) rfl ?_)
              refine RV.op (OV.step gno (Step.idx Try.underlying22 I35 (fun w h => h.os 0 rfl) rfl rfl (rfl) _ rfl (by omega)) rfl ?_)
              refine RV.op (OV.step gno (Step.fieldAddr rfl (F35_0 _ _)) rfl ?_)
              refine RV.op (OV.step gno (Step.load Try.underlying3 rfl rfl (fun w h => (h.os 0 rfl).cell0 (by omega) rfl)) rfl ?_)
              refine RV.op (OV.step gno (Step.assign rfl) rfl ?_)
              refine RV.nil ?_
              refine KV.then_n ?_
              refine KV.env [(1, _), (2, _), (7, _), (8, _), (10, _), (11, _), (17, _), (18, _), (19, _)] ⟨rfl, rfl, rfl, rfl, rfl, rfl, rfl, rfl, rfl, trivial⟩ ?_
              refine CV.seq ?_
              refine CV.seq ?_
              -- region 22 more.go:29
              refine CV.region ?_
              refine RV.op (OV.step gno (Step.move rfl) rfl ?_)
              refine RV.op (OV.split gno (Step.lss rfl rfl) rfl (fun hneg => ?_) (fun hneg => ?_))
              · -- True
                refine RV.nil ?_
                refine KV.then_n ?_
                refine KV.env [(1, _), (2, _), (7, _), (8, _), (10, _), (11, _), (17, _), (18, _), (19, _), (88, _)] ⟨rfl, rfl, rfl, rfl, rfl, rfl, rfl, rfl, rfl, rfl, trivial⟩ ?_
                refine CV.cond_t rfl ?_
                refine CV.exit ?_
                refine KV.then_exit ?_
                refine KV.block_hit ?_
                refine KV.then_n ?_
                refine KV.env [(1, _), (2, _), (7, _), (8, _), (10, _), (11, _), (17, _), (18, _)] ⟨rfl, rfl, rfl, rfl, rfl, rfl, rfl, rfl, trivial⟩ ?_
                -- region 20 more.go:27
                refine CV.region ?_
                refine RV.op (OV.step gno (Step.move rfl) rfl ?_)
                (first | refine RV.op (OV.step gno (Step.add rfl rfl (wI64 (by omega) (by omega))) rfl ?_) | refine RV.op (OV.step gno (Step.add rfl rfl rfl) rfl ?_))
                refine RV.op (OV.step gno (Step.assign rfl) rfl ?_)
                refine RV.nil ?_
                refine KV.then_n ?_
                refine KV.env [(1, _), (2, _), (7, _), (8, _), (10, _), (11, _), (17, _), (18, _)] ⟨rfl, rfl, rfl, rfl, rfl, rfl, rfl, rfl, trivial⟩ ?_
                refine KV.sel [0, 0, 0, 0, 0] [_, _, _, _, _] rfl ?_
                refine KV.loopI (k + 1) (by omega) (by omega) ⟨rfl, rfl, rfl, rfl, rfl, rfl, rfl, rfl, trivial⟩ (fun _ h => h)
              · -- False
                obtain ⟨p, hp2⟩ := Int.eq_ofNat_of_zero_le (show 0 ≤ ((someM raw).getD k railK.d).supply by omega)
                have hpn := (G.acy k (by omega) p hp2).1
                have hkp := fun x => d1.supply (k := k) (p := p) (by omega) hpn hp2 x
                rw [hp2]
                refine RV.nil ?_
                refine KV.then_n ?_
                refine KV.env [(1, _), (2, _), (7, _), (8, _), (10, _), (11, _), (17, _), (18, _), (19, _), (88, _)] ⟨rfl, rfl, rfl, rfl, rfl, rfl, rfl, rfl, rfl, rfl, trivial⟩ ?_
                refine CV.cond_f rfl ?_
                refine CV.skip ?_
                refine KV.then_n ?_
                refine KV.env [(1, _), (2, _), (7, _), (8, _), (10, _), (11, _), (17, _), (18, _), (19, _)] ⟨rfl, rfl, rfl, rfl, rfl, rfl, rfl, rfl, rfl, trivial⟩ ?_
                refine CV.seq ?_
                -- region 23 more.go:32
                refine CV.region ?_
                refine RV.op (OV.step gno (Step.move rfl) rfl ?_)
                refine RV.op (OV.step gno (Step.move rfl) rfl ?_)
                refine RV.op (OV.call [1, 1, 1, 1] (F := [_]) Try.func21 B21 N21 rfl rfl (fun w h => readyAt_fn b a st2 k w wf2) (fun _ hb => hb.elim) gno rfl (fun v L' hp => ?_))
                obtain ⟨rfl, rfl⟩ := hp
                refine RV.op (OV.step gno (Step.move rfl) rfl ?_)
                refine RV.op (OV.step gno (Step.extract0 rfl rfl) rfl ?_)
                refine RV.op (OV.step gno (Step.extract0 rfl rfl) rfl ?_)
                refine RV.op (OV.step gno (Step.assign rfl) rfl ?_)
                refine RV.op (OV.step gno (Step.assign rfl) rfl ?_)
                refine RV.nil ?_
                refine KV.then_n ?_
                refine KV.env [(1, _), (2, _), (7, _), (8, _), (10, _), (11, _), (17, _), (18, _), (19, _), (20, _), (21, _)] ⟨rfl, rfl, rfl, rfl, rfl, rfl, rfl, rfl, rfl, rfl, rfl, trivial⟩ ?_
                refine CV.seq ?_
                -- region 24 more.go:33
                refine CV.region ?_
                refine RV.op (OV.step gno (Step.move rfl) rfl ?_)
                refine RV.op (OV.step gno (Step.move rfl) rfl ?_)
                refine RV.op (OV.call [1, 1, 1, 1] (F := [_]) Try.func21 B21 N21 rfl rfl (fun w h => readyAt_fn b a st2 p w wf2) (fun _ hb => hb.elim) gno rfl (fun v L' hp => ?_))
                obtain ⟨rfl, rfl⟩ := hp
                refine RV.op (OV.step gno (Step.move rfl) rfl ?_)
                refine RV.op (OV.step gno (Step.extract0 rfl rfl) rfl ?_)
                refine RV.op (OV.step gno (Step.extract0 rfl rfl) rfl ?_)
                refine RV.op (OV.step gno (Step.assign rfl) rfl ?_)
                refine RV.op (OV.step gno (Step.assign rfl) rfl ?_)
                refine RV.nil ?_
                refine KV.then_n ?_
                refine KV.env [(1, _), (2, _), (7, _), (8, _), (10, _), (11, _), (17, _), (18, _), (19, _), (20, _), (21, _), (22, _), (23, _)] ⟨rfl, rfl, rfl, rfl, rfl, rfl, rfl, rfl, rfl, rfl, rfl, rfl, rfl, trivial⟩ ?_
                refine CV.seq ?_
                -- region 25 more.go:34
                refine CV.region ?_
                refine RV.op (OV.step gno (Step.move rfl) rfl ?_)
                refine RV.op (OV.step gno (Step.move rfl) rfl ?_)
                refine RV.op (OV.step gno (Step.move rfl) rfl ?_)
                refine RV.op (OV.call [1, 1, 1, 1] (F := [_]) Try.func22 B22 N22 rfl rfl (fun w h => powered_fn b a st2 k (st2.clock + t.tmod 80) w wf2) (fun _ hb => hb.elim) gno rfl (fun v L' hp => ?_))
                obtain ⟨rfl, rfl⟩ := hp
                by_cases hpk : ((0 ≤ (k : Int) ∧ (k : Int) < st2.rails.length) ∧ ¬ st2.c (k : Int).toNat = 0) ∧ st2.t (k : Int).toNat ≤ st2.clock + t.tmod 80
                · rw [decide_eq_true hpk]
                  refine RV.op (OV.step gno (Step.move rfl) rfl ?_)
                  refine RV.op (OV.step (gyes rfl) (Step.move rfl) rfl ?_)
                  refine RV.op (OV.step (gyes rfl) (Step.move rfl) rfl ?_)
                  refine RV.op (OV.step (gyes rfl) (Step.move rfl) rfl ?_)
                  refine RV.op (OV.call [1, 1, 1, 1] (F := [_]) Try.func22 B22 N22 rfl rfl (fun w h => powered_fn b a st2 p (st2.clock + t.tmod 80) w wf2) (fun _ hb => hb.elim) (gyes rfl) rfl (fun v L' hp => ?_))
                  obtain ⟨rfl, rfl⟩ := hp
                  by_cases hpp : ((0 ≤ (p : Int) ∧ (p : Int) < st2.rails.length) ∧ ¬ st2.c (p : Int).toNat = 0) ∧ st2.t (p : Int).toNat ≤ st2.clock + t.tmod 80
                  · rw [decide_eq_true hpp]
                    refine RV.op (OV.step (gyes rfl) (Step.not rfl) rfl ?_)
                    refine RV.op (OV.step gno (Step.pick_t rfl rfl) rfl ?_)
                    refine RV.op (OV.step gno (Step.move rfl) rfl ?_)
                    refine RV.op (OV.step (gyes rfl) (Step.move rfl) rfl ?_)
                    refine RV.op (OV.step (gyes rfl) (Step.move rfl) rfl ?_)
                    refine KV.cases 114 rfl (fun cc7 => ?_) (fun cc7 => ?_)
                    · -- True
                      refine RV.op (OV.step (gyes rfl) (Step.move rfl) rfl ?_)
                      refine RV.op (OV.step (gyes rfl) (Step.not rfl) rfl ?_)
                      refine RV.op (OV.step (gyes rfl) (Step.move rfl) rfl ?_)
                      refine KV.cases 117 rfl (fun cc8 => ?_) (fun cc8 => ?_)
                      · -- True
                        refine RV.op (OV.skip rfl rfl ?_)
                        refine RV.op (OV.skip rfl rfl ?_)
                        refine RV.op (OV.skip rfl rfl ?_)
                        refine RV.op (OV.step (gyes rfl) (Step.pick_t rfl rfl) rfl ?_)
                        refine RV.op (OV.step (gyes rfl) (Step.pick_t rfl rfl) rfl ?_)
                        refine RV.op (OV.step gno (Step.pick_f rfl rfl) rfl ?_)
                        refine RV.nil ?_
                        refine KV.then_n ?_
                        refine KV.env [(1, _), (2, _), (7, _), (8, _), (10, _), (11, _), (17, _), (18, _), (123, _)] ⟨rfl, rfl, rfl, rfl, rfl, rfl, rfl, rfl, rfl, trivial⟩ ?_
                        refine CV.cond_t rfl ?_
                        refine CV.seq ?_
                        -- region 26 more.go:35
                        refine CV.region ?_
                        refine RV.op (OV.step gno (Step.assign rfl) rfl ?_)
                        refine RV.nil ?_
                        refine KV.then_n ?_
                        refine KV.env [(6, _)] ⟨rfl, trivial⟩ ?_
                        refine CV.ret ?_
                        refine KV.block_ret ?_
                        refine KV.then_ret ?_
                        refine KV.then_ret ?_
                        refine KV.block_ret ?_
                        refine KV.block_ret ?_
                        refine KV.then_ret ?_
                        refine KV.then_ret ?_
                        refine KV.block_ret ?_
                        refine KV.then_ret ?_
                        -- return at r26
                        refine KV.sel [] [] rfl ?_
                        exfalso
                        simp only [Int.toNat_natCast, decide_eq_true_eq, decide_eq_false_iff_not, Bool.not_eq_true', Bool.not_eq_false'] at *
                        by_cases hck : st2.c k = 0 <;> by_cases hcp : st2.c p = 0 <;> simp_all <;> omega
                      · -- False
                        refine RV.op (OV.step (gyes rfl) (Step.move rfl) rfl ?_)
                        refine RV.op (OV.step (gyes rfl) (Step.move rfl) rfl ?_)
                        refine RV.op (OV.split (gyes rfl) (Step.gtr rfl rfl) rfl (fun cc9 => ?_) (fun cc9 => ?_))
                        · -- True
                          refine RV.op (OV.step (gyes rfl) (Step.pick_f rfl rfl) rfl ?_)
                          refine RV.op (OV.step (gyes rfl) (Step.pick_t rfl rfl) rfl ?_)
                          refine RV.op (OV.step gno (Step.pick_f rfl rfl) rfl ?_)
                          refine RV.nil ?_
                          refine KV.then_n ?_
                          refine KV.env [(1, _), (2, _), (7, _), (8, _), (10, _), (11, _), (17, _), (18, _), (123, _)] ⟨rfl, rfl, rfl, rfl, rfl, rfl, rfl, rfl, rfl, trivial⟩ ?_
                          refine CV.cond_t rfl ?_
                          refine CV.seq ?_
                          -- region 26 more.go:35
                          refine CV.region ?_
                          refine RV.op (OV.step gno (Step.assign rfl) rfl ?_)
                          refine RV.nil ?_
                          refine KV.then_n ?_
                          refine KV.env [(6, _)] ⟨rfl, trivial⟩ ?_
                          refine CV.ret ?_
                          refine KV.block_ret ?_
                          refine KV.then_ret ?_
                          refine KV.then_ret ?_
                          refine KV.block_ret ?_
                          refine KV.block_ret ?_
                          refine KV.then_ret ?_
                          refine KV.then_ret ?_
                          refine KV.block_ret ?_
                          refine KV.then_ret ?_
                          -- return at r26
                          refine KV.sel [] [] rfl ?_
                          exfalso
                          simp only [Int.toNat_natCast, decide_eq_true_eq, decide_eq_false_iff_not, Bool.not_eq_true', Bool.not_eq_false'] at *
                          by_cases hck : st2.c k = 0 <;> by_cases hcp : st2.c p = 0 <;> simp_all <;> omega
                        · -- False
                          refine RV.op (OV.step (gyes rfl) (Step.pick_f rfl rfl) rfl ?_)
                          refine RV.op (OV.step (gyes rfl) (Step.pick_t rfl rfl) rfl ?_)
                          refine RV.op (OV.step gno (Step.pick_f rfl rfl) rfl ?_)
                          refine RV.nil ?_
                          refine KV.then_n ?_
                          refine KV.env [(1, _), (2, _), (7, _), (8, _), (10, _), (11, _), (17, _), (18, _), (123, _)] ⟨rfl, rfl, rfl, rfl, rfl, rfl, rfl, rfl, rfl, trivial⟩ ?_
                          refine CV.cond_f rfl ?_
                          refine CV.skip ?_
                          refine KV.block_n ?_
                          refine KV.then_n ?_
                          refine KV.env [(1, _), (2, _), (7, _), (8, _), (10, _), (11, _), (17, _), (18, _)] ⟨rfl, rfl, rfl, rfl, rfl, rfl, rfl, rfl, trivial⟩ ?_
                          -- region 20 more.go:27
                          refine CV.region ?_
                          refine RV.op (OV.step gno (Step.move rfl) rfl ?_)
                          (first | refine RV.op (OV.step gno (Step.add rfl rfl (wI64 (by omega) (by omega))) rfl ?_) | refine RV.op (OV.step gno (Step.add rfl rfl rfl) rfl ?_))
                          refine RV.op (OV.step gno (Step.assign rfl) rfl ?_)
                          refine RV.nil ?_
                          refine KV.then_n ?_
                          refine KV.env [(1, _), (2, _), (7, _), (8, _), (10, _), (11, _), (17, _), (18, _)] ⟨rfl, rfl, rfl, rfl, rfl, rfl, rfl, rfl, trivial⟩ ?_
                          refine KV.sel [0, 0, 0, 0, 0] [_, _, _, _, _] rfl ?_
                          refine KV.loopI (k + 1) (by omega) (by omega) ⟨rfl, rfl, rfl, rfl, rfl, rfl, rfl, rfl, trivial⟩ (fun _ h => h)
                    · -- False
                      refine RV.op (OV.skip rfl rfl ?_)
                      refine RV.op (OV.skip rfl rfl ?_)
                      refine RV.op (OV.skip rfl rfl ?_)
                      refine RV.op (OV.skipU rfl rfl ?_)
                      refine RV.op (OV.skipU rfl rfl ?_)
                      refine RV.op (OV.skipU rfl rfl ?_)
                      refine RV.op (OV.skip rfl rfl ?_)
                      refine RV.op (OV.step (gyes rfl) (Step.pick_f rfl rfl) rfl ?_)
                      refine RV.op (OV.step gno (Step.pick_f rfl rfl) rfl ?_)
                      refine RV.nil ?_
                      refine KV.then_n ?_
                      refine KV.env [(1, _), (2, _), (7, _), (8, _), (10, _), (11, _), (17, _), (18, _), (123, _)] ⟨rfl, rfl, rfl, rfl, rfl, rfl, rfl, rfl, rfl, trivial⟩ ?_
                      refine CV.cond_f rfl ?_
                      refine CV.skip ?_
                      refine KV.block_n ?_
                      refine KV.then_n ?_
                      refine KV.env [(1, _), (2, _), (7, _), (8, _), (10, _), (11, _), (17, _), (18, _)] ⟨rfl, rfl, rfl, rfl, rfl, rfl, rfl, rfl, trivial⟩ ?_
                      -- region 20 more.go:27
                      refine CV.region ?_
                      refine RV.op (OV.step gno (Step.move rfl) rfl ?_)
                      (first | refine RV.op (OV.step gno (Step.add rfl rfl (wI64 (by omega) (by omega))) rfl ?_) | refine RV.op (OV.step gno (Step.add rfl rfl rfl) rfl ?_))
                      refine RV.op (OV.step gno (Step.assign rfl) rfl ?_)
                      refine RV.nil ?_
                      refine KV.then_n ?_
                      refine KV.env [(1, _), (2, _), (7, _), (8, _), (10, _), (11, _), (17, _), (18, _)] ⟨rfl, rfl, rfl, rfl, rfl, rfl, rfl, rfl, trivial⟩ ?_
                      refine KV.sel [0, 0, 0, 0, 0] [_, _, _, _, _] rfl ?_
                      refine KV.loopI (k + 1) (by omega) (by omega) ⟨rfl, rfl, rfl, rfl, rfl, rfl, rfl, rfl, trivial⟩ (fun _ h => h)
                  · rw [decide_eq_false hpp]
                    refine RV.op (OV.step (gyes rfl) (Step.not rfl) rfl ?_)
                    refine RV.op (OV.step gno (Step.pick_t rfl rfl) rfl ?_)
                    refine RV.op (OV.step gno (Step.move rfl) rfl ?_)
                    refine RV.op (OV.skip rfl rfl ?_)
                    refine RV.op (OV.skip rfl rfl ?_)
                    refine RV.op (OV.skipU rfl rfl ?_)
                    refine RV.op (OV.skipU rfl rfl ?_)
                    refine RV.op (OV.skipU rfl rfl ?_)
                    refine RV.op (OV.skipU rfl rfl ?_)
                    refine RV.op (OV.skipU rfl rfl ?_)
                    refine RV.op (OV.skipU rfl rfl ?_)
                    refine RV.op (OV.skipU rfl rfl ?_)
                    refine RV.op (OV.skip rfl rfl ?_)
                    refine RV.op (OV.step gno (Step.pick_t rfl rfl) rfl ?_)
                    refine RV.nil ?_
                    refine KV.then_n ?_
                    refine KV.env [(1, _), (2, _), (7, _), (8, _), (10, _), (11, _), (17, _), (18, _), (123, _)] ⟨rfl, rfl, rfl, rfl, rfl, rfl, rfl, rfl, rfl, trivial⟩ ?_
                    refine CV.cond_t rfl ?_
                    refine CV.seq ?_
                    -- region 26 more.go:35
                    refine CV.region ?_
                    refine RV.op (OV.step gno (Step.assign rfl) rfl ?_)
                    refine RV.nil ?_
                    refine KV.then_n ?_
                    refine KV.env [(6, _)] ⟨rfl, trivial⟩ ?_
                    refine CV.ret ?_
                    refine KV.block_ret ?_
                    refine KV.then_ret ?_
                    refine KV.then_ret ?_
                    refine KV.block_ret ?_
                    refine KV.block_ret ?_
                    refine KV.then_ret ?_
                    refine KV.then_ret ?_
                    refine KV.block_ret ?_
                    refine KV.then_ret ?_
                    -- return at r26
                    refine KV.sel [] [] rfl ?_
                    exfalso
                    simp only [Int.toNat_natCast, decide_eq_true_eq, decide_eq_false_iff_not, Bool.not_eq_true', Bool.not_eq_false'] at *
                    by_cases hck : st2.c k = 0 <;> by_cases hcp : st2.c p = 0 <;> simp_all <;> omega
                · rw [decide_eq_false hpk]
                  refine RV.op (OV.step gno (Step.move rfl) rfl ?_)
                  refine RV.op (OV.skip rfl rfl ?_)
                  refine RV.op (OV.skip rfl rfl ?_)
                  refine RV.op (OV.skip rfl rfl ?_)
                  refine RV.op (OV.skip rfl rfl ?_)
                  refine RV.op (OV.skip rfl rfl ?_)
                  refine RV.op (OV.step gno (Step.pick_f rfl rfl) rfl ?_)
                  refine RV.op (OV.step gno (Step.move rfl) rfl ?_)
                  refine RV.op (OV.step (gyes rfl) (Step.move rfl) rfl ?_)
                  refine RV.op (OV.step (gyes rfl) (Step.move rfl) rfl ?_)
                  refine KV.cases 114 rfl (fun cc10 => ?_) (fun cc10 => ?_)
                  · -- True
                    refine RV.op (OV.step (gyes rfl) (Step.move rfl) rfl ?_)
                    refine RV.op (OV.step (gyes rfl) (Step.not rfl) rfl ?_)
                    refine RV.op (OV.step (gyes rfl) (Step.move rfl) rfl ?_)
                    refine KV.cases 117 rfl (fun cc11 => ?_) (fun cc11 => ?_)
                    · -- True
                      refine RV.op (OV.skip rfl rfl ?_)
                      refine RV.op (OV.skip rfl rfl ?_)
                      refine RV.op (OV.skip rfl rfl ?_)
                      refine RV.op (OV.step (gyes rfl) (Step.pick_t rfl rfl) rfl ?_)
                      refine RV.op (OV.step (gyes rfl) (Step.pick_t rfl rfl) rfl ?_)
                      refine RV.op (OV.step gno (Step.pick_f rfl rfl) rfl ?_)
                      refine RV.nil ?_
                      refine KV.then_n ?_
                      refine KV.env [(1, _), (2, _), (7, _), (8, _), (10, _), (11, _), (17, _), (18, _), (123, _)] ⟨rfl, rfl, rfl, rfl, rfl, rfl, rfl, rfl, rfl, trivial⟩ ?_
                      refine CV.cond_t rfl ?_
                      refine CV.seq ?_
                      -- region 26 more.go:35
                      refine CV.region ?_
                      refine RV.op (OV.step gno (Step.assign rfl) rfl ?_)
                      refine RV.nil ?_
                      refine KV.then_n ?_
                      refine KV.env [(6, _)] ⟨rfl, trivial⟩ ?_
                      refine CV.ret ?_
                      refine KV.block_ret ?_
                      refine KV.then_ret ?_
                      refine KV.then_ret ?_
                      refine KV.block_ret ?_
                      refine KV.block_ret ?_
                      refine KV.then_ret ?_
                      refine KV.then_ret ?_
                      refine KV.block_ret ?_
                      refine KV.then_ret ?_
                      -- return at r26
                      refine KV.sel [] [] rfl ?_
                      exfalso
                      simp only [Int.toNat_natCast, decide_eq_true_eq, decide_eq_false_iff_not, Bool.not_eq_true', Bool.not_eq_false'] at *
                      by_cases hck : st2.c k = 0 <;> by_cases hcp : st2.c p = 0 <;> simp_all <;> omega
                    · -- False
                      refine RV.op (OV.step (gyes rfl) (Step.move rfl) rfl ?_)
                      refine RV.op (OV.step (gyes rfl) (Step.move rfl) rfl ?_)
                      refine RV.op (OV.split (gyes rfl) (Step.gtr rfl rfl) rfl (fun cc12 => ?_) (fun cc12 => ?_))
                      · -- True
                        refine RV.op (OV.step (gyes rfl) (Step.pick_f rfl rfl) rfl ?_)
                        refine RV.op (OV.step (gyes rfl) (Step.pick_t rfl rfl) rfl ?_)
                        refine RV.op (OV.step gno (Step.pick_f rfl rfl) rfl ?_)
                        refine RV.nil ?_
                        refine KV.then_n ?_
                        refine KV.env [(1, _), (2, _), (7, _), (8, _), (10, _), (11, _), (17, _), (18, _), (123, _)] ⟨rfl, rfl, rfl, rfl, rfl, rfl, rfl, rfl, rfl, trivial⟩ ?_
                        refine CV.cond_t rfl ?_
                        refine CV.seq ?_
                        -- region 26 more.go:35
                        refine CV.region ?_
                        refine RV.op (OV.step gno (Step.assign rfl) rfl ?_)
                        refine RV.nil ?_
                        refine KV.then_n ?_
                        refine KV.env [(6, _)] ⟨rfl, trivial⟩ ?_
                        refine CV.ret ?_
                        refine KV.block_ret ?_
                        refine KV.then_ret ?_
                        refine KV.then_ret ?_
                        refine KV.block_ret ?_
                        refine KV.block_ret ?_
                        refine KV.then_ret ?_
                        refine KV.then_ret ?_
                        refine KV.block_ret ?_
                        refine KV.then_ret ?_
                        -- return at r26
                        refine KV.sel [] [] rfl ?_
                        exfalso
                        simp only [Int.toNat_natCast, decide_eq_true_eq, decide_eq_false_iff_not, Bool.not_eq_true', Bool.not_eq_false'] at *
                        by_cases hck : st2.c k = 0 <;> by_cases hcp : st2.c p = 0 <;> simp_all <;> omega
                      · -- False
                        refine RV.op (OV.step (gyes rfl) (Step.pick_f rfl rfl) rfl ?_)
                        refine RV.op (OV.step (gyes rfl) (Step.pick_t rfl rfl) rfl ?_)
                        refine RV.op (OV.step gno (Step.pick_f rfl rfl) rfl ?_)
                        refine RV.nil ?_
                        refine KV.then_n ?_
                        refine KV.env [(1, _), (2, _), (7, _), (8, _), (10, _), (11, _), (17, _), (18, _), (123, _)] ⟨rfl, rfl, rfl, rfl, rfl, rfl, rfl, rfl, rfl, trivial⟩ ?_
                        refine CV.cond_f rfl ?_
                        refine CV.skip ?_
                        refine KV.block_n ?_
                        refine KV.then_n ?_
                        refine KV.env [(1, _), (2, _), (7, _), (8, _), (10, _), (11, _), (17, _), (18, _)] ⟨rfl, rfl, rfl, rfl, rfl, rfl, rfl, rfl, trivial⟩ ?_
                        -- region 20 more.go:27
                        refine CV.region ?_
                        refine RV.op (OV.step gno (Step.move rfl) rfl ?_)
                        (first | refine RV.op (OV.step gno (Step.add rfl rfl (wI64 (by omega) (by omega))) rfl ?_) | refine RV.op (OV.step gno (Step.add rfl rfl rfl) rfl ?_))
                        refine RV.op (OV.step gno (Step.assign rfl) rfl ?_)
                        refine RV.nil ?_
                        refine KV.then_n ?_
                        refine KV.env [(1, _), (2, _), (7, _), (8, _), (10, _), (11, _), (17, _), (18, _)] ⟨rfl, rfl, rfl, rfl, rfl, rfl, rfl, rfl, trivial⟩ ?_
                        refine KV.sel [0, 0, 0, 0, 0] [_, _, _, _, _] rfl ?_
                        refine KV.loopI (k + 1) (by omega) (by omega) ⟨rfl, rfl, rfl, rfl, rfl, rfl, rfl, rfl, trivial⟩ (fun _ h => h)
                  · -- False
                    refine RV.op (OV.skip rfl rfl ?_)
                    refine RV.op (OV.skip rfl rfl ?_)
                    refine RV.op (OV.skip rfl rfl ?_)
                    refine RV.op (OV.skipU rfl rfl ?_)
                    refine RV.op (OV.skipU rfl rfl ?_)
                    refine RV.op (OV.skipU rfl rfl ?_)
                    refine RV.op (OV.skip rfl rfl ?_)
                    refine RV.op (OV.step (gyes rfl) (Step.pick_f rfl rfl) rfl ?_)
                    refine RV.op (OV.step gno (Step.pick_f rfl rfl) rfl ?_)
                    refine RV.nil ?_
                    refine KV.then_n ?_
                    refine KV.env [(1, _), (2, _), (7, _), (8, _), (10, _), (11, _), (17, _), (18, _), (123, _)] ⟨rfl, rfl, rfl, rfl, rfl, rfl, rfl, rfl, rfl, trivial⟩ ?_
                    refine CV.cond_f rfl ?_
                    refine CV.skip ?_
                    refine KV.block_n ?_
                    refine KV.then_n ?_
                    refine KV.env [(1, _), (2, _), (7, _), (8, _), (10, _), (11, _), (17, _), (18, _)] ⟨rfl, rfl, rfl, rfl, rfl, rfl, rfl, rfl, trivial⟩ ?_
                    -- region 20 more.go:27
                    refine CV.region ?_
                    refine RV.op (OV.step gno (Step.move rfl) rfl ?_)
                    (first | refine RV.op (OV.step gno (Step.add rfl rfl (wI64 (by omega) (by omega))) rfl ?_) | refine RV.op (OV.step gno (Step.add rfl rfl rfl) rfl ?_))
                    refine RV.op (OV.step gno (Step.assign rfl) rfl ?_)
                    refine RV.nil ?_
                    refine KV.then_n ?_
                    refine KV.env [(1, _), (2, _), (7, _), (8, _), (10, _), (11, _), (17, _), (18, _)] ⟨rfl, rfl, rfl, rfl, rfl, rfl, rfl, rfl, trivial⟩ ?_
                    refine KV.sel [0, 0, 0, 0, 0] [_, _, _, _, _] rfl ?_
                    refine KV.loopI (k + 1) (by omega) (by omega) ⟨rfl, rfl, rfl, rfl, rfl, rfl, rfl, rfl, trivial⟩ (fun _ h => h)
            · -- False
              refine RV.nil ?_
              refine KV.then_n ?_
              refine KV.env [(1, _), (2, _), (7, _), (8, _), (10, _), (11, _), (17, _), (18, _), (79, _)] ⟨rfl, rfl, rfl, rfl, rfl, rfl, rfl, rfl, rfl, trivial⟩ ?_
              refine CV.cond_f rfl ?_
              refine CV.exit ?_
              refine KV.then_exit ?_
              refine KV.then_exit ?_
              refine KV.block_hit ?_
              refine KV.block_n ?_
              refine KV.then_n ?_
              refine KV.env [(1, _), (2, _), (7, _), (8, _), (10, _), (11, _)] ⟨rfl, rfl, rfl, rfl, rfl, rfl, trivial⟩ ?_
              -- region 10 more.go:19
              refine CV.region ?_
              refine RV.op (OV.step gno (Step.move rfl) rfl ?_)
              (first | refine RV.op (OV.step gno (Step.add rfl rfl (wI64 (by omega) (by omega))) rfl ?_) | refine RV.op (OV.step gno (Step.add rfl rfl rfl) rfl ?_))
              refine RV.op (OV.step gno (Step.assign rfl) rfl ?_)
              refine RV.nil ?_
              refine KV.then_n ?_
              refine KV.env [(1, _), (2, _), (7, _), (8, _), (10, _), (11, _)] ⟨rfl, rfl, rfl, rfl, rfl, rfl, trivial⟩ ?_
              refine KV.sel [0, 0, 0, 0, 0] [_, _, _, _, _] rfl ?_
              first | refine KV.loop2 (y := st) (i + 1) st2 ⟨by omega, d1⟩ (by omega) ⟨rfl, rfl, rfl, rfl, rfl, rfl, trivial⟩ (fun _ h => h) | refine KV.loop2 (y := st2) (i + 1) st2 ⟨by omega, d1⟩ (by omega) ⟨rfl, rfl, rfl, rfl, rfl, rfl, trivial⟩ (fun _ h => h)
        · -- False
          refine RV.nil ?_
          refine KV.then_n ?_
          refine KV.env [(1, _), (2, _), (7, _), (8, _), (10, _), (11, _), (44, _)] ⟨rfl, rfl, rfl, rfl, rfl, rfl, rfl, trivial⟩ ?_
          refine CV.cond_f rfl ?_
          refine CV.exit ?_
          refine KV.then_exit ?_
          refine KV.then_exit ?_
          refine KV.block_hit ?_
          refine KV.then_n ?_
          refine KV.env [] trivial ?_
          refine CV.seq ?_
          -- region 27 more.go:39
          refine CV.region ?_
          refine RV.op (OV.call [] (F := [_, _, _, _, _]) Try.func12 B12 N12 rfl rfl (fun w h => awake_fn) (fun _ hb => hb.elim) gno rfl (fun v L' hp => ?_))
          obtain ⟨rfl, rfl⟩ := hp
          simp only [List.append_nil]
          refine RV.op (OV.step gno (Step.assign rfl) rfl ?_)
          refine RV.nil ?_
          refine KV.then_n ?_
          refine KV.env [(6, _)] ⟨rfl, trivial⟩ ?_
          refine CV.ret ?_
          -- return at r27
          refine KV.sel [] [] rfl ?_
          exact KV.ret1 rfl rfl _ (fun _ h => h) ⟨rfl, rfl⟩
end Go.Proofs.Ytcmalbkflbfidaa
