/-
  Walks, part 13.
-/
import Derived.Test.YtaafpnoffdcbnaaTab13
import Derived.Test.YtaafpnoffdcbnaaW11
set_option linter.unusedSimpArgs false
set_option linter.unusedVariables false
namespace Go.Proofs.Ytaafpnoffdcbnaa
open Go.Sv Go.Perf
theorem newW_fn {A : Option Addr} {n c : Nat} {ys : List Pt} {w : World} (hr : RS w ptK A ys) (hn : n = ys.length) (hl : ys.length ≤ 1000000) (u d s : Int) : Fx Try.prog 25 [.slice A n c, .agg #[.int .i64 u, .int .i64 d, .int .i64 s]] w [] no (fun v _ => ∃ p, v = .tuple #[.pointer p, .int .i64 (newE ys u d s)]) :=
  (new_fn hr hn hl u d s).mono fun v L hp => by
    by_cases h : newE ys u d s = 0
    · obtain ⟨b, A2, c2, rfl, _⟩ := hp.1 h
      exact ⟨_, by rw [h]⟩
    · obtain ⟨rfl, _⟩ := hp.2 h
      exact ⟨none, rfl⟩
theorem newRW_fn {A : Option Addr} {n c : Nat} {ys : List Pt} {w : World} (hr : RS w ptK A ys) (hn : n = ys.length) (hl : ys.length ≤ 1000000) (u d s : Int) : Fx Try.prog 28 [.slice A n c, .agg #[.int .i64 u, .int .i64 d, .int .i64 s]] w [] no (fun v _ => ∃ p, v = .tuple #[.pointer p, .int .i64 (newE ys u d s)]) :=
  (newR_fn hr hn hl u d s).mono fun v L hp => by
    by_cases h : newE ys u d s = 0
    · obtain ⟨b, A2, c2, rfl, _⟩ := hp.1 h
      exact ⟨_, by rw [h]⟩
    · obtain ⟨rfl, _⟩ := hp.2 h
      exact ⟨none, rfl⟩
theorem newRG_fn {A : Option Addr} {n c : Nat} {ys : List Pt} {w : World} (hr : RS w ptK A ys) (hn : n = ys.length) (hl : ys.length ≤ 1000000) (u d s : Int) (hE : newE ys u d s = 0) : Fx Try.prog 28 [.slice A n c, .agg #[.int .i64 u, .int .i64 d, .int .i64 s]] w [] no (fun v L => ∃ b A2 c2, v = .tuple #[.pointer (some ⟨b, 0, none⟩), .int .i64 0] ∧ L = gobj 69 b A2 c2 (gov0 ys u d s)) :=
  (newR_fn hr hn hl u d s).mono fun v L hp => hp.1 hE

set_option maxRecDepth 100000 in
set_option maxHeartbeats 1000000 in
theorem govAgrees_fn {A : Option Addr} {n c : Nat} {raw : List Pt} {B : Option Addr} {m d : Nat} {l : List Int} {w : World} (hr : RS w ptK A raw) (hn : n = raw.length) (hf : fitT raw) (u dd s : Int) (hb : RS w (intK .i64) B l) (hm : m = l.length) : Fx Try.prog 10 [.slice A n c, .agg #[.int .i64 u, .int .i64 dd, .int .i64 s], .slice B m d] w [] no (fun v L => v = .bool true ∧ L = []) := by
  subst hn
  subst hm
  refine Sv.Fx.body Try.func10 rfl T10 rfl ?_
  intro I hro hI
  refine KV.env [(0, _), (1, _), (2, _)] ⟨rfl, rfl, rfl, trivial⟩ ?_
  obtain ⟨U, D, S, hP, hU1, hU2, hD, hS1, hS2⟩ := prmN u dd s
  refine CV.seq ?_
  -- region 0 law.go:126
  refine CV.region ?_
  refine RV.op (OV.box (t := 45) #[_, _, _] rfl rfl gno rfl (fun b0_0 => ?_))
  refine RV.op (OV.step gno (Step.assign rfl) rfl ?_)
  refine RV.nil ?_
  refine KV.then_n ?_
  refine KV.env [(0, _), (2, _), (4, _)] ⟨rfl, rfl, rfl, trivial⟩ ?_
  refine CV.seq ?_
  refine CV.seq ?_
  -- region 1 law.go:127
  refine CV.region ?_
  refine RV.op (OV.step gno (Step.move rfl) rfl ?_)
  refine RV.op (OV.step gno (Step.lenSl Try.underlying22 rfl) rfl ?_)
  refine RV.op (OV.split gno (Step.gtr rfl rfl) rfl (fun hlong => ?_) (fun hlong => ?_))
  · -- True
    refine RV.op (OV.step gno (Step.move rfl) rfl ?_)
    refine RV.op (OV.skip rfl rfl ?_)
    refine RV.op (OV.skip rfl rfl ?_)
    refine RV.op (OV.skip rfl rfl ?_)
    refine RV.op (OV.step gno (Step.pick_t rfl rfl) rfl ?_)
    refine RV.nil ?_
    refine KV.then_n ?_
    refine KV.env [(0, _), (2, _), (4, _), (35, _)] ⟨rfl, rfl, rfl, rfl, trivial⟩ ?_
    refine CV.cond_t rfl ?_
    refine CV.seq ?_
    -- region 2 law.go:128
    refine CV.region ?_
    refine RV.op (OV.call [] (F := [_]) Try.func12 B12 N12 rfl rfl (fun w h => awake_fn) (fun _ hb => hb.elim) gno rfl (fun v L' hp => ?_))
    obtain ⟨rfl, rfl⟩ := hp
    simp only [List.append_nil]
    refine RV.op (OV.step gno (Step.assign rfl) rfl ?_)
    refine RV.nil ?_
    refine KV.then_n ?_
    refine KV.env [(6, _)] ⟨rfl, trivial⟩ ?_
    refine CV.ret ?_
    refine KV.then_ret ?_
    -- return at r2
    refine KV.sel [] [] rfl ?_
    exact KV.ret1 rfl rfl _ (fun _ h => h) ⟨rfl, rfl⟩
  · -- False
    refine RV.op (OV.step gno (Step.move rfl) rfl ?_)
    refine RV.op (OV.step (gyes rfl) (Step.move rfl) rfl ?_)
    refine RV.op (OV.step (gyes rfl) (Step.lenSl Try.underlying52 rfl) rfl ?_)
    refine RV.op (OV.split (gyes rfl) (Step.gtr rfl rfl) rfl (fun hlong2 => ?_) (fun hlong2 => ?_))
    · -- True
      refine RV.op (OV.step gno (Step.pick_f rfl rfl) rfl ?_)
      refine RV.nil ?_
      refine KV.then_n ?_
      refine KV.env [(0, _), (2, _), (4, _), (35, _)] ⟨rfl, rfl, rfl, rfl, trivial⟩ ?_
      refine CV.cond_t rfl ?_
      refine CV.seq ?_
      -- region 2 law.go:128
      refine CV.region ?_
      refine RV.op (OV.call [] (F := [_]) Try.func12 B12 N12 rfl rfl (fun w h => awake_fn) (fun _ hb => hb.elim) gno rfl (fun v L' hp => ?_))
      obtain ⟨rfl, rfl⟩ := hp
      simp only [List.append_nil]
      refine RV.op (OV.step gno (Step.assign rfl) rfl ?_)
      refine RV.nil ?_
      refine KV.then_n ?_
      refine KV.env [(6, _)] ⟨rfl, trivial⟩ ?_
      refine CV.ret ?_
      refine KV.then_ret ?_
      -- return at r2
      refine KV.sel [] [] rfl ?_
      exact KV.ret1 rfl rfl _ (fun _ h => h) ⟨rfl, rfl⟩
    · -- False
      have hl : raw.length ≤ 1000000 := by omega
      refine RV.op (OV.step gno (Step.pick_f rfl rfl) rfl ?_)
      refine RV.nil ?_
      refine KV.then_n ?_
      refine KV.env [(0, _), (2, _), (4, _), (35, _)] ⟨rfl, rfl, rfl, rfl, trivial⟩ ?_
      refine CV.cond_f rfl ?_
      refine CV.skip ?_
      refine KV.then_n ?_
      refine KV.env [(0, _), (2, _), (4, _)] ⟨rfl, rfl, rfl, trivial⟩ ?_
      refine CV.seq ?_
      -- region 3 law.go:130
      refine CV.region ?_
      refine RV.op (OV.step gno (Step.move rfl) rfl ?_)
      refine RV.op (OV.step gno (Step.loadN _ Try.underlying45 rfl I45 rfl rfl (fun w h => h.cells 0 rfl)) rfl ?_)
      refine RV.op (OV.call [] (F := [_]) Try.func25 B25 N25 rfl rfl (fun w h => newW_fn (h.rs hr (fun _ => hI _)) rfl (by omega) u dd s) (fun _ hb => hb.elim) gno rfl (fun v L' hp => ?_))
      obtain ⟨p1, rfl⟩ := hp
      refine KV.heap (fun w h => h.sub) ?_
      refine RV.op (OV.step gno (Step.move rfl) rfl ?_)
      refine RV.op (OV.step gno (Step.extract0 rfl rfl) rfl ?_)
      refine RV.op (OV.step gno (Step.extract0 rfl rfl) rfl ?_)
      refine RV.op (OV.step gno (Step.assign rfl) rfl ?_)
      refine RV.op (OV.step gno (Step.assign rfl) rfl ?_)
      refine RV.nil ?_
      refine KV.then_n ?_
      refine KV.env [(0, _), (2, _), (4, _), (8, _)] ⟨rfl, rfl, rfl, rfl, trivial⟩ ?_
      refine CV.seq ?_
      -- region 4 law.go:131
      refine CV.region ?_
      refine RV.op (OV.step gno (Step.move rfl) rfl ?_)
      refine RV.op (OV.step gno (Step.loadN _ Try.underlying45 rfl I45 rfl rfl (fun w h => h.cells 0 rfl)) rfl ?_)
      refine RV.op (OV.call [] (F := [_]) Try.func28 B28 N28 rfl rfl (fun w h => newRW_fn (h.rs hr (fun _ => hI _)) rfl (by omega) u dd s) (fun _ hb => hb.elim) gno rfl (fun v L' hp => ?_))
      obtain ⟨p2, rfl⟩ := hp
      refine KV.heap (fun w h => h.sub) ?_
      refine RV.op (OV.step gno (Step.move rfl) rfl ?_)
      refine RV.op (OV.step gno (Step.extract0 rfl rfl) rfl ?_)
      refine RV.op (OV.step gno (Step.extract0 rfl rfl) rfl ?_)
      refine RV.op (OV.step gno (Step.assign rfl) rfl ?_)
      refine RV.op (OV.step gno (Step.assign rfl) rfl ?_)
      refine RV.nil ?_
      refine KV.then_n ?_
      refine KV.env [(0, _), (2, _), (4, _), (8, _), (10, _)] ⟨rfl, rfl, rfl, rfl, rfl, trivial⟩ ?_
      refine CV.seq ?_
      -- region 5 law.go:132
      refine CV.region ?_
      refine RV.op (OV.step gno (Step.move rfl) rfl ?_)
      refine RV.op (OV.call [] (F := [_]) Try.func13 B13 N13 rfl rfl (fun w h => table_fn (h.rs hr (fun _ => hI _)) rfl hl hf) (fun _ hb => hb.elim) gno rfl (fun v L' hp => ?_))
      obtain ⟨At, ct, rfl, rfl⟩ := hp
      obtain ⟨T, hT⟩ : ∃ T, tableM raw = T := ⟨_, rfl⟩
      rw [hT]
      have hok : okT T := hT ▸ table_ok hf
      have hlT := hok.1
      have hfT : fitT T := hT ▸ fitT_table hf
      have hE := newE_zero hok hU1 hU2 hD hS1 hS2
      have hg0 := gov0_ok hE
      refine RV.op (OV.step gno (Step.assign rfl) rfl ?_)
      refine RV.nil ?_
      refine KV.then_n ?_
      refine KV.env [(2, _), (4, _), (8, _), (10, _), (11, _)] ⟨rfl, rfl, rfl, rfl, rfl, trivial⟩ ?_
      refine CV.seq ?_
      -- region 6 law.go:133
      refine CV.region ?_
      refine RV.op (OV.step gno (Step.move rfl) rfl ?_)
      refine RV.op (OV.step gno (Step.loadN _ Try.underlying45 rfl I45 rfl rfl (fun w h => h.cells 0 rfl)) rfl ?_)
      refine RV.op (OV.call [] (F := [_, _]) Try.func25 B25 N25 rfl rfl (fun w h => newW_fn (h.os 1 rfl) rfl (by omega) u dd s) (fun _ hb => hb.elim) gno rfl (fun v L' hp => ?_))
      obtain ⟨p3, rfl⟩ := hp
      refine KV.heap (fun w h => h.sub) ?_
      refine RV.op (OV.step gno (Step.move rfl) rfl ?_)
      refine RV.op (OV.step gno (Step.extract0 rfl rfl) rfl ?_)
      refine RV.op (OV.step gno (Step.extract0 rfl rfl) rfl ?_)
      refine RV.op (OV.step gno (Step.assign rfl) rfl ?_)
      refine RV.op (OV.step gno (Step.assign rfl) rfl ?_)
      refine RV.nil ?_
      refine KV.then_n ?_
      refine KV.env [(2, _), (4, _), (8, _), (10, _), (11, _), (13, _)] ⟨rfl, rfl, rfl, rfl, rfl, rfl, trivial⟩ ?_
      refine CV.seq ?_
      -- region 7 law.go:134
      refine CV.region ?_
      refine RV.op (OV.step gno (Step.move rfl) rfl ?_)
      refine RV.op (OV.step gno (Step.loadN _ Try.underlying45 rfl I45 rfl rfl (fun w h => h.cells 0 rfl)) rfl ?_)
      refine RV.op (OV.call [] (F := [_, _]) Try.func28 B28 N28 rfl rfl (fun w h => newRW_fn (h.os 1 rfl) rfl (by omega) u dd s) (fun _ hb => hb.elim) gno rfl (fun v L' hp => ?_))
      obtain ⟨p4, rfl⟩ := hp
      refine KV.heap (fun w h => h.sub) ?_
      refine RV.op (OV.step gno (Step.move rfl) rfl ?_)
      refine RV.op (OV.step gno (Step.extract0 rfl rfl) rfl ?_)
      refine RV.op (OV.step gno (Step.extract0 rfl rfl) rfl ?_)
      refine RV.op (OV.step gno (Step.assign rfl) rfl ?_)
      refine RV.op (OV.step gno (Step.assign rfl) rfl ?_)
      refine RV.nil ?_
      refine KV.then_n ?_
      refine KV.env [(2, _), (4, _), (8, _), (10, _), (11, _), (13, _), (15, _)] ⟨rfl, rfl, rfl, rfl, rfl, rfl, rfl, trivial⟩ ?_
      refine CV.seq ?_
      -- region 8 law.go:135
      refine CV.region ?_
      refine RV.op (OV.step gno (Step.move rfl) rfl ?_)
      refine RV.op (OV.step gno (Step.loadN _ Try.underlying45 rfl I45 rfl rfl (fun w h => h.cells 0 rfl)) rfl ?_)
      refine RV.op (OV.call [] (F := [_, _]) Try.func24 B24 N24 rfl rfl (fun w h => params2_fn hP) (fun _ hb => hb.elim) gno rfl (fun v L' hp => ?_))
      obtain ⟨rfl, rfl⟩ := hp
      simp only [List.append_nil]
      refine RV.op (OV.call [] (F := [_, _]) Try.func25 B25 N25 rfl rfl (fun w h => newG_fn (h.os 1 rfl) rfl (by omega) U D S hE) (fun _ hb => hb.elim) gno rfl (fun v L' hp => ?_))
      obtain ⟨b, Ag, cg, rfl, rfl⟩ := hp
      refine RV.op (OV.step gno (Step.move rfl) rfl ?_)
      refine RV.op (OV.step gno (Step.extract0 rfl rfl) rfl ?_)
      refine RV.op (OV.step gno (Step.extract0 rfl rfl) rfl ?_)
      refine RV.op (OV.step gno (Step.assign rfl) rfl ?_)
      refine RV.op (OV.step gno (Step.assign rfl) rfl ?_)
      refine RV.nil ?_
      refine KV.then_n ?_
      refine KV.env [(2, _), (4, _), (8, _), (10, _), (11, _), (13, _), (15, _), (16, _), (17, _)] ⟨rfl, rfl, rfl, rfl, rfl, rfl, rfl, rfl, rfl, trivial⟩ ?_
      refine CV.seq ?_
      -- region 9 law.go:136
      refine CV.region ?_
      refine RV.op (OV.step gno (Step.move rfl) rfl ?_)
      refine RV.op (OV.step gno (Step.loadN _ Try.underlying45 rfl I45 rfl rfl (fun w h => h.cells 0 rfl)) rfl ?_)
      refine RV.op (OV.call [] (F := [_, _, _, _]) Try.func24 B24 N24 rfl rfl (fun w h => params2_fn hP) (fun _ hb => hb.elim) gno rfl (fun v L' hp => ?_))
      obtain ⟨rfl, rfl⟩ := hp
      simp only [List.append_nil]
      refine RV.op (OV.call [] (F := [_, _, _, _]) Try.func28 B28 N28 rfl rfl (fun w h => newRG_fn (h.os 1 rfl) rfl (by omega) U D S hE) (fun _ hb => hb.elim) gno rfl (fun v L' hp => ?_))
      obtain ⟨b2, Ar, cr, rfl, rfl⟩ := hp
      refine RV.op (OV.step gno (Step.move rfl) rfl ?_)
      refine RV.op (OV.step gno (Step.extract0 rfl rfl) rfl ?_)
      refine RV.op (OV.step gno (Step.extract0 rfl rfl) rfl ?_)
      refine RV.op (OV.step gno (Step.assign rfl) rfl ?_)
      refine RV.op (OV.step gno (Step.assign rfl) rfl ?_)
      refine RV.nil ?_
      refine KV.then_n ?_
      refine KV.env [(2, _), (8, _), (10, _), (11, _), (13, _), (15, _), (16, _), (17, _), (18, _), (19, _)] ⟨rfl, rfl, rfl, rfl, rfl, rfl, rfl, rfl, rfl, rfl, trivial⟩ ?_
      refine CV.seq ?_
      refine CV.seq ?_
      -- region 10 law.go:137
      refine CV.region ?_
      refine RV.op (OV.step gno (Step.move rfl) rfl ?_)
      refine RV.op (OV.step gno (Step.move rfl) rfl ?_)
      refine RV.op (OV.split gno (Step.neq rfl rfl) rfl (fun e8 => ?_) (fun e8 => ?_))
      · -- True
        exact absurd rfl e8
      · -- False
        refine RV.op (OV.step gno (Step.move rfl) rfl ?_)
        refine RV.op (OV.step (gyes rfl) (Step.move rfl) rfl ?_)
        refine RV.op (OV.step (gyes rfl) (Step.move rfl) rfl ?_)
        refine RV.op (OV.split (gyes rfl) (Step.neq rfl rfl) rfl (fun e8 => ?_) (fun e8 => ?_))
        · -- True
          exact absurd rfl e8
        · -- False
          refine RV.op (OV.step gno (Step.pick_f rfl rfl) rfl ?_)
          refine RV.op (OV.step gno (Step.move rfl) rfl ?_)
          refine RV.op (OV.step (gyes rfl) (Step.move rfl) rfl ?_)
          refine RV.op (OV.split (gyes rfl) (Step.neq rfl rfl) rfl (fun e8 => ?_) (fun e8 => ?_))
          · -- True
            exact absurd rfl e8
          · -- False
            refine RV.op (OV.step gno (Step.pick_f rfl rfl) rfl ?_)
            refine RV.op (OV.step gno (Step.move rfl) rfl ?_)
            refine RV.op (OV.step (gyes rfl) (Step.move rfl) rfl ?_)
            refine RV.op (OV.split (gyes rfl) (Step.neq rfl rfl) rfl (fun e8 => ?_) (fun e8 => ?_))
            · -- True
              exact absurd rfl e8
            · -- False
              refine RV.op (OV.step gno (Step.pick_f rfl rfl) rfl ?_)
              refine RV.op (OV.step gno (Step.move rfl) rfl ?_)
              refine RV.op (OV.step (gyes rfl) (Step.move rfl) rfl ?_)
              refine RV.op (OV.split (gyes rfl) (Step.eqlP Try.underlying47 rfl rfl) rfl (fun e8 => ?_) (fun e8 => ?_))
              · -- True
                cases e8
              · -- False
                refine RV.op (OV.step gno (Step.pick_f rfl rfl) rfl ?_)
                refine RV.nil ?_
                refine KV.then_n ?_
                refine KV.env [(2, _), (11, _), (16, _), (18, _), (96, _)] ⟨rfl, rfl, rfl, rfl, rfl, trivial⟩ ?_
                refine CV.cond_f rfl ?_
                refine CV.skip ?_
                refine KV.then_n ?_
                refine KV.env [(2, _), (11, _), (16, _), (18, _)] ⟨rfl, rfl, rfl, rfl, trivial⟩ ?_
                refine CV.seq ?_
                refine CV.seq ?_
                -- region 12 law.go:140
                refine CV.region ?_
                refine RV.op (OV.step gno (Step.assign rfl) rfl ?_)
                refine RV.nil ?_
                refine KV.then_n ?_
                refine KV.env [(2, _), (11, _), (16, _), (18, _), (20, _)] ⟨rfl, rfl, rfl, rfl, rfl, trivial⟩ ?_
                refine CV.block ?_
                -- loop L13; live [2, 11, 16, 18, 20]
                refine KV.sel [1, 1, 1, 1, 1] [_, _, _, _, _] rfl ?_
                refine CV.loop2 (fun (j : Nat) (g : Gov) => j ≤ l.length ∧ g.ok) (fun (j : Nat) (g : Gov) => l.length - j) (fun (j : Nat) (g : Gov) => [(2, .slice B l.length d), (11, .slice At T.length ct), (16, .pointer (some ⟨b, 0, none⟩)), (18, .pointer (some ⟨b2, 0, none⟩)), (20, .int .i64 j)]) (fun (j : Nat) (g : Gov) => Hp I w ([OS 25 ptK At ct T] ++ gobj 66 b Ag cg g ++ gobj 69 b2 Ar cr g)) (0) (gov0 T U D S) ⟨Nat.zero_le _, hg0⟩ ⟨rfl, rfl, rfl, rfl, rfl, trivial⟩ (fun _ h => h) ?_
                intro j g hinv
                refine CV.seq ?_
                refine CV.seq ?_
                -- region 13 law.go:140
                refine CV.region ?_
                refine RV.op (OV.step gno (Step.move rfl) rfl ?_)
                refine RV.op (OV.step gno (Step.move rfl) rfl ?_)
                refine RV.op (OV.step gno (Step.lenSl Try.underlying52 rfl) rfl ?_)
                refine RV.op (OV.split gno (Step.lss rfl rfl) rfl (fun hj => ?_) (fun hj => ?_))
                · -- True
                  refine RV.nil ?_
                  refine KV.then_n ?_
                  refine KV.env [(2, _), (11, _), (16, _), (18, _), (20, _), (100, _)] ⟨rfl, rfl, rfl, rfl, rfl, rfl, trivial⟩ ?_
                  refine CV.cond_t rfl ?_
                  refine CV.skip ?_
                  refine KV.then_n ?_
                  refine KV.env [(2, _), (11, _), (16, _), (18, _), (20, _)] ⟨rfl, rfl, rfl, rfl, rfl, trivial⟩ ?_
                  refine CV.seq ?_
                  refine CV.block ?_
                  refine CV.seq ?_
                  -- region 15 law.go:141
                  refine CV.region ?_
                  refine RV.op (OV.step gno (Step.move rfl) rfl ?_)
                  refine RV.op (OV.step gno (Step.move rfl) rfl ?_)
                  refine RV.op (OV.step gno (Step.idx Try.underlying52 I3 (fun w h => h.rs hb (fun _ => hI _)) rfl rfl (rfl) _ rfl (by omega)) rfl ?_)
                  refine RV.op (OV.step gno (Step.load Try.underlying3 rfl rfl (fun w h => (h.rs hb (fun _ => hI _)).cell0 (by omega) rfl)) rfl ?_)
                  refine RV.op (OV.step gno (Step.assign rfl) rfl ?_)
                  refine RV.nil ?_
                  refine KV.then_n ?_
                  refine KV.env [(2, _), (11, _), (16, _), (18, _), (20, _), (21, _)] ⟨rfl, rfl, rfl, rfl, rfl, rfl, trivial⟩ ?_
                  refine CV.seq ?_
                  -- region 16 law.go:142
                  refine CV.region ?_
                  refine RV.op (OV.step gno (Step.assign rfl) rfl ?_)
                  refine RV.op (OV.step gno (Step.assign rfl) rfl ?_)
                  refine RV.nil ?_
                  refine KV.then_n ?_
                  refine KV.env [(2, _), (11, _), (16, _), (18, _), (20, _), (21, _)] ⟨rfl, rfl, rfl, rfl, rfl, rfl, trivial⟩ ?_
                  refine CV.seq ?_
                  -- region 17 law.go:143
                  refine CV.region ?_
                  refine RV.op (OV.step gno (Step.assign rfl) rfl ?_)
                  refine RV.op (OV.step gno (Step.assign rfl) rfl ?_)
                  refine RV.nil ?_
                  refine KV.then_n ?_
                  refine KV.env [(2, _), (11, _), (16, _), (18, _), (20, _), (21, _), (24, _), (25, _)] ⟨rfl, rfl, rfl, rfl, rfl, rfl, rfl, rfl, trivial⟩ ?_
                  refine CV.seq ?_
                  refine CV.block ?_
                  refine CV.seq ?_
                  -- region 20 law.go:145
                  refine CV.region ?_
                  refine RV.op (OV.step gno (Step.move rfl) rfl ?_)
                  refine RV.op (OV.call [] Try.func14 B14 N14 rfl rfl (fun w h => (mod_fn _ (7) (by omega) (by omega)).fn w) (fun _ hb => hb.elim) gno rfl (fun v L' hp => ?_))
                  obtain ⟨rfl, rfl⟩ := hp
                  simp only [List.append_nil]
                  refine RV.op (OV.split gno (Step.eql rfl rfl) rfl (fun cc1 => ?_) (fun cc1 => ?_))
                  · -- True
                    refine RV.op (OV.step gno (Step.assign rfl) rfl ?_)
                    refine RV.nil ?_
                    refine KV.then_n ?_
                    refine KV.env [(2, _), (11, _), (16, _), (18, _), (20, _), (21, _), (24, _), (25, _), (121, _)] ⟨rfl, rfl, rfl, rfl, rfl, rfl, rfl, rfl, rfl, trivial⟩ ?_
                    refine CV.cond_t rfl ?_
                    refine CV.seq ?_
                    -- region 21 law.go:146
                    refine CV.region ?_
                    refine RV.op (OV.step gno (Step.move rfl) rfl ?_)
                    refine RV.op (OV.step gno (Step.quo rfl rfl (by omega) (rfl)) rfl ?_)
                    refine RV.op (OV.step gno (Step.move rfl) rfl ?_)
                    refine RV.op (OV.step gno (Step.lenSl Try.underlying22 rfl) rfl ?_)
                    (first | refine RV.op (OV.step gno (Step.add rfl rfl (wI64 (by omega) (by omega))) rfl ?_) | refine RV.op (OV.step gno (Step.add rfl rfl rfl) rfl ?_))
                    refine RV.op (OV.call [] Try.func14 B14 N14 rfl rfl (fun w h => (mod_fn _ (T.length + 1) (by omega) (by omega)).fn w) (fun _ hb => hb.elim) gno rfl (fun v L' hp => ?_))
                    obtain ⟨rfl, rfl⟩ := hp
                    simp only [List.append_nil]
                    have h5 := modM_lt (IntKind.i64.wrap ((l.getD j (intK .i64).d).tdiv 7)) (n := T.length + 1) (by omega)
                    refine RV.op (OV.step gno (Step.move rfl) rfl ?_)
                    refine RV.op (OV.call [] Try.func14 B14 N14 rfl rfl (fun w h => (mod_fn _ (2) (by omega) (by omega)).fn w) (fun _ hb => hb.elim) gno rfl (fun v L' hp => ?_))
                    obtain ⟨rfl, rfl⟩ := hp
                    simp only [List.append_nil]
                    have h7 := modM_lt (l.getD j (intK .i64).d) (n := 2) (by omega)
                    (first | refine RV.op (OV.step gno (Step.sub rfl rfl (wI64 (by omega) (by omega))) rfl ?_) | refine RV.op (OV.step gno (Step.sub rfl rfl rfl) rfl ?_))
                    refine RV.op (OV.step gno (Step.move rfl) rfl ?_)
                    refine RV.op (OV.step gno (Step.quo rfl rfl (by omega) (rfl)) rfl ?_)
                    refine RV.op (OV.step gno (Step.move rfl) rfl ?_)
                    refine RV.op (OV.step gno (Step.lenSl Try.underlying22 rfl) rfl ?_)
                    (first | refine RV.op (OV.step gno (Step.add rfl rfl (wI64 (by omega) (by omega))) rfl ?_) | refine RV.op (OV.step gno (Step.add rfl rfl rfl) rfl ?_))
                    refine RV.op (OV.call [] Try.func14 B14 N14 rfl rfl (fun w h => (mod_fn _ (T.length + 1) (by omega) (by omega)).fn w) (fun _ hb => hb.elim) gno rfl (fun v L' hp => ?_))
                    obtain ⟨rfl, rfl⟩ := hp
                    simp only [List.append_nil]
                    refine RV.op (OV.step gno (Step.assign rfl) rfl ?_)
                    refine RV.op (OV.step gno (Step.assign rfl) rfl ?_)
                    refine RV.nil ?_
                    refine KV.then_n ?_
                    refine KV.env [(2, _), (11, _), (16, _), (18, _), (20, _), (24, _), (25, _), (26, _), (27, _)] ⟨rfl, rfl, rfl, rfl, rfl, rfl, rfl, rfl, rfl, trivial⟩ ?_
                    -- region 22 law.go:147
                    refine CV.region ?_
                    refine RV.op (OV.step gno (Step.move rfl) rfl ?_)
                    refine RV.op (OV.step gno (Step.move rfl) rfl ?_)
                    refine RV.op (OV.step gno (Step.move rfl) rfl ?_)
                    refine RV.op (OV.call [1, 1] (F := [_, _, _]) Try.func29 B29 N29 rfl rfl (fun w h => limit_fn b Ag cg g _ _) (fun _ hb => hb.elim) gno rfl (fun v L' hp => ?_))
                    obtain ⟨rfl, rfl⟩ := hp
                    refine RV.op (OV.step gno (Step.move rfl) rfl ?_)
                    refine RV.op (OV.step gno (Step.move rfl) rfl ?_)
                    refine RV.op (OV.step gno (Step.move rfl) rfl ?_)
                    refine RV.op (OV.call [1, 1] (F := [_, _, _]) Try.func30 B30 N30 rfl rfl (fun w h => limitR_fn b2 Ar cr g _ _) (fun _ hb => hb.elim) gno rfl (fun v L' hp => ?_))
                    obtain ⟨rfl, rfl⟩ := hp
                    refine RV.op (OV.step gno (Step.assign rfl) rfl ?_)
                    refine RV.op (OV.step gno (Step.assign rfl) rfl ?_)
                    refine RV.nil ?_
                    refine KV.block_n ?_
                    refine KV.then_n ?_
                    refine KV.env [(2, _), (11, _), (16, _), (18, _), (20, _), (22, _), (23, _), (24, _), (25, _)] ⟨rfl, rfl, rfl, rfl, rfl, rfl, rfl, rfl, rfl, trivial⟩ ?_
                    refine CV.seq ?_
                    -- region 26 law.go:155
                    refine CV.region ?_
                    refine RV.op (OV.step gno (Step.move rfl) rfl ?_)
                    refine RV.op (OV.step gno (Step.move rfl) rfl ?_)
                    refine RV.op (OV.split gno (Step.neq rfl rfl) rfl (fun e8 => ?_) (fun e8 => ?_))
                    · -- True
                      exact absurd rfl e8
                    · -- False
                      refine RV.op (OV.step gno (Step.move rfl) rfl ?_)
                      refine RV.op (OV.step (gyes rfl) (Step.move rfl) rfl ?_)
                      refine RV.op (OV.step (gyes rfl) (Step.move rfl) rfl ?_)
                      refine RV.op (OV.split (gyes rfl) (Step.neq rfl rfl) rfl (fun e8 => ?_) (fun e8 => ?_))
                      · -- True
                        exact absurd rfl e8
                      · -- False
                        refine RV.op (OV.step gno (Step.pick_f rfl rfl) rfl ?_)
                        refine RV.op (OV.step gno (Step.move rfl) rfl ?_)
                        refine RV.op (OV.step (gyes rfl) (Step.move rfl) rfl ?_)
                        refine RV.op (OV.call [1, 1] (F := [_, _, _]) Try.func27 B27 N27 rfl rfl (fun w h => current_fn b Ag cg _) (fun _ hb => hb.elim) (gyes rfl) rfl (fun v L' hp => ?_))
                        obtain ⟨rfl, rfl⟩ := hp
                        refine RV.op (OV.step (gyes rfl) (Step.move rfl) rfl ?_)
                        refine RV.op (OV.call [1, 1] (F := [_, _, _]) Try.func32 B32 N32 rfl rfl (fun w h => currentR_fn b2 Ar cr _) (fun _ hb => hb.elim) (gyes rfl) rfl (fun v L' hp => ?_))
                        obtain ⟨rfl, rfl⟩ := hp
                        refine RV.op (OV.split (gyes rfl) (Step.neq rfl rfl) rfl (fun e8 => ?_) (fun e8 => ?_))
                        · -- True
                          exact absurd rfl e8
                        · -- False
                          refine RV.op (OV.step gno (Step.pick_f rfl rfl) rfl ?_)
                          refine RV.nil ?_
                          refine KV.then_n ?_
                          refine KV.env [(2, _), (11, _), (16, _), (18, _), (20, _), (178, _)] ⟨rfl, rfl, rfl, rfl, rfl, rfl, trivial⟩ ?_
                          refine CV.cond_f rfl ?_
                          refine CV.skip ?_
                          refine KV.block_n ?_
                          refine KV.then_n ?_
                          refine KV.env [(2, _), (11, _), (16, _), (18, _), (20, _)] ⟨rfl, rfl, rfl, rfl, rfl, trivial⟩ ?_
                          -- region 14 law.go:140
                          refine CV.region ?_
                          refine RV.op (OV.step gno (Step.move rfl) rfl ?_)
                          (first | refine RV.op (OV.step gno (Step.add rfl rfl (wI64 (by omega) (by omega))) rfl ?_) | refine RV.op (OV.step gno (Step.add rfl rfl rfl) rfl ?_))
                          refine RV.op (OV.step gno (Step.assign rfl) rfl ?_)
                          refine RV.nil ?_
                          refine KV.then_n ?_
                          refine KV.env [(2, _), (11, _), (16, _), (18, _), (20, _)] ⟨rfl, rfl, rfl, rfl, rfl, trivial⟩ ?_
                          refine KV.sel [0, 0, 0, 0, 0] [_, _, _, _, _] rfl ?_
                          (first | exact KV.loop2 (x := j) (y := g) (j + 1) (sampG g (l.getD j (intK .i64).d)) ⟨by omega, samp_ok hinv.2 _⟩ (by omega) ⟨rfl, rfl, rfl, rfl, rfl, trivial⟩ (fun _ h => h) | exact KV.loop2 (x := j) (y := g) (j + 1) (sampG g (modM (l.getD j (intK .i64).d) 101)) ⟨by omega, samp_ok hinv.2 _⟩ (by omega) ⟨rfl, rfl, rfl, rfl, rfl, trivial⟩ (fun _ h => h) | exact KV.loop2 (x := j) (y := g) (j + 1) (limG g _ _) ⟨by omega, limG_ok hinv.2 _ _⟩ (by omega) ⟨rfl, rfl, rfl, rfl, rfl, trivial⟩ (fun _ h => h))
                  · -- False
                    refine RV.op (OV.step gno (Step.assign rfl) rfl ?_)
                    refine RV.nil ?_
                    refine KV.then_n ?_
                    refine KV.env [(2, _), (11, _), (16, _), (18, _), (20, _), (21, _), (24, _), (25, _), (121, _)] ⟨rfl, rfl, rfl, rfl, rfl, rfl, rfl, rfl, rfl, trivial⟩ ?_
                    refine CV.cond_f rfl ?_
                    refine CV.seq ?_
                    -- region 23 law.go:148
                    refine CV.region ?_
                    refine RV.op (OV.step gno (Step.move rfl) rfl ?_)
                    refine RV.op (OV.call [] Try.func14 B14 N14 rfl rfl (fun w h => (mod_fn _ (13) (by omega) (by omega)).fn w) (fun _ hb => hb.elim) gno rfl (fun v L' hp => ?_))
                    obtain ⟨rfl, rfl⟩ := hp
                    simp only [List.append_nil]
                    refine RV.op (OV.split gno (Step.eql rfl rfl) rfl (fun cc2 => ?_) (fun cc2 => ?_))
                    · -- True
                      refine RV.op (OV.step gno (Step.assign rfl) rfl ?_)
                      refine RV.nil ?_
                      refine KV.then_n ?_
                      refine KV.env [(2, _), (11, _), (16, _), (18, _), (20, _), (21, _), (148, _)] ⟨rfl, rfl, rfl, rfl, rfl, rfl, rfl, trivial⟩ ?_
                      refine CV.cond_t rfl ?_
                      refine CV.seq ?_
                      -- region 24 law.go:149
                      refine CV.region ?_
                      refine RV.op (OV.step gno (Step.move rfl) rfl ?_)
                      refine RV.op (OV.step gno (Step.move rfl) rfl ?_)
                      refine RV.op (OV.call [1, 1] (F := [_, _, _]) Try.func26 B26 N26 rfl rfl (fun w h => sample_fn b Ag cg g (l.getD j (intK .i64).d) hinv.2) (fun _ hb => hb.elim) gno rfl (fun v L' hp => ?_))
                      obtain ⟨rfl, rfl⟩ := hp
                      refine RV.op (OV.step gno (Step.move rfl) rfl ?_)
                      refine RV.op (OV.step gno (Step.extract0 rfl rfl) rfl ?_)
                      refine RV.op (OV.step gno (Step.extract0 rfl rfl) rfl ?_)
                      refine RV.op (OV.step gno (Step.assign rfl) rfl ?_)
                      refine RV.op (OV.step gno (Step.assign rfl) rfl ?_)
                      refine RV.nil ?_
                      refine KV.then_n ?_
                      refine KV.env [(2, _), (11, _), (16, _), (18, _), (20, _), (21, _), (22, _), (24, _)] ⟨rfl, rfl, rfl, rfl, rfl, rfl, rfl, rfl, trivial⟩ ?_
                      -- region 25 law.go:150
                      refine CV.region ?_
                      refine RV.op (OV.step gno (Step.move rfl) rfl ?_)
                      refine RV.op (OV.step gno (Step.move rfl) rfl ?_)
                      refine RV.op (OV.call [1, 1] (F := [_, _, _]) Try.func31 B31 N31 rfl rfl (fun w h => sampleR_fn b2 Ar cr g (l.getD j (intK .i64).d) hinv.2) (fun _ hb => hb.elim) gno rfl (fun v L' hp => ?_))
                      obtain ⟨rfl, rfl⟩ := hp
                      refine RV.op (OV.step gno (Step.move rfl) rfl ?_)
                      refine RV.op (OV.step gno (Step.extract0 rfl rfl) rfl ?_)
                      refine RV.op (OV.step gno (Step.extract0 rfl rfl) rfl ?_)
                      refine RV.op (OV.step gno (Step.assign rfl) rfl ?_)
                      refine RV.op (OV.step gno (Step.assign rfl) rfl ?_)
                      refine RV.nil ?_
                      refine KV.block_n ?_
                      refine KV.then_n ?_
                      refine KV.env [(2, _), (11, _), (16, _), (18, _), (20, _), (22, _), (23, _), (24, _), (25, _)] ⟨rfl, rfl, rfl, rfl, rfl, rfl, rfl, rfl, rfl, trivial⟩ ?_
                      refine CV.seq ?_
                      -- region 26 law.go:155
                      refine CV.region ?_
                      refine RV.op (OV.step gno (Step.move rfl) rfl ?_)
                      refine RV.op (OV.step gno (Step.move rfl) rfl ?_)
                      refine RV.op (OV.split gno (Step.neq rfl rfl) rfl (fun e8 => ?_) (fun e8 => ?_))
                      · -- True
                        exact absurd rfl e8
                      · -- False
                        refine RV.op (OV.step gno (Step.move rfl) rfl ?_)
                        refine RV.op (OV.step (gyes rfl) (Step.move rfl) rfl ?_)
                        refine RV.op (OV.step (gyes rfl) (Step.move rfl) rfl ?_)
                        refine RV.op (OV.split (gyes rfl) (Step.neq rfl rfl) rfl (fun e8 => ?_) (fun e8 => ?_))
                        · -- True
                          exact absurd rfl e8
                        · -- False
                          refine RV.op (OV.step gno (Step.pick_f rfl rfl) rfl ?_)
                          refine RV.op (OV.step gno (Step.move rfl) rfl ?_)
                          refine RV.op (OV.step (gyes rfl) (Step.move rfl) rfl ?_)
                          refine RV.op (OV.call [1, 1] (F := [_, _, _]) Try.func27 B27 N27 rfl rfl (fun w h => current_fn b Ag cg _) (fun _ hb => hb.elim) (gyes rfl) rfl (fun v L' hp => ?_))
                          obtain ⟨rfl, rfl⟩ := hp
                          refine RV.op (OV.step (gyes rfl) (Step.move rfl) rfl ?_)
                          refine RV.op (OV.call [1, 1] (F := [_, _, _]) Try.func32 B32 N32 rfl rfl (fun w h => currentR_fn b2 Ar cr _) (fun _ hb => hb.elim) (gyes rfl) rfl (fun v L' hp => ?_))
                          obtain ⟨rfl, rfl⟩ := hp
                          refine RV.op (OV.split (gyes rfl) (Step.neq rfl rfl) rfl (fun e8 => ?_) (fun e8 => ?_))
                          · -- True
                            exact absurd rfl e8
                          · -- False
                            refine RV.op (OV.step gno (Step.pick_f rfl rfl) rfl ?_)
                            refine RV.nil ?_
                            refine KV.then_n ?_
                            refine KV.env [(2, _), (11, _), (16, _), (18, _), (20, _), (178, _)] ⟨rfl, rfl, rfl, rfl, rfl, rfl, trivial⟩ ?_
                            refine CV.cond_f rfl ?_
                            refine CV.skip ?_
                            refine KV.block_n ?_
                            refine KV.then_n ?_
                            refine KV.env [(2, _), (11, _), (16, _), (18, _), (20, _)] ⟨rfl, rfl, rfl, rfl, rfl, trivial⟩ ?_
                            -- region 14 law.go:140
                            refine CV.region ?_
                            refine RV.op (OV.step gno (Step.move rfl) rfl ?_)
                            (first | refine RV.op (OV.step gno (Step.add rfl rfl (wI64 (by omega) (by omega))) rfl ?_) | refine RV.op (OV.step gno (Step.add rfl rfl rfl) rfl ?_))
                            refine RV.op (OV.step gno (Step.assign rfl) rfl ?_)
                            refine RV.nil ?_
                            refine KV.then_n ?_
                            refine KV.env [(2, _), (11, _), (16, _), (18, _), (20, _)] ⟨rfl, rfl, rfl, rfl, rfl, trivial⟩ ?_
                            refine KV.sel [0, 0, 0, 0, 0] [_, _, _, _, _] rfl ?_
                            (first | exact KV.loop2 (x := j) (y := g) (j + 1) (sampG g (l.getD j (intK .i64).d)) ⟨by omega, samp_ok hinv.2 _⟩ (by omega) ⟨rfl, rfl, rfl, rfl, rfl, trivial⟩ (fun _ h => h) | exact KV.loop2 (x := j) (y := g) (j + 1) (sampG g (modM (l.getD j (intK .i64).d) 101)) ⟨by omega, samp_ok hinv.2 _⟩ (by omega) ⟨rfl, rfl, rfl, rfl, rfl, trivial⟩ (fun _ h => h) | exact KV.loop2 (x := j) (y := g) (j + 1) (limG g _ _) ⟨by omega, limG_ok hinv.2 _ _⟩ (by omega) ⟨rfl, rfl, rfl, rfl, rfl, trivial⟩ (fun _ h => h))
                    · -- False
                      refine RV.op (OV.step gno (Step.assign rfl) rfl ?_)
                      refine RV.nil ?_
                      refine KV.then_n ?_
                      refine KV.env [(2, _), (11, _), (16, _), (18, _), (20, _), (21, _), (148, _)] ⟨rfl, rfl, rfl, rfl, rfl, rfl, rfl, trivial⟩ ?_
                      refine CV.cond_f rfl ?_
                      refine CV.seq ?_
                      -- region 18 law.go:152
                      refine CV.region ?_
                      refine RV.op (OV.step gno (Step.move rfl) rfl ?_)
                      refine RV.op (OV.step gno (Step.move rfl) rfl ?_)
                      refine RV.op (OV.call [] Try.func14 B14 N14 rfl rfl (fun w h => (mod_fn _ (101) (by omega) (by omega)).fn w) (fun _ hb => hb.elim) gno rfl (fun v L' hp => ?_))
                      obtain ⟨rfl, rfl⟩ := hp
                      simp only [List.append_nil]
                      refine RV.op (OV.call [1, 1] (F := [_, _, _]) Try.func26 B26 N26 rfl rfl (fun w h => sample_fn b Ag cg g (modM (l.getD j (intK .i64).d) 101) hinv.2) (fun _ hb => hb.elim) gno rfl (fun v L' hp => ?_))
                      obtain ⟨rfl, rfl⟩ := hp
                      refine RV.op (OV.step gno (Step.move rfl) rfl ?_)
                      refine RV.op (OV.step gno (Step.extract0 rfl rfl) rfl ?_)
                      refine RV.op (OV.step gno (Step.extract0 rfl rfl) rfl ?_)
                      refine RV.op (OV.step gno (Step.assign rfl) rfl ?_)
                      refine RV.op (OV.step gno (Step.assign rfl) rfl ?_)
                      refine RV.nil ?_
                      refine KV.then_n ?_
                      refine KV.env [(2, _), (11, _), (16, _), (18, _), (20, _), (21, _), (22, _), (24, _)] ⟨rfl, rfl, rfl, rfl, rfl, rfl, rfl, rfl, trivial⟩ ?_
                      -- region 19 law.go:153
                      refine CV.region ?_
                      refine RV.op (OV.step gno (Step.move rfl) rfl ?_)
                      refine RV.op (OV.step gno (Step.move rfl) rfl ?_)
                      refine RV.op (OV.call [] Try.func14 B14 N14 rfl rfl (fun w h => (mod_fn _ (101) (by omega) (by omega)).fn w) (fun _ hb => hb.elim) gno rfl (fun v L' hp => ?_))
                      obtain ⟨rfl, rfl⟩ := hp
                      simp only [List.append_nil]
                      refine RV.op (OV.call [1, 1] (F := [_, _, _]) Try.func31 B31 N31 rfl rfl (fun w h => sampleR_fn b2 Ar cr g (modM (l.getD j (intK .i64).d) 101) hinv.2) (fun _ hb => hb.elim) gno rfl (fun v L' hp => ?_))
                      obtain ⟨rfl, rfl⟩ := hp
                      refine RV.op (OV.step gno (Step.move rfl) rfl ?_)
                      refine RV.op (OV.step gno (Step.extract0 rfl rfl) rfl ?_)
                      refine RV.op (OV.step gno (Step.extract0 rfl rfl) rfl ?_)
                      refine RV.op (OV.step gno (Step.assign rfl) rfl ?_)
                      refine RV.op (OV.step gno (Step.assign rfl) rfl ?_)
                      refine RV.nil ?_
                      refine KV.block_n ?_
                      refine KV.then_n ?_
                      refine KV.env [(2, _), (11, _), (16, _), (18, _), (20, _), (22, _), (23, _), (24, _), (25, _)] ⟨rfl, rfl, rfl, rfl, rfl, rfl, rfl, rfl, rfl, trivial⟩ ?_
                      refine CV.seq ?_
                      -- region 26 law.go:155
                      refine CV.region ?_
                      refine RV.op (OV.step gno (Step.move rfl) rfl ?_)
                      refine RV.op (OV.step gno (Step.move rfl) rfl ?_)
                      refine RV.op (OV.split gno (Step.neq rfl rfl) rfl (fun e8 => ?_) (fun e8 => ?_))
                      · -- True
                        exact absurd rfl e8
                      · -- False
                        refine RV.op (OV.step gno (Step.move rfl) rfl ?_)
                        refine RV.op (OV.step (gyes rfl) (Step.move rfl) rfl ?_)
                        refine RV.op (OV.step (gyes rfl) (Step.move rfl) rfl ?_)
                        refine RV.op (OV.split (gyes rfl) (Step.neq rfl rfl) rfl (fun e8 => ?_) (fun e8 => ?_))
                        · -- True
                          exact absurd rfl e8
                        · -- False
                          refine RV.op (OV.step gno (Step.pick_f rfl rfl) rfl ?_)
                          refine RV.op (OV.step gno (Step.move rfl) rfl ?_)
                          refine RV.op (OV.step (gyes rfl) (Step.move rfl) rfl ?_)
                          refine RV.op (OV.call [1, 1] (F := [_, _, _]) Try.func27 B27 N27 rfl rfl (fun w h => current_fn b Ag cg _) (fun _ hb => hb.elim) (gyes rfl) rfl (fun v L' hp => ?_))
                          obtain ⟨rfl, rfl⟩ := hp
                          refine RV.op (OV.step (gyes rfl) (Step.move rfl) rfl ?_)
                          refine RV.op (OV.call [1, 1] (F := [_, _, _]) Try.func32 B32 N32 rfl rfl (fun w h => currentR_fn b2 Ar cr _) (fun _ hb => hb.elim) (gyes rfl) rfl (fun v L' hp => ?_))
                          obtain ⟨rfl, rfl⟩ := hp
                          refine RV.op (OV.split (gyes rfl) (Step.neq rfl rfl) rfl (fun e8 => ?_) (fun e8 => ?_))
                          · -- True
                            exact absurd rfl e8
                          · -- False
                            refine RV.op (OV.step gno (Step.pick_f rfl rfl) rfl ?_)
                            refine RV.nil ?_
                            refine KV.then_n ?_
                            refine KV.env [(2, _), (11, _), (16, _), (18, _), (20, _), (178, _)] ⟨rfl, rfl, rfl, rfl, rfl, rfl, trivial⟩ ?_
                            refine CV.cond_f rfl ?_
                            refine CV.skip ?_
                            refine KV.block_n ?_
                            refine KV.then_n ?_
                            refine KV.env [(2, _), (11, _), (16, _), (18, _), (20, _)] ⟨rfl, rfl, rfl, rfl, rfl, trivial⟩ ?_
                            -- region 14 law.go:140
                            refine CV.region ?_
                            refine RV.op (OV.step gno (Step.move rfl) rfl ?_)
                            (first | refine RV.op (OV.step gno (Step.add rfl rfl (wI64 (by omega) (by omega))) rfl ?_) | refine RV.op (OV.step gno (Step.add rfl rfl rfl) rfl ?_))
                            refine RV.op (OV.step gno (Step.assign rfl) rfl ?_)
                            refine RV.nil ?_
                            refine KV.then_n ?_
                            refine KV.env [(2, _), (11, _), (16, _), (18, _), (20, _)] ⟨rfl, rfl, rfl, rfl, rfl, trivial⟩ ?_
                            refine KV.sel [0, 0, 0, 0, 0] [_, _, _, _, _] rfl ?_
                            (first | exact KV.loop2 (x := j) (y := g) (j + 1) (sampG g (l.getD j (intK .i64).d)) ⟨by omega, samp_ok hinv.2 _⟩ (by omega) ⟨rfl, rfl, rfl, rfl, rfl, trivial⟩ (fun _ h => h) | exact KV.loop2 (x := j) (y := g) (j + 1) (sampG g (modM (l.getD j (intK .i64).d) 101)) ⟨by omega, samp_ok hinv.2 _⟩ (by omega) ⟨rfl, rfl, rfl, rfl, rfl, trivial⟩ (fun _ h => h) | exact KV.loop2 (x := j) (y := g) (j + 1) (limG g _ _) ⟨by omega, limG_ok hinv.2 _ _⟩ (by omega) ⟨rfl, rfl, rfl, rfl, rfl, trivial⟩ (fun _ h => h))
                · -- False
                  refine RV.nil ?_
                  refine KV.then_n ?_
                  refine KV.env [(2, _), (11, _), (16, _), (18, _), (20, _), (100, _)] ⟨rfl, rfl, rfl, rfl, rfl, rfl, trivial⟩ ?_
                  refine CV.cond_f rfl ?_
                  refine CV.exit ?_
                  refine KV.then_exit ?_
                  refine KV.then_exit ?_
                  refine KV.block_hit ?_
                  refine KV.then_n ?_
                  refine KV.env [] trivial ?_
                  refine CV.seq ?_
                  -- region 28 law.go:159
                  refine CV.region ?_
                  refine RV.op (OV.call [] (F := [_, _, _, _, _]) Try.func12 B12 N12 rfl rfl (fun w h => awake_fn) (fun _ hb => hb.elim) gno rfl (fun v L' hp => ?_))
                  obtain ⟨rfl, rfl⟩ := hp
                  simp only [List.append_nil]
                  refine RV.op (OV.step gno (Step.assign rfl) rfl ?_)
                  refine RV.nil ?_
                  refine KV.then_n ?_
                  refine KV.env [(6, _)] ⟨rfl, trivial⟩ ?_
                  refine CV.ret ?_
                  -- return at r28
                  refine KV.sel [] [] rfl ?_
                  exact KV.ret1 rfl rfl _ (fun _ h => h) ⟨rfl, rfl⟩
end Go.Proofs.Ytaafpnoffdcbnaa
