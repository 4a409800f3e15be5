/-
  Walks, part 11.
-/
import Derived.Test.YtaafpnoffdcbnaaTab11
import Derived.Test.YtaafpnoffdcbnaaW5
import Derived.Test.YtaafpnoffdcbnaaPl2
import Derived.Test.YtaafpnoffdcbnaaSv12
set_option linter.unusedSimpArgs false
set_option linter.unusedVariables false
namespace Go.Proofs.Ytaafpnoffdcbnaa
open Go.Sv Go.Perf
theorem params2_fn {u d s U : Int} {D S : Nat} (hP : prmM u d s = ⟨U, D, S⟩) {w : World} : Fx Try.prog 24 [.agg #[.int .i64 u, .int .i64 d, .int .i64 s]] w [] no (fun v L => v = .agg #[.int .i64 U, .int .i64 D, .int .i64 S] ∧ L = []) :=
  (params_fn u d s).mono fun v L hp => by rw [hP] at hp; exact hp
theorem newG_fn {A : Option Addr} {n c : Nat} {ys : List Pt} {w : World} (hr : RS w ptK A ys) (hn : n = ys.length) (hl : ys.length ≤ 1000000) (u d s : Int) (hE : newE ys u d s = 0) : Fx Try.prog 25 [.slice A n c, .agg #[.int .i64 u, .int .i64 d, .int .i64 s]] w [] no (fun v L => ∃ b A2 c2, v = .tuple #[.pointer (some ⟨b, 0, none⟩), .int .i64 0] ∧ L = gobj 66 b A2 c2 (gov0 ys u d s)) :=
  (new_fn hr hn hl u d s).mono fun v L hp => hp.1 hE

set_option maxRecDepth 100000 in
set_option maxHeartbeats 1000000 in
theorem waits_fn {A : Option Addr} {n c : Nat} {raw : List Pt} {w : World} (hr : RS w ptK A raw) (hn : n = raw.length) (hf : fitT raw) (u d s : Int) (a : Int) : Fx Try.prog 8 [.slice A n c, .agg #[.int .i64 u, .int .i64 d, .int .i64 s], .int .i64 a] w [] no (fun v L => v = .bool true ∧ L = []) := by
  subst hn
  refine Sv.Fx.body Try.func8 rfl T8 rfl ?_
  intro I hro hI
  refine KV.env [(0, _), (1, _), (2, _)] ⟨rfl, rfl, rfl, trivial⟩ ?_
  obtain ⟨U, D, S, hP, hU1, hU2, hD, hS1, hS2⟩ := prmN u d s
  refine CV.seq ?_
  -- region 0 law.go:202
  refine CV.region ?_
  refine RV.op (OV.box (t := 45) #[_, _, _] rfl rfl gno rfl (fun b0_0 => ?_))
  refine RV.op (OV.step gno (Step.assign rfl) rfl ?_)
  refine RV.nil ?_
  refine KV.then_n ?_
  refine KV.env [(0, _), (2, _), (4, _)] ⟨rfl, rfl, rfl, trivial⟩ ?_
  refine CV.seq ?_
  refine CV.seq ?_
  -- region 1 law.go:203
  refine CV.region ?_
  refine RV.op (OV.step gno (Step.move rfl) rfl ?_)
  refine RV.op (OV.step gno (Step.lenSl Try.underlying22 rfl) rfl ?_)
  refine RV.op (OV.split gno (Step.gtr rfl rfl) rfl (fun hlong => ?_) (fun hlong => ?_))
  · -- True
    refine RV.nil ?_
    refine KV.then_n ?_
    refine KV.env [(0, _), (2, _), (4, _), (21, _)] ⟨rfl, rfl, rfl, rfl, trivial⟩ ?_
    refine CV.cond_t rfl ?_
    refine CV.seq ?_
    -- region 2 law.go:204
    refine CV.region ?_
    refine RV.op (OV.call [] (F := [_]) Try.func12 B12 N12 rfl rfl (fun w h => awake_fn) (fun _ hb => hb.elim) gno rfl (fun v L' hp => ?_))
    obtain ⟨rfl, rfl⟩ := hp
    simp only [List.append_nil]
    refine RV.op (OV.step gno (Step.assign rfl) rfl ?_)
    refine RV.nil ?_
    refine KV.then_n ?_
    refine KV.env [(6, _)] ⟨rfl, trivial⟩ ?_
    refine CV.ret ?_
    refine KV.then_ret ?_
    -- return at r2
    refine KV.sel [] [] rfl ?_
    exact KV.ret1 rfl rfl _ (fun _ h => h) ⟨rfl, rfl⟩
  · -- False
    have hl : raw.length ≤ 1000000 := by omega
    refine RV.nil ?_
    refine KV.then_n ?_
    refine KV.env [(0, _), (2, _), (4, _), (21, _)] ⟨rfl, rfl, rfl, rfl, trivial⟩ ?_
    refine CV.cond_f rfl ?_
    refine CV.skip ?_
    refine KV.then_n ?_
    refine KV.env [(0, _), (2, _), (4, _)] ⟨rfl, rfl, rfl, trivial⟩ ?_
    -- join; live [2, 7, 8]
    refine CV.join3 (fun (At : Option Addr) (ct : Nat) (bq : Nat) => [(2, .int .i64 a), (7, .slice At (tableM raw).length ct), (8, .pointer (some ⟨bq, 0, none⟩))]) (fun (At : Option Addr) (ct : Nat) (bq : Nat) => Hp I w [OS 25 ptK At ct (tableM raw), Blk bq (.cells #[.int .i64 U, .int .i64 (D : Int), .int .i64 (S : Int)] 45 (0, 0))]) ?_ ?_
    · skip
      -- region 3 law.go:206
      refine CV.any (Hp I w [Blk b0_0 (.cells #[.int .i64 u, .int .i64 d, .int .i64 s] 45 (0, 0))]) (by kernel_rfl) (fun _ h => h.drew) 7 rfl ?_
      refine AV.take 0 #[true, false, false, false, false, false, false] rfl (by kernel_rfl) (by kernel_rfl) (by kernel_rfl) (fun _ _ _ h => h) gno (Step.move rfl) rfl (fun _ h => h.sel [0] rfl) (by kernel_rfl) ?_
      refine AV.take 2 #[true, false, true, false, false, false, false] rfl (by kernel_rfl) (by kernel_rfl) (by kernel_rfl) (fun _ _ _ h => h) gno (Step.loadN _ Try.underlying45 rfl I45 rfl rfl (fun w h => h.cells 0 rfl)) rfl (fun _ h => h.sel [0] rfl) (by kernel_rfl) ?_
      refine AV.all [1, 4] (by kernel_rfl) (by decide) ?_
      refine ⟨⟨_, rfl, ?_⟩, ⟨⟨_, rfl, ?_⟩, trivial⟩⟩
      · -- 1 comes up
        refine OV.call [] (F := [_]) Try.func13 B13 N13 rfl rfl (fun w h => table_fn (h.rs hr (fun _ => hI _)) rfl hl hf) (fun _ hb => hb.elim) gno rfl (fun v L' hp => ?_)
        obtain ⟨At, ct, rfl, rfl⟩ := hp
        refine AV.next #[true, true, true, false, false, false, false] (by kernel_rfl) (fun _ h => h.sel [0] rfl) ?_
        refine AV.all [3, 4] (by kernel_rfl) (by decide) ?_
        refine ⟨⟨_, rfl, ?_⟩, ⟨⟨_, rfl, ?_⟩, trivial⟩⟩
        · -- 3 comes up
          refine OV.call [] (F := [_, _]) Try.func24 B24 N24 rfl rfl (fun w h => params2_fn hP) (fun _ hb => hb.elim) gno rfl (fun v L' hp => ?_)
          obtain ⟨rfl, rfl⟩ := hp
          simp only [List.append_nil]
          refine AV.next #[true, true, true, true, false, false, false] (by kernel_rfl) (fun _ h => h.sel [0] rfl) ?_
          refine AV.all [4] (by kernel_rfl) (by decide) ?_
          refine ⟨⟨_, rfl, ?_⟩, trivial⟩
          · -- 4 comes up
            refine OV.alloc #[.int .i64 0, .int .i64 0, .int .i64 0] I45 rfl gno rfl (fun bq => ?_)
            refine AV.next #[true, true, true, true, true, false, false] (by kernel_rfl) (fun _ h => h.sel [0] rfl) ?_
            refine AV.take 5 #[true, true, true, true, true, true, false] rfl (by kernel_rfl) (by kernel_rfl) (by kernel_rfl) (fun _ _ _ h => h) gno (Step.assign rfl) rfl (fun _ h => h.sel [0] rfl) (by kernel_rfl) ?_
            refine AV.all [6] (by kernel_rfl) (by decide) ?_
            refine ⟨⟨_, rfl, ?_⟩, trivial⟩
            · -- 6 comes up
              refine OV.store 2 [_, _, _] #[_, _, _] I45 rfl rfl rfl rfl rfl (Nat.le_of_ble_eq_true rfl) (by simp [Value.oneCell']) rfl gno ?_
              refine AV.next #[true, true, true, true, true, true, true] (by kernel_rfl) (fun _ h => h.sel [0] rfl) ?_
              refine AV.done (by kernel_rfl) ?_
              refine KV.then_n ?_
              refine KV.env [(2, _), (7, _), (8, _)] ⟨rfl, rfl, rfl, trivial⟩ ?_
              refine KV.sel [1, 1] [_, _] rfl ?_
              exact KV.join3 (At) (ct) (bq) ⟨rfl, rfl, rfl, trivial⟩ (fun _ h => h)
        · -- 4 comes up
          refine OV.alloc #[.int .i64 0, .int .i64 0, .int .i64 0] I45 rfl gno rfl (fun bq => ?_)
          refine AV.next #[true, true, true, false, true, false, false] (by kernel_rfl) (fun _ h => h.sel [0] rfl) ?_
          refine AV.all [3] (by kernel_rfl) (by decide) ?_
          refine ⟨⟨_, rfl, ?_⟩, trivial⟩
          · -- 3 comes up
            refine OV.call [] (F := [_, _, _]) Try.func24 B24 N24 rfl rfl (fun w h => params2_fn hP) (fun _ hb => hb.elim) gno rfl (fun v L' hp => ?_)
            obtain ⟨rfl, rfl⟩ := hp
            simp only [List.append_nil]
            refine AV.next #[true, true, true, true, true, false, false] (by kernel_rfl) (fun _ h => h.sel [0] rfl) ?_
            refine AV.take 5 #[true, true, true, true, true, true, false] rfl (by kernel_rfl) (by kernel_rfl) (by kernel_rfl) (fun _ _ _ h => h) gno (Step.assign rfl) rfl (fun _ h => h.sel [0] rfl) (by kernel_rfl) ?_
            refine AV.all [6] (by kernel_rfl) (by decide) ?_
            refine ⟨⟨_, rfl, ?_⟩, trivial⟩
            · -- 6 comes up
              refine OV.store 2 [_, _, _] #[_, _, _] I45 rfl rfl rfl rfl rfl (Nat.le_of_ble_eq_true rfl) (by simp [Value.oneCell']) rfl gno ?_
              refine AV.next #[true, true, true, true, true, true, true] (by kernel_rfl) (fun _ h => h.sel [0] rfl) ?_
              refine AV.done (by kernel_rfl) ?_
              refine KV.then_n ?_
              refine KV.env [(2, _), (7, _), (8, _)] ⟨rfl, rfl, rfl, trivial⟩ ?_
              refine KV.sel [1, 1] [_, _] rfl ?_
              exact KV.join3 (At) (ct) (bq) ⟨rfl, rfl, rfl, trivial⟩ (fun _ h => h)
      · -- 4 comes up
        refine OV.alloc #[.int .i64 0, .int .i64 0, .int .i64 0] I45 rfl gno rfl (fun bq => ?_)
        refine AV.next #[true, false, true, false, true, false, false] (by kernel_rfl) (fun _ h => h.sel [0] rfl) ?_
        refine AV.all [1] (by kernel_rfl) (by decide) ?_
        refine ⟨⟨_, rfl, ?_⟩, trivial⟩
        · -- 1 comes up
          refine OV.call [] (F := [_, _]) Try.func13 B13 N13 rfl rfl (fun w h => table_fn (h.rs hr (fun _ => hI _)) rfl hl hf) (fun _ hb => hb.elim) gno rfl (fun v L' hp => ?_)
          obtain ⟨At, ct, rfl, rfl⟩ := hp
          refine AV.next #[true, true, true, false, true, false, false] (by kernel_rfl) (fun _ h => h.sel [0] rfl) ?_
          refine AV.all [3] (by kernel_rfl) (by decide) ?_
          refine ⟨⟨_, rfl, ?_⟩, trivial⟩
          · -- 3 comes up
            refine OV.call [] (F := [_, _, _]) Try.func24 B24 N24 rfl rfl (fun w h => params2_fn hP) (fun _ hb => hb.elim) gno rfl (fun v L' hp => ?_)
            obtain ⟨rfl, rfl⟩ := hp
            simp only [List.append_nil]
            refine AV.next #[true, true, true, true, true, false, false] (by kernel_rfl) (fun _ h => h.sel [0] rfl) ?_
            refine AV.take 5 #[true, true, true, true, true, true, false] rfl (by kernel_rfl) (by kernel_rfl) (by kernel_rfl) (fun _ _ _ h => h) gno (Step.assign rfl) rfl (fun _ h => h.sel [0] rfl) (by kernel_rfl) ?_
            refine AV.all [6] (by kernel_rfl) (by decide) ?_
            refine ⟨⟨_, rfl, ?_⟩, trivial⟩
            · -- 6 comes up
              refine OV.store 1 [_, _, _] #[_, _, _] I45 rfl rfl rfl rfl rfl (Nat.le_of_ble_eq_true rfl) (by simp [Value.oneCell']) rfl gno ?_
              refine AV.next #[true, true, true, true, true, true, true] (by kernel_rfl) (fun _ h => h.sel [0] rfl) ?_
              refine AV.done (by kernel_rfl) ?_
              refine KV.then_n ?_
              refine KV.env [(2, _), (7, _), (8, _)] ⟨rfl, rfl, rfl, trivial⟩ ?_
              refine KV.sel [2, 1] [_, _] rfl ?_
              exact KV.join3 (At) (ct) (bq) ⟨rfl, rfl, rfl, trivial⟩ (fun _ h => h)
    · intro At ct bq
      obtain ⟨T, hT⟩ : ∃ T, tableM raw = T := ⟨_, rfl⟩
      rw [hT]
      have hok : okT T := hT ▸ table_ok hf
      have hlT := hok.1
      have hfT : fitT T := hT ▸ fitT_table hf
      have hE := newE_zero hok hU1 hU2 hD hS1 hS2
      have hg0 := gov0_ok hE
      refine CV.seq ?_
      refine CV.seq ?_
      -- region 4 law.go:207
      refine CV.region ?_
      refine RV.op (OV.step gno (Step.fieldAddr rfl (F45_1 _ _)) rfl ?_)
      refine RV.op (OV.step gno (Step.load Try.underlying3 rfl rfl (fun w h => h.cell 1 rfl rfl)) rfl ?_)
      refine RV.op (OV.split gno (Step.eql rfl rfl) rfl (fun cc1 => ?_) (fun cc1 => ?_))
      · -- True
        refine RV.op (OV.step gno (Step.move rfl) rfl ?_)
        refine RV.op (OV.skip rfl rfl ?_)
        refine RV.op (OV.skip rfl rfl ?_)
        refine RV.op (OV.skip rfl rfl ?_)
        refine RV.op (OV.step gno (Step.pick_t rfl rfl) rfl ?_)
        refine RV.nil ?_
        refine KV.then_n ?_
        refine KV.env [(2, _), (7, _), (8, _), (34, _)] ⟨rfl, rfl, rfl, rfl, trivial⟩ ?_
        refine CV.cond_t rfl ?_
        refine CV.seq ?_
        -- region 5 law.go:208
        refine CV.region ?_
        refine RV.op (OV.call [] (F := [_, _]) Try.func12 B12 N12 rfl rfl (fun w h => awake_fn) (fun _ hb => hb.elim) gno rfl (fun v L' hp => ?_))
        obtain ⟨rfl, rfl⟩ := hp
        simp only [List.append_nil]
        refine RV.op (OV.step gno (Step.assign rfl) rfl ?_)
        refine RV.nil ?_
        refine KV.then_n ?_
        refine KV.env [(6, _)] ⟨rfl, trivial⟩ ?_
        refine CV.ret ?_
        refine KV.then_ret ?_
        -- return at r5
        refine KV.sel [] [] rfl ?_
        exact KV.ret1 rfl rfl _ (fun _ h => h) ⟨rfl, rfl⟩
      · -- False
        refine RV.op (OV.step gno (Step.move rfl) rfl ?_)
        refine RV.op (OV.step (gyes rfl) (Step.fieldAddr rfl (F45_0 _ _)) rfl ?_)
        refine RV.op (OV.step (gyes rfl) (Step.load Try.underlying3 rfl rfl (fun w h => h.cell 1 rfl rfl)) rfl ?_)
        refine RV.op (OV.split (gyes rfl) (Step.eql rfl rfl) rfl (fun cc2 => ?_) (fun cc2 => ?_))
        · -- True
          refine RV.op (OV.step gno (Step.pick_f rfl rfl) rfl ?_)
          refine RV.nil ?_
          refine KV.then_n ?_
          refine KV.env [(2, _), (7, _), (8, _), (34, _)] ⟨rfl, rfl, rfl, rfl, trivial⟩ ?_
          refine CV.cond_t rfl ?_
          refine CV.seq ?_
          -- region 5 law.go:208
          refine CV.region ?_
          refine RV.op (OV.call [] (F := [_, _]) Try.func12 B12 N12 rfl rfl (fun w h => awake_fn) (fun _ hb => hb.elim) gno rfl (fun v L' hp => ?_))
          obtain ⟨rfl, rfl⟩ := hp
          simp only [List.append_nil]
          refine RV.op (OV.step gno (Step.assign rfl) rfl ?_)
          refine RV.nil ?_
          refine KV.then_n ?_
          refine KV.env [(6, _)] ⟨rfl, trivial⟩ ?_
          refine CV.ret ?_
          refine KV.then_ret ?_
          -- return at r5
          refine KV.sel [] [] rfl ?_
          exact KV.ret1 rfl rfl _ (fun _ h => h) ⟨rfl, rfl⟩
        · -- False
          refine RV.op (OV.step gno (Step.pick_f rfl rfl) rfl ?_)
          refine RV.nil ?_
          refine KV.then_n ?_
          refine KV.env [(2, _), (7, _), (8, _), (34, _)] ⟨rfl, rfl, rfl, rfl, trivial⟩ ?_
          refine CV.cond_f rfl ?_
          refine CV.skip ?_
          refine KV.then_n ?_
          refine KV.env [(2, _), (7, _), (8, _)] ⟨rfl, rfl, rfl, trivial⟩ ?_
          refine CV.seq ?_
          -- region 6 law.go:210
          refine CV.region ?_
          refine RV.op (OV.step gno (Step.move rfl) rfl ?_)
          refine RV.op (OV.step gno (Step.fieldAddr rfl (F45_1 _ _)) rfl ?_)
          refine RV.op (OV.step gno (Step.load Try.underlying3 rfl rfl (fun w h => h.cell 1 rfl rfl)) rfl ?_)
          refine RV.op (OV.call [] Try.func14 B14 N14 rfl rfl (fun w h => (mod_fn a D (by omega) (by omega)).fn w) (fun _ hb => hb.elim) gno rfl (fun v L' hp => ?_))
          obtain ⟨rfl, rfl⟩ := hp
          simp only [List.append_nil]
          obtain ⟨x, hx, hx2⟩ := modN a (n := D) (by omega)
          rw [hx]
          refine RV.op (OV.step gno (Step.assign rfl) rfl ?_)
          refine RV.nil ?_
          refine KV.then_n ?_
          refine KV.env [(7, _), (8, _), (9, _)] ⟨rfl, rfl, rfl, trivial⟩ ?_
          refine CV.seq ?_
          -- region 7 law.go:211
          refine CV.region ?_
          refine RV.op (OV.step gno (Step.move rfl) rfl ?_)
          refine RV.op (OV.step gno (Step.loadN _ Try.underlying45 rfl I45 rfl rfl (fun w h => h.cells 1 rfl)) rfl ?_)
          refine RV.op (OV.call [] (F := [_, _]) Try.func25 B25 N25 rfl rfl (fun w h => newG_fn (h.os 0 rfl) rfl (by omega) U D S hE) (fun _ hb => hb.elim) gno rfl (fun v L' hp => ?_))
          obtain ⟨b, Ag, cg, rfl, rfl⟩ := hp
          refine RV.op (OV.step gno (Step.move rfl) rfl ?_)
          refine RV.op (OV.step gno (Step.extract0 rfl rfl) rfl ?_)
          refine RV.op (OV.step gno (Step.extract0 rfl rfl) rfl ?_)
          refine RV.op (OV.step gno (Step.assign rfl) rfl ?_)
          refine RV.op (OV.step gno (Step.assign rfl) rfl ?_)
          refine RV.nil ?_
          refine KV.then_n ?_
          refine KV.env [(7, _), (8, _), (9, _), (10, _), (11, _)] ⟨rfl, rfl, rfl, rfl, rfl, trivial⟩ ?_
          refine CV.seq ?_
          refine CV.seq ?_
          -- region 8 law.go:212
          refine CV.region ?_
          refine RV.op (OV.step gno (Step.move rfl) rfl ?_)
          refine RV.op (OV.split gno (Step.neq rfl rfl) rfl (fun e8 => ?_) (fun e8 => ?_))
          · -- True
            exact absurd rfl e8
          · -- False
            refine RV.op (OV.step gno (Step.move rfl) rfl ?_)
            refine RV.op (OV.step (gyes rfl) (Step.move rfl) rfl ?_)
            refine RV.op (OV.split (gyes rfl) (Step.eqlP Try.underlying47 rfl rfl) rfl (fun e8 => ?_) (fun e8 => ?_))
            · -- True
              cases e8
            · -- False
              refine RV.op (OV.step gno (Step.pick_f rfl rfl) rfl ?_)
              refine RV.nil ?_
              refine KV.then_n ?_
              refine KV.env [(7, _), (8, _), (9, _), (10, _), (51, _)] ⟨rfl, rfl, rfl, rfl, rfl, trivial⟩ ?_
              refine CV.cond_f rfl ?_
              refine CV.skip ?_
              refine KV.then_n ?_
              refine KV.env [(7, _), (8, _), (9, _), (10, _)] ⟨rfl, rfl, rfl, rfl, trivial⟩ ?_
              refine CV.seq ?_
              -- region 10 law.go:215
              refine CV.region ?_
              refine RV.op (OV.step gno (Step.move rfl) rfl ?_)
              refine RV.op (OV.call [2, 2] (F := [_, _]) Try.func26 B26 N26 rfl rfl (fun w h => sample_fn b Ag cg (gov0 T U D S) 100 hg0) (fun _ hb => hb.elim) gno rfl (fun v L' hp => ?_))
              obtain ⟨rfl, rfl⟩ := hp
              obtain ⟨e1, e2, e3⟩ := wait0 hok hU1 hU2 hD hS1 hS2 (by omega)
              rw [e1, e2, e3]
              refine RV.op (OV.step gno (Step.move rfl) rfl ?_)
              refine RV.op (OV.step gno (Step.extract0 rfl rfl) rfl ?_)
              refine RV.op (OV.step gno (Step.extract0 rfl rfl) rfl ?_)
              refine RV.op (OV.step gno (Step.assign rfl) rfl ?_)
              refine RV.op (OV.step gno (Step.assign rfl) rfl ?_)
              refine RV.nil ?_
              refine KV.then_n ?_
              refine KV.env [(7, _), (8, _), (9, _), (10, _), (12, _), (13, _)] ⟨rfl, rfl, rfl, rfl, rfl, rfl, trivial⟩ ?_
              refine CV.seq ?_
              refine CV.seq ?_
              -- region 11 law.go:216
              refine CV.region ?_
              refine RV.op (OV.step gno (Step.move rfl) rfl ?_)
              refine RV.op (OV.split gno (Step.neq rfl rfl) rfl (fun e8 => ?_) (fun e8 => ?_))
              · -- True
                exact absurd rfl e8
              · -- False
                refine RV.op (OV.step gno (Step.move rfl) rfl ?_)
                refine RV.op (OV.step (gyes rfl) (Step.move rfl) rfl ?_)
                refine RV.op (OV.step (gyes rfl) (Step.move rfl) rfl ?_)
                refine RV.op (OV.step (gyes rfl) (Step.lenSl Try.underlying22 rfl) rfl ?_)
                (first | refine RV.op (OV.step (gyes rfl) (Step.sub rfl rfl (wI64 (by omega) (by omega))) rfl ?_) | refine RV.op (OV.step (gyes rfl) (Step.sub rfl rfl rfl) rfl ?_))
                refine RV.op (OV.split (gyes rfl) (Step.neq rfl rfl) rfl (fun e8 => ?_) (fun e8 => ?_))
                · -- True
                  exfalso; omega
                · -- False
                  refine RV.op (OV.step gno (Step.pick_f rfl rfl) rfl ?_)
                  refine RV.nil ?_
                  refine KV.then_n ?_
                  refine KV.env [(7, _), (8, _), (9, _), (10, _), (12, _), (65, _)] ⟨rfl, rfl, rfl, rfl, rfl, rfl, trivial⟩ ?_
                  refine CV.cond_f rfl ?_
                  refine CV.skip ?_
                  refine KV.then_n ?_
                  refine KV.env [(7, _), (8, _), (9, _), (10, _), (12, _)] ⟨rfl, rfl, rfl, rfl, rfl, trivial⟩ ?_
                  refine CV.seq ?_
                  refine CV.seq ?_
                  -- region 13 law.go:219
                  refine CV.region ?_
                  refine RV.op (OV.step gno (Step.assign rfl) rfl ?_)
                  refine RV.nil ?_
                  refine KV.then_n ?_
                  refine KV.env [(7, _), (8, _), (9, _), (10, _), (12, _), (14, _)] ⟨rfl, rfl, rfl, rfl, rfl, rfl, trivial⟩ ?_
                  refine CV.block ?_
                  -- loop L14; live [7, 8, 9, 10, 12, 14]
                  refine KV.sel [0, 0, 0, 0] [_, _, _, _] rfl ?_
                  refine CV.loopI (fun (i : Nat) => 1 ≤ i ∧ i ≤ S) (fun (i : Nat) => S - i) (fun (i : Nat) => [(7, .slice At T.length ct), (8, .pointer (some ⟨bq, 0, none⟩)), (9, .int .i64 x), (10, .pointer (some ⟨b, 0, none⟩)), (12, .int .i64 ((T.length - 1 : Nat) : Int)), (14, .int .i64 i)]) (fun (i : Nat) => Hp I w ([OS 25 ptK At ct T, Blk bq (.cells #[.int .i64 U, .int .i64 (D : Int), .int .i64 (S : Int)] 45 (0, 0))] ++ gobj 66 b Ag cg (gW T U D S (i - 1)))) (1) ⟨Nat.le_refl _, hS1⟩ ⟨rfl, rfl, rfl, rfl, rfl, rfl, trivial⟩ (fun _ h => h) ?_
                  intro i hinv
                  refine CV.seq ?_
                  refine CV.seq ?_
                  -- region 14 law.go:219
                  refine CV.region ?_
                  refine RV.op (OV.step gno (Step.move rfl) rfl ?_)
                  refine RV.op (OV.step gno (Step.fieldAddr rfl (F45_2 _ _)) rfl ?_)
                  refine RV.op (OV.step gno (Step.load Try.underlying3 rfl rfl (fun w h => h.cell 1 rfl rfl)) rfl ?_)
                  refine RV.op (OV.split gno (Step.lss rfl rfl) rfl (fun hi => ?_) (fun hi => ?_))
                  · -- True
                    refine RV.nil ?_
                    refine KV.then_n ?_
                    refine KV.env [(7, _), (8, _), (9, _), (10, _), (12, _), (14, _), (69, _)] ⟨rfl, rfl, rfl, rfl, rfl, rfl, rfl, trivial⟩ ?_
                    refine CV.cond_t rfl ?_
                    refine CV.skip ?_
                    refine KV.then_n ?_
                    refine KV.env [(7, _), (8, _), (9, _), (10, _), (12, _), (14, _)] ⟨rfl, rfl, rfl, rfl, rfl, rfl, trivial⟩ ?_
                    refine CV.seq ?_
                    refine CV.block ?_
                    refine CV.seq ?_
                    -- region 16 law.go:220
                    refine CV.region ?_
                    refine RV.op (OV.step gno (Step.move rfl) rfl ?_)
                    refine RV.op (OV.step gno (Step.move rfl) rfl ?_)
                    refine RV.op (OV.call [2, 2] (F := [_, _]) Try.func26 B26 N26 rfl rfl (fun w h => sample_fn b Ag cg (gW T U D S (i - 1)) x (gW_ok hok hU1 hU2 hD hS1 hS2 (by omega))) (fun _ hb => hb.elim) gno rfl (fun v L' hp => ?_))
                    obtain ⟨rfl, rfl⟩ := hp
                    obtain ⟨e1, e2, e3⟩ := waitS hok hU1 hU2 hD hS1 hS2 hx2 (j := i - 1) (by omega)
                    rw [e1, e2, e3]
                    refine RV.op (OV.step gno (Step.move rfl) rfl ?_)
                    refine RV.op (OV.step gno (Step.extract0 rfl rfl) rfl ?_)
                    refine RV.op (OV.step gno (Step.extract0 rfl rfl) rfl ?_)
                    refine RV.op (OV.step gno (Step.assign rfl) rfl ?_)
                    refine RV.op (OV.step gno (Step.assign rfl) rfl ?_)
                    refine RV.nil ?_
                    refine KV.then_n ?_
                    refine KV.env [(7, _), (8, _), (9, _), (10, _), (12, _), (14, _), (15, _), (16, _)] ⟨rfl, rfl, rfl, rfl, rfl, rfl, rfl, rfl, trivial⟩ ?_
                    refine CV.seq ?_
                    -- region 17 law.go:220
                    refine CV.region ?_
                    refine RV.op (OV.step gno (Step.move rfl) rfl ?_)
                    refine RV.op (OV.split gno (Step.neq rfl rfl) rfl (fun e8 => ?_) (fun e8 => ?_))
                    · -- True
                      exact absurd rfl e8
                    · -- False
                      refine RV.op (OV.step gno (Step.move rfl) rfl ?_)
                      refine RV.op (OV.step (gyes rfl) (Step.move rfl) rfl ?_)
                      refine RV.op (OV.step (gyes rfl) (Step.move rfl) rfl ?_)
                      refine RV.op (OV.split (gyes rfl) (Step.neq rfl rfl) rfl (fun e8 => ?_) (fun e8 => ?_))
                      · -- True
                        exact absurd rfl e8
                      · -- False
                        refine RV.op (OV.step gno (Step.pick_f rfl rfl) rfl ?_)
                        refine RV.nil ?_
                        refine KV.then_n ?_
                        refine KV.env [(7, _), (8, _), (9, _), (10, _), (12, _), (14, _), (84, _)] ⟨rfl, rfl, rfl, rfl, rfl, rfl, rfl, trivial⟩ ?_
                        refine CV.cond_f rfl ?_
                        refine CV.skip ?_
                        refine KV.block_n ?_
                        refine KV.then_n ?_
                        refine KV.env [(7, _), (8, _), (9, _), (10, _), (12, _), (14, _)] ⟨rfl, rfl, rfl, rfl, rfl, rfl, trivial⟩ ?_
                        -- region 15 law.go:219
                        refine CV.region ?_
                        refine RV.op (OV.step gno (Step.move rfl) rfl ?_)
                        (first | refine RV.op (OV.step gno (Step.add rfl rfl (wI64 (by omega) (by omega))) rfl ?_) | refine RV.op (OV.step gno (Step.add rfl rfl rfl) rfl ?_))
                        refine RV.op (OV.step gno (Step.assign rfl) rfl ?_)
                        refine RV.nil ?_
                        refine KV.then_n ?_
                        refine KV.env [(7, _), (8, _), (9, _), (10, _), (12, _), (14, _)] ⟨rfl, rfl, rfl, rfl, rfl, rfl, trivial⟩ ?_
                        refine KV.sel [0, 0, 0, 0] [_, _, _, _] rfl ?_
                        have hii : i - 1 + 1 = i := by omega
                        exact KV.loopI (z := i) (i + 1) ⟨by omega, by omega⟩ (by omega) ⟨rfl, rfl, rfl, rfl, rfl, rfl, trivial⟩ (fun _ h => by rw [hii] at h; exact h)
                  · -- False
                    refine RV.nil ?_
                    refine KV.then_n ?_
                    refine KV.env [(7, _), (8, _), (9, _), (10, _), (12, _), (14, _), (69, _)] ⟨rfl, rfl, rfl, rfl, rfl, rfl, rfl, trivial⟩ ?_
                    refine CV.cond_f rfl ?_
                    refine CV.exit ?_
                    refine KV.then_exit ?_
                    refine KV.then_exit ?_
                    refine KV.block_hit ?_
                    refine KV.then_n ?_
                    refine KV.env [(7, _), (8, _), (9, _), (10, _), (12, _)] ⟨rfl, rfl, rfl, rfl, rfl, trivial⟩ ?_
                    refine CV.seq ?_
                    -- region 19 law.go:224
                    refine CV.region ?_
                    refine RV.op (OV.step gno (Step.move rfl) rfl ?_)
                    refine RV.op (OV.step gno (Step.move rfl) rfl ?_)
                    refine RV.op (OV.call [2, 2] (F := [_, _]) Try.func26 B26 N26 rfl rfl (fun w h => sample_fn b Ag cg (gW T U D S (i - 1)) x (gW_ok hok hU1 hU2 hD hS1 hS2 (by omega))) (fun _ hb => hb.elim) gno rfl (fun v L' hp => ?_))
                    obtain ⟨rfl, rfl⟩ := hp
                    obtain ⟨m, e2, e3, hm1, hm2, hm3⟩ := waitE hok hU1 hU2 hD hS1 hS2 hx2 (j := i - 1) (by omega)
                    rw [e2, e3]
                    refine RV.op (OV.step gno (Step.move rfl) rfl ?_)
                    refine RV.op (OV.step gno (Step.extract0 rfl rfl) rfl ?_)
                    refine RV.op (OV.step gno (Step.extract0 rfl rfl) rfl ?_)
                    refine RV.op (OV.step gno (Step.assign rfl) rfl ?_)
                    refine RV.op (OV.step gno (Step.assign rfl) rfl ?_)
                    refine RV.nil ?_
                    refine KV.then_n ?_
                    refine KV.env [(7, _), (8, _), (9, _), (12, _), (17, _), (18, _)] ⟨rfl, rfl, rfl, rfl, rfl, rfl, trivial⟩ ?_
                    refine CV.seq ?_
                    refine CV.seq ?_
                    -- region 20 law.go:225
                    have hbt := hok.big (show T.length - 1 < T.length by omega)
                    have hbn := hok.big (show m < T.length by omega)
                    unfold pt at hbt hbn
                    have hmt := mulB (f := (T.getD (T.length - 1) ptK.d).f) (show 0 ≤ (x : Int) by omega) (by omega) (by omega) (by omega)
                    have hmn := mulB (f := (T.getD m ptK.d).f) (show 0 ≤ U by omega) hU2 (by omega) (by omega)
                    refine CV.still (by kernel_rfl) (by kernel_rfl) (fun _ h => h.drew) ?_
                    refine SV.step gno (Step.move rfl) rfl ?_
                    refine SV.split gno (Step.neq rfl rfl) rfl (fun e8 => ?_) (fun e8 => ?_)
                    · -- True
                      exact absurd rfl e8
                    · -- False
                      refine SV.step gno (Step.move rfl) rfl ?_
                      refine SV.step (gyes rfl) (Step.move rfl) rfl ?_
                      refine SV.split (gyes rfl) (Step.lss rfl rfl) rfl (fun e9 => ?_) (fun e9 => ?_)
                      · -- True
                        exfalso; omega
                      · -- False
                        refine SV.step gno (Step.pick_f rfl rfl) rfl ?_
                        refine SV.step gno (Step.move rfl) rfl ?_
                        refine SV.step (gyes rfl) (Step.move rfl) rfl ?_
                        refine SV.step (gyes rfl) (Step.move rfl) rfl ?_
                        refine SV.split (gyes rfl) (Step.gtr rfl rfl) rfl (fun e10 => ?_) (fun e10 => ?_)
                        · -- True
                          exfalso; omega
                        · -- False
                          refine SV.step gno (Step.pick_f rfl rfl) rfl ?_
                          refine SV.step gno (Step.move rfl) rfl ?_
                          refine SV.step (gyes rfl) (Step.move rfl) rfl ?_
                          (first | refine SV.step (gyes rfl) (Step.convI Try.underlying3 Try.underlying23 rfl (wU64 (by omega) (by omega))) rfl ?_ | refine SV.step (gyes rfl) (Step.convI Try.underlying3 Try.underlying23 rfl rfl) rfl ?_)
                          refine SV.step (gyes rfl) (Step.move rfl) rfl ?_
                          refine SV.step (gyes rfl) (Step.move rfl) rfl ?_
                          refine SV.step (gyes rfl) (Step.idx Try.underlying22 I25 (fun w h => h.os 0 rfl) rfl rfl (rfl) _ rfl (by omega)) rfl ?_
                          refine SV.step (gyes rfl) (Step.fieldAddr rfl (F25_0 _ _)) rfl ?_
                          refine SV.step (gyes rfl) (Step.load Try.underlying23 rfl rfl (fun w h => (h.os 0 rfl).cell0 (by omega) rfl)) rfl ?_
                          (first | refine SV.step (gyes rfl) (Step.mul rfl rfl (wU64 (by omega) (by omega))) rfl ?_ | refine SV.step (gyes rfl) (Step.mul rfl rfl rfl) rfl ?_)
                          refine SV.step (gyes rfl) (Step.fieldAddr rfl (F45_0 _ _)) rfl ?_
                          refine SV.step (gyes rfl) (Step.load Try.underlying3 rfl rfl (fun w h => h.cell 1 rfl rfl)) rfl ?_
                          (first | refine SV.step (gyes rfl) (Step.convI Try.underlying3 Try.underlying23 rfl (wU64 (by omega) (by omega))) rfl ?_ | refine SV.step (gyes rfl) (Step.convI Try.underlying3 Try.underlying23 rfl rfl) rfl ?_)
                          refine SV.step (gyes rfl) (Step.move rfl) rfl ?_
                          refine SV.step (gyes rfl) (Step.move rfl) rfl ?_
                          refine SV.step (gyes rfl) (Step.idx Try.underlying22 I25 (fun w h => h.os 0 rfl) rfl rfl (rfl) _ rfl (by omega)) rfl ?_
                          refine SV.step (gyes rfl) (Step.fieldAddr rfl (F25_0 _ _)) rfl ?_
                          refine SV.step (gyes rfl) (Step.load Try.underlying23 rfl rfl (fun w h => (h.os 0 rfl).cell0 (by omega) rfl)) rfl ?_
                          (first | refine SV.step (gyes rfl) (Step.mul rfl rfl (wU64 (by omega) (by omega))) rfl ?_ | refine SV.step (gyes rfl) (Step.mul rfl rfl rfl) rfl ?_)
                          refine SV.split (gyes rfl) (Step.gtr rfl rfl) rfl (fun e11 => ?_) (fun e11 => ?_)
                          · -- True
                            exfalso; omega
                          · -- False
                            refine SV.step gno (Step.pick_f rfl rfl) rfl ?_
                            refine SV.nil ?_
                            refine KV.then_n ?_
                            refine KV.env [(7, _), (8, _), (9, _), (12, _), (17, _), (121, _)] ⟨rfl, rfl, rfl, rfl, rfl, rfl, trivial⟩ ?_
                            refine CV.cond_f rfl ?_
                            refine CV.skip ?_
                            refine KV.then_n ?_
                            refine KV.env [(7, _), (8, _), (9, _), (12, _), (17, _)] ⟨rfl, rfl, rfl, rfl, rfl, trivial⟩ ?_
                            refine CV.seq ?_
                            -- region 22 law.go:228
                            refine CV.stillTail 24 (by kernel_rfl) (by kernel_rfl) (fun _ h => h.drew) ?_
                            refine SV.step gno (Step.move rfl) rfl ?_
                            refine SV.split gno (Step.eql rfl rfl) rfl (fun e12 => ?_) (fun e12 => ?_)
                            · -- True
                              refine SV.step gno (Step.move rfl) rfl ?_
                              refine SV.skip rfl rfl ?_
                              refine SV.skip rfl rfl ?_
                              refine SV.skip rfl rfl ?_
                              refine SV.skip rfl rfl ?_
                              refine SV.skip rfl rfl ?_
                              refine SV.skip rfl rfl ?_
                              refine SV.skip rfl rfl ?_
                              refine SV.skip rfl rfl ?_
                              refine SV.skip rfl rfl ?_
                              refine SV.skip rfl rfl ?_
                              refine SV.skip rfl rfl ?_
                              refine SV.skip rfl rfl ?_
                              refine SV.skip rfl rfl ?_
                              refine SV.skip rfl rfl ?_
                              refine SV.skip rfl rfl ?_
                              refine SV.skip rfl rfl ?_
                              refine SV.skip rfl rfl ?_
                              refine SV.skip rfl rfl ?_
                              refine SV.skip rfl rfl ?_
                              refine SV.step gno (Step.pick_t rfl rfl) rfl ?_
                              refine SV.step gno (Step.move rfl) rfl ?_
                              refine SV.nil ?_
                              show KV _ (wpList _ _ _ _) _ _
                              refine RV.op (OV.call [] (F := [_, _, _, _]) Try.func12 B12 N12 rfl rfl (fun w h => awake_fn) (fun _ hb => hb.elim) (gyes rfl) rfl (fun v L' hp => ?_))
                              obtain ⟨rfl, rfl⟩ := hp
                              simp only [List.append_nil]
                              refine RV.op (OV.step gno (Step.pick_t rfl rfl) rfl ?_)
                              refine RV.op (OV.step gno (Step.assign rfl) rfl ?_)
                              refine RV.nil ?_
                              refine KV.then_n ?_
                              refine KV.env [(6, _)] ⟨rfl, trivial⟩ ?_
                              refine CV.ret ?_
                              -- return at r22
                              refine KV.sel [] [] rfl ?_
                              exact KV.ret1 rfl rfl _ (fun _ h => h) ⟨rfl, rfl⟩
                            · -- False
                              have hm4 := hm3 (m - 1) (by omega)
                              have hbn := hok.big (show m - 1 < T.length by omega)
                              unfold pt at hbn
                              have hmn := mulB (f := (T.getD (m - 1) ptK.d).f) (show 0 ≤ U by omega) hU2 (by omega) (by omega)
                              refine SV.step gno (Step.move rfl) rfl ?_
                              refine SV.step (gyes rfl) (Step.move rfl) rfl ?_
                              (first | refine SV.step (gyes rfl) (Step.convI Try.underlying3 Try.underlying23 rfl (wU64 (by omega) (by omega))) rfl ?_ | refine SV.step (gyes rfl) (Step.convI Try.underlying3 Try.underlying23 rfl rfl) rfl ?_)
                              refine SV.step (gyes rfl) (Step.move rfl) rfl ?_
                              refine SV.step (gyes rfl) (Step.move rfl) rfl ?_
                              refine SV.step (gyes rfl) (Step.idx Try.underlying22 I25 (fun w h => h.os 0 rfl) rfl rfl (rfl) _ rfl (by omega)) rfl ?_
                              refine SV.step (gyes rfl) (Step.fieldAddr rfl (F25_0 _ _)) rfl ?_
                              refine SV.step (gyes rfl) (Step.load Try.underlying23 rfl rfl (fun w h => (h.os 0 rfl).cell0 (by omega) rfl)) rfl ?_
                              (first | refine SV.step (gyes rfl) (Step.mul rfl rfl (wU64 (by omega) (by omega))) rfl ?_ | refine SV.step (gyes rfl) (Step.mul rfl rfl rfl) rfl ?_)
                              refine SV.step (gyes rfl) (Step.fieldAddr rfl (F45_0 _ _)) rfl ?_
                              refine SV.step (gyes rfl) (Step.load Try.underlying3 rfl rfl (fun w h => h.cell 1 rfl rfl)) rfl ?_
                              (first | refine SV.step (gyes rfl) (Step.convI Try.underlying3 Try.underlying23 rfl (wU64 (by omega) (by omega))) rfl ?_ | refine SV.step (gyes rfl) (Step.convI Try.underlying3 Try.underlying23 rfl rfl) rfl ?_)
                              refine SV.step (gyes rfl) (Step.move rfl) rfl ?_
                              refine SV.step (gyes rfl) (Step.move rfl) rfl ?_
                              (first | refine SV.step (gyes rfl) (Step.sub rfl rfl (wI64 (by omega) (by omega))) rfl ?_ | refine SV.step (gyes rfl) (Step.sub rfl rfl rfl) rfl ?_)
                              refine SV.step (gyes rfl) (Step.idx Try.underlying22 I25 (fun w h => h.os 0 rfl) rfl rfl (rfl) _ (show (m : Int) - 1 = ((m - 1 : Nat) : Int) by omega) (by omega)) rfl ?_
                              refine SV.step (gyes rfl) (Step.fieldAddr rfl (F25_0 _ _)) rfl ?_
                              refine SV.step (gyes rfl) (Step.load Try.underlying23 rfl rfl (fun w h => (h.os 0 rfl).cell0 (by omega) rfl)) rfl ?_
                              (first | refine SV.step (gyes rfl) (Step.mul rfl rfl (wU64 (by omega) (by omega))) rfl ?_ | refine SV.step (gyes rfl) (Step.mul rfl rfl rfl) rfl ?_)
                              refine SV.split (gyes rfl) (Step.gtr rfl rfl) rfl (fun e13 => ?_) (fun e13 => ?_)
                              · -- True
                                refine SV.step gno (Step.pick_f rfl rfl) rfl ?_
                                refine SV.step gno (Step.move rfl) rfl ?_
                                refine SV.nil ?_
                                show KV _ (wpList _ _ _ _) _ _
                                refine RV.op (OV.call [] (F := [_, _, _, _]) Try.func12 B12 N12 rfl rfl (fun w h => awake_fn) (fun _ hb => hb.elim) (gyes rfl) rfl (fun v L' hp => ?_))
                                obtain ⟨rfl, rfl⟩ := hp
                                simp only [List.append_nil]
                                refine RV.op (OV.step gno (Step.pick_t rfl rfl) rfl ?_)
                                refine RV.op (OV.step gno (Step.assign rfl) rfl ?_)
                                refine RV.nil ?_
                                refine KV.then_n ?_
                                refine KV.env [(6, _)] ⟨rfl, trivial⟩ ?_
                                refine CV.ret ?_
                                -- return at r22
                                refine KV.sel [] [] rfl ?_
                                exact KV.ret1 rfl rfl _ (fun _ h => h) ⟨rfl, rfl⟩
                              · -- False
                                exfalso; omega
end Go.Proofs.Ytaafpnoffdcbnaa
