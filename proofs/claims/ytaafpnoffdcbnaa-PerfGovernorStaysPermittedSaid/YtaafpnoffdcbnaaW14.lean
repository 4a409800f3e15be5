/-
  Walks, part 14.
-/
import Derived.Test.YtaafpnoffdcbnaaTab14
import Derived.Test.YtaafpnoffdcbnaaW11
import Derived.Test.YtaafpnoffdcbnaaPl3
set_option linter.unusedSimpArgs false
set_option linter.unusedVariables false
namespace Go.Proofs.Ytaafpnoffdcbnaa
open Go.Sv Go.Perf
set_option maxRecDepth 100000 in
set_option maxHeartbeats 1000000 in
theorem stays_fn {A : Option Addr} {n c : Nat} {raw : List Pt} {B : Option Addr} {m d : Nat} {l : List Int} {w : World} (hr : RS w ptK A raw) (hn : n = raw.length) (hf : fitT raw) (u dd s a1 a2 : Int) (hb : RS w (intK .i64) B l) (hm : m = l.length) : Fx Try.prog 11 [.slice A n c, .agg #[.int .i64 u, .int .i64 dd, .int .i64 s], .int .i64 a1, .int .i64 a2, .slice B m d] w [] no (fun v L => v = .bool true ∧ L = []) := by
  subst hn
  subst hm
  refine Sv.Fx.body Try.func11 rfl T11 rfl ?_
  intro I hro hI
  refine KV.env [(0, _), (1, _), (2, _), (3, _), (4, _)] ⟨rfl, rfl, rfl, rfl, rfl, trivial⟩ ?_
  obtain ⟨U, D, S, hP, hU1, hU2, hD, hS1, hS2⟩ := prmN u dd s
  refine CV.seq ?_
  -- region 0 law.go:163
  refine CV.region ?_
  refine RV.op (OV.box (t := 45) #[_, _, _] rfl rfl gno rfl (fun b0_0 => ?_))
  refine RV.op (OV.step gno (Step.assign rfl) rfl ?_)
  refine RV.nil ?_
  refine KV.then_n ?_
  refine KV.env [(0, _), (2, _), (3, _), (4, _), (6, _)] ⟨rfl, rfl, rfl, rfl, rfl, trivial⟩ ?_
  refine CV.seq ?_
  refine CV.seq ?_
  -- region 1 law.go:164
  refine CV.region ?_
  refine RV.op (OV.step gno (Step.move rfl) rfl ?_)
  refine RV.op (OV.step gno (Step.lenSl Try.underlying22 rfl) rfl ?_)
  refine RV.op (OV.split gno (Step.gtr rfl rfl) rfl (fun hlong => ?_) (fun hlong => ?_))
  · -- True
    refine RV.op (OV.step gno (Step.move rfl) rfl ?_)
    refine RV.op (OV.skip rfl rfl ?_)
    refine RV.op (OV.skip rfl rfl ?_)
    refine RV.op (OV.skip rfl rfl ?_)
    refine RV.op (OV.step gno (Step.pick_t rfl rfl) rfl ?_)
    refine RV.nil ?_
    refine KV.then_n ?_
    refine KV.env [(0, _), (2, _), (3, _), (4, _), (6, _), (29, _)] ⟨rfl, rfl, rfl, rfl, rfl, rfl, trivial⟩ ?_
    refine CV.cond_t rfl ?_
    refine CV.seq ?_
    -- region 2 law.go:165
    refine CV.region ?_
    refine RV.op (OV.call [] (F := [_]) Try.func12 B12 N12 rfl rfl (fun w h => awake_fn) (fun _ hb => hb.elim) gno rfl (fun v L' hp => ?_))
    obtain ⟨rfl, rfl⟩ := hp
    simp only [List.append_nil]
    refine RV.op (OV.step gno (Step.assign rfl) rfl ?_)
    refine RV.nil ?_
    refine KV.then_n ?_
    refine KV.env [(10, _)] ⟨rfl, trivial⟩ ?_
    refine CV.ret ?_
    refine KV.then_ret ?_
    -- return at r2
    refine KV.sel [] [] rfl ?_
    exact KV.ret1 rfl rfl _ (fun _ h => h) ⟨rfl, rfl⟩
  · -- False
    refine RV.op (OV.step gno (Step.move rfl) rfl ?_)
    refine RV.op (OV.step (gyes rfl) (Step.move rfl) rfl ?_)
    refine RV.op (OV.step (gyes rfl) (Step.lenSl Try.underlying52 rfl) rfl ?_)
    refine RV.op (OV.split (gyes rfl) (Step.gtr rfl rfl) rfl (fun hlong2 => ?_) (fun hlong2 => ?_))
    · -- True
      refine RV.op (OV.step gno (Step.pick_f rfl rfl) rfl ?_)
      refine RV.nil ?_
      refine KV.then_n ?_
      refine KV.env [(0, _), (2, _), (3, _), (4, _), (6, _), (29, _)] ⟨rfl, rfl, rfl, rfl, rfl, rfl, trivial⟩ ?_
      refine CV.cond_t rfl ?_
      refine CV.seq ?_
      -- region 2 law.go:165
      refine CV.region ?_
      refine RV.op (OV.call [] (F := [_]) Try.func12 B12 N12 rfl rfl (fun w h => awake_fn) (fun _ hb => hb.elim) gno rfl (fun v L' hp => ?_))
      obtain ⟨rfl, rfl⟩ := hp
      simp only [List.append_nil]
      refine RV.op (OV.step gno (Step.assign rfl) rfl ?_)
      refine RV.nil ?_
      refine KV.then_n ?_
      refine KV.env [(10, _)] ⟨rfl, trivial⟩ ?_
      refine CV.ret ?_
      refine KV.then_ret ?_
      -- return at r2
      refine KV.sel [] [] rfl ?_
      exact KV.ret1 rfl rfl _ (fun _ h => h) ⟨rfl, rfl⟩
    · -- False
      have hl : raw.length ≤ 1000000 := by omega
      refine RV.op (OV.step gno (Step.pick_f rfl rfl) rfl ?_)
      refine RV.nil ?_
      refine KV.then_n ?_
      refine KV.env [(0, _), (2, _), (3, _), (4, _), (6, _), (29, _)] ⟨rfl, rfl, rfl, rfl, rfl, rfl, trivial⟩ ?_
      refine CV.cond_f rfl ?_
      refine CV.skip ?_
      refine KV.then_n ?_
      refine KV.env [(0, _), (2, _), (3, _), (4, _), (6, _)] ⟨rfl, rfl, rfl, rfl, rfl, trivial⟩ ?_
      -- join; live [2, 3, 4, 11, 12]
      refine CV.join3 (fun (At : Option Addr) (ct : Nat) (bq : Nat) => [(2, .int .i64 a1), (3, .int .i64 a2), (4, .slice B l.length d), (11, .slice At (tableM raw).length ct), (12, .pointer (some ⟨bq, 0, none⟩))]) (fun (At : Option Addr) (ct : Nat) (bq : Nat) => Hp I w [OS 25 ptK At ct (tableM raw), Blk bq (.cells #[.int .i64 U, .int .i64 (D : Int), .int .i64 (S : Int)] 45 (0, 0))]) ?_ ?_
      · skip
        -- region 3 law.go:167
        refine CV.any (Hp I w [Blk b0_0 (.cells #[.int .i64 u, .int .i64 dd, .int .i64 s] 45 (0, 0))]) (by kernel_rfl) (fun _ h => h.drew) 7 rfl ?_
        refine AV.take 0 #[true, false, false, false, false, false, false] rfl (by kernel_rfl) (by kernel_rfl) (by kernel_rfl) (fun _ _ _ h => h) gno (Step.move rfl) rfl (fun _ h => h.sel [0] rfl) (by kernel_rfl) ?_
        refine AV.take 2 #[true, false, true, false, false, false, false] rfl (by kernel_rfl) (by kernel_rfl) (by kernel_rfl) (fun _ _ _ h => h) gno (Step.loadN _ Try.underlying45 rfl I45 rfl rfl (fun w h => h.cells 0 rfl)) rfl (fun _ h => h.sel [0] rfl) (by kernel_rfl) ?_
        refine AV.all [1, 4] (by kernel_rfl) (by decide) ?_
        refine ⟨⟨_, rfl, ?_⟩, ⟨⟨_, rfl, ?_⟩, trivial⟩⟩
        · -- 1 comes up
          refine OV.call [] (F := [_]) Try.func13 B13 N13 rfl rfl (fun w h => table_fn (h.rs hr (fun _ => hI _)) rfl hl hf) (fun _ hb => hb.elim) gno rfl (fun v L' hp => ?_)
          obtain ⟨At, ct, rfl, rfl⟩ := hp
          refine AV.next #[true, true, true, false, false, false, false] (by kernel_rfl) (fun _ h => h.sel [0] rfl) ?_
          refine AV.all [3, 4] (by kernel_rfl) (by decide) ?_
          refine ⟨⟨_, rfl, ?_⟩, ⟨⟨_, rfl, ?_⟩, trivial⟩⟩
          · -- 3 comes up
            refine OV.call [] (F := [_, _]) Try.func24 B24 N24 rfl rfl (fun w h => params2_fn hP) (fun _ hb => hb.elim) gno rfl (fun v L' hp => ?_)
            obtain ⟨rfl, rfl⟩ := hp
            simp only [List.append_nil]
            refine AV.next #[true, true, true, true, false, false, false] (by kernel_rfl) (fun _ h => h.sel [0] rfl) ?_
            refine AV.all [4] (by kernel_rfl) (by decide) ?_
            refine ⟨⟨_, rfl, ?_⟩, trivial⟩
            · -- 4 comes up
              refine OV.alloc #[.int .i64 0, .int .i64 0, .int .i64 0] I45 rfl gno rfl (fun bq => ?_)
              refine AV.next #[true, true, true, true, true, false, false] (by kernel_rfl) (fun _ h => h.sel [0] rfl) ?_
              refine AV.take 5 #[true, true, true, true, true, true, false] rfl (by kernel_rfl) (by kernel_rfl) (by kernel_rfl) (fun _ _ _ h => h) gno (Step.assign rfl) rfl (fun _ h => h.sel [0] rfl) (by kernel_rfl) ?_
              refine AV.all [6] (by kernel_rfl) (by decide) ?_
              refine ⟨⟨_, rfl, ?_⟩, trivial⟩
              · -- 6 comes up
                refine OV.store 2 [_, _, _] #[_, _, _] I45 rfl rfl rfl rfl rfl (Nat.le_of_ble_eq_true rfl) (by simp [Value.oneCell']) rfl gno ?_
                refine AV.next #[true, true, true, true, true, true, true] (by kernel_rfl) (fun _ h => h.sel [0] rfl) ?_
                refine AV.done (by kernel_rfl) ?_
                refine KV.then_n ?_
                refine KV.env [(2, _), (3, _), (4, _), (11, _), (12, _)] ⟨rfl, rfl, rfl, rfl, rfl, trivial⟩ ?_
                refine KV.sel [1, 1] [_, _] rfl ?_
                exact KV.join3 (At) (ct) (bq) ⟨rfl, rfl, rfl, rfl, rfl, trivial⟩ (fun _ h => h)
          · -- 4 comes up
            refine OV.alloc #[.int .i64 0, .int .i64 0, .int .i64 0] I45 rfl gno rfl (fun bq => ?_)
            refine AV.next #[true, true, true, false, true, false, false] (by kernel_rfl) (fun _ h => h.sel [0] rfl) ?_
            refine AV.all [3] (by kernel_rfl) (by decide) ?_
            refine ⟨⟨_, rfl, ?_⟩, trivial⟩
            · -- 3 comes up
              refine OV.call [] (F := [_, _, _]) Try.func24 B24 N24 rfl rfl (fun w h => params2_fn hP) (fun _ hb => hb.elim) gno rfl (fun v L' hp => ?_)
              obtain ⟨rfl, rfl⟩ := hp
              simp only [List.append_nil]
              refine AV.next #[true, true, true, true, true, false, false] (by kernel_rfl) (fun _ h => h.sel [0] rfl) ?_
              refine AV.take 5 #[true, true, true, true, true, true, false] rfl (by kernel_rfl) (by kernel_rfl) (by kernel_rfl) (fun _ _ _ h => h) gno (Step.assign rfl) rfl (fun _ h => h.sel [0] rfl) (by kernel_rfl) ?_
              refine AV.all [6] (by kernel_rfl) (by decide) ?_
              refine ⟨⟨_, rfl, ?_⟩, trivial⟩
              · -- 6 comes up
                refine OV.store 2 [_, _, _] #[_, _, _] I45 rfl rfl rfl rfl rfl (Nat.le_of_ble_eq_true rfl) (by simp [Value.oneCell']) rfl gno ?_
                refine AV.next #[true, true, true, true, true, true, true] (by kernel_rfl) (fun _ h => h.sel [0] rfl) ?_
                refine AV.done (by kernel_rfl) ?_
                refine KV.then_n ?_
                refine KV.env [(2, _), (3, _), (4, _), (11, _), (12, _)] ⟨rfl, rfl, rfl, rfl, rfl, trivial⟩ ?_
                refine KV.sel [1, 1] [_, _] rfl ?_
                exact KV.join3 (At) (ct) (bq) ⟨rfl, rfl, rfl, rfl, rfl, trivial⟩ (fun _ h => h)
        · -- 4 comes up
          refine OV.alloc #[.int .i64 0, .int .i64 0, .int .i64 0] I45 rfl gno rfl (fun bq => ?_)
          refine AV.next #[true, false, true, false, true, false, false] (by kernel_rfl) (fun _ h => h.sel [0] rfl) ?_
          refine AV.all [1] (by kernel_rfl) (by decide) ?_
          refine ⟨⟨_, rfl, ?_⟩, trivial⟩
          · -- 1 comes up
            refine OV.call [] (F := [_, _]) Try.func13 B13 N13 rfl rfl (fun w h => table_fn (h.rs hr (fun _ => hI _)) rfl hl hf) (fun _ hb => hb.elim) gno rfl (fun v L' hp => ?_)
            obtain ⟨At, ct, rfl, rfl⟩ := hp
            refine AV.next #[true, true, true, false, true, false, false] (by kernel_rfl) (fun _ h => h.sel [0] rfl) ?_
            refine AV.all [3] (by kernel_rfl) (by decide) ?_
            refine ⟨⟨_, rfl, ?_⟩, trivial⟩
            · -- 3 comes up
              refine OV.call [] (F := [_, _, _]) Try.func24 B24 N24 rfl rfl (fun w h => params2_fn hP) (fun _ hb => hb.elim) gno rfl (fun v L' hp => ?_)
              obtain ⟨rfl, rfl⟩ := hp
              simp only [List.append_nil]
              refine AV.next #[true, true, true, true, true, false, false] (by kernel_rfl) (fun _ h => h.sel [0] rfl) ?_
              refine AV.take 5 #[true, true, true, true, true, true, false] rfl (by kernel_rfl) (by kernel_rfl) (by kernel_rfl) (fun _ _ _ h => h) gno (Step.assign rfl) rfl (fun _ h => h.sel [0] rfl) (by kernel_rfl) ?_
              refine AV.all [6] (by kernel_rfl) (by decide) ?_
              refine ⟨⟨_, rfl, ?_⟩, trivial⟩
              · -- 6 comes up
                refine OV.store 1 [_, _, _] #[_, _, _] I45 rfl rfl rfl rfl rfl (Nat.le_of_ble_eq_true rfl) (by simp [Value.oneCell']) rfl gno ?_
                refine AV.next #[true, true, true, true, true, true, true] (by kernel_rfl) (fun _ h => h.sel [0] rfl) ?_
                refine AV.done (by kernel_rfl) ?_
                refine KV.then_n ?_
                refine KV.env [(2, _), (3, _), (4, _), (11, _), (12, _)] ⟨rfl, rfl, rfl, rfl, rfl, trivial⟩ ?_
                refine KV.sel [2, 1] [_, _] rfl ?_
                exact KV.join3 (At) (ct) (bq) ⟨rfl, rfl, rfl, rfl, rfl, trivial⟩ (fun _ h => h)
      · intro At ct bq
        obtain ⟨T, hT⟩ : ∃ T, tableM raw = T := ⟨_, rfl⟩
        rw [hT]
        have hok : okT T := hT ▸ table_ok hf
        have hlT := hok.1
        have hfT : fitT T := hT ▸ fitT_table hf
        have hE := newE_zero hok hU1 hU2 hD hS1 hS2
        have hg0 := gov0_ok hE
        refine CV.seq ?_
        -- region 4 law.go:168
        refine CV.region ?_
        refine RV.op (OV.step gno (Step.move rfl) rfl ?_)
        refine RV.op (OV.step gno (Step.loadN _ Try.underlying45 rfl I45 rfl rfl (fun w h => h.cells 1 rfl)) rfl ?_)
        refine RV.op (OV.call [] (F := [_, _]) Try.func25 B25 N25 rfl rfl (fun w h => newG_fn (h.os 0 rfl) rfl (by omega) U D S hE) (fun _ hb => hb.elim) gno rfl (fun v L' hp => ?_))
        obtain ⟨b, Ag, cg, rfl, rfl⟩ := hp
        refine RV.op (OV.step gno (Step.move rfl) rfl ?_)
        refine RV.op (OV.step gno (Step.extract0 rfl rfl) rfl ?_)
        refine RV.op (OV.step gno (Step.extract0 rfl rfl) rfl ?_)
        refine RV.op (OV.step gno (Step.assign rfl) rfl ?_)
        refine RV.op (OV.step gno (Step.assign rfl) rfl ?_)
        refine RV.nil ?_
        refine KV.then_n ?_
        refine KV.env [(2, _), (3, _), (4, _), (11, _), (12, _), (13, _), (14, _)] ⟨rfl, rfl, rfl, rfl, rfl, rfl, rfl, trivial⟩ ?_
        refine CV.seq ?_
        refine CV.seq ?_
        -- region 5 law.go:169
        refine CV.region ?_
        refine RV.op (OV.step gno (Step.move rfl) rfl ?_)
        refine RV.op (OV.split gno (Step.neq rfl rfl) rfl (fun e8 => ?_) (fun e8 => ?_))
        · -- True
          exact absurd rfl e8
        · -- False
          refine RV.op (OV.step gno (Step.move rfl) rfl ?_)
          refine RV.op (OV.step (gyes rfl) (Step.move rfl) rfl ?_)
          refine RV.op (OV.split (gyes rfl) (Step.eqlP Try.underlying47 rfl rfl) rfl (fun e8 => ?_) (fun e8 => ?_))
          · -- True
            cases e8
          · -- False
            refine RV.op (OV.step gno (Step.pick_f rfl rfl) rfl ?_)
            refine RV.nil ?_
            refine KV.then_n ?_
            refine KV.env [(2, _), (3, _), (4, _), (11, _), (12, _), (13, _), (46, _)] ⟨rfl, rfl, rfl, rfl, rfl, rfl, rfl, trivial⟩ ?_
            refine CV.cond_f rfl ?_
            refine CV.skip ?_
            refine KV.then_n ?_
            refine KV.env [(2, _), (3, _), (4, _), (11, _), (12, _), (13, _)] ⟨rfl, rfl, rfl, rfl, rfl, rfl, trivial⟩ ?_
            refine CV.seq ?_
            -- region 7 law.go:172
            refine CV.region ?_
            refine RV.op (OV.step gno (Step.move rfl) rfl ?_)
            refine RV.op (OV.step gno (Step.move rfl) rfl ?_)
            refine RV.op (OV.step gno (Step.lenSl Try.underlying22 rfl) rfl ?_)
            refine RV.op (OV.call [] Try.func14 B14 N14 rfl rfl (fun w h => (mod_fn a1 T.length (by omega) (by omega)).fn w) (fun _ hb => hb.elim) gno rfl (fun v L' hp => ?_))
            obtain ⟨rfl, rfl⟩ := hp
            simp only [List.append_nil]
            obtain ⟨p, hp, hp2⟩ := modN a1 (n := T.length) (by omega)
            rw [hp]
            refine RV.op (OV.step gno (Step.assign rfl) rfl ?_)
            refine RV.nil ?_
            refine KV.then_n ?_
            refine KV.env [(3, _), (4, _), (11, _), (12, _), (13, _), (15, _)] ⟨rfl, rfl, rfl, rfl, rfl, rfl, trivial⟩ ?_
            refine CV.seq ?_
            -- region 8 law.go:173
            refine CV.region ?_
            refine RV.op (OV.step gno (Step.move rfl) rfl ?_)
            refine RV.op (OV.step gno (Step.move rfl) rfl ?_)
            refine RV.op (OV.step gno (Step.move rfl) rfl ?_)
            refine RV.op (OV.step gno (Step.lenSl Try.underlying22 rfl) rfl ?_)
            refine RV.op (OV.step gno (Step.move rfl) rfl ?_)
            (first | refine RV.op (OV.step gno (Step.sub rfl rfl (wI64 (by omega) (by omega))) rfl ?_) | refine RV.op (OV.step gno (Step.sub rfl rfl rfl) rfl ?_))
            rw [show (T.length : Int) - (p : Int) = ((T.length - p : Nat) : Int) by omega]
            refine RV.op (OV.call [] Try.func14 B14 N14 rfl rfl (fun w h => (mod_fn a2 (T.length - p) (by omega) (by omega)).fn w) (fun _ hb => hb.elim) gno rfl (fun v L' hp => ?_))
            obtain ⟨rfl, rfl⟩ := hp
            simp only [List.append_nil]
            obtain ⟨q0, hq0, hq2⟩ := modN a2 (n := T.length - p) (by omega)
            rw [hq0]
            (first | refine RV.op (OV.step gno (Step.add rfl rfl (wI64 (by omega) (by omega))) rfl ?_) | refine RV.op (OV.step gno (Step.add rfl rfl rfl) rfl ?_))
            refine RV.op (OV.step gno (Step.assign rfl) rfl ?_)
            refine RV.nil ?_
            refine KV.then_n ?_
            refine KV.env [(4, _), (11, _), (12, _), (13, _), (15, _), (16, _)] ⟨rfl, rfl, rfl, rfl, rfl, rfl, trivial⟩ ?_
            refine CV.seq ?_
            refine CV.seq ?_
            -- region 9 law.go:174
            refine CV.region ?_
            refine RV.op (OV.step gno (Step.move rfl) rfl ?_)
            refine RV.op (OV.step gno (Step.move rfl) rfl ?_)
            refine RV.op (OV.step gno (Step.move rfl) rfl ?_)
            refine RV.op (OV.call [2, 2] (F := [_, _]) Try.func29 B29 N29 rfl rfl (fun w h => limit_fn b Ag cg (gov0 T U D S) p (p + q0)) (fun _ hb => hb.elim) gno rfl (fun v L' hp => ?_))
            obtain ⟨rfl, rfl⟩ := hp
            obtain ⟨hl0, hst0⟩ := lim_st (p := p) (q := q0) hok hg0 (by omega)
            rw [hl0]
            refine RV.op (OV.split gno (Step.neq rfl rfl) rfl (fun e8 => ?_) (fun e8 => ?_))
            · -- True
              exact absurd rfl e8
            · -- False
              refine RV.nil ?_
              refine KV.then_n ?_
              refine KV.env [(4, _), (11, _), (12, _), (13, _), (15, _), (16, _), (63, _)] ⟨rfl, rfl, rfl, rfl, rfl, rfl, rfl, trivial⟩ ?_
              refine CV.cond_f rfl ?_
              refine CV.skip ?_
              refine KV.then_n ?_
              refine KV.env [(4, _), (11, _), (12, _), (13, _), (15, _), (16, _)] ⟨rfl, rfl, rfl, rfl, rfl, rfl, trivial⟩ ?_
              refine CV.seq ?_
              refine CV.seq ?_
              -- region 11 law.go:177
              refine CV.region ?_
              refine RV.op (OV.step gno (Step.assign rfl) rfl ?_)
              refine RV.nil ?_
              refine KV.then_n ?_
              refine KV.env [(4, _), (11, _), (12, _), (13, _), (15, _), (16, _), (17, _)] ⟨rfl, rfl, rfl, rfl, rfl, rfl, rfl, trivial⟩ ?_
              refine CV.block ?_
              -- loop L12; live [4, 11, 12, 13, 15, 16, 17]
              refine KV.sel [0, 0, 0, 0] [_, _, _, _] rfl ?_
              refine CV.loop2 (fun (j : Nat) (g : Gov) => j ≤ l.length ∧ StO g T U D p (p + q0)) (fun (j : Nat) (g : Gov) => l.length - j) (fun (j : Nat) (g : Gov) => [(4, .slice B l.length d), (11, .slice At T.length ct), (12, .pointer (some ⟨bq, 0, none⟩)), (13, .pointer (some ⟨b, 0, none⟩)), (15, .int .i64 p), (16, .int .i64 ((p : Int) + (q0 : Int))), (17, .int .i64 j)]) (fun (j : Nat) (g : Gov) => Hp I w ([OS 25 ptK At ct T, Blk bq (.cells #[.int .i64 U, .int .i64 (D : Int), .int .i64 (S : Int)] 45 (0, 0))] ++ gobj 66 b Ag cg g)) (0) (limG (gov0 T U D S) p (p + q0)) ⟨Nat.zero_le _, hst0⟩ ⟨rfl, rfl, rfl, rfl, rfl, rfl, rfl, trivial⟩ (fun _ h => h) ?_
              intro j g hinv
              refine CV.seq ?_
              refine CV.seq ?_
              -- region 12 law.go:177
              refine CV.region ?_
              refine RV.op (OV.step gno (Step.move rfl) rfl ?_)
              refine RV.op (OV.step gno (Step.move rfl) rfl ?_)
              refine RV.op (OV.step gno (Step.lenSl Try.underlying52 rfl) rfl ?_)
              refine RV.op (OV.split gno (Step.lss rfl rfl) rfl (fun hj => ?_) (fun hj => ?_))
              · -- True
                refine RV.nil ?_
                refine KV.then_n ?_
                refine KV.env [(4, _), (11, _), (12, _), (13, _), (15, _), (16, _), (17, _), (67, _)] ⟨rfl, rfl, rfl, rfl, rfl, rfl, rfl, rfl, trivial⟩ ?_
                refine CV.cond_t rfl ?_
                refine CV.skip ?_
                refine KV.then_n ?_
                refine KV.env [(4, _), (11, _), (12, _), (13, _), (15, _), (16, _), (17, _)] ⟨rfl, rfl, rfl, rfl, rfl, rfl, rfl, trivial⟩ ?_
                refine CV.seq ?_
                refine CV.block ?_
                refine CV.seq ?_
                -- region 14 law.go:178
                refine CV.any (Hp I w []) (by kernel_rfl) (fun _ h => h.drew) 9 rfl ?_
                refine AV.take 0 #[true, false, false, false, false, false, false, false, false] rfl (by kernel_rfl) (by kernel_rfl) (by kernel_rfl) (fun _ _ _ h => h) gno (Step.move rfl) rfl (fun _ h => h.sel [] rfl) (by kernel_rfl) ?_
                refine AV.take 2 #[true, false, true, false, false, false, false, false, false] rfl (by kernel_rfl) (by kernel_rfl) (by kernel_rfl) (fun _ _ _ h => h) gno (Step.move rfl) rfl (fun _ h => h.sel [] rfl) (by kernel_rfl) ?_
                refine AV.take 3 #[true, false, true, true, false, false, false, false, false] rfl (by kernel_rfl) (by kernel_rfl) (by kernel_rfl) (fun _ _ _ h => h) gno (Step.move rfl) rfl (fun _ h => h.sel [] rfl) (by kernel_rfl) ?_
                refine AV.take 4 #[true, false, true, true, true, false, false, false, false] rfl (by kernel_rfl) (by kernel_rfl) (by kernel_rfl) (fun _ _ _ h => h) gno (Step.idx Try.underlying52 I3 (fun w h => h.rs hb (fun _ => hI _)) rfl rfl (rfl) _ rfl (by omega)) rfl (fun _ h => h.sel [] rfl) (by kernel_rfl) ?_
                refine AV.take 5 #[true, false, true, true, true, true, false, false, false] rfl (by kernel_rfl) (by kernel_rfl) (by kernel_rfl) (fun _ _ _ h => h) gno (Step.load Try.underlying3 rfl rfl (fun w h => (h.rs hb (fun _ => hI _)).cell0 (by omega) rfl)) rfl (fun _ h => h.sel [] rfl) (by kernel_rfl) ?_
                refine AV.all [1] (by kernel_rfl) (by decide) ?_
                refine ⟨⟨_, rfl, ?_⟩, trivial⟩
                · -- 1 comes up
                  refine OV.call [2, 2] (F := [_, _]) Try.func27 B27 N27 rfl rfl (fun w h => current_fn b Ag cg _) (fun _ hb => hb.elim) gno rfl (fun v L' hp => ?_)
                  obtain ⟨rfl, rfl⟩ := hp
                  refine AV.next #[true, true, true, true, true, true, false, false, false] (by kernel_rfl) (fun _ h => h.sel [] rfl) ?_
                  refine AV.all [6] (by kernel_rfl) (by decide) ?_
                  refine ⟨⟨_, rfl, ?_⟩, trivial⟩
                  · -- 6 comes up
                    refine OV.call [] Try.func14 B14 N14 rfl rfl (fun w h => (mod_fn _ (101) (by omega) (by omega)).fn w) (fun _ hb => hb.elim) gno rfl (fun v L' hp => ?_)
                    obtain ⟨rfl, rfl⟩ := hp
                    simp only [List.append_nil]
                    obtain ⟨q, hq, hq2⟩ := modN (l.getD j (intK .i64).d) (n := 101) (by omega)
                    rw [hq]
                    have hx : okX q := by unfold okX; omega
                    have hbd := hinv.2.bd
                    have hnx := hinv.2.next q
                    have hbn := hnx.bd
                    refine AV.next #[true, true, true, true, true, true, true, false, false] (by kernel_rfl) (fun _ h => h.sel [] rfl) ?_
                    refine AV.take 7 #[true, true, true, true, true, true, true, true, false] rfl (by kernel_rfl) (by kernel_rfl) (by kernel_rfl) (fun _ _ _ h => h) gno (Step.assign rfl) rfl (fun _ h => h.sel [] rfl) (by kernel_rfl) ?_
                    refine AV.take 8 #[true, true, true, true, true, true, true, true, true] rfl (by kernel_rfl) (by kernel_rfl) (by kernel_rfl) (fun _ _ _ h => h) gno (Step.assign rfl) rfl (fun _ h => h.sel [] rfl) (by kernel_rfl) ?_
                    refine AV.done (by kernel_rfl) ?_
                    refine KV.then_n ?_
                    refine KV.env [(4, _), (11, _), (12, _), (13, _), (15, _), (16, _), (17, _), (18, _), (19, _)] ⟨rfl, rfl, rfl, rfl, rfl, rfl, rfl, rfl, rfl, trivial⟩ ?_
                    refine CV.seq ?_
                    -- region 15 law.go:179
                    refine CV.region ?_
                    refine RV.op (OV.step gno (Step.move rfl) rfl ?_)
                    refine RV.op (OV.step gno (Step.move rfl) rfl ?_)
                    refine RV.op (OV.call [2, 2] (F := [_, _]) Try.func26 B26 N26 rfl rfl (fun w h => sample_fn b Ag cg g q hinv.2.ok) (fun _ hb => hb.elim) gno rfl (fun v L' hp => ?_))
                    obtain ⟨rfl, rfl⟩ := hp
                    rw [(samp_v g hx).1, (samp_v g hx).2]
                    refine RV.op (OV.step gno (Step.move rfl) rfl ?_)
                    refine RV.op (OV.step gno (Step.extract0 rfl rfl) rfl ?_)
                    refine RV.op (OV.step gno (Step.extract0 rfl rfl) rfl ?_)
                    refine RV.op (OV.step gno (Step.assign rfl) rfl ?_)
                    refine RV.op (OV.step gno (Step.assign rfl) rfl ?_)
                    refine RV.nil ?_
                    refine KV.then_n ?_
                    refine KV.env [(4, _), (11, _), (12, _), (13, _), (15, _), (16, _), (17, _), (18, _), (19, _), (20, _), (21, _)] ⟨rfl, rfl, rfl, rfl, rfl, rfl, rfl, rfl, rfl, rfl, rfl, trivial⟩ ?_
                    refine CV.seq ?_
                    refine CV.seq ?_
                    -- region 16 law.go:180
                    refine CV.region ?_
                    refine RV.op (OV.step gno (Step.move rfl) rfl ?_)
                    refine RV.op (OV.split gno (Step.neq rfl rfl) rfl (fun e8 => ?_) (fun e8 => ?_))
                    · -- True
                      exact absurd rfl e8
                    · -- False
                      refine RV.op (OV.step gno (Step.move rfl) rfl ?_)
                      refine RV.op (OV.step (gyes rfl) (Step.move rfl) rfl ?_)
                      refine RV.op (OV.step (gyes rfl) (Step.move rfl) rfl ?_)
                      refine RV.op (OV.call [2, 2] (F := [_, _]) Try.func27 B27 N27 rfl rfl (fun w h => current_fn b Ag cg _) (fun _ hb => hb.elim) (gyes rfl) rfl (fun v L' hp => ?_))
                      obtain ⟨rfl, rfl⟩ := hp
                      refine RV.op (OV.split (gyes rfl) (Step.neq rfl rfl) rfl (fun e8 => ?_) (fun e8 => ?_))
                      · -- True
                        exact absurd rfl e8
                      · -- False
                        refine RV.op (OV.step gno (Step.pick_f rfl rfl) rfl ?_)
                        refine RV.op (OV.step gno (Step.move rfl) rfl ?_)
                        refine RV.op (OV.step (gyes rfl) (Step.move rfl) rfl ?_)
                        refine RV.op (OV.step (gyes rfl) (Step.move rfl) rfl ?_)
                        refine RV.op (OV.split (gyes rfl) (Step.lss rfl rfl) rfl (fun e9 => ?_) (fun e9 => ?_))
                        · -- True
                          exfalso; omega
                        · -- False
                          refine RV.op (OV.step gno (Step.pick_f rfl rfl) rfl ?_)
                          refine RV.op (OV.step gno (Step.move rfl) rfl ?_)
                          refine RV.op (OV.step (gyes rfl) (Step.move rfl) rfl ?_)
                          refine RV.op (OV.step (gyes rfl) (Step.move rfl) rfl ?_)
                          refine RV.op (OV.split (gyes rfl) (Step.gtr rfl rfl) rfl (fun e9 => ?_) (fun e9 => ?_))
                          · -- True
                            exfalso; omega
                          · -- False
                            refine RV.op (OV.step gno (Step.pick_f rfl rfl) rfl ?_)
                            refine RV.op (OV.step gno (Step.move rfl) rfl ?_)
                            refine RV.op (OV.step (gyes rfl) (Step.move rfl) rfl ?_)
                            refine RV.op (OV.step (gyes rfl) (Step.move rfl) rfl ?_)
                            refine RV.op (OV.split (gyes rfl) (Step.lss rfl rfl) rfl (fun e9 => ?_) (fun e9 => ?_))
                            · -- True
                              exfalso; omega
                            · -- False
                              refine RV.op (OV.step gno (Step.pick_f rfl rfl) rfl ?_)
                              refine RV.op (OV.step gno (Step.move rfl) rfl ?_)
                              refine RV.op (OV.step (gyes rfl) (Step.move rfl) rfl ?_)
                              refine RV.op (OV.step (gyes rfl) (Step.move rfl) rfl ?_)
                              refine RV.op (OV.split (gyes rfl) (Step.gtr rfl rfl) rfl (fun e9 => ?_) (fun e9 => ?_))
                              · -- True
                                exfalso; omega
                              · -- False
                                refine RV.op (OV.step gno (Step.pick_f rfl rfl) rfl ?_)
                                refine RV.nil ?_
                                refine KV.then_n ?_
                                refine KV.env [(4, _), (11, _), (12, _), (13, _), (15, _), (16, _), (17, _), (18, _), (19, _), (20, _), (110, _)] ⟨rfl, rfl, rfl, rfl, rfl, rfl, rfl, rfl, rfl, rfl, rfl, trivial⟩ ?_
                                refine CV.cond_f rfl ?_
                                refine CV.skip ?_
                                refine KV.then_n ?_
                                refine KV.env [(4, _), (11, _), (12, _), (13, _), (15, _), (16, _), (17, _), (18, _), (19, _), (20, _)] ⟨rfl, rfl, rfl, rfl, rfl, rfl, rfl, rfl, rfl, rfl, trivial⟩ ?_
                                refine CV.block ?_
                                refine CV.seq ?_
                                -- region 20 law.go:184
                                refine CV.region ?_
                                refine RV.op (OV.step gno (Step.move rfl) rfl ?_)
                                refine RV.op (OV.step gno (Step.fieldAddr rfl (F45_0 _ _)) rfl ?_)
                                refine RV.op (OV.step gno (Step.load Try.underlying3 rfl rfl (fun w h => h.cell 1 rfl rfl)) rfl ?_)
                                refine RV.op (OV.split gno (Step.gtr rfl rfl) rfl (fun h20 => ?_) (fun h20 => ?_))
                                · -- True
                                  refine RV.op (OV.step gno (Step.assign rfl) rfl ?_)
                                  refine RV.nil ?_
                                  refine KV.then_n ?_
                                  refine KV.env [(4, _), (11, _), (12, _), (13, _), (15, _), (16, _), (17, _), (18, _), (19, _), (20, _), (139, _)] ⟨rfl, rfl, rfl, rfl, rfl, rfl, rfl, rfl, rfl, rfl, rfl, trivial⟩ ?_
                                  refine CV.cond_t rfl ?_
                                  refine CV.seq ?_
                                  -- region 21 law.go:185
                                  refine CV.region ?_
                                  refine RV.op (OV.step gno (Step.move rfl) rfl ?_)
                                  refine RV.op (OV.step gno (Step.move rfl) rfl ?_)
                                  refine RV.op (OV.split gno (Step.neq rfl rfl) rfl (fun e21 => ?_) (fun e21 => ?_))
                                  · -- True
                                    exfalso
                                    have hh := hinv.2.high hx h20
                                    omega
                                  · -- False
                                    refine RV.nil ?_
                                    refine KV.then_n ?_
                                    refine KV.env [(4, _), (11, _), (12, _), (13, _), (15, _), (16, _), (17, _), (146, _)] ⟨rfl, rfl, rfl, rfl, rfl, rfl, rfl, rfl, trivial⟩ ?_
                                    refine CV.cond_f rfl ?_
                                    refine CV.skip ?_
                                    refine KV.block_n ?_
                                    refine KV.block_n ?_
                                    refine KV.then_n ?_
                                    refine KV.env [(4, _), (11, _), (12, _), (13, _), (15, _), (16, _), (17, _)] ⟨rfl, rfl, rfl, rfl, rfl, rfl, rfl, trivial⟩ ?_
                                    -- region 13 law.go:177
                                    refine CV.region ?_
                                    refine RV.op (OV.step gno (Step.move rfl) rfl ?_)
                                    (first | refine RV.op (OV.step gno (Step.add rfl rfl (wI64 (by omega) (by omega))) rfl ?_) | refine RV.op (OV.step gno (Step.add rfl rfl rfl) rfl ?_))
                                    refine RV.op (OV.step gno (Step.assign rfl) rfl ?_)
                                    refine RV.nil ?_
                                    refine KV.then_n ?_
                                    refine KV.env [(4, _), (11, _), (12, _), (13, _), (15, _), (16, _), (17, _)] ⟨rfl, rfl, rfl, rfl, rfl, rfl, rfl, trivial⟩ ?_
                                    refine KV.sel [0, 0, 0, 0] [_, _, _, _] rfl ?_
                                    exact KV.loop2 (x := j) (y := g) (j + 1) (sampG g q) ⟨by omega, hnx⟩ (by omega) ⟨rfl, rfl, rfl, rfl, rfl, rfl, rfl, trivial⟩ (fun _ h => h)
                                · -- False
                                  refine RV.op (OV.step gno (Step.assign rfl) rfl ?_)
                                  refine RV.nil ?_
                                  refine KV.then_n ?_
                                  refine KV.env [(4, _), (11, _), (12, _), (13, _), (15, _), (16, _), (17, _), (18, _), (19, _), (20, _), (139, _)] ⟨rfl, rfl, rfl, rfl, rfl, rfl, rfl, rfl, rfl, rfl, rfl, trivial⟩ ?_
                                  refine CV.cond_f rfl ?_
                                  refine CV.seq ?_
                                  -- region 23 law.go:188
                                  refine CV.region ?_
                                  refine RV.op (OV.step gno (Step.move rfl) rfl ?_)
                                  refine RV.op (OV.step gno (Step.fieldAddr rfl (F45_1 _ _)) rfl ?_)
                                  refine RV.op (OV.step gno (Step.load Try.underlying3 rfl rfl (fun w h => h.cell 1 rfl rfl)) rfl ?_)
                                  refine RV.op (OV.split gno (Step.geq rfl rfl) rfl (fun h23 => ?_) (fun h23 => ?_))
                                  · -- True
                                    refine RV.op (OV.step gno (Step.assign rfl) rfl ?_)
                                    refine RV.nil ?_
                                    refine KV.then_n ?_
                                    refine KV.env [(4, _), (11, _), (12, _), (13, _), (15, _), (16, _), (17, _), (18, _), (19, _), (20, _), (147, _)] ⟨rfl, rfl, rfl, rfl, rfl, rfl, rfl, rfl, rfl, rfl, rfl, trivial⟩ ?_
                                    refine CV.cond_t rfl ?_
                                    refine CV.seq ?_
                                    -- region 24 law.go:189
                                    refine CV.region ?_
                                    refine RV.op (OV.step gno (Step.move rfl) rfl ?_)
                                    refine RV.op (OV.step gno (Step.move rfl) rfl ?_)
                                    refine RV.op (OV.split gno (Step.neq rfl rfl) rfl (fun e24 => ?_) (fun e24 => ?_))
                                    · -- True
                                      exfalso
                                      have hh := hinv.2.mid hx h20 h23
                                      omega
                                    · -- False
                                      refine RV.nil ?_
                                      refine KV.then_n ?_
                                      refine KV.env [(4, _), (11, _), (12, _), (13, _), (15, _), (16, _), (17, _), (154, _)] ⟨rfl, rfl, rfl, rfl, rfl, rfl, rfl, rfl, trivial⟩ ?_
                                      refine CV.cond_f rfl ?_
                                      refine CV.skip ?_
                                      refine KV.block_n ?_
                                      refine KV.block_n ?_
                                      refine KV.then_n ?_
                                      refine KV.env [(4, _), (11, _), (12, _), (13, _), (15, _), (16, _), (17, _)] ⟨rfl, rfl, rfl, rfl, rfl, rfl, rfl, trivial⟩ ?_
                                      -- region 13 law.go:177
                                      refine CV.region ?_
                                      refine RV.op (OV.step gno (Step.move rfl) rfl ?_)
                                      (first | refine RV.op (OV.step gno (Step.add rfl rfl (wI64 (by omega) (by omega))) rfl ?_) | refine RV.op (OV.step gno (Step.add rfl rfl rfl) rfl ?_))
                                      refine RV.op (OV.step gno (Step.assign rfl) rfl ?_)
                                      refine RV.nil ?_
                                      refine KV.then_n ?_
                                      refine KV.env [(4, _), (11, _), (12, _), (13, _), (15, _), (16, _), (17, _)] ⟨rfl, rfl, rfl, rfl, rfl, rfl, rfl, trivial⟩ ?_
                                      refine KV.sel [0, 0, 0, 0] [_, _, _, _] rfl ?_
                                      exact KV.loop2 (x := j) (y := g) (j + 1) (sampG g q) ⟨by omega, hnx⟩ (by omega) ⟨rfl, rfl, rfl, rfl, rfl, rfl, rfl, trivial⟩ (fun _ h => h)
                                  · -- False
                                    have hlow := hinv.2.low hx h20 h23
                                    refine RV.op (OV.step gno (Step.assign rfl) rfl ?_)
                                    refine RV.nil ?_
                                    refine KV.then_n ?_
                                    refine KV.env [(4, _), (11, _), (12, _), (13, _), (15, _), (16, _), (17, _), (18, _), (19, _), (20, _), (147, _)] ⟨rfl, rfl, rfl, rfl, rfl, rfl, rfl, rfl, rfl, rfl, rfl, trivial⟩ ?_
                                    refine CV.cond_f rfl ?_
                                    refine CV.seq ?_
                                    -- region 18 law.go:193
                                    have hb1 := hok.big (show g.cu < T.length by omega)
                                    have hb2 := hok.big (show (sampG g q).cu < T.length by omega)
                                    unfold pt at hb1 hb2
                                    have hm1 := mulB (f := (T.getD g.cu ptK.d).f) (show 0 ≤ (q : Int) by omega) (by omega) (by omega) (by omega)
                                    have hm2 := mulB (f := (T.getD (sampG g q).cu ptK.d).f) (show 0 ≤ U by omega) hU2 (by omega) (by omega)
                                    refine CV.still (by kernel_rfl) (by kernel_rfl) (fun _ h => h.drew) ?_
                                    refine SV.step gno (Step.move rfl) rfl ?_
                                    refine SV.step gno (Step.move rfl) rfl ?_
                                    refine SV.split gno (Step.gtr rfl rfl) rfl (fun e18 => ?_) (fun e18 => ?_)
                                    · -- True
                                      exfalso; omega
                                    · -- False
                                      refine SV.step gno (Step.move rfl) rfl ?_
                                      refine SV.step (gyes rfl) (Step.move rfl) rfl ?_
                                      refine SV.step (gyes rfl) (Step.move rfl) rfl ?_
                                      refine SV.split (gyes rfl) (Step.lss rfl rfl) rfl (fun e19 => ?_) (fun e19 => ?_)
                                      · -- True
                                        refine SV.step (gyes rfl) (Step.move rfl) rfl ?_
                                        refine SV.step (gyes rfl) (Step.move rfl) rfl ?_
                                        (first | refine SV.step (gyes rfl) (Step.convI Try.underlying3 Try.underlying23 rfl (wU64 (by omega) (by omega))) rfl ?_ | refine SV.step (gyes rfl) (Step.convI Try.underlying3 Try.underlying23 rfl rfl) rfl ?_)
                                        refine SV.step (gyes rfl) (Step.move rfl) rfl ?_
                                        refine SV.step (gyes rfl) (Step.move rfl) rfl ?_
                                        refine SV.step (gyes rfl) (Step.idx Try.underlying22 I25 (fun w h => h.os 0 rfl) rfl rfl (rfl) _ rfl (by omega)) rfl ?_
                                        refine SV.step (gyes rfl) (Step.fieldAddr rfl (F25_0 _ _)) rfl ?_
                                        refine SV.step (gyes rfl) (Step.load Try.underlying23 rfl rfl (fun w h => (h.os 0 rfl).cell0 (by omega) rfl)) rfl ?_
                                        (first | refine SV.step (gyes rfl) (Step.mul rfl rfl (wU64 (by omega) (by omega))) rfl ?_ | refine SV.step (gyes rfl) (Step.mul rfl rfl rfl) rfl ?_)
                                        refine SV.step (gyes rfl) (Step.fieldAddr rfl (F45_0 _ _)) rfl ?_
                                        refine SV.step (gyes rfl) (Step.load Try.underlying3 rfl rfl (fun w h => h.cell 1 rfl rfl)) rfl ?_
                                        (first | refine SV.step (gyes rfl) (Step.convI Try.underlying3 Try.underlying23 rfl (wU64 (by omega) (by omega))) rfl ?_ | refine SV.step (gyes rfl) (Step.convI Try.underlying3 Try.underlying23 rfl rfl) rfl ?_)
                                        refine SV.step (gyes rfl) (Step.move rfl) rfl ?_
                                        refine SV.step (gyes rfl) (Step.move rfl) rfl ?_
                                        refine SV.step (gyes rfl) (Step.idx Try.underlying22 I25 (fun w h => h.os 0 rfl) rfl rfl (rfl) _ rfl (by omega)) rfl ?_
                                        refine SV.step (gyes rfl) (Step.fieldAddr rfl (F25_0 _ _)) rfl ?_
                                        refine SV.step (gyes rfl) (Step.load Try.underlying23 rfl rfl (fun w h => (h.os 0 rfl).cell0 (by omega) rfl)) rfl ?_
                                        (first | refine SV.step (gyes rfl) (Step.mul rfl rfl (wU64 (by omega) (by omega))) rfl ?_ | refine SV.step (gyes rfl) (Step.mul rfl rfl rfl) rfl ?_)
                                        refine SV.split (gyes rfl) (Step.gtr rfl rfl) rfl (fun e20 => ?_) (fun e20 => ?_)
                                        · -- True
                                          exfalso; omega
                                        · -- False
                                          refine SV.step (gyes rfl) (Step.pick_t rfl rfl) rfl ?_
                                          refine SV.step gno (Step.pick_f rfl rfl) rfl ?_
                                          refine SV.nil ?_
                                          refine KV.then_n ?_
                                          refine KV.env [(4, _), (11, _), (12, _), (13, _), (15, _), (16, _), (17, _), (138, _)] ⟨rfl, rfl, rfl, rfl, rfl, rfl, rfl, rfl, trivial⟩ ?_
                                          refine CV.cond_f rfl ?_
                                          refine CV.skip ?_
                                          refine KV.block_n ?_
                                          refine KV.block_n ?_
                                          refine KV.then_n ?_
                                          refine KV.env [(4, _), (11, _), (12, _), (13, _), (15, _), (16, _), (17, _)] ⟨rfl, rfl, rfl, rfl, rfl, rfl, rfl, trivial⟩ ?_
                                          -- region 13 law.go:177
                                          refine CV.region ?_
                                          refine RV.op (OV.step gno (Step.move rfl) rfl ?_)
                                          (first | refine RV.op (OV.step gno (Step.add rfl rfl (wI64 (by omega) (by omega))) rfl ?_) | refine RV.op (OV.step gno (Step.add rfl rfl rfl) rfl ?_))
                                          refine RV.op (OV.step gno (Step.assign rfl) rfl ?_)
                                          refine RV.nil ?_
                                          refine KV.then_n ?_
                                          refine KV.env [(4, _), (11, _), (12, _), (13, _), (15, _), (16, _), (17, _)] ⟨rfl, rfl, rfl, rfl, rfl, rfl, rfl, trivial⟩ ?_
                                          refine KV.sel [0, 0, 0, 0] [_, _, _, _] rfl ?_
                                          exact KV.loop2 (x := j) (y := g) (j + 1) (sampG g q) ⟨by omega, hnx⟩ (by omega) ⟨rfl, rfl, rfl, rfl, rfl, rfl, rfl, trivial⟩ (fun _ h => h)
                                      · -- False
                                        refine SV.step (gyes rfl) (Step.move rfl) rfl ?_
                                        refine SV.skip rfl rfl ?_
                                        refine SV.skip rfl rfl ?_
                                        refine SV.skip rfl rfl ?_
                                        refine SV.skip rfl rfl ?_
                                        refine SV.skip rfl rfl ?_
                                        refine SV.skip rfl rfl ?_
                                        refine SV.skip rfl rfl ?_
                                        refine SV.skip rfl rfl ?_
                                        refine SV.skip rfl rfl ?_
                                        refine SV.skip rfl rfl ?_
                                        refine SV.skip rfl rfl ?_
                                        refine SV.skip rfl rfl ?_
                                        refine SV.skip rfl rfl ?_
                                        refine SV.skip rfl rfl ?_
                                        refine SV.skip rfl rfl ?_
                                        refine SV.skip rfl rfl ?_
                                        refine SV.skip rfl rfl ?_
                                        refine SV.skip rfl rfl ?_
                                        refine SV.step (gyes rfl) (Step.pick_f rfl rfl) rfl ?_
                                        refine SV.step gno (Step.pick_f rfl rfl) rfl ?_
                                        refine SV.nil ?_
                                        refine KV.then_n ?_
                                        refine KV.env [(4, _), (11, _), (12, _), (13, _), (15, _), (16, _), (17, _), (138, _)] ⟨rfl, rfl, rfl, rfl, rfl, rfl, rfl, rfl, trivial⟩ ?_
                                        refine CV.cond_f rfl ?_
                                        refine CV.skip ?_
                                        refine KV.block_n ?_
                                        refine KV.block_n ?_
                                        refine KV.then_n ?_
                                        refine KV.env [(4, _), (11, _), (12, _), (13, _), (15, _), (16, _), (17, _)] ⟨rfl, rfl, rfl, rfl, rfl, rfl, rfl, trivial⟩ ?_
                                        -- region 13 law.go:177
                                        refine CV.region ?_
                                        refine RV.op (OV.step gno (Step.move rfl) rfl ?_)
                                        (first | refine RV.op (OV.step gno (Step.add rfl rfl (wI64 (by omega) (by omega))) rfl ?_) | refine RV.op (OV.step gno (Step.add rfl rfl rfl) rfl ?_))
                                        refine RV.op (OV.step gno (Step.assign rfl) rfl ?_)
                                        refine RV.nil ?_
                                        refine KV.then_n ?_
                                        refine KV.env [(4, _), (11, _), (12, _), (13, _), (15, _), (16, _), (17, _)] ⟨rfl, rfl, rfl, rfl, rfl, rfl, rfl, trivial⟩ ?_
                                        refine KV.sel [0, 0, 0, 0] [_, _, _, _] rfl ?_
                                        exact KV.loop2 (x := j) (y := g) (j + 1) (sampG g q) ⟨by omega, hnx⟩ (by omega) ⟨rfl, rfl, rfl, rfl, rfl, rfl, rfl, trivial⟩ (fun _ h => h)
              · -- False
                refine RV.nil ?_
                refine KV.then_n ?_
                refine KV.env [(4, _), (11, _), (12, _), (13, _), (15, _), (16, _), (17, _), (67, _)] ⟨rfl, rfl, rfl, rfl, rfl, rfl, rfl, rfl, trivial⟩ ?_
                refine CV.cond_f rfl ?_
                refine CV.exit ?_
                refine KV.then_exit ?_
                refine KV.then_exit ?_
                refine KV.block_hit ?_
                refine KV.then_n ?_
                refine KV.env [] trivial ?_
                refine CV.seq ?_
                -- region 26 law.go:198
                refine CV.region ?_
                refine RV.op (OV.call [] (F := [_, _, _, _]) Try.func12 B12 N12 rfl rfl (fun w h => awake_fn) (fun _ hb => hb.elim) gno rfl (fun v L' hp => ?_))
                obtain ⟨rfl, rfl⟩ := hp
                simp only [List.append_nil]
                refine RV.op (OV.step gno (Step.assign rfl) rfl ?_)
                refine RV.nil ?_
                refine KV.then_n ?_
                refine KV.env [(10, _)] ⟨rfl, trivial⟩ ?_
                refine CV.ret ?_
                -- return at r26
                refine KV.sel [] [] rfl ?_
                exact KV.ret1 rfl rfl _ (fun _ h => h) ⟨rfl, rfl⟩
end Go.Proofs.Ytaafpnoffdcbnaa
