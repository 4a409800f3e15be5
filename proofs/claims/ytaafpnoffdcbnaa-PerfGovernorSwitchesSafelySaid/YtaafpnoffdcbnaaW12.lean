/-
  Walks, part 12.
-/
import Derived.Test.YtaafpnoffdcbnaaTab12
import Derived.Test.YtaafpnoffdcbnaaW11
set_option linter.unusedSimpArgs false
set_option linter.unusedVariables false
namespace Go.Proofs.Ytaafpnoffdcbnaa
open Go.Sv Go.Perf
set_option maxRecDepth 100000 in
set_option maxHeartbeats 1000000 in
theorem switches_fn {A : Option Addr} {n c : Nat} {raw : List Pt} {B : Option Addr} {m d : Nat} {l : List Int} {w : World} (hr : RS w ptK A raw) (hn : n = raw.length) (hf : fitT raw) (u dd s : Int) (hb : RS w (intK .i64) B l) (hm : m = l.length) : Fx Try.prog 9 [.slice A n c, .agg #[.int .i64 u, .int .i64 dd, .int .i64 s], .slice B m d] w [] no (fun v L => v = .bool true ∧ L = []) := by
  subst hn
  subst hm
  refine Sv.Fx.body Try.func9 rfl T9 rfl ?_
  intro I hro hI
  refine KV.env [(0, _), (1, _), (2, _)] ⟨rfl, rfl, rfl, trivial⟩ ?_
  obtain ⟨U, D, S, hP, hU1, hU2, hD, hS1, hS2⟩ := prmN u dd s
  refine CV.seq ?_
  -- region 0 across.go:10
  refine CV.region ?_
  refine RV.op (OV.box (t := 45) #[_, _, _] rfl rfl gno rfl (fun b0_0 => ?_))
  refine RV.op (OV.step gno (Step.assign rfl) rfl ?_)
  refine RV.nil ?_
  refine KV.then_n ?_
  refine KV.env [(0, _), (2, _), (4, _)] ⟨rfl, rfl, rfl, trivial⟩ ?_
  refine CV.seq ?_
  refine CV.seq ?_
  -- region 1 across.go:11
  refine CV.region ?_
  refine RV.op (OV.step gno (Step.move rfl) rfl ?_)
  refine RV.op (OV.step gno (Step.lenSl Try.underlying22 rfl) rfl ?_)
  refine RV.op (OV.split gno (Step.gtr rfl rfl) rfl (fun hlong => ?_) (fun hlong => ?_))
  · -- True
    refine RV.op (OV.step gno (Step.move rfl) rfl ?_)
    refine RV.op (OV.skip rfl rfl ?_)
    refine RV.op (OV.skip rfl rfl ?_)
    refine RV.op (OV.skip rfl rfl ?_)
    refine RV.op (OV.step gno (Step.pick_t rfl rfl) rfl ?_)
    refine RV.nil ?_
    refine KV.then_n ?_
    refine KV.env [(0, _), (2, _), (4, _), (24, _)] ⟨rfl, rfl, rfl, rfl, trivial⟩ ?_
    refine CV.cond_t rfl ?_
    refine CV.seq ?_
    -- region 2 across.go:12
    refine CV.region ?_
    refine RV.op (OV.call [] (F := [_]) Try.func12 B12 N12 rfl rfl (fun w h => awake_fn) (fun _ hb => hb.elim) gno rfl (fun v L' hp => ?_))
    obtain ⟨rfl, rfl⟩ := hp
    simp only [List.append_nil]
    refine RV.op (OV.step gno (Step.assign rfl) rfl ?_)
    refine RV.nil ?_
    refine KV.then_n ?_
    refine KV.env [(6, _)] ⟨rfl, trivial⟩ ?_
    refine CV.ret ?_
    refine KV.then_ret ?_
    -- return at r2
    refine KV.sel [] [] rfl ?_
    exact KV.ret1 rfl rfl _ (fun _ h => h) ⟨rfl, rfl⟩
  · -- False
    refine RV.op (OV.step gno (Step.move rfl) rfl ?_)
    refine RV.op (OV.step (gyes rfl) (Step.move rfl) rfl ?_)
    refine RV.op (OV.step (gyes rfl) (Step.lenSl Try.underlying52 rfl) rfl ?_)
    refine RV.op (OV.split (gyes rfl) (Step.gtr rfl rfl) rfl (fun hlong2 => ?_) (fun hlong2 => ?_))
    · -- True
      refine RV.op (OV.step gno (Step.pick_f rfl rfl) rfl ?_)
      refine RV.nil ?_
      refine KV.then_n ?_
      refine KV.env [(0, _), (2, _), (4, _), (24, _)] ⟨rfl, rfl, rfl, rfl, trivial⟩ ?_
      refine CV.cond_t rfl ?_
      refine CV.seq ?_
      -- region 2 across.go:12
      refine CV.region ?_
      refine RV.op (OV.call [] (F := [_]) Try.func12 B12 N12 rfl rfl (fun w h => awake_fn) (fun _ hb => hb.elim) gno rfl (fun v L' hp => ?_))
      obtain ⟨rfl, rfl⟩ := hp
      simp only [List.append_nil]
      refine RV.op (OV.step gno (Step.assign rfl) rfl ?_)
      refine RV.nil ?_
      refine KV.then_n ?_
      refine KV.env [(6, _)] ⟨rfl, trivial⟩ ?_
      refine CV.ret ?_
      refine KV.then_ret ?_
      -- return at r2
      refine KV.sel [] [] rfl ?_
      exact KV.ret1 rfl rfl _ (fun _ h => h) ⟨rfl, rfl⟩
    · -- False
      have hl : raw.length ≤ 1000000 := by omega
      refine RV.op (OV.step gno (Step.pick_f rfl rfl) rfl ?_)
      refine RV.nil ?_
      refine KV.then_n ?_
      refine KV.env [(0, _), (2, _), (4, _), (24, _)] ⟨rfl, rfl, rfl, rfl, trivial⟩ ?_
      refine CV.cond_f rfl ?_
      refine CV.skip ?_
      refine KV.then_n ?_
      refine KV.env [(0, _), (2, _), (4, _)] ⟨rfl, rfl, rfl, trivial⟩ ?_
      refine CV.seq ?_
      -- region 3 across.go:14
      refine CV.region ?_
      refine RV.op (OV.step gno (Step.move rfl) rfl ?_)
      refine RV.op (OV.call [] (F := [_]) Try.func13 B13 N13 rfl rfl (fun w h => table_fn (h.rs hr (fun _ => hI _)) rfl hl hf) (fun _ hb => hb.elim) gno rfl (fun v L' hp => ?_))
      obtain ⟨At, ct, rfl, rfl⟩ := hp
      obtain ⟨T, hT⟩ : ∃ T, tableM raw = T := ⟨_, rfl⟩
      rw [hT]
      have hok : okT T := hT ▸ table_ok hf
      have hlT := hok.1
      have hfT : fitT T := hT ▸ fitT_table hf
      have hE := newE_zero hok hU1 hU2 hD hS1 hS2
      have hg0 := gov0_ok hE
      refine RV.op (OV.step gno (Step.assign rfl) rfl ?_)
      refine RV.nil ?_
      refine KV.then_n ?_
      refine KV.env [(2, _), (4, _), (7, _)] ⟨rfl, rfl, rfl, trivial⟩ ?_
      refine CV.seq ?_
      -- region 4 across.go:15
      refine CV.region ?_
      refine RV.op (OV.step gno (Step.move rfl) rfl ?_)
      refine RV.op (OV.step gno (Step.loadN _ Try.underlying45 rfl I45 rfl rfl (fun w h => h.cells 0 rfl)) rfl ?_)
      refine RV.op (OV.call [] (F := [_, _]) Try.func24 B24 N24 rfl rfl (fun w h => params2_fn hP) (fun _ hb => hb.elim) gno rfl (fun v L' hp => ?_))
      obtain ⟨rfl, rfl⟩ := hp
      simp only [List.append_nil]
      refine RV.op (OV.call [] (F := [_, _]) Try.func25 B25 N25 rfl rfl (fun w h => newG_fn (h.os 1 rfl) rfl (by omega) U D S hE) (fun _ hb => hb.elim) gno rfl (fun v L' hp => ?_))
      obtain ⟨b, Ag, cg, rfl, rfl⟩ := hp
      refine RV.op (OV.step gno (Step.move rfl) rfl ?_)
      refine RV.op (OV.step gno (Step.extract0 rfl rfl) rfl ?_)
      refine RV.op (OV.step gno (Step.extract0 rfl rfl) rfl ?_)
      refine RV.op (OV.step gno (Step.assign rfl) rfl ?_)
      refine RV.op (OV.step gno (Step.assign rfl) rfl ?_)
      refine RV.nil ?_
      refine KV.then_n ?_
      refine KV.env [(2, _), (7, _), (8, _), (9, _)] ⟨rfl, rfl, rfl, rfl, trivial⟩ ?_
      refine CV.seq ?_
      refine CV.seq ?_
      -- region 5 across.go:16
      refine CV.region ?_
      refine RV.op (OV.step gno (Step.move rfl) rfl ?_)
      refine RV.op (OV.split gno (Step.neq rfl rfl) rfl (fun e8 => ?_) (fun e8 => ?_))
      · -- True
        exact absurd rfl e8
      · -- False
        refine RV.op (OV.step gno (Step.move rfl) rfl ?_)
        refine RV.op (OV.step (gyes rfl) (Step.move rfl) rfl ?_)
        refine RV.op (OV.split (gyes rfl) (Step.eqlP Try.underlying47 rfl rfl) rfl (fun e8 => ?_) (fun e8 => ?_))
        · -- True
          cases e8
        · -- False
          refine RV.op (OV.step gno (Step.pick_f rfl rfl) rfl ?_)
          refine RV.nil ?_
          refine KV.then_n ?_
          refine KV.env [(2, _), (7, _), (8, _), (40, _)] ⟨rfl, rfl, rfl, rfl, trivial⟩ ?_
          refine CV.cond_f rfl ?_
          refine CV.skip ?_
          refine KV.then_n ?_
          refine KV.env [(2, _), (7, _), (8, _)] ⟨rfl, rfl, rfl, trivial⟩ ?_
          refine CV.seq ?_
          -- region 7 across.go:19
          refine CV.region ?_
          refine RV.op (OV.step gno (Step.move rfl) rfl ?_)
          refine RV.op (OV.call [2, 2] (F := [_, _]) Try.func27 B27 N27 rfl rfl (fun w h => current_fn b Ag cg (gov0 T U D S)) (fun _ hb => hb.elim) gno rfl (fun v L' hp => ?_))
          obtain ⟨rfl, rfl⟩ := hp
          refine RV.op (OV.step gno (Step.assign rfl) rfl ?_)
          refine RV.nil ?_
          refine KV.then_n ?_
          refine KV.env [(2, _), (7, _), (8, _), (10, _)] ⟨rfl, rfl, rfl, rfl, trivial⟩ ?_
          refine CV.seq ?_
          -- region 8 across.go:20
          refine CV.region ?_
          refine RV.op (OV.step gno (Step.assign rfl) rfl ?_)
          refine RV.nil ?_
          refine KV.then_n ?_
          refine KV.env [(2, _), (7, _), (8, _), (10, _), (11, _)] ⟨rfl, rfl, rfl, rfl, rfl, trivial⟩ ?_
          refine CV.seq ?_
          refine CV.seq ?_
          -- region 9 across.go:21
          refine KV.heap (fun w h => h.nilOS (e := 40) (K := popK)) ?_
          refine CV.region ?_
          refine RV.op (OV.step gno (Step.assign rfl) rfl ?_)
          refine RV.nil ?_
          refine KV.then_n ?_
          refine KV.env [(2, _), (7, _), (8, _), (10, _), (11, _), (12, _)] ⟨rfl, rfl, rfl, rfl, rfl, rfl, trivial⟩ ?_
          refine CV.block ?_
          -- loop L10; live [2, 7, 8, 10, 11, 12]
          refine KV.sel [1, 1, 1, 1] [_, _, _, _] rfl ?_
          refine CV.loop2 (fun (j : Nat) (z : SwS) => j ≤ l.length ∧ z.ok T j) (fun (j : Nat) (z : SwS) => l.length - j) (fun (j : Nat) (z : SwS) => [(2, .slice B l.length d), (7, .slice At T.length ct), (8, .pointer (some ⟨b, 0, none⟩)), (10, .int .i64 z.g.cu), (11, .slice z.A z.acc.length z.c), (12, .int .i64 j)]) (fun (j : Nat) (z : SwS) => Hp I w ([OS 25 ptK At ct T] ++ gobj 66 b Ag cg z.g ++ [OS 40 popK z.A z.c z.acc])) (0) (⟨gov0 T U D S, [], none, 0⟩) ⟨Nat.zero_le _, hg0, rfl, fun _ => rfl, Nat.zero_le _⟩ ⟨rfl, rfl, rfl, rfl, rfl, rfl, trivial⟩ (fun _ h => h) ?_
          intro j z hinv
          refine CV.seq ?_
          refine CV.seq ?_
          -- region 10 across.go:21
          refine CV.region ?_
          refine RV.op (OV.step gno (Step.move rfl) rfl ?_)
          refine RV.op (OV.step gno (Step.move rfl) rfl ?_)
          refine RV.op (OV.step gno (Step.lenSl Try.underlying52 rfl) rfl ?_)
          refine RV.op (OV.split gno (Step.lss rfl rfl) rfl (fun hj => ?_) (fun hj => ?_))
          · -- True
            refine RV.nil ?_
            refine KV.then_n ?_
            refine KV.env [(2, _), (7, _), (8, _), (10, _), (11, _), (12, _), (46, _)] ⟨rfl, rfl, rfl, rfl, rfl, rfl, rfl, trivial⟩ ?_
            refine CV.cond_t rfl ?_
            refine CV.skip ?_
            refine KV.then_n ?_
            refine KV.env [(2, _), (7, _), (8, _), (10, _), (11, _), (12, _)] ⟨rfl, rfl, rfl, rfl, rfl, rfl, trivial⟩ ?_
            refine CV.seq ?_
            refine CV.block ?_
            refine CV.seq ?_
            -- region 12 across.go:22
            refine CV.region ?_
            refine RV.op (OV.step gno (Step.move rfl) rfl ?_)
            refine RV.op (OV.step gno (Step.move rfl) rfl ?_)
            refine RV.op (OV.step gno (Step.move rfl) rfl ?_)
            refine RV.op (OV.step gno (Step.idx Try.underlying52 I3 (fun w h => h.rs hb (fun _ => hI _)) rfl rfl (rfl) _ rfl (by omega)) rfl ?_)
            refine RV.op (OV.step gno (Step.load Try.underlying3 rfl rfl (fun w h => (h.rs hb (fun _ => hI _)).cell0 (by omega) rfl)) rfl ?_)
            refine RV.op (OV.call [] Try.func14 B14 N14 rfl rfl (fun w h => (mod_fn _ 101 (by omega) (by omega)).fn w) (fun _ hb => hb.elim) gno rfl (fun v L' hp => ?_))
            obtain ⟨rfl, rfl⟩ := hp
            simp only [List.append_nil]
            obtain ⟨q, hq, hq2⟩ := modN (l.getD j (intK .i64).d) (n := 101) (by omega)
            rw [hq]
            refine RV.op (OV.call [1, 1] (F := [_, _]) Try.func26 B26 N26 rfl rfl (fun w h => sample_fn b Ag cg z.g q hinv.2.g) (fun _ hb => hb.elim) gno rfl (fun v L' hp => ?_))
            obtain ⟨rfl, rfl⟩ := hp
            rw [(samp_v z.g (x := q) (by unfold okX; omega)).1, (samp_v z.g (x := q) (by unfold okX; omega)).2]
            refine RV.op (OV.step gno (Step.move rfl) rfl ?_)
            refine RV.op (OV.step gno (Step.extract0 rfl rfl) rfl ?_)
            refine RV.op (OV.step gno (Step.extract0 rfl rfl) rfl ?_)
            refine RV.op (OV.step gno (Step.assign rfl) rfl ?_)
            refine RV.op (OV.step gno (Step.assign rfl) rfl ?_)
            refine RV.nil ?_
            refine KV.then_n ?_
            refine KV.env [(2, _), (7, _), (8, _), (10, _), (11, _), (12, _), (13, _), (14, _)] ⟨rfl, rfl, rfl, rfl, rfl, rfl, rfl, rfl, trivial⟩ ?_
            refine CV.seq ?_
            -- region 13 across.go:23
            refine CV.region ?_
            refine RV.op (OV.step gno (Step.move rfl) rfl ?_)
            refine RV.op (OV.step gno (Step.move rfl) rfl ?_)
            refine RV.op (OV.step gno (Step.move rfl) rfl ?_)
            refine RV.op (OV.call [] (F := [_, _, _, _]) Try.func19 B19 N19 rfl rfl (fun w h => trans_fn (h.os 0 rfl) rfl (by omega) z.g.cu (sampG z.g q).cu) (fun _ hb => hb.elim) gno rfl (fun v L' hp => ?_))
            obtain ⟨Ao, co, rfl, rfl⟩ := hp
            refine RV.op (OV.step gno (Step.move rfl) rfl ?_)
            refine RV.op (OV.step gno (Step.extract0 rfl rfl) rfl ?_)
            refine RV.op (OV.step gno (Step.extract0 rfl rfl) rfl ?_)
            refine RV.op (OV.step gno (Step.assign rfl) rfl ?_)
            refine RV.op (OV.step gno (Step.assign rfl) rfl ?_)
            refine RV.nil ?_
            refine KV.then_n ?_
            refine KV.env [(2, _), (7, _), (8, _), (11, _), (12, _), (13, _), (14, _), (15, _), (16, _)] ⟨rfl, rfl, rfl, rfl, rfl, rfl, rfl, rfl, rfl, trivial⟩ ?_
            refine CV.seq ?_
            refine CV.seq ?_
            -- region 14 across.go:24
            refine CV.region ?_
            refine RV.op (OV.step gno (Step.move rfl) rfl ?_)
            refine RV.op (OV.split gno (Step.neq rfl rfl) rfl (fun e8 => ?_) (fun e8 => ?_))
            · -- True
              exact absurd rfl e8
            · -- False
              refine RV.op (OV.step gno (Step.move rfl) rfl ?_)
              refine RV.op (OV.step (gyes rfl) (Step.move rfl) rfl ?_)
              refine RV.op (OV.split (gyes rfl) (Step.neq rfl rfl) rfl (fun e9 => ?_) (fun e9 => ?_))
              · -- True
                exact absurd (tr_err hok hinv.2.cu (hinv.2.next_cu _)) e9
              · -- False
                refine RV.op (OV.step gno (Step.pick_f rfl rfl) rfl ?_)
                refine RV.nil ?_
                refine KV.then_n ?_
                refine KV.env [(2, _), (7, _), (8, _), (11, _), (12, _), (13, _), (15, _), (71, _)] ⟨rfl, rfl, rfl, rfl, rfl, rfl, rfl, rfl, trivial⟩ ?_
                refine CV.cond_f rfl ?_
                refine CV.skip ?_
                refine KV.then_n ?_
                refine KV.env [(2, _), (7, _), (8, _), (11, _), (12, _), (13, _), (15, _)] ⟨rfl, rfl, rfl, rfl, rfl, rfl, rfl, trivial⟩ ?_
                refine CV.seq ?_
                -- region 16 across.go:27
                refine CV.region ?_
                refine RV.op (OV.step gno (Step.move rfl) rfl ?_)
                refine RV.op (OV.step gno (Step.move rfl) rfl ?_)
                refine RV.op (OV.append 1 Try.underlying35 I40 rfl rfl rfl rfl rfl rfl (fun w h => h.os 4 rfl) (by have := hinv.2.len; have := transM_len T z.g.cu (sampG z.g q).cu; omega) (by have := hinv.2.len; have := transM_len T z.g.cu (sampG z.g q).cu; omega) gno rfl (fun A3 c3 => ?_))
                refine RV.op (OV.step gno (Step.assign rfl) rfl ?_)
                refine RV.nil ?_
                refine KV.then_n ?_
                refine KV.env [(2, _), (7, _), (8, _), (11, _), (12, _), (13, _)] ⟨rfl, rfl, rfl, rfl, rfl, rfl, trivial⟩ ?_
                -- region 17 across.go:28
                refine CV.region ?_
                refine RV.op (OV.step gno (Step.move rfl) rfl ?_)
                refine RV.op (OV.step gno (Step.assign rfl) rfl ?_)
                refine RV.nil ?_
                refine KV.block_n ?_
                refine KV.then_n ?_
                refine KV.env [(2, _), (7, _), (8, _), (10, _), (11, _), (12, _)] ⟨rfl, rfl, rfl, rfl, rfl, rfl, trivial⟩ ?_
                -- region 11 across.go:21
                refine CV.region ?_
                refine RV.op (OV.step gno (Step.move rfl) rfl ?_)
                (first | refine RV.op (OV.step gno (Step.add rfl rfl (wI64 (by omega) (by omega))) rfl ?_) | refine RV.op (OV.step gno (Step.add rfl rfl rfl) rfl ?_))
                refine RV.op (OV.step gno (Step.assign rfl) rfl ?_)
                refine RV.nil ?_
                refine KV.then_n ?_
                refine KV.env [(2, _), (7, _), (8, _), (10, _), (11, _), (12, _)] ⟨rfl, rfl, rfl, rfl, rfl, rfl, trivial⟩ ?_
                refine KV.sel [0, 1, 1, 0] [_, _, _, _] rfl ?_
                exact KV.loop2 (x := j) (y := z) (j + 1) (⟨(sampG z.g q), z.acc ++ (transM T z.g.cu (sampG z.g q).cu).1, A3, c3⟩) ⟨by omega, hinv.2.next hok _ _ _⟩ (by omega) ⟨rfl, rfl, rfl, rfl, rfl, rfl, trivial⟩ (fun _ h => h)
          · -- False
            refine RV.nil ?_
            refine KV.then_n ?_
            refine KV.env [(2, _), (7, _), (8, _), (10, _), (11, _), (12, _), (46, _)] ⟨rfl, rfl, rfl, rfl, rfl, rfl, rfl, trivial⟩ ?_
            refine CV.cond_f rfl ?_
            refine CV.exit ?_
            refine KV.then_exit ?_
            refine KV.then_exit ?_
            refine KV.block_hit ?_
            refine KV.then_n ?_
            refine KV.env [(7, _), (11, _)] ⟨rfl, rfl, trivial⟩ ?_
            refine CV.seq ?_
            -- region 18 across.go:30
            refine CV.region ?_
            refine RV.op (OV.step gno (Step.move rfl) rfl ?_)
            refine RV.op (OV.step gno (Step.move rfl) rfl ?_)
            refine RV.op (OV.call [] (F := [_, _, _, _]) Try.func22 B22 N22 rfl rfl (fun w h => safe_fn (h.os 0 rfl) (rfl) (by omega) (h.os 3 rfl) (rfl) (by have := hinv.2.len; omega) 0) (fun _ hb => hb.elim) gno rfl (fun v L' hp => ?_))
            obtain ⟨rfl, rfl⟩ := hp
            simp only [List.append_nil]
            rw [hinv.2.safe hok]
            refine RV.op (OV.step gno (Step.move rfl) rfl ?_)
            refine RV.op (OV.call [] (F := [_, _, _, _]) Try.func12 B12 N12 rfl rfl (fun w h => awake_fn) (fun _ hb => hb.elim) (gyes rfl) rfl (fun v L' hp => ?_))
            obtain ⟨rfl, rfl⟩ := hp
            simp only [List.append_nil]
            refine RV.op (OV.step gno (Step.pick_t rfl rfl) rfl ?_)
            refine RV.op (OV.step gno (Step.assign rfl) rfl ?_)
            refine RV.nil ?_
            refine KV.then_n ?_
            refine KV.env [(6, _)] ⟨rfl, trivial⟩ ?_
            refine CV.ret ?_
            -- return at r18
            refine KV.sel [] [] rfl ?_
            exact KV.ret1 rfl rfl _ (fun _ h => h) ⟨rfl, rfl⟩
end Go.Proofs.Ytaafpnoffdcbnaa
