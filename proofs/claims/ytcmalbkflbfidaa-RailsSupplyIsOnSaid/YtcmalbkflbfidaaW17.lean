/-
  Walks, part 17.
-/
import Derived.Test.YtcmalbkflbfidaaTab17
import Derived.Test.YtcmalbkflbfidaaW15
set_option linter.unusedSimpArgs false
set_option linter.unusedVariables false
namespace Go.Proofs.Ytcmalbkflbfidaa
open Go.Sv Go.Rails
set_option maxRecDepth 100000 in
set_option maxHeartbeats 1000000 in
theorem supplyIsOn_fn {A B : Option Addr} {n c m d : Nat} {raw : List Rail} {l : List RCall} {w : World} (hr : RS w railK A raw) (hn : n = raw.length) (hraw : ∀ i, i < raw.length → okRail (raw.getD i railK.d)) (hl : RS w callK B l) (hm : m = l.length) : Fx Try.prog 5 [.slice A n c, .slice B m d] w [] no (fun v L => v = .bool true ∧ L = []) := by
  subst hn
  subst hm
  have hsl := some_len raw
  obtain ⟨rk, G⟩ := some_good hraw
  have hnew := good_new G
  have hlen := G.len
  refine Sv.Fx.body Try.func5 rfl T5 rfl ?_
  intro I hro hI
  refine KV.env [(0, _), (1, _)] ⟨rfl, rfl, trivial⟩ ?_
  refine CV.seq ?_
  -- region 0 law.go:186
  refine CV.region ?_
  refine RV.op (OV.step gno (Step.assign rfl) rfl ?_)
  refine RV.nil ?_
  refine KV.then_n ?_
  refine KV.env [(0, _), (1, _)] ⟨rfl, rfl, trivial⟩ ?_
  refine CV.seq ?_
  refine CV.seq ?_
  -- region 1 law.go:187
  refine CV.region ?_
  refine RV.op (OV.step gno (Step.move rfl) rfl ?_)
  refine RV.op (OV.step gno (Step.lenSl Try.underlying37 rfl) rfl ?_)
  refine RV.op (OV.split gno (Step.gtr rfl rfl) rfl (fun hlong => ?_) (fun hlong => ?_))
  · -- True
    refine RV.nil ?_
    refine KV.then_n ?_
    refine KV.env [(0, _), (1, _), (16, _)] ⟨rfl, rfl, rfl, trivial⟩ ?_
    refine CV.cond_t rfl ?_
    refine CV.seq ?_
    -- region 2 law.go:188
    refine CV.region ?_
    refine RV.op (OV.call [] (F := []) Try.func12 B12 N12 rfl rfl (fun w h => awake_fn) (fun _ hb => hb.elim) gno rfl (fun v L' hp => ?_))
    obtain ⟨rfl, rfl⟩ := hp
    simp only [List.append_nil]
    refine RV.op (OV.step gno (Step.assign rfl) rfl ?_)
    refine RV.nil ?_
    refine KV.then_n ?_
    refine KV.env [(4, _)] ⟨rfl, trivial⟩ ?_
    refine CV.ret ?_
    refine KV.then_ret ?_
    -- return at r2
    refine KV.sel [] [] rfl ?_
    exact KV.ret1 rfl rfl _ (fun _ h => h) ⟨rfl, rfl⟩
  · -- False
    refine RV.nil ?_
    refine KV.then_n ?_
    refine KV.env [(0, _), (1, _), (16, _)] ⟨rfl, rfl, rfl, trivial⟩ ?_
    refine CV.cond_f rfl ?_
    refine CV.skip ?_
    refine KV.then_n ?_
    refine KV.env [(0, _), (1, _)] ⟨rfl, rfl, trivial⟩ ?_
    refine CV.seq ?_
    -- region 3 law.go:190
    refine CV.region ?_
    refine RV.op (OV.step gno (Step.move rfl) rfl ?_)
    refine RV.op (OV.call [] (F := []) Try.func15 B15 N15 rfl rfl (fun w h => some_fn (h.rs hr (fun _ => hI _))) (fun _ hb => hb.elim) gno rfl (fun v L' hp => ?_))
    obtain ⟨A2, c2, rfl, rfl⟩ := hp
    refine RV.op (OV.step gno (Step.assign rfl) rfl ?_)
    refine RV.nil ?_
    refine KV.then_n ?_
    refine KV.env [(1, _), (5, _)] ⟨rfl, rfl, trivial⟩ ?_
    refine CV.seq ?_
    -- region 4 law.go:191
    refine CV.region ?_
    refine RV.op (OV.step gno (Step.move rfl) rfl ?_)
    refine RV.op (OV.step gno (Step.move rfl) rfl ?_)
    refine RV.op (OV.call [] (F := [_]) Try.func17 B17 N17 rfl rfl (fun w h => log_fn G (h.os 0 rfl) (h.rs hl (fun _ => hI _)) (by omega)) (fun _ hb => hb.elim) gno rfl (fun v L' hp => ?_))
    obtain ⟨A3, c3, rfl, rfl⟩ := hp
    obtain ⟨_, htr, hll⟩ := logM_IN G l l.length (by omega)
    generalize logM (someM raw) l l.length = lg at htr hll ⊢
    obtain ⟨st9, op2⟩ := lg
    simp only [] at htr hll
    simp only []
    rw [new_sg] at htr
    have hopl : op2.length ≤ 1000000 := by omega
    refine RV.op (OV.step gno (Step.move rfl) rfl ?_)
    refine RV.op (OV.step gno (Step.extract0 rfl rfl) rfl ?_)
    refine RV.op (OV.step gno (Step.extract0 rfl rfl) rfl ?_)
    refine RV.op (OV.step gno (Step.assign rfl) rfl ?_)
    refine RV.op (OV.step gno (Step.assign rfl) rfl ?_)
    refine RV.nil ?_
    refine KV.then_n ?_
    refine KV.env [(5, _), (6, _), (7, _)] ⟨rfl, rfl, rfl, trivial⟩ ?_
    refine CV.seq ?_
    refine CV.seq ?_
    -- region 5 law.go:192
    refine CV.region ?_
    refine RV.op (OV.step gno (Step.move rfl) rfl ?_)
    refine RV.op (OV.step gno (Step.not rfl) rfl ?_)
    refine RV.op (OV.step gno (Step.move rfl) rfl ?_)
    refine KV.cases 28 rfl (fun cc1 => ?_) (fun cc1 => ?_)
    · -- True
      refine RV.op (OV.skip rfl rfl ?_)
      refine RV.op (OV.skip rfl rfl ?_)
      refine RV.op (OV.skip rfl rfl ?_)
      refine RV.op (OV.skip rfl rfl ?_)
      refine RV.op (OV.skip rfl rfl ?_)
      refine RV.op (OV.step gno (Step.pick_t rfl rfl) rfl ?_)
      refine RV.nil ?_
      refine KV.then_n ?_
      refine KV.env [(5, _), (6, _), (34, _)] ⟨rfl, rfl, rfl, trivial⟩ ?_
      refine CV.cond_t rfl ?_
      refine CV.seq ?_
      -- region 6 law.go:193
      refine CV.region ?_
      refine RV.op (OV.step gno (Step.assign rfl) rfl ?_)
      refine RV.nil ?_
      refine KV.then_n ?_
      refine KV.env [(4, _)] ⟨rfl, trivial⟩ ?_
      refine CV.ret ?_
      refine KV.then_ret ?_
      -- return at r6
      refine KV.sel [] [] rfl ?_
      exact absurd cc1 (by decide)
    · -- False
      refine RV.op (OV.step (gyes rfl) (Step.move rfl) rfl ?_)
      refine RV.op (OV.step (gyes rfl) (Step.move rfl) rfl ?_)
      refine RV.op (OV.step (gyes rfl) (Step.lenSl Try.underlying22 rfl) rfl ?_)
      refine RV.op (OV.call [] (F := [_, _]) Try.func18 B18 N18 rfl rfl (fun w h => named2_fn (someM raw).length (h.os 1 rfl) (by omega)) (fun _ hb => hb.elim) (gyes rfl) rfl (fun v L' hp => ?_))
      obtain ⟨rfl, rfl⟩ := hp
      rw [List.append_nil]
      by_cases hnm : namedM op2 (someM raw).length
      · rw [decide_eq_true hnm]
        refine RV.op (OV.step (gyes rfl) (Step.not rfl) rfl ?_)
        refine RV.op (OV.step gno (Step.pick_f rfl rfl) rfl ?_)
        refine RV.nil ?_
        refine KV.then_n ?_
        refine KV.env [(5, _), (6, _), (34, _)] ⟨rfl, rfl, rfl, trivial⟩ ?_
        refine CV.cond_f rfl ?_
        refine CV.skip ?_
        refine KV.then_n ?_
        refine KV.env [(5, _), (6, _)] ⟨rfl, rfl, trivial⟩ ?_
        refine CV.seq ?_
        -- region 7 law.go:195
        refine CV.any (Hp I w []) (by kernel_rfl) (fun _ h => h.drew) 8 rfl ?_
        refine AV.take 0 #[true, false, false, false, false, false, false, false] rfl (by kernel_rfl) (by kernel_rfl) (by kernel_rfl) (fun _ _ _ h => h) gno (Step.move rfl) rfl (fun _ h => h.sel [] rfl) (by kernel_rfl) ?_
        refine AV.take 1 #[true, true, false, false, false, false, false, false] rfl (by kernel_rfl) (by kernel_rfl) (by kernel_rfl) (fun _ _ _ h => h) gno (Step.lenSl Try.underlying22 rfl) rfl (fun _ h => h.sel [] rfl) (by kernel_rfl) ?_
        refine AV.take 3 #[true, true, false, true, false, false, false, false] rfl (by kernel_rfl) (by kernel_rfl) (by kernel_rfl) (fun _ _ _ h => h) gno (Step.move rfl) rfl (fun _ h => h.sel [] rfl) (by kernel_rfl) ?_
        refine AV.take 4 #[true, true, false, true, true, false, false, false] rfl (by kernel_rfl) (by kernel_rfl) (by kernel_rfl) (fun _ _ _ h => h) gno (Step.lenSl Try.underlying22 rfl) rfl (fun _ h => h.sel [] rfl) (by kernel_rfl) ?_
        refine AV.all [2, 5] (by kernel_rfl) (by decide) ?_
        refine ⟨⟨_, rfl, ?_⟩, ⟨⟨_, rfl, ?_⟩, trivial⟩⟩
        · -- 2 comes up
          refine OV.make (K := boolK) ((someM raw).length) ((someM raw).length) (false) Try.underlying42 I4 rfl rfl rfl rfl rfl (by omega) (by omega) (by omega) gno rfl (fun A5 => ?_)
          refine AV.next #[true, true, true, true, true, false, false, false] (by kernel_rfl) (fun _ h => h.sel [] rfl) ?_
          refine AV.take 6 #[true, true, true, true, true, false, true, false] rfl (by kernel_rfl) (by kernel_rfl) (by kernel_rfl) (fun _ _ _ h => h) gno (Step.assign rfl) rfl (fun _ h => h.sel [] rfl) (by kernel_rfl) ?_
          refine AV.all [5] (by kernel_rfl) (by decide) ?_
          refine ⟨⟨_, rfl, ?_⟩, trivial⟩
          · -- 5 comes up
            refine OV.make (K := intK .u64) ((someM raw).length) ((someM raw).length) (0) Try.underlying43 I33 rfl rfl rfl rfl rfl (by omega) (by omega) (by omega) gno rfl (fun A6 => ?_)
            refine AV.next #[true, true, true, true, true, true, true, false] (by kernel_rfl) (fun _ h => h.sel [] rfl) ?_
            refine AV.take 7 #[true, true, true, true, true, true, true, true] rfl (by kernel_rfl) (by kernel_rfl) (by kernel_rfl) (fun _ _ _ h => h) gno (Step.assign rfl) rfl (fun _ h => h.sel [] rfl) (by kernel_rfl) ?_
            refine AV.done (by kernel_rfl) ?_
            refine KV.then_n ?_
            refine KV.env [(5, _), (6, _), (8, _), (9, _)] ⟨rfl, rfl, rfl, rfl, trivial⟩ ?_
            refine CV.seq ?_
            refine CV.seq ?_
            -- region 8 law.go:196
            refine CV.region ?_
            refine RV.op (OV.step gno (Step.assign rfl) rfl ?_)
            refine RV.nil ?_
            refine KV.then_n ?_
            refine KV.env [(5, _), (6, _), (8, _), (9, _), (10, _)] ⟨rfl, rfl, rfl, rfl, rfl, trivial⟩ ?_
            refine CV.block ?_
            -- loop L9; live [5, 6, 8, 9, 10]
            refine KV.sel [0, 0, 0, 0] [_, _, _, _] rfl ?_
            refine CV.loopI (α := Nat) (fun k => k ≤ op2.length) (fun k => op2.length - k) (fun k => [(5, .slice A2 (someM raw).length c2), (6, .slice A3 op2.length c3), (8, .slice A5 (someM raw).length (someM raw).length), (9, .slice A6 (someM raw).length (someM raw).length), (10, .int .i64 k)]) (fun k => Hp I w [OS 35 railK A2 c2 (someM raw), OS 45 opK A3 c3 op2, OS 4 boolK A5 (someM raw).length (trS (sg0 (someM raw).length) op2 k).1, OS 33 (intK .u64) A6 (someM raw).length (trS (sg0 (someM raw).length) op2 k).2]) 0 (Nat.zero_le _) ⟨rfl, rfl, rfl, rfl, rfl, trivial⟩ (fun _ h => h) ?_
            intro k hk
            have htl := sg0_len (someM raw).length op2 k
            refine CV.seq ?_
            refine CV.seq ?_
            -- region 9 law.go:196
            refine CV.region ?_
            refine RV.op (OV.step gno (Step.move rfl) rfl ?_)
            refine RV.op (OV.step gno (Step.move rfl) rfl ?_)
            refine RV.op (OV.step gno (Step.lenSl Try.underlying38 rfl) rfl ?_)
            refine RV.op (OV.split gno (Step.lss rfl rfl) rfl (fun hlt => ?_) (fun hlt => ?_))
            · -- True
              refine RV.nil ?_
              refine KV.then_n ?_
              refine KV.env [(5, _), (6, _), (8, _), (9, _), (10, _), (44, _)] ⟨rfl, rfl, rfl, rfl, rfl, rfl, trivial⟩ ?_
              refine CV.cond_t rfl ?_
              refine CV.skip ?_
              refine KV.then_n ?_
              refine KV.env [(5, _), (6, _), (8, _), (9, _), (10, _)] ⟨rfl, rfl, rfl, rfl, rfl, trivial⟩ ?_
              refine CV.seq ?_
              refine CV.block ?_
              refine CV.seq ?_
              -- region 11 law.go:197
              obtain ⟨q, hq1, hq2, hon, hdn, ⟨hs0, hdone, hmax⟩, hup, hoff⟩ := htr.get.1 k (by omega)
              have hrp := G.ramp q hq2
              have hsp := G.fine q hq2
              unfold sp at hsp
              refine CV.region ?_
              refine RV.op (OV.step gno (Step.move rfl) rfl ?_)
              refine RV.op (OV.step gno (Step.move rfl) rfl ?_)
              refine RV.op (OV.step gno (Step.idx Try.underlying38 I45 (fun w h => h.os 1 rfl) rfl rfl (by first | rfl | omega | (rw [List.length_set]; omega)) _ rfl (by omega)) rfl ?_)
              refine RV.op (OV.step gno (Step.loadN _ Try.underlying45 rfl I45 rfl rfl (fun w h => (h.os 1 rfl).cells (by omega))) rfl ?_)
              refine RV.op (OV.alloc #[.int .i64 0, .bool false, .int .u64 0, .int .u64 0] I45 rfl gno rfl (fun b11_4 => ?_))
              refine RV.op (OV.store 4 [_, _, _, _] #[_, _, _, _] I45 rfl rfl rfl rfl rfl (Nat.le_of_ble_eq_true rfl) (by simp [Value.oneCell']) rfl gno ?_)
              refine RV.nil ?_
              refine KV.then_n ?_
              refine KV.env [(5, _), (6, _), (8, _), (9, _), (10, _), (11, _)] ⟨rfl, rfl, rfl, rfl, rfl, rfl, trivial⟩ ?_
              refine CV.seq ?_
              refine CV.seq ?_
              -- region 12 law.go:198
              refine CV.region ?_
              refine RV.op (OV.step gno (Step.move rfl) rfl ?_)
              refine RV.op (OV.step gno (Step.fieldAddr rfl (F45_0 _ _)) rfl ?_)
              refine RV.op (OV.step gno (Step.load Try.underlying3 rfl rfl (fun w h => h.cell 4 rfl rfl)) rfl ?_)
              rw [hq1]
              refine RV.op (OV.step gno (Step.idx Try.underlying22 I35 (fun w h => h.os 0 rfl) rfl rfl (by first | rfl | omega | (rw [List.length_set]; omega)) _ rfl (by omega)) rfl ?_)
              refine RV.op (OV.step gno (Step.fieldAddr rfl (F35_0 _ _)) rfl ?_)
              refine RV.op (OV.step gno (Step.load Try.underlying3 rfl rfl (fun w h => (h.os 0 rfl).cell0 (by omega) rfl)) rfl ?_)
              refine RV.op (OV.step gno (Step.assign rfl) rfl ?_)
              refine RV.nil ?_
              refine KV.then_n ?_
              refine KV.env [(5, _), (6, _), (8, _), (9, _), (10, _), (11, _), (12, _)] ⟨rfl, rfl, rfl, rfl, rfl, rfl, rfl, trivial⟩ ?_
              refine CV.seq ?_
              -- region 13 law.go:198
              refine CV.still (by kernel_rfl) (by kernel_rfl) (fun _ h => h.drew) ?_
              refine SV.step gno (Step.fieldAddr rfl (F45_1 _ _)) rfl ?_
              refine SV.step gno (Step.load Try.underlying4 rfl rfl (fun w h => h.cell 4 rfl rfl)) rfl ?_
              refine SV.step gno (Step.move rfl) rfl ?_
              refine SV.cases 59 rfl (fun cc2 => ?_) (fun cc2 => ?_)
              · -- True
                refine SV.step (gyes rfl) (Step.move rfl) rfl ?_
                refine SV.split (gyes rfl) (Step.geq rfl rfl) rfl (fun hge => ?_) (fun hge => ?_)
                · -- True
                  obtain ⟨p, hp2⟩ := Int.eq_ofNat_of_zero_le hge
                  have hpu := hup (by assumption) p hp2
                  rw [hp2] at hsp
                  rw [hp2]
                  refine SV.step gno (Step.pick_t rfl rfl) rfl ?_
                  refine SV.step gno (Step.move rfl) rfl ?_
                  refine SV.step (gyes rfl) (Step.move rfl) rfl ?_
                  refine SV.step (gyes rfl) (Step.move rfl) rfl ?_
                  refine SV.step (gyes rfl) (Step.idx Try.underlying42 I4 (fun w h => h.os 2 rfl) rfl rfl (by first | rfl | omega | (rw [List.length_set]; omega)) _ rfl (by omega)) rfl ?_
                  refine SV.step (gyes rfl) (Step.load Try.underlying4 rfl rfl (fun w h => (h.os 2 rfl).cell0 (by omega) rfl)) rfl ?_
                  refine SV.step (gyes rfl) (Step.not rfl) rfl ?_
                  refine SV.step (gyes rfl) (Step.move rfl) rfl ?_
                  refine SV.cases 69 rfl (fun cc3 => ?_) (fun cc3 => ?_)
                  · -- True
                    refine SV.skip rfl rfl ?_
                    refine SV.skip rfl rfl ?_
                    refine SV.skip rfl rfl ?_
                    refine SV.skip rfl rfl ?_
                    refine SV.skip rfl rfl ?_
                    refine SV.skip rfl rfl ?_
                    refine SV.skip rfl rfl ?_
                    refine SV.step (gyes rfl) (Step.pick_t rfl rfl) rfl ?_
                    refine SV.step gno (Step.pick_t rfl rfl) rfl ?_
                    refine SV.nil ?_
                    refine KV.then_n ?_
                    refine KV.env [(5, _), (6, _), (8, _), (9, _), (10, _), (11, _), (78, _)] ⟨rfl, rfl, rfl, rfl, rfl, rfl, rfl, trivial⟩ ?_
                    refine CV.cond_t rfl ?_
                    refine CV.seq ?_
                    -- region 14 law.go:199
                    refine CV.region ?_
                    refine RV.op (OV.step gno (Step.assign rfl) rfl ?_)
                    refine RV.nil ?_
                    refine KV.then_n ?_
                    refine KV.env [(4, _)] ⟨rfl, trivial⟩ ?_
                    refine CV.ret ?_
                    refine KV.then_ret ?_
                    refine KV.block_ret ?_
                    refine KV.then_ret ?_
                    refine KV.then_ret ?_
                    refine KV.block_ret ?_
                    refine KV.then_ret ?_
                    -- return at r14
                    refine KV.sel [] [] rfl ?_
                    exfalso
                    simp_all
                  · -- False
                    refine SV.step (gyes rfl) (Step.move rfl) rfl ?_
                    refine SV.step (gyes rfl) (Step.move rfl) rfl ?_
                    refine SV.step (gyes rfl) (Step.idx Try.underlying43 I33 (fun w h => h.os 3 rfl) rfl rfl (by first | rfl | omega | (rw [List.length_set]; omega)) _ rfl (by omega)) rfl ?_
                    refine SV.step (gyes rfl) (Step.load Try.underlying33 rfl rfl (fun w h => (h.os 3 rfl).cell0 (by omega) rfl)) rfl ?_
                    refine SV.step (gyes rfl) (Step.fieldAddr rfl (F45_2 _ _)) rfl ?_
                    refine SV.step (gyes rfl) (Step.load Try.underlying33 rfl rfl (fun w h => h.cell 4 rfl rfl)) rfl ?_
                    refine SV.split (gyes rfl) (Step.gtr rfl rfl) rfl (fun e2 => ?_) (fun e2 => ?_)
                    · -- True
                      exact absurd (Int.lt_of_lt_of_le e2 hpu.2) (Int.lt_irrefl _)
                    · -- False
                      refine SV.step (gyes rfl) (Step.pick_f rfl rfl) rfl ?_
                      refine SV.step gno (Step.pick_t rfl rfl) rfl ?_
                      refine SV.nil ?_
                      refine KV.then_n ?_
                      refine KV.env [(5, _), (6, _), (8, _), (9, _), (10, _), (11, _), (78, _)] ⟨rfl, rfl, rfl, rfl, rfl, rfl, rfl, trivial⟩ ?_
                      refine CV.cond_f rfl ?_
                      refine CV.skip ?_
                      refine KV.then_n ?_
                      refine KV.env [(5, _), (6, _), (8, _), (9, _), (10, _), (11, _)] ⟨rfl, rfl, rfl, rfl, rfl, rfl, trivial⟩ ?_
                      refine CV.seq ?_
                      refine CV.seq ?_
                      -- region 15 law.go:201
                      refine CV.region ?_
                      refine RV.op (OV.step gno (Step.assign rfl) rfl ?_)
                      refine RV.nil ?_
                      refine KV.then_n ?_
                      refine KV.env [(5, _), (6, _), (8, _), (9, _), (10, _), (11, _), (13, _)] ⟨rfl, rfl, rfl, rfl, rfl, rfl, rfl, trivial⟩ ?_
                      refine CV.block ?_
                      -- loop L16; live [5, 6, 8, 9, 10, 11, 13]
                      refine KV.sel [0, 0, 0, 0, 0] [_, _, _, _, _] rfl ?_
                      refine CV.loopI (α := Nat) (fun j => j ≤ (someM raw).length) (fun j => (someM raw).length - j) (fun j => [(5, .slice A2 (someM raw).length c2), (6, .slice A3 op2.length c3), (8, .slice A5 (someM raw).length (someM raw).length), (9, .slice A6 (someM raw).length (someM raw).length), (10, .int .i64 k), (11, .pointer (some ⟨b11_4, 0, none⟩)), (13, .int .i64 j)]) (fun _ => Hp I w [OS 35 railK A2 c2 (someM raw), OS 45 opK A3 c3 op2, OS 4 boolK A5 (someM raw).length (trS (sg0 (someM raw).length) op2 k).1, OS 33 (intK .u64) A6 (someM raw).length (trS (sg0 (someM raw).length) op2 k).2, Blk b11_4 (.cells #[.int .i64 q, .bool (op2.getD k opK.d).on, .int .u64 (op2.getD k opK.d).start, .int .u64 (op2.getD k opK.d).done] 45 (0, 0))]) 0 (Nat.zero_le _) ⟨rfl, rfl, rfl, rfl, rfl, rfl, rfl, trivial⟩ (fun _ h => h) ?_
                      intro j hj
                      refine CV.seq ?_
                      refine CV.seq ?_
                      -- region 16 law.go:201
                      refine CV.region ?_
                      refine RV.op (OV.step gno (Step.move rfl) rfl ?_)
                      refine RV.op (OV.step gno (Step.move rfl) rfl ?_)
                      refine RV.op (OV.step gno (Step.lenSl Try.underlying22 rfl) rfl ?_)
                      refine RV.op (OV.split gno (Step.lss rfl rfl) rfl (fun hj2 => ?_) (fun hj2 => ?_))
                      · -- True
                        refine RV.op (OV.step gno (Step.move rfl) rfl ?_)
                        refine RV.op (OV.step (gyes rfl) (Step.fieldAddr rfl (F45_1 _ _)) rfl ?_)
                        refine RV.op (OV.step (gyes rfl) (Step.load Try.underlying4 rfl rfl (fun w h => h.cell 4 rfl rfl)) rfl ?_)
                        refine RV.op (OV.step (gyes rfl) (Step.not rfl) rfl ?_)
                        refine RV.op (OV.step gno (Step.pick_t rfl rfl) rfl ?_)
                        refine RV.nil ?_
                        refine KV.then_n ?_
                        refine KV.env [(5, _), (6, _), (8, _), (9, _), (10, _), (11, _), (13, _), (87, _)] ⟨rfl, rfl, rfl, rfl, rfl, rfl, rfl, rfl, trivial⟩ ?_
                        refine KV.cases 87 rfl (fun cc4 => ?_) (fun cc4 => ?_)
                        · -- True
                          refine CV.cond_t rfl ?_
                          refine CV.skip ?_
                          refine KV.then_n ?_
                          refine KV.env [(5, _), (6, _), (8, _), (9, _), (10, _), (11, _), (13, _)] ⟨rfl, rfl, rfl, rfl, rfl, rfl, rfl, trivial⟩ ?_
                          refine CV.seq ?_
                          refine CV.block ?_
                          refine CV.seq ?_
                          -- region 18 law.go:202
                          refine CV.still (by kernel_rfl) (by kernel_rfl) (fun _ h => h.drew) ?_
                          refine SV.step gno (Step.move rfl) rfl ?_
                          refine SV.step gno (Step.move rfl) rfl ?_
                          refine SV.step gno (Step.idx Try.underlying22 I35 (fun w h => h.os 0 rfl) rfl rfl (by first | rfl | omega | (rw [List.length_set]; omega)) _ rfl (by omega)) rfl ?_
                          refine SV.step gno (Step.fieldAddr rfl (F35_0 _ _)) rfl ?_
                          refine SV.step gno (Step.load Try.underlying3 rfl rfl (fun w h => (h.os 0 rfl).cell0 (by omega) rfl)) rfl ?_
                          refine SV.step gno (Step.fieldAddr rfl (F45_0 _ _)) rfl ?_
                          refine SV.step gno (Step.load Try.underlying3 rfl rfl (fun w h => h.cell 4 rfl rfl)) rfl ?_
                          refine SV.split gno (Step.eql rfl rfl) rfl (fun e3 => ?_) (fun e3 => ?_)
                          · -- True
                            have hfu := hoff (by first | assumption | (simp only [Bool.not_eq_true'] at *; assumption)) j (by omega) e3
                            refine SV.step gno (Step.move rfl) rfl ?_
                            refine SV.step (gyes rfl) (Step.move rfl) rfl ?_
                            refine SV.step (gyes rfl) (Step.move rfl) rfl ?_
                            refine SV.step (gyes rfl) (Step.idx Try.underlying42 I4 (fun w h => h.os 2 rfl) rfl rfl (by first | rfl | omega | (rw [List.length_set]; omega)) _ rfl (by omega)) rfl ?_
                            refine SV.step (gyes rfl) (Step.load Try.underlying4 rfl rfl (fun w h => (h.os 2 rfl).cell0 (by omega) rfl)) rfl ?_
                            refine SV.step (gyes rfl) (Step.move rfl) rfl ?_
                            refine SV.cases 103 rfl (fun cc5 => ?_) (fun cc5 => ?_)
                            · -- True
                              refine SV.skip rfl rfl ?_
                              refine SV.skip rfl rfl ?_
                              refine SV.skip rfl rfl ?_
                              refine SV.skip rfl rfl ?_
                              refine SV.skip rfl rfl ?_
                              refine SV.skip rfl rfl ?_
                              refine SV.skip rfl rfl ?_
                              refine SV.step (gyes rfl) (Step.pick_t rfl rfl) rfl ?_
                              refine SV.step gno (Step.pick_t rfl rfl) rfl ?_
                              refine SV.nil ?_
                              refine KV.then_n ?_
                              refine KV.env [(5, _), (6, _), (8, _), (9, _), (10, _), (11, _), (13, _), (112, _)] ⟨rfl, rfl, rfl, rfl, rfl, rfl, rfl, rfl, trivial⟩ ?_
                              refine CV.cond_t rfl ?_
                              refine CV.seq ?_
                              -- region 19 law.go:203
                              refine CV.region ?_
                              refine RV.op (OV.step gno (Step.assign rfl) rfl ?_)
                              refine RV.nil ?_
                              refine KV.then_n ?_
                              refine KV.env [(4, _)] ⟨rfl, trivial⟩ ?_
                              refine CV.ret ?_
                              refine KV.block_ret ?_
                              refine KV.then_ret ?_
                              refine KV.then_ret ?_
                              refine KV.block_ret ?_
                              refine KV.then_ret ?_
                              refine KV.block_ret ?_
                              refine KV.then_ret ?_
                              refine KV.then_ret ?_
                              refine KV.block_ret ?_
                              refine KV.then_ret ?_
                              -- return at r19
                              refine KV.sel [] [] rfl ?_
                              exfalso
                              simp_all
                            · -- False
                              refine SV.step (gyes rfl) (Step.move rfl) rfl ?_
                              refine SV.step (gyes rfl) (Step.move rfl) rfl ?_
                              refine SV.step (gyes rfl) (Step.idx Try.underlying43 I33 (fun w h => h.os 3 rfl) rfl rfl (by first | rfl | omega | (rw [List.length_set]; omega)) _ rfl (by omega)) rfl ?_
                              refine SV.step (gyes rfl) (Step.load Try.underlying33 rfl rfl (fun w h => (h.os 3 rfl).cell0 (by omega) rfl)) rfl ?_
                              refine SV.step (gyes rfl) (Step.fieldAddr rfl (F45_2 _ _)) rfl ?_
                              refine SV.step (gyes rfl) (Step.load Try.underlying33 rfl rfl (fun w h => h.cell 4 rfl rfl)) rfl ?_
                              refine SV.split (gyes rfl) (Step.gtr rfl rfl) rfl (fun e4 => ?_) (fun e4 => ?_)
                              · -- True
                                exact absurd (Int.lt_of_lt_of_le e4 hfu.2) (Int.lt_irrefl _)
                              · -- False
                                refine SV.step (gyes rfl) (Step.pick_f rfl rfl) rfl ?_
                                refine SV.step gno (Step.pick_t rfl rfl) rfl ?_
                                refine SV.nil ?_
                                refine KV.then_n ?_
                                refine KV.env [(5, _), (6, _), (8, _), (9, _), (10, _), (11, _), (13, _), (112, _)] ⟨rfl, rfl, rfl, rfl, rfl, rfl, rfl, rfl, trivial⟩ ?_
                                refine CV.cond_f rfl ?_
                                refine CV.skip ?_
                                refine KV.block_n ?_
                                refine KV.then_n ?_
                                refine KV.env [(5, _), (6, _), (8, _), (9, _), (10, _), (11, _), (13, _)] ⟨rfl, rfl, rfl, rfl, rfl, rfl, rfl, trivial⟩ ?_
                                -- region 17 law.go:201
                                refine CV.region ?_
                                refine RV.op (OV.step gno (Step.move rfl) rfl ?_)
                                (first | refine RV.op (OV.step gno (Step.add rfl rfl (wI64 (by omega) (by omega))) rfl ?_) | refine RV.op (OV.step gno (Step.add rfl rfl rfl) rfl ?_))
                                refine RV.op (OV.step gno (Step.assign rfl) rfl ?_)
                                refine RV.nil ?_
                                refine KV.then_n ?_
                                refine KV.env [(5, _), (6, _), (8, _), (9, _), (10, _), (11, _), (13, _)] ⟨rfl, rfl, rfl, rfl, rfl, rfl, rfl, trivial⟩ ?_
                                refine KV.sel [0, 0, 0, 0, 0] [_, _, _, _, _] rfl ?_
                                refine KV.loopI (j + 1) (by omega) (by omega) ⟨rfl, rfl, rfl, rfl, rfl, rfl, rfl, trivial⟩ (fun _ h => h)
                          · -- False
                            refine SV.step gno (Step.move rfl) rfl ?_
                            refine SV.skip rfl rfl ?_
                            refine SV.skip rfl rfl ?_
                            refine SV.skip rfl rfl ?_
                            refine SV.skip rfl rfl ?_
                            refine SV.skip rfl rfl ?_
                            refine SV.skipU rfl rfl ?_
                            refine SV.skipU rfl rfl ?_
                            refine SV.skipU rfl rfl ?_
                            refine SV.skipU rfl rfl ?_
                            refine SV.skipU rfl rfl ?_
                            refine SV.skipU rfl rfl ?_
                            refine SV.skipU rfl rfl ?_
                            refine SV.skip rfl rfl ?_
                            refine SV.step gno (Step.pick_f rfl rfl) rfl ?_
                            refine SV.nil ?_
                            refine KV.then_n ?_
                            refine KV.env [(5, _), (6, _), (8, _), (9, _), (10, _), (11, _), (13, _), (112, _)] ⟨rfl, rfl, rfl, rfl, rfl, rfl, rfl, rfl, trivial⟩ ?_
                            refine CV.cond_f rfl ?_
                            refine CV.skip ?_
                            refine KV.block_n ?_
                            refine KV.then_n ?_
                            refine KV.env [(5, _), (6, _), (8, _), (9, _), (10, _), (11, _), (13, _)] ⟨rfl, rfl, rfl, rfl, rfl, rfl, rfl, trivial⟩ ?_
                            -- region 17 law.go:201
                            refine CV.region ?_
                            refine RV.op (OV.step gno (Step.move rfl) rfl ?_)
                            (first | refine RV.op (OV.step gno (Step.add rfl rfl (wI64 (by omega) (by omega))) rfl ?_) | refine RV.op (OV.step gno (Step.add rfl rfl rfl) rfl ?_))
                            refine RV.op (OV.step gno (Step.assign rfl) rfl ?_)
                            refine RV.nil ?_
                            refine KV.then_n ?_
                            refine KV.env [(5, _), (6, _), (8, _), (9, _), (10, _), (11, _), (13, _)] ⟨rfl, rfl, rfl, rfl, rfl, rfl, rfl, trivial⟩ ?_
                            refine KV.sel [0, 0, 0, 0, 0] [_, _, _, _, _] rfl ?_
                            refine KV.loopI (j + 1) (by omega) (by omega) ⟨rfl, rfl, rfl, rfl, rfl, rfl, rfl, trivial⟩ (fun _ h => h)
                        · -- False
                          refine CV.cond_f rfl ?_
                          refine CV.exit ?_
                          refine KV.then_exit ?_
                          refine KV.then_exit ?_
                          refine KV.block_hit ?_
                          refine KV.then_n ?_
                          refine KV.env [(5, _), (6, _), (8, _), (9, _), (10, _), (11, _)] ⟨rfl, rfl, rfl, rfl, rfl, rfl, trivial⟩ ?_
                          -- region 20 law.go:206
                          refine CV.any (Hp I w [Blk b11_4 (.cells #[.int .i64 q, .bool (op2.getD k opK.d).on, .int .u64 (op2.getD k opK.d).start, .int .u64 (op2.getD k opK.d).done] 45 (0, 0))]) (by kernel_rfl) (fun _ h => h.drew) 14 rfl ?_
                          refine AV.take 0 #[true, false, false, false, false, false, false, false, false, false, false, false, false, false] rfl (by kernel_rfl) (by kernel_rfl) (by kernel_rfl) (fun _ _ _ h => h) gno (Step.move rfl) rfl (fun _ h => h.sel [4] rfl) (by kernel_rfl) ?_
                          refine AV.take 1 #[true, true, false, false, false, false, false, false, false, false, false, false, false, false] rfl (by kernel_rfl) (by kernel_rfl) (by kernel_rfl) (fun _ _ _ h => h) gno (Step.fieldAddr rfl (F45_0 _ _)) rfl (fun _ h => h.sel [4] rfl) (by kernel_rfl) ?_
                          refine AV.take 2 #[true, true, true, false, false, false, false, false, false, false, false, false, false, false] rfl (by kernel_rfl) (by kernel_rfl) (by kernel_rfl) (fun _ _ _ h => h) gno (Step.load Try.underlying3 rfl rfl (fun w h => h.cell 0 rfl rfl)) rfl (fun _ h => h.sel [4] rfl) (by kernel_rfl) ?_
                          refine AV.take 3 #[true, true, true, true, false, false, false, false, false, false, false, false, false, false] rfl (by kernel_rfl) (by kernel_rfl) (by kernel_rfl) (fun _ _ _ h => h) gno (Step.move rfl) rfl (fun _ h => h.sel [4] rfl) (by kernel_rfl) ?_
                          refine AV.take 4 #[true, true, true, true, true, false, false, false, false, false, false, false, false, false] rfl (by kernel_rfl) (by kernel_rfl) (by kernel_rfl) (fun _ _ _ h => h) gno (Step.fieldAddr rfl (F45_0 _ _)) rfl (fun _ h => h.sel [4] rfl) (by kernel_rfl) ?_
                          refine AV.take 5 #[true, true, true, true, true, true, false, false, false, false, false, false, false, false] rfl (by kernel_rfl) (by kernel_rfl) (by kernel_rfl) (fun _ _ _ h => h) gno (Step.load Try.underlying3 rfl rfl (fun w h => h.cell 0 rfl rfl)) rfl (fun _ h => h.sel [4] rfl) (by kernel_rfl) ?_
                          refine AV.take 6 #[true, true, true, true, true, true, true, false, false, false, false, false, false, false] rfl (by kernel_rfl) (by kernel_rfl) (by kernel_rfl) (fun _ _ _ h => h) gno (Step.fieldAddr rfl (F45_1 _ _)) rfl (fun _ h => h.sel [4] rfl) (by kernel_rfl) ?_
                          refine AV.take 7 #[true, true, true, true, true, true, true, true, false, false, false, false, false, false] rfl (by kernel_rfl) (by kernel_rfl) (by kernel_rfl) (fun _ _ _ h => h) gno (Step.load Try.underlying4 rfl rfl (fun w h => h.cell 0 rfl rfl)) rfl (fun _ h => h.sel [4] rfl) (by kernel_rfl) ?_
                          refine AV.take 8 #[true, true, true, true, true, true, true, true, true, false, false, false, false, false] rfl (by kernel_rfl) (by kernel_rfl) (by kernel_rfl) (fun _ _ _ h => h) gno (Step.fieldAddr rfl (F45_3 _ _)) rfl (fun _ h => h.sel [4] rfl) (by kernel_rfl) ?_
                          refine AV.take 9 #[true, true, true, true, true, true, true, true, true, true, false, false, false, false] rfl (by kernel_rfl) (by kernel_rfl) (by kernel_rfl) (fun _ _ _ h => h) gno (Step.load Try.underlying33 rfl rfl (fun w h => h.cell 0 rfl rfl)) rfl (fun _ h => h.sel [4] rfl) (by kernel_rfl) ?_
                          refine AV.all [10] (by kernel_rfl) (by decide) ?_
                          refine ⟨⟨_, rfl, ?_⟩, trivial⟩
                          · -- 10 comes up
                            refine OV.step gno (Step.idx Try.underlying42 I4 (fun w h => h.os 2 rfl) rfl rfl (by first | rfl | omega | (rw [List.length_set]; omega)) _ rfl (by omega)) rfl ?_
                            refine AV.next #[true, true, true, true, true, true, true, true, true, true, true, false, false, false] (by kernel_rfl) (fun _ h => h.sel [4] rfl) ?_
                            refine AV.all [11] (by kernel_rfl) (by decide) ?_
                            refine ⟨⟨_, rfl, ?_⟩, trivial⟩
                            · -- 11 comes up
                              refine OV.storeE 2 (q) (_) (j := 0) [_] I4 rfl rfl rfl rfl rfl rfl (by omega) rfl (Nat.le_of_ble_eq_true rfl) gno ?_
                              refine AV.next #[true, true, true, true, true, true, true, true, true, true, true, true, false, false] (by kernel_rfl) (fun _ h => h.sel [4] rfl) ?_
                              refine AV.all [12] (by kernel_rfl) (by decide) ?_
                              refine ⟨⟨_, rfl, ?_⟩, trivial⟩
                              · -- 12 comes up
                                refine OV.step gno (Step.idx Try.underlying43 I33 (fun w h => h.os 3 rfl) rfl rfl (by first | rfl | omega | (rw [List.length_set]; omega)) _ rfl (by omega)) rfl ?_
                                refine AV.next #[true, true, true, true, true, true, true, true, true, true, true, true, true, false] (by kernel_rfl) (fun _ h => h.sel [4] rfl) ?_
                                refine AV.all [13] (by kernel_rfl) (by decide) ?_
                                refine ⟨⟨_, rfl, ?_⟩, trivial⟩
                                · -- 13 comes up
                                  refine OV.storeE 3 (q) (_) (j := 0) [_] I33 rfl rfl rfl rfl rfl rfl (by omega) rfl (Nat.le_of_ble_eq_true rfl) gno ?_
                                  refine AV.next #[true, true, true, true, true, true, true, true, true, true, true, true, true, true] (by kernel_rfl) (fun _ h => h.sel [4] rfl) ?_
                                  refine AV.done (by kernel_rfl) ?_
                                  refine KV.block_n ?_
                                  refine KV.then_n ?_
                                  refine KV.env [(5, _), (6, _), (8, _), (9, _), (10, _)] ⟨rfl, rfl, rfl, rfl, rfl, trivial⟩ ?_
                                  -- region 10 law.go:196
                                  refine CV.region ?_
                                  refine RV.op (OV.step gno (Step.move rfl) rfl ?_)
                                  (first | refine RV.op (OV.step gno (Step.add rfl rfl (wI64 (by omega) (by omega))) rfl ?_) | refine RV.op (OV.step gno (Step.add rfl rfl rfl) rfl ?_))
                                  refine RV.op (OV.step gno (Step.assign rfl) rfl ?_)
                                  refine RV.nil ?_
                                  refine KV.then_n ?_
                                  refine KV.env [(5, _), (6, _), (8, _), (9, _), (10, _)] ⟨rfl, rfl, rfl, rfl, rfl, trivial⟩ ?_
                                  refine KV.sel [0, 0, 0, 0] [_, _, _, _] rfl ?_
                                  refine KV.loopI (k + 1) (by omega) (by omega) ⟨rfl, rfl, rfl, rfl, rfl, trivial⟩ (fun _ h => by rw [trS_on (by omega) hq1, trS_done (by omega) hq1]; exact h)
                      · -- False
                        refine RV.op (OV.step gno (Step.move rfl) rfl ?_)
                        refine RV.op (OV.skip rfl rfl ?_)
                        refine RV.op (OV.skip rfl rfl ?_)
                        refine RV.op (OV.skip rfl rfl ?_)
                        refine RV.op (OV.step gno (Step.pick_f rfl rfl) rfl ?_)
                        refine RV.nil ?_
                        refine KV.then_n ?_
                        refine KV.env [(5, _), (6, _), (8, _), (9, _), (10, _), (11, _), (13, _), (87, _)] ⟨rfl, rfl, rfl, rfl, rfl, rfl, rfl, rfl, trivial⟩ ?_
                        refine CV.cond_f rfl ?_
                        refine CV.exit ?_
                        refine KV.then_exit ?_
                        refine KV.then_exit ?_
                        refine KV.block_hit ?_
                        refine KV.then_n ?_
                        refine KV.env [(5, _), (6, _), (8, _), (9, _), (10, _), (11, _)] ⟨rfl, rfl, rfl, rfl, rfl, rfl, trivial⟩ ?_
                        -- region 20 law.go:206
                        refine CV.any (Hp I w [Blk b11_4 (.cells #[.int .i64 q, .bool (op2.getD k opK.d).on, .int .u64 (op2.getD k opK.d).start, .int .u64 (op2.getD k opK.d).done] 45 (0, 0))]) (by kernel_rfl) (fun _ h => h.drew) 14 rfl ?_
                        refine AV.take 0 #[true, false, false, false, false, false, false, false, false, false, false, false, false, false] rfl (by kernel_rfl) (by kernel_rfl) (by kernel_rfl) (fun _ _ _ h => h) gno (Step.move rfl) rfl (fun _ h => h.sel [4] rfl) (by kernel_rfl) ?_
                        refine AV.take 1 #[true, true, false, false, false, false, false, false, false, false, false, false, false, false] rfl (by kernel_rfl) (by kernel_rfl) (by kernel_rfl) (fun _ _ _ h => h) gno (Step.fieldAddr rfl (F45_0 _ _)) rfl (fun _ h => h.sel [4] rfl) (by kernel_rfl) ?_
                        refine AV.take 2 #[true, true, true, false, false, false, false, false, false, false, false, false, false, false] rfl (by kernel_rfl) (by kernel_rfl) (by kernel_rfl) (fun _ _ _ h => h) gno (Step.load Try.underlying3 rfl rfl (fun w h => h.cell 0 rfl rfl)) rfl (fun _ h => h.sel [4] rfl) (by kernel_rfl) ?_
                        refine AV.take 3 #[true, true, true, true, false, false, false, false, false, false, false, false, false, false] rfl (by kernel_rfl) (by kernel_rfl) (by kernel_rfl) (fun _ _ _ h => h) gno (Step.move rfl) rfl (fun _ h => h.sel [4] rfl) (by kernel_rfl) ?_
                        refine AV.take 4 #[true, true, true, true, true, false, false, false, false, false, false, false, false, false] rfl (by kernel_rfl) (by kernel_rfl) (by kernel_rfl) (fun _ _ _ h => h) gno (Step.fieldAddr rfl (F45_0 _ _)) rfl (fun _ h => h.sel [4] rfl) (by kernel_rfl) ?_
                        refine AV.take 5 #[true, true, true, true, true, true, false, false, false, false, false, false, false, false] rfl (by kernel_rfl) (by kernel_rfl) (by kernel_rfl) (fun _ _ _ h => h) gno (Step.load Try.underlying3 rfl rfl (fun w h => h.cell 0 rfl rfl)) rfl (fun _ h => h.sel [4] rfl) (by kernel_rfl) ?_
                        refine AV.take 6 #[true, true, true, true, true, true, true, false, false, false, false, false, false, false] rfl (by kernel_rfl) (by kernel_rfl) (by kernel_rfl) (fun _ _ _ h => h) gno (Step.fieldAddr rfl (F45_1 _ _)) rfl (fun _ h => h.sel [4] rfl) (by kernel_rfl) ?_
                        refine AV.take 7 #[true, true, true, true, true, true, true, true, false, false, false, false, false, false] rfl (by kernel_rfl) (by kernel_rfl) (by kernel_rfl) (fun _ _ _ h => h) gno (Step.load Try.underlying4 rfl rfl (fun w h => h.cell 0 rfl rfl)) rfl (fun _ h => h.sel [4] rfl) (by kernel_rfl) ?_
                        refine AV.take 8 #[true, true, true, true, true, true, true, true, true, false, false, false, false, false] rfl (by kernel_rfl) (by kernel_rfl) (by kernel_rfl) (fun _ _ _ h => h) gno (Step.fieldAddr rfl (F45_3 _ _)) rfl (fun _ h => h.sel [4] rfl) (by kernel_rfl) ?_
                        refine AV.take 9 #[true, true, true, true, true, true, true, true, true, true, false, false, false, false] rfl (by kernel_rfl) (by kernel_rfl) (by kernel_rfl) (fun _ _ _ h => h) gno (Step.load Try.underlying33 rfl rfl (fun w h => h.cell 0 rfl rfl)) rfl (fun _ h => h.sel [4] rfl) (by kernel_rfl) ?_
                        refine AV.all [10] (by kernel_rfl) (by decide) ?_
                        refine ⟨⟨_, rfl, ?_⟩, trivial⟩
                        · -- 10 comes up
                          refine OV.step gno (Step.idx Try.underlying42 I4 (fun w h => h.os 2 rfl) rfl rfl (by first | rfl | omega | (rw [List.length_set]; omega)) _ rfl (by omega)) rfl ?_
                          refine AV.next #[true, true, true, true, true, true, true, true, true, true, true, false, false, false] (by kernel_rfl) (fun _ h => h.sel [4] rfl) ?_
                          refine AV.all [11] (by kernel_rfl) (by decide) ?_
                          refine ⟨⟨_, rfl, ?_⟩, trivial⟩
                          · -- 11 comes up
                            refine OV.storeE 2 (q) (_) (j := 0) [_] I4 rfl rfl rfl rfl rfl rfl (by omega) rfl (Nat.le_of_ble_eq_true rfl) gno ?_
                            refine AV.next #[true, true, true, true, true, true, true, true, true, true, true, true, false, false] (by kernel_rfl) (fun _ h => h.sel [4] rfl) ?_
                            refine AV.all [12] (by kernel_rfl) (by decide) ?_
                            refine ⟨⟨_, rfl, ?_⟩, trivial⟩
                            · -- 12 comes up
                              refine OV.step gno (Step.idx Try.underlying43 I33 (fun w h => h.os 3 rfl) rfl rfl (by first | rfl | omega | (rw [List.length_set]; omega)) _ rfl (by omega)) rfl ?_
                              refine AV.next #[true, true, true, true, true, true, true, true, true, true, true, true, true, false] (by kernel_rfl) (fun _ h => h.sel [4] rfl) ?_
                              refine AV.all [13] (by kernel_rfl) (by decide) ?_
                              refine ⟨⟨_, rfl, ?_⟩, trivial⟩
                              · -- 13 comes up
                                refine OV.storeE 3 (q) (_) (j := 0) [_] I33 rfl rfl rfl rfl rfl rfl (by omega) rfl (Nat.le_of_ble_eq_true rfl) gno ?_
                                refine AV.next #[true, true, true, true, true, true, true, true, true, true, true, true, true, true] (by kernel_rfl) (fun _ h => h.sel [4] rfl) ?_
                                refine AV.done (by kernel_rfl) ?_
                                refine KV.block_n ?_
                                refine KV.then_n ?_
                                refine KV.env [(5, _), (6, _), (8, _), (9, _), (10, _)] ⟨rfl, rfl, rfl, rfl, rfl, trivial⟩ ?_
                                -- region 10 law.go:196
                                refine CV.region ?_
                                refine RV.op (OV.step gno (Step.move rfl) rfl ?_)
                                (first | refine RV.op (OV.step gno (Step.add rfl rfl (wI64 (by omega) (by omega))) rfl ?_) | refine RV.op (OV.step gno (Step.add rfl rfl rfl) rfl ?_))
                                refine RV.op (OV.step gno (Step.assign rfl) rfl ?_)
                                refine RV.nil ?_
                                refine KV.then_n ?_
                                refine KV.env [(5, _), (6, _), (8, _), (9, _), (10, _)] ⟨rfl, rfl, rfl, rfl, rfl, trivial⟩ ?_
                                refine KV.sel [0, 0, 0, 0] [_, _, _, _] rfl ?_
                                refine KV.loopI (k + 1) (by omega) (by omega) ⟨rfl, rfl, rfl, rfl, rfl, trivial⟩ (fun _ h => by rw [trS_on (by omega) hq1, trS_done (by omega) hq1]; exact h)
                · -- False
                  refine SV.step gno (Step.pick_t rfl rfl) rfl ?_
                  refine SV.step gno (Step.move rfl) rfl ?_
                  refine SV.skip rfl rfl ?_
                  refine SV.skip rfl rfl ?_
                  refine SV.skip rfl rfl ?_
                  refine SV.skip rfl rfl ?_
                  refine SV.skip rfl rfl ?_
                  refine SV.skip rfl rfl ?_
                  refine SV.skipU rfl rfl ?_
                  refine SV.skipU rfl rfl ?_
                  refine SV.skipU rfl rfl ?_
                  refine SV.skipU rfl rfl ?_
                  refine SV.skipU rfl rfl ?_
                  refine SV.skipU rfl rfl ?_
                  refine SV.skipU rfl rfl ?_
                  refine SV.skip rfl rfl ?_
                  refine SV.step gno (Step.pick_f rfl rfl) rfl ?_
                  refine SV.nil ?_
                  refine KV.then_n ?_
                  refine KV.env [(5, _), (6, _), (8, _), (9, _), (10, _), (11, _), (78, _)] ⟨rfl, rfl, rfl, rfl, rfl, rfl, rfl, trivial⟩ ?_
                  refine CV.cond_f rfl ?_
                  refine CV.skip ?_
                  refine KV.then_n ?_
                  refine KV.env [(5, _), (6, _), (8, _), (9, _), (10, _), (11, _)] ⟨rfl, rfl, rfl, rfl, rfl, rfl, trivial⟩ ?_
                  refine CV.seq ?_
                  refine CV.seq ?_
                  -- region 15 law.go:201
                  refine CV.region ?_
                  refine RV.op (OV.step gno (Step.assign rfl) rfl ?_)
                  refine RV.nil ?_
                  refine KV.then_n ?_
                  refine KV.env [(5, _), (6, _), (8, _), (9, _), (10, _), (11, _), (13, _)] ⟨rfl, rfl, rfl, rfl, rfl, rfl, rfl, trivial⟩ ?_
                  refine CV.block ?_
                  -- loop L16; live [5, 6, 8, 9, 10, 11, 13]
                  refine KV.sel [0, 0, 0, 0, 0] [_, _, _, _, _] rfl ?_
                  refine CV.loopI (α := Nat) (fun j => j ≤ (someM raw).length) (fun j => (someM raw).length - j) (fun j => [(5, .slice A2 (someM raw).length c2), (6, .slice A3 op2.length c3), (8, .slice A5 (someM raw).length (someM raw).length), (9, .slice A6 (someM raw).length (someM raw).length), (10, .int .i64 k), (11, .pointer (some ⟨b11_4, 0, none⟩)), (13, .int .i64 j)]) (fun _ => Hp I w [OS 35 railK A2 c2 (someM raw), OS 45 opK A3 c3 op2, OS 4 boolK A5 (someM raw).length (trS (sg0 (someM raw).length) op2 k).1, OS 33 (intK .u64) A6 (someM raw).length (trS (sg0 (someM raw).length) op2 k).2, Blk b11_4 (.cells #[.int .i64 q, .bool (op2.getD k opK.d).on, .int .u64 (op2.getD k opK.d).start, .int .u64 (op2.getD k opK.d).done] 45 (0, 0))]) 0 (Nat.zero_le _) ⟨rfl, rfl, rfl, rfl, rfl, rfl, rfl, trivial⟩ (fun _ h => h) ?_
                  intro j hj
                  refine CV.seq ?_
                  refine CV.seq ?_
                  -- region 16 law.go:201
                  refine CV.region ?_
                  refine RV.op (OV.step gno (Step.move rfl) rfl ?_)
                  refine RV.op (OV.step gno (Step.move rfl) rfl ?_)
                  refine RV.op (OV.step gno (Step.lenSl Try.underlying22 rfl) rfl ?_)
                  refine RV.op (OV.split gno (Step.lss rfl rfl) rfl (fun hj2 => ?_) (fun hj2 => ?_))
                  · -- True
                    refine RV.op (OV.step gno (Step.move rfl) rfl ?_)
                    refine RV.op (OV.step (gyes rfl) (Step.fieldAddr rfl (F45_1 _ _)) rfl ?_)
                    refine RV.op (OV.step (gyes rfl) (Step.load Try.underlying4 rfl rfl (fun w h => h.cell 4 rfl rfl)) rfl ?_)
                    refine RV.op (OV.step (gyes rfl) (Step.not rfl) rfl ?_)
                    refine RV.op (OV.step gno (Step.pick_t rfl rfl) rfl ?_)
                    refine RV.nil ?_
                    refine KV.then_n ?_
                    refine KV.env [(5, _), (6, _), (8, _), (9, _), (10, _), (11, _), (13, _), (87, _)] ⟨rfl, rfl, rfl, rfl, rfl, rfl, rfl, rfl, trivial⟩ ?_
                    refine KV.cases 87 rfl (fun cc6 => ?_) (fun cc6 => ?_)
                    · -- True
                      refine CV.cond_t rfl ?_
                      refine CV.skip ?_
                      refine KV.then_n ?_
                      refine KV.env [(5, _), (6, _), (8, _), (9, _), (10, _), (11, _), (13, _)] ⟨rfl, rfl, rfl, rfl, rfl, rfl, rfl, trivial⟩ ?_
                      refine CV.seq ?_
                      refine CV.block ?_
                      refine CV.seq ?_
                      -- region 18 law.go:202
                      refine CV.still (by kernel_rfl) (by kernel_rfl) (fun _ h => h.drew) ?_
                      refine SV.step gno (Step.move rfl) rfl ?_
                      refine SV.step gno (Step.move rfl) rfl ?_
                      refine SV.step gno (Step.idx Try.underlying22 I35 (fun w h => h.os 0 rfl) rfl rfl (by first | rfl | omega | (rw [List.length_set]; omega)) _ rfl (by omega)) rfl ?_
                      refine SV.step gno (Step.fieldAddr rfl (F35_0 _ _)) rfl ?_
                      refine SV.step gno (Step.load Try.underlying3 rfl rfl (fun w h => (h.os 0 rfl).cell0 (by omega) rfl)) rfl ?_
                      refine SV.step gno (Step.fieldAddr rfl (F45_0 _ _)) rfl ?_
                      refine SV.step gno (Step.load Try.underlying3 rfl rfl (fun w h => h.cell 4 rfl rfl)) rfl ?_
                      refine SV.split gno (Step.eql rfl rfl) rfl (fun e3 => ?_) (fun e3 => ?_)
                      · -- True
                        have hfu := hoff (by first | assumption | (simp only [Bool.not_eq_true'] at *; assumption)) j (by omega) e3
                        refine SV.step gno (Step.move rfl) rfl ?_
                        refine SV.step (gyes rfl) (Step.move rfl) rfl ?_
                        refine SV.step (gyes rfl) (Step.move rfl) rfl ?_
                        refine SV.step (gyes rfl) (Step.idx Try.underlying42 I4 (fun w h => h.os 2 rfl) rfl rfl (by first | rfl | omega | (rw [List.length_set]; omega)) _ rfl (by omega)) rfl ?_
                        refine SV.step (gyes rfl) (Step.load Try.underlying4 rfl rfl (fun w h => (h.os 2 rfl).cell0 (by omega) rfl)) rfl ?_
                        refine SV.step (gyes rfl) (Step.move rfl) rfl ?_
                        refine SV.cases 103 rfl (fun cc7 => ?_) (fun cc7 => ?_)
                        · -- True
                          refine SV.skip rfl rfl ?_
                          refine SV.skip rfl rfl ?_
                          refine SV.skip rfl rfl ?_
                          refine SV.skip rfl rfl ?_
                          refine SV.skip rfl rfl ?_
                          refine SV.skip rfl rfl ?_
                          refine SV.skip rfl rfl ?_
                          refine SV.step (gyes rfl) (Step.pick_t rfl rfl) rfl ?_
                          refine SV.step gno (Step.pick_t rfl rfl) rfl ?_
                          refine SV.nil ?_
                          refine KV.then_n ?_
                          refine KV.env [(5, _), (6, _), (8, _), (9, _), (10, _), (11, _), (13, _), (112, _)] ⟨rfl, rfl, rfl, rfl, rfl, rfl, rfl, rfl, trivial⟩ ?_
                          refine CV.cond_t rfl ?_
                          refine CV.seq ?_
                          -- region 19 law.go:203
                          refine CV.region ?_
                          refine RV.op (OV.step gno (Step.assign rfl) rfl ?_)
                          refine RV.nil ?_
                          refine KV.then_n ?_
                          refine KV.env [(4, _)] ⟨rfl, trivial⟩ ?_
                          refine CV.ret ?_
                          refine KV.block_ret ?_
                          refine KV.then_ret ?_
                          refine KV.then_ret ?_
                          refine KV.block_ret ?_
                          refine KV.then_ret ?_
                          refine KV.block_ret ?_
                          refine KV.then_ret ?_
                          refine KV.then_ret ?_
                          refine KV.block_ret ?_
                          refine KV.then_ret ?_
                          -- return at r19
                          refine KV.sel [] [] rfl ?_
                          exfalso
                          simp_all
                        · -- False
                          refine SV.step (gyes rfl) (Step.move rfl) rfl ?_
                          refine SV.step (gyes rfl) (Step.move rfl) rfl ?_
                          refine SV.step (gyes rfl) (Step.idx Try.underlying43 I33 (fun w h => h.os 3 rfl) rfl rfl (by first | rfl | omega | (rw [List.length_set]; omega)) _ rfl (by omega)) rfl ?_
                          refine SV.step (gyes rfl) (Step.load Try.underlying33 rfl rfl (fun w h => (h.os 3 rfl).cell0 (by omega) rfl)) rfl ?_
                          refine SV.step (gyes rfl) (Step.fieldAddr rfl (F45_2 _ _)) rfl ?_
                          refine SV.step (gyes rfl) (Step.load Try.underlying33 rfl rfl (fun w h => h.cell 4 rfl rfl)) rfl ?_
                          refine SV.split (gyes rfl) (Step.gtr rfl rfl) rfl (fun e4 => ?_) (fun e4 => ?_)
                          · -- True
                            exact absurd (Int.lt_of_lt_of_le e4 hfu.2) (Int.lt_irrefl _)
                          · -- False
                            refine SV.step (gyes rfl) (Step.pick_f rfl rfl) rfl ?_
                            refine SV.step gno (Step.pick_t rfl rfl) rfl ?_
                            refine SV.nil ?_
                            refine KV.then_n ?_
                            refine KV.env [(5, _), (6, _), (8, _), (9, _), (10, _), (11, _), (13, _), (112, _)] ⟨rfl, rfl, rfl, rfl, rfl, rfl, rfl, rfl, trivial⟩ ?_
                            refine CV.cond_f rfl ?_
                            refine CV.skip ?_
                            refine KV.block_n ?_
                            refine KV.then_n ?_
                            refine KV.env [(5, _), (6, _), (8, _), (9, _), (10, _), (11, _), (13, _)] ⟨rfl, rfl, rfl, rfl, rfl, rfl, rfl, trivial⟩ ?_
                            -- region 17 law.go:201
                            refine CV.region ?_
                            refine RV.op (OV.step gno (Step.move rfl) rfl ?_)
                            (first | refine RV.op (OV.step gno (Step.add rfl rfl (wI64 (by omega) (by omega))) rfl ?_) | refine RV.op (OV.step gno (Step.add rfl rfl rfl) rfl ?_))
                            refine RV.op (OV.step gno (Step.assign rfl) rfl ?_)
                            refine RV.nil ?_
                            refine KV.then_n ?_
                            refine KV.env [(5, _), (6, _), (8, _), (9, _), (10, _), (11, _), (13, _)] ⟨rfl, rfl, rfl, rfl, rfl, rfl, rfl, trivial⟩ ?_
                            refine KV.sel [0, 0, 0, 0, 0] [_, _, _, _, _] rfl ?_
                            refine KV.loopI (j + 1) (by omega) (by omega) ⟨rfl, rfl, rfl, rfl, rfl, rfl, rfl, trivial⟩ (fun _ h => h)
                      · -- False
                        refine SV.step gno (Step.move rfl) rfl ?_
                        refine SV.skip rfl rfl ?_
                        refine SV.skip rfl rfl ?_
                        refine SV.skip rfl rfl ?_
                        refine SV.skip rfl rfl ?_
                        refine SV.skip rfl rfl ?_
                        refine SV.skipU rfl rfl ?_
                        refine SV.skipU rfl rfl ?_
                        refine SV.skipU rfl rfl ?_
                        refine SV.skipU rfl rfl ?_
                        refine SV.skipU rfl rfl ?_
                        refine SV.skipU rfl rfl ?_
                        refine SV.skipU rfl rfl ?_
                        refine SV.skip rfl rfl ?_
                        refine SV.step gno (Step.pick_f rfl rfl) rfl ?_
                        refine SV.nil ?_
                        refine KV.then_n ?_
                        refine KV.env [(5, _), (6, _), (8, _), (9, _), (10, _), (11, _), (13, _), (112, _)] ⟨rfl, rfl, rfl, rfl, rfl, rfl, rfl, rfl, trivial⟩ ?_
                        refine CV.cond_f rfl ?_
                        refine CV.skip ?_
                        refine KV.block_n ?_
                        refine KV.then_n ?_
                        refine KV.env [(5, _), (6, _), (8, _), (9, _), (10, _), (11, _), (13, _)] ⟨rfl, rfl, rfl, rfl, rfl, rfl, rfl, trivial⟩ ?_
                        -- region 17 law.go:201
                        refine CV.region ?_
                        refine RV.op (OV.step gno (Step.move rfl) rfl ?_)
                        (first | refine RV.op (OV.step gno (Step.add rfl rfl (wI64 (by omega) (by omega))) rfl ?_) | refine RV.op (OV.step gno (Step.add rfl rfl rfl) rfl ?_))
                        refine RV.op (OV.step gno (Step.assign rfl) rfl ?_)
                        refine RV.nil ?_
                        refine KV.then_n ?_
                        refine KV.env [(5, _), (6, _), (8, _), (9, _), (10, _), (11, _), (13, _)] ⟨rfl, rfl, rfl, rfl, rfl, rfl, rfl, trivial⟩ ?_
                        refine KV.sel [0, 0, 0, 0, 0] [_, _, _, _, _] rfl ?_
                        refine KV.loopI (j + 1) (by omega) (by omega) ⟨rfl, rfl, rfl, rfl, rfl, rfl, rfl, trivial⟩ (fun _ h => h)
                    · -- False
                      refine CV.cond_f rfl ?_
                      refine CV.exit ?_
                      refine KV.then_exit ?_
                      refine KV.then_exit ?_
                      refine KV.block_hit ?_
                      refine KV.then_n ?_
                      refine KV.env [(5, _), (6, _), (8, _), (9, _), (10, _), (11, _)] ⟨rfl, rfl, rfl, rfl, rfl, rfl, trivial⟩ ?_
                      -- region 20 law.go:206
                      refine CV.any (Hp I w [Blk b11_4 (.cells #[.int .i64 q, .bool (op2.getD k opK.d).on, .int .u64 (op2.getD k opK.d).start, .int .u64 (op2.getD k opK.d).done] 45 (0, 0))]) (by kernel_rfl) (fun _ h => h.drew) 14 rfl ?_
                      refine AV.take 0 #[true, false, false, false, false, false, false, false, false, false, false, false, false, false] rfl (by kernel_rfl) (by kernel_rfl) (by kernel_rfl) (fun _ _ _ h => h) gno (Step.move rfl) rfl (fun _ h => h.sel [4] rfl) (by kernel_rfl) ?_
                      refine AV.take 1 #[true, true, false, false, false, false, false, false, false, false, false, false, false, false] rfl (by kernel_rfl) (by kernel_rfl) (by kernel_rfl) (fun _ _ _ h => h) gno (Step.fieldAddr rfl (F45_0 _ _)) rfl (fun _ h => h.sel [4] rfl) (by kernel_rfl) ?_
                      refine AV.take 2 #[true, true, true, false, false, false, false, false, false, false, false, false, false, false] rfl (by kernel_rfl) (by kernel_rfl) (by kernel_rfl) (fun _ _ _ h => h) gno (Step.load Try.underlying3 rfl rfl (fun w h => h.cell 0 rfl rfl)) rfl (fun _ h => h.sel [4] rfl) (by kernel_rfl) ?_
                      refine AV.take 3 #[true, true, true, true, false, false, false, false, false, false, false, false, false, false] rfl (by kernel_rfl) (by kernel_rfl) (by kernel_rfl) (fun _ _ _ h => h) gno (Step.move rfl) rfl (fun _ h => h.sel [4] rfl) (by kernel_rfl) ?_
                      refine AV.take 4 #[true, true, true, true, true, false, false, false, false, false, false, false, false, false] rfl (by kernel_rfl) (by kernel_rfl) (by kernel_rfl) (fun _ _ _ h => h) gno (Step.fieldAddr rfl (F45_0 _ _)) rfl (fun _ h => h.sel [4] rfl) (by kernel_rfl) ?_
                      refine AV.take 5 #[true, true, true, true, true, true, false, false, false, false, false, false, false, false] rfl (by kernel_rfl) (by kernel_rfl) (by kernel_rfl) (fun _ _ _ h => h) gno (Step.load Try.underlying3 rfl rfl (fun w h => h.cell 0 rfl rfl)) rfl (fun _ h => h.sel [4] rfl) (by kernel_rfl) ?_
                      refine AV.take 6 #[true, true, true, true, true, true, true, false, false, false, false, false, false, false] rfl (by kernel_rfl) (by kernel_rfl) (by kernel_rfl) (fun _ _ _ h => h) gno (Step.fieldAddr rfl (F45_1 _ _)) rfl (fun _ h => h.sel [4] rfl) (by kernel_rfl) ?_
                      refine AV.take 7 #[true, true, true, true, true, true, true, true, false, false, false, false, false, false] rfl (by kernel_rfl) (by kernel_rfl) (by kernel_rfl) (fun _ _ _ h => h) gno (Step.load Try.underlying4 rfl rfl (fun w h => h.cell 0 rfl rfl)) rfl (fun _ h => h.sel [4] rfl) (by kernel_rfl) ?_
                      refine AV.take 8 #[true, true, true, true, true, true, true, true, true, false, false, false, false, false] rfl (by kernel_rfl) (by kernel_rfl) (by kernel_rfl) (fun _ _ _ h => h) gno (Step.fieldAddr rfl (F45_3 _ _)) rfl (fun _ h => h.sel [4] rfl) (by kernel_rfl) ?_
                      refine AV.take 9 #[true, true, true, true, true, true, true, true, true, true, false, false, false, false] rfl (by kernel_rfl) (by kernel_rfl) (by kernel_rfl) (fun _ _ _ h => h) gno (Step.load Try.underlying33 rfl rfl (fun w h => h.cell 0 rfl rfl)) rfl (fun _ h => h.sel [4] rfl) (by kernel_rfl) ?_
                      refine AV.all [10] (by kernel_rfl) (by decide) ?_
                      refine ⟨⟨_, rfl, ?_⟩, trivial⟩
                      · -- 10 comes up
                        refine OV.step gno (Step.idx Try.underlying42 I4 (fun w h => h.os 2 rfl) rfl rfl (by first | rfl | omega | (rw [List.length_set]; omega)) _ rfl (by omega)) rfl ?_
                        refine AV.next #[true, true, true, true, true, true, true, true, true, true, true, false, false, false] (by kernel_rfl) (fun _ h => h.sel [4] rfl) ?_
                        refine AV.all [11] (by kernel_rfl) (by decide) ?_
                        refine ⟨⟨_, rfl, ?_⟩, trivial⟩
                        · -- 11 comes up
                          refine OV.storeE 2 (q) (_) (j := 0) [_] I4 rfl rfl rfl rfl rfl rfl (by omega) rfl (Nat.le_of_ble_eq_true rfl) gno ?_
                          refine AV.next #[true, true, true, true, true, true, true, true, true, true, true, true, false, false] (by kernel_rfl) (fun _ h => h.sel [4] rfl) ?_
                          refine AV.all [12] (by kernel_rfl) (by decide) ?_
                          refine ⟨⟨_, rfl, ?_⟩, trivial⟩
                          · -- 12 comes up
                            refine OV.step gno (Step.idx Try.underlying43 I33 (fun w h => h.os 3 rfl) rfl rfl (by first | rfl | omega | (rw [List.length_set]; omega)) _ rfl (by omega)) rfl ?_
                            refine AV.next #[true, true, true, true, true, true, true, true, true, true, true, true, true, false] (by kernel_rfl) (fun _ h => h.sel [4] rfl) ?_
                            refine AV.all [13] (by kernel_rfl) (by decide) ?_
                            refine ⟨⟨_, rfl, ?_⟩, trivial⟩
                            · -- 13 comes up
                              refine OV.storeE 3 (q) (_) (j := 0) [_] I33 rfl rfl rfl rfl rfl rfl (by omega) rfl (Nat.le_of_ble_eq_true rfl) gno ?_
                              refine AV.next #[true, true, true, true, true, true, true, true, true, true, true, true, true, true] (by kernel_rfl) (fun _ h => h.sel [4] rfl) ?_
                              refine AV.done (by kernel_rfl) ?_
                              refine KV.block_n ?_
                              refine KV.then_n ?_
                              refine KV.env [(5, _), (6, _), (8, _), (9, _), (10, _)] ⟨rfl, rfl, rfl, rfl, rfl, trivial⟩ ?_
                              -- region 10 law.go:196
                              refine CV.region ?_
                              refine RV.op (OV.step gno (Step.move rfl) rfl ?_)
                              (first | refine RV.op (OV.step gno (Step.add rfl rfl (wI64 (by omega) (by omega))) rfl ?_) | refine RV.op (OV.step gno (Step.add rfl rfl rfl) rfl ?_))
                              refine RV.op (OV.step gno (Step.assign rfl) rfl ?_)
                              refine RV.nil ?_
                              refine KV.then_n ?_
                              refine KV.env [(5, _), (6, _), (8, _), (9, _), (10, _)] ⟨rfl, rfl, rfl, rfl, rfl, trivial⟩ ?_
                              refine KV.sel [0, 0, 0, 0] [_, _, _, _] rfl ?_
                              refine KV.loopI (k + 1) (by omega) (by omega) ⟨rfl, rfl, rfl, rfl, rfl, trivial⟩ (fun _ h => by rw [trS_on (by omega) hq1, trS_done (by omega) hq1]; exact h)
                  · -- False
                    refine RV.op (OV.step gno (Step.move rfl) rfl ?_)
                    refine RV.op (OV.skip rfl rfl ?_)
                    refine RV.op (OV.skip rfl rfl ?_)
                    refine RV.op (OV.skip rfl rfl ?_)
                    refine RV.op (OV.step gno (Step.pick_f rfl rfl) rfl ?_)
                    refine RV.nil ?_
                    refine KV.then_n ?_
                    refine KV.env [(5, _), (6, _), (8, _), (9, _), (10, _), (11, _), (13, _), (87, _)] ⟨rfl, rfl, rfl, rfl, rfl, rfl, rfl, rfl, trivial⟩ ?_
                    refine CV.cond_f rfl ?_
                    refine CV.exit ?_
                    refine KV.then_exit ?_
                    refine KV.then_exit ?_
                    refine KV.block_hit ?_
                    refine KV.then_n ?_
                    refine KV.env [(5, _), (6, _), (8, _), (9, _), (10, _), (11, _)] ⟨rfl, rfl, rfl, rfl, rfl, rfl, trivial⟩ ?_
                    -- region 20 law.go:206
                    refine CV.any (Hp I w [Blk b11_4 (.cells #[.int .i64 q, .bool (op2.getD k opK.d).on, .int .u64 (op2.getD k opK.d).start, .int .u64 (op2.getD k opK.d).done] 45 (0, 0))]) (by kernel_rfl) (fun _ h => h.drew) 14 rfl ?_
                    refine AV.take 0 #[true, false, false, false, false, false, false, false, false, false, false, false, false, false] rfl (by kernel_rfl) (by kernel_rfl) (by kernel_rfl) (fun _ _ _ h => h) gno (Step.move rfl) rfl (fun _ h => h.sel [4] rfl) (by kernel_rfl) ?_
                    refine AV.take 1 #[true, true, false, false, false, false, false, false, false, false, false, false, false, false] rfl (by kernel_rfl) (by kernel_rfl) (by kernel_rfl) (fun _ _ _ h => h) gno (Step.fieldAddr rfl (F45_0 _ _)) rfl (fun _ h => h.sel [4] rfl) (by kernel_rfl) ?_
                    refine AV.take 2 #[true, true, true, false, false, false, false, false, false, false, false, false, false, false] rfl (by kernel_rfl) (by kernel_rfl) (by kernel_rfl) (fun _ _ _ h => h) gno (Step.load Try.underlying3 rfl rfl (fun w h => h.cell 0 rfl rfl)) rfl (fun _ h => h.sel [4] rfl) (by kernel_rfl) ?_
                    refine AV.take 3 #[true, true, true, true, false, false, false, false, false, false, false, false, false, false] rfl (by kernel_rfl) (by kernel_rfl) (by kernel_rfl) (fun _ _ _ h => h) gno (Step.move rfl) rfl (fun _ h => h.sel [4] rfl) (by kernel_rfl) ?_
                    refine AV.take 4 #[true, true, true, true, true, false, false, false, false, false, false, false, false, false] rfl (by kernel_rfl) (by kernel_rfl) (by kernel_rfl) (fun _ _ _ h => h) gno (Step.fieldAddr rfl (F45_0 _ _)) rfl (fun _ h => h.sel [4] rfl) (by kernel_rfl) ?_
                    refine AV.take 5 #[true, true, true, true, true, true, false, false, false, false, false, false, false, false] rfl (by kernel_rfl) (by kernel_rfl) (by kernel_rfl) (fun _ _ _ h => h) gno (Step.load Try.underlying3 rfl rfl (fun w h => h.cell 0 rfl rfl)) rfl (fun _ h => h.sel [4] rfl) (by kernel_rfl) ?_
                    refine AV.take 6 #[true, true, true, true, true, true, true, false, false, false, false, false, false, false] rfl (by kernel_rfl) (by kernel_rfl) (by kernel_rfl) (fun _ _ _ h => h) gno (Step.fieldAddr rfl (F45_1 _ _)) rfl (fun _ h => h.sel [4] rfl) (by kernel_rfl) ?_
                    refine AV.take 7 #[true, true, true, true, true, true, true, true, false, false, false, false, false, false] rfl (by kernel_rfl) (by kernel_rfl) (by kernel_rfl) (fun _ _ _ h => h) gno (Step.load Try.underlying4 rfl rfl (fun w h => h.cell 0 rfl rfl)) rfl (fun _ h => h.sel [4] rfl) (by kernel_rfl) ?_
                    refine AV.take 8 #[true, true, true, true, true, true, true, true, true, false, false, false, false, false] rfl (by kernel_rfl) (by kernel_rfl) (by kernel_rfl) (fun _ _ _ h => h) gno (Step.fieldAddr rfl (F45_3 _ _)) rfl (fun _ h => h.sel [4] rfl) (by kernel_rfl) ?_
                    refine AV.take 9 #[true, true, true, true, true, true, true, true, true, true, false, false, false, false] rfl (by kernel_rfl) (by kernel_rfl) (by kernel_rfl) (fun _ _ _ h => h) gno (Step.load Try.underlying33 rfl rfl (fun w h => h.cell 0 rfl rfl)) rfl (fun _ h => h.sel [4] rfl) (by kernel_rfl) ?_
                    refine AV.all [10] (by kernel_rfl) (by decide) ?_
                    refine ⟨⟨_, rfl, ?_⟩, trivial⟩
                    · -- 10 comes up
                      refine OV.step gno (Step.idx Try.underlying42 I4 (fun w h => h.os 2 rfl) rfl rfl (by first | rfl | omega | (rw [List.length_set]; omega)) _ rfl (by omega)) rfl ?_
                      refine AV.next #[true, true, true, true, true, true, true, true, true, true, true, false, false, false] (by kernel_rfl) (fun _ h => h.sel [4] rfl) ?_
                      refine AV.all [11] (by kernel_rfl) (by decide) ?_
                      refine ⟨⟨_, rfl, ?_⟩, trivial⟩
                      · -- 11 comes up
                        refine OV.storeE 2 (q) (_) (j := 0) [_] I4 rfl rfl rfl rfl rfl rfl (by omega) rfl (Nat.le_of_ble_eq_true rfl) gno ?_
                        refine AV.next #[true, true, true, true, true, true, true, true, true, true, true, true, false, false] (by kernel_rfl) (fun _ h => h.sel [4] rfl) ?_
                        refine AV.all [12] (by kernel_rfl) (by decide) ?_
                        refine ⟨⟨_, rfl, ?_⟩, trivial⟩
                        · -- 12 comes up
                          refine OV.step gno (Step.idx Try.underlying43 I33 (fun w h => h.os 3 rfl) rfl rfl (by first | rfl | omega | (rw [List.length_set]; omega)) _ rfl (by omega)) rfl ?_
                          refine AV.next #[true, true, true, true, true, true, true, true, true, true, true, true, true, false] (by kernel_rfl) (fun _ h => h.sel [4] rfl) ?_
                          refine AV.all [13] (by kernel_rfl) (by decide) ?_
                          refine ⟨⟨_, rfl, ?_⟩, trivial⟩
                          · -- 13 comes up
                            refine OV.storeE 3 (q) (_) (j := 0) [_] I33 rfl rfl rfl rfl rfl rfl (by omega) rfl (Nat.le_of_ble_eq_true rfl) gno ?_
                            refine AV.next #[true, true, true, true, true, true, true, true, true, true, true, true, true, true] (by kernel_rfl) (fun _ h => h.sel [4] rfl) ?_
                            refine AV.done (by kernel_rfl) ?_
                            refine KV.block_n ?_
                            refine KV.then_n ?_
                            refine KV.env [(5, _), (6, _), (8, _), (9, _), (10, _)] ⟨rfl, rfl, rfl, rfl, rfl, trivial⟩ ?_
                            -- region 10 law.go:196
                            refine CV.region ?_
                            refine RV.op (OV.step gno (Step.move rfl) rfl ?_)
                            (first | refine RV.op (OV.step gno (Step.add rfl rfl (wI64 (by omega) (by omega))) rfl ?_) | refine RV.op (OV.step gno (Step.add rfl rfl rfl) rfl ?_))
                            refine RV.op (OV.step gno (Step.assign rfl) rfl ?_)
                            refine RV.nil ?_
                            refine KV.then_n ?_
                            refine KV.env [(5, _), (6, _), (8, _), (9, _), (10, _)] ⟨rfl, rfl, rfl, rfl, rfl, trivial⟩ ?_
                            refine KV.sel [0, 0, 0, 0] [_, _, _, _] rfl ?_
                            refine KV.loopI (k + 1) (by omega) (by omega) ⟨rfl, rfl, rfl, rfl, rfl, trivial⟩ (fun _ h => by rw [trS_on (by omega) hq1, trS_done (by omega) hq1]; exact h)
              · -- False
                refine SV.skip rfl rfl ?_
                refine SV.skip rfl rfl ?_
                refine SV.step gno (Step.pick_f rfl rfl) rfl ?_
                refine SV.step gno (Step.move rfl) rfl ?_
                refine SV.skip rfl rfl ?_
                refine SV.skip rfl rfl ?_
                refine SV.skip rfl rfl ?_
                refine SV.skip rfl rfl ?_
                refine SV.skip rfl rfl ?_
                refine SV.skip rfl rfl ?_
                refine SV.skipU rfl rfl ?_
                refine SV.skipU rfl rfl ?_
                refine SV.skipU rfl rfl ?_
                refine SV.skipU rfl rfl ?_
                refine SV.skipU rfl rfl ?_
                refine SV.skipU rfl rfl ?_
                refine SV.skipU rfl rfl ?_
                refine SV.skip rfl rfl ?_
                refine SV.step gno (Step.pick_f rfl rfl) rfl ?_
                refine SV.nil ?_
                refine KV.then_n ?_
                refine KV.env [(5, _), (6, _), (8, _), (9, _), (10, _), (11, _), (78, _)] ⟨rfl, rfl, rfl, rfl, rfl, rfl, rfl, trivial⟩ ?_
                refine CV.cond_f rfl ?_
                refine CV.skip ?_
                refine KV.then_n ?_
                refine KV.env [(5, _), (6, _), (8, _), (9, _), (10, _), (11, _)] ⟨rfl, rfl, rfl, rfl, rfl, rfl, trivial⟩ ?_
                refine CV.seq ?_
                refine CV.seq ?_
                -- region 15 law.go:201
                refine CV.region ?_
                refine RV.op (OV.step gno (Step.assign rfl) rfl ?_)
                refine RV.nil ?_
                refine KV.then_n ?_
                refine KV.env [(5, _), (6, _), (8, _), (9, _), (10, _), (11, _), (13, _)] ⟨rfl, rfl, rfl, rfl, rfl, rfl, rfl, trivial⟩ ?_
                refine CV.block ?_
                -- loop L16; live [5, 6, 8, 9, 10, 11, 13]
                refine KV.sel [0, 0, 0, 0, 0] [_, _, _, _, _] rfl ?_
                refine CV.loopI (α := Nat) (fun j => j ≤ (someM raw).length) (fun j => (someM raw).length - j) (fun j => [(5, .slice A2 (someM raw).length c2), (6, .slice A3 op2.length c3), (8, .slice A5 (someM raw).length (someM raw).length), (9, .slice A6 (someM raw).length (someM raw).length), (10, .int .i64 k), (11, .pointer (some ⟨b11_4, 0, none⟩)), (13, .int .i64 j)]) (fun _ => Hp I w [OS 35 railK A2 c2 (someM raw), OS 45 opK A3 c3 op2, OS 4 boolK A5 (someM raw).length (trS (sg0 (someM raw).length) op2 k).1, OS 33 (intK .u64) A6 (someM raw).length (trS (sg0 (someM raw).length) op2 k).2, Blk b11_4 (.cells #[.int .i64 q, .bool (op2.getD k opK.d).on, .int .u64 (op2.getD k opK.d).start, .int .u64 (op2.getD k opK.d).done] 45 (0, 0))]) 0 (Nat.zero_le _) ⟨rfl, rfl, rfl, rfl, rfl, rfl, rfl, trivial⟩ (fun _ h => h) ?_
                intro j hj
                refine CV.seq ?_
                refine CV.seq ?_
                -- region 16 law.go:201
                refine CV.region ?_
                refine RV.op (OV.step gno (Step.move rfl) rfl ?_)
                refine RV.op (OV.step gno (Step.move rfl) rfl ?_)
                refine RV.op (OV.step gno (Step.lenSl Try.underlying22 rfl) rfl ?_)
                refine RV.op (OV.split gno (Step.lss rfl rfl) rfl (fun hj2 => ?_) (fun hj2 => ?_))
                · -- True
                  refine RV.op (OV.step gno (Step.move rfl) rfl ?_)
                  refine RV.op (OV.step (gyes rfl) (Step.fieldAddr rfl (F45_1 _ _)) rfl ?_)
                  refine RV.op (OV.step (gyes rfl) (Step.load Try.underlying4 rfl rfl (fun w h => h.cell 4 rfl rfl)) rfl ?_)
                  refine RV.op (OV.step (gyes rfl) (Step.not rfl) rfl ?_)
                  refine RV.op (OV.step gno (Step.pick_t rfl rfl) rfl ?_)
                  refine RV.nil ?_
                  refine KV.then_n ?_
                  refine KV.env [(5, _), (6, _), (8, _), (9, _), (10, _), (11, _), (13, _), (87, _)] ⟨rfl, rfl, rfl, rfl, rfl, rfl, rfl, rfl, trivial⟩ ?_
                  refine KV.cases 87 rfl (fun cc8 => ?_) (fun cc8 => ?_)
                  · -- True
                    refine CV.cond_t rfl ?_
                    refine CV.skip ?_
                    refine KV.then_n ?_
                    refine KV.env [(5, _), (6, _), (8, _), (9, _), (10, _), (11, _), (13, _)] ⟨rfl, rfl, rfl, rfl, rfl, rfl, rfl, trivial⟩ ?_
                    refine CV.seq ?_
                    refine CV.block ?_
                    refine CV.seq ?_
                    -- region 18 law.go:202
                    refine CV.still (by kernel_rfl) (by kernel_rfl) (fun _ h => h.drew) ?_
                    refine SV.step gno (Step.move rfl) rfl ?_
                    refine SV.step gno (Step.move rfl) rfl ?_
                    refine SV.step gno (Step.idx Try.underlying22 I35 (fun w h => h.os 0 rfl) rfl rfl (by first | rfl | omega | (rw [List.length_set]; omega)) _ rfl (by omega)) rfl ?_
                    refine SV.step gno (Step.fieldAddr rfl (F35_0 _ _)) rfl ?_
                    refine SV.step gno (Step.load Try.underlying3 rfl rfl (fun w h => (h.os 0 rfl).cell0 (by omega) rfl)) rfl ?_
                    refine SV.step gno (Step.fieldAddr rfl (F45_0 _ _)) rfl ?_
                    refine SV.step gno (Step.load Try.underlying3 rfl rfl (fun w h => h.cell 4 rfl rfl)) rfl ?_
                    refine SV.split gno (Step.eql rfl rfl) rfl (fun e3 => ?_) (fun e3 => ?_)
                    · -- True
                      have hfu := hoff (by first | assumption | (simp only [Bool.not_eq_true'] at *; assumption)) j (by omega) e3
                      refine SV.step gno (Step.move rfl) rfl ?_
                      refine SV.step (gyes rfl) (Step.move rfl) rfl ?_
                      refine SV.step (gyes rfl) (Step.move rfl) rfl ?_
                      refine SV.step (gyes rfl) (Step.idx Try.underlying42 I4 (fun w h => h.os 2 rfl) rfl rfl (by first | rfl | omega | (rw [List.length_set]; omega)) _ rfl (by omega)) rfl ?_
                      refine SV.step (gyes rfl) (Step.load Try.underlying4 rfl rfl (fun w h => (h.os 2 rfl).cell0 (by omega) rfl)) rfl ?_
                      refine SV.step (gyes rfl) (Step.move rfl) rfl ?_
                      refine SV.cases 103 rfl (fun cc9 => ?_) (fun cc9 => ?_)
                      · -- True
                        refine SV.skip rfl rfl ?_
                        refine SV.skip rfl rfl ?_
                        refine SV.skip rfl rfl ?_
                        refine SV.skip rfl rfl ?_
                        refine SV.skip rfl rfl ?_
                        refine SV.skip rfl rfl ?_
                        refine SV.skip rfl rfl ?_
                        refine SV.step (gyes rfl) (Step.pick_t rfl rfl) rfl ?_
                        refine SV.step gno (Step.pick_t rfl rfl) rfl ?_
                        refine SV.nil ?_
                        refine KV.then_n ?_
                        refine KV.env [(5, _), (6, _), (8, _), (9, _), (10, _), (11, _), (13, _), (112, _)] ⟨rfl, rfl, rfl, rfl, rfl, rfl, rfl, rfl, trivial⟩ ?_
                        refine CV.cond_t rfl ?_
                        refine CV.seq ?_
                        -- region 19 law.go:203
                        refine CV.region ?_
                        refine RV.op (OV.step gno (Step.assign rfl) rfl ?_)
                        refine RV.nil ?_
                        refine KV.then_n ?_
                        refine KV.env [(4, _)] ⟨rfl, trivial⟩ ?_
                        refine CV.ret ?_
                        refine KV.block_ret ?_
                        refine KV.then_ret ?_
                        refine KV.then_ret ?_
                        refine KV.block_ret ?_
                        refine KV.then_ret ?_
                        refine KV.block_ret ?_
                        refine KV.then_ret ?_
                        refine KV.then_ret ?_
                        refine KV.block_ret ?_
                        refine KV.then_ret ?_
                        -- return at r19
                        refine KV.sel [] [] rfl ?_
                        exfalso
                        simp_all
                      · -- False
                        refine SV.step (gyes rfl) (Step.move rfl) rfl ?_
                        refine SV.step (gyes rfl) (Step.move rfl) rfl ?_
                        refine SV.step (gyes rfl) (Step.idx Try.underlying43 I33 (fun w h => h.os 3 rfl) rfl rfl (by first | rfl | omega | (rw [List.length_set]; omega)) _ rfl (by omega)) rfl ?_
                        refine SV.step (gyes rfl) (Step.load Try.underlying33 rfl rfl (fun w h => (h.os 3 rfl).cell0 (by omega) rfl)) rfl ?_
                        refine SV.step (gyes rfl) (Step.fieldAddr rfl (F45_2 _ _)) rfl ?_
                        refine SV.step (gyes rfl) (Step.load Try.underlying33 rfl rfl (fun w h => h.cell 4 rfl rfl)) rfl ?_
                        refine SV.split (gyes rfl) (Step.gtr rfl rfl) rfl (fun e4 => ?_) (fun e4 => ?_)
                        · -- True
                          exact absurd (Int.lt_of_lt_of_le e4 hfu.2) (Int.lt_irrefl _)
                        · -- False
                          refine SV.step (gyes rfl) (Step.pick_f rfl rfl) rfl ?_
                          refine SV.step gno (Step.pick_t rfl rfl) rfl ?_
                          refine SV.nil ?_
                          refine KV.then_n ?_
                          refine KV.env [(5, _), (6, _), (8, _), (9, _), (10, _), (11, _), (13, _), (112, _)] ⟨rfl, rfl, rfl, rfl, rfl, rfl, rfl, rfl, trivial⟩ ?_
                          refine CV.cond_f rfl ?_
                          refine CV.skip ?_
                          refine KV.block_n ?_
                          refine KV.then_n ?_
                          refine KV.env [(5, _), (6, _), (8, _), (9, _), (10, _), (11, _), (13, _)] ⟨rfl, rfl, rfl, rfl, rfl, rfl, rfl, trivial⟩ ?_
                          -- region 17 law.go:201
                          refine CV.region ?_
                          refine RV.op (OV.step gno (Step.move rfl) rfl ?_)
                          (first | refine RV.op (OV.step gno (Step.add rfl rfl (wI64 (by omega) (by omega))) rfl ?_) | refine RV.op (OV.step gno (Step.add rfl rfl rfl) rfl ?_))
                          refine RV.op (OV.step gno (Step.assign rfl) rfl ?_)
                          refine RV.nil ?_
                          refine KV.then_n ?_
                          refine KV.env [(5, _), (6, _), (8, _), (9, _), (10, _), (11, _), (13, _)] ⟨rfl, rfl, rfl, rfl, rfl, rfl, rfl, trivial⟩ ?_
                          refine KV.sel [0, 0, 0, 0, 0] [_, _, _, _, _] rfl ?_
                          refine KV.loopI (j + 1) (by omega) (by omega) ⟨rfl, rfl, rfl, rfl, rfl, rfl, rfl, trivial⟩ (fun _ h => h)
                    · -- False
                      refine SV.step gno (Step.move rfl) rfl ?_
                      refine SV.skip rfl rfl ?_
                      refine SV.skip rfl rfl ?_
                      refine SV.skip rfl rfl ?_
                      refine SV.skip rfl rfl ?_
                      refine SV.skip rfl rfl ?_
                      refine SV.skipU rfl rfl ?_
                      refine SV.skipU rfl rfl ?_
                      refine SV.skipU rfl rfl ?_
                      refine SV.skipU rfl rfl ?_
                      refine SV.skipU rfl rfl ?_
                      refine SV.skipU rfl rfl ?_
                      refine SV.skipU rfl rfl ?_
                      refine SV.skip rfl rfl ?_
                      refine SV.step gno (Step.pick_f rfl rfl) rfl ?_
                      refine SV.nil ?_
                      refine KV.then_n ?_
                      refine KV.env [(5, _), (6, _), (8, _), (9, _), (10, _), (11, _), (13, _), (112, _)] ⟨rfl, rfl, rfl, rfl, rfl, rfl, rfl, rfl, trivial⟩ ?_
                      refine CV.cond_f rfl ?_
                      refine CV.skip ?_
                      refine KV.block_n ?_
                      refine KV.then_n ?_
                      refine KV.env [(5, _), (6, _), (8, _), (9, _), (10, _), (11, _), (13, _)] ⟨rfl, rfl, rfl, rfl, rfl, rfl, rfl, trivial⟩ ?_
                      -- region 17 law.go:201
                      refine CV.region ?_
                      refine RV.op (OV.step gno (Step.move rfl) rfl ?_)
                      (first | refine RV.op (OV.step gno (Step.add rfl rfl (wI64 (by omega) (by omega))) rfl ?_) | refine RV.op (OV.step gno (Step.add rfl rfl rfl) rfl ?_))
                      refine RV.op (OV.step gno (Step.assign rfl) rfl ?_)
                      refine RV.nil ?_
                      refine KV.then_n ?_
                      refine KV.env [(5, _), (6, _), (8, _), (9, _), (10, _), (11, _), (13, _)] ⟨rfl, rfl, rfl, rfl, rfl, rfl, rfl, trivial⟩ ?_
                      refine KV.sel [0, 0, 0, 0, 0] [_, _, _, _, _] rfl ?_
                      refine KV.loopI (j + 1) (by omega) (by omega) ⟨rfl, rfl, rfl, rfl, rfl, rfl, rfl, trivial⟩ (fun _ h => h)
                  · -- False
                    refine CV.cond_f rfl ?_
                    refine CV.exit ?_
                    refine KV.then_exit ?_
                    refine KV.then_exit ?_
                    refine KV.block_hit ?_
                    refine KV.then_n ?_
                    refine KV.env [(5, _), (6, _), (8, _), (9, _), (10, _), (11, _)] ⟨rfl, rfl, rfl, rfl, rfl, rfl, trivial⟩ ?_
                    -- region 20 law.go:206
                    refine CV.any (Hp I w [Blk b11_4 (.cells #[.int .i64 q, .bool (op2.getD k opK.d).on, .int .u64 (op2.getD k opK.d).start, .int .u64 (op2.getD k opK.d).done] 45 (0, 0))]) (by kernel_rfl) (fun _ h => h.drew) 14 rfl ?_
                    refine AV.take 0 #[true, false, false, false, false, false, false, false, false, false, false, false, false, false] rfl (by kernel_rfl) (by kernel_rfl) (by kernel_rfl) (fun _ _ _ h => h) gno (Step.move rfl) rfl (fun _ h => h.sel [4] rfl) (by kernel_rfl) ?_
                    refine AV.take 1 #[true, true, false, false, false, false, false, false, false, false, false, false, false, false] rfl (by kernel_rfl) (by kernel_rfl) (by kernel_rfl) (fun _ _ _ h => h) gno (Step.fieldAddr rfl (F45_0 _ _)) rfl (fun _ h => h.sel [4] rfl) (by kernel_rfl) ?_
                    refine AV.take 2 #[true, true, true, false, false, false, false, false, false, false, false, false, false, false] rfl (by kernel_rfl) (by kernel_rfl) (by kernel_rfl) (fun _ _ _ h => h) gno (Step.load Try.underlying3 rfl rfl (fun w h => h.cell 0 rfl rfl)) rfl (fun _ h => h.sel [4] rfl) (by kernel_rfl) ?_
                    refine AV.take 3 #[true, true, true, true, false, false, false, false, false, false, false, false, false, false] rfl (by kernel_rfl) (by kernel_rfl) (by kernel_rfl) (fun _ _ _ h => h) gno (Step.move rfl) rfl (fun _ h => h.sel [4] rfl) (by kernel_rfl) ?_
                    refine AV.take 4 #[true, true, true, true, true, false, false, false, false, false, false, false, false, false] rfl (by kernel_rfl) (by kernel_rfl) (by kernel_rfl) (fun _ _ _ h => h) gno (Step.fieldAddr rfl (F45_0 _ _)) rfl (fun _ h => h.sel [4] rfl) (by kernel_rfl) ?_
                    refine AV.take 5 #[true, true, true, true, true, true, false, false, false, false, false, false, false, false] rfl (by kernel_rfl) (by kernel_rfl) (by kernel_rfl) (fun _ _ _ h => h) gno (Step.load Try.underlying3 rfl rfl (fun w h => h.cell 0 rfl rfl)) rfl (fun _ h => h.sel [4] rfl) (by kernel_rfl) ?_
                    refine AV.take 6 #[true, true, true, true, true, true, true, false, false, false, false, false, false, false] rfl (by kernel_rfl) (by kernel_rfl) (by kernel_rfl) (fun _ _ _ h => h) gno (Step.fieldAddr rfl (F45_1 _ _)) rfl (fun _ h => h.sel [4] rfl) (by kernel_rfl) ?_
                    refine AV.take 7 #[true, true, true, true, true, true, true, true, false, false, false, false, false, false] rfl (by kernel_rfl) (by kernel_rfl) (by kernel_rfl) (fun _ _ _ h => h) gno (Step.load Try.underlying4 rfl rfl (fun w h => h.cell 0 rfl rfl)) rfl (fun _ h => h.sel [4] rfl) (by kernel_rfl) ?_
                    refine AV.take 8 #[true, true, true, true, true, true, true, true, true, false, false, false, false, false] rfl (by kernel_rfl) (by kernel_rfl) (by kernel_rfl) (fun _ _ _ h => h) gno (Step.fieldAddr rfl (F45_3 _ _)) rfl (fun _ h => h.sel [4] rfl) (by kernel_rfl) ?_
                    refine AV.take 9 #[true, true, true, true, true, true, true, true, true, true, false, false, false, false] rfl (by kernel_rfl) (by kernel_rfl) (by kernel_rfl) (fun _ _ _ h => h) gno (Step.load Try.underlying33 rfl rfl (fun w h => h.cell 0 rfl rfl)) rfl (fun _ h => h.sel [4] rfl) (by kernel_rfl) ?_
                    refine AV.all [10] (by kernel_rfl) (by decide) ?_
                    refine ⟨⟨_, rfl, ?_⟩, trivial⟩
                    · -- 10 comes up
                      refine OV.step gno (Step.idx Try.underlying42 I4 (fun w h => h.os 2 rfl) rfl rfl (by first | rfl | omega | (rw [List.length_set]; omega)) _ rfl (by omega)) rfl ?_
                      refine AV.next #[true, true, true, true, true, true, true, true, true, true, true, false, false, false] (by kernel_rfl) (fun _ h => h.sel [4] rfl) ?_
                      refine AV.all [11] (by kernel_rfl) (by decide) ?_
                      refine ⟨⟨_, rfl, ?_⟩, trivial⟩
                      · -- 11 comes up
                        refine OV.storeE 2 (q) (_) (j := 0) [_] I4 rfl rfl rfl rfl rfl rfl (by omega) rfl (Nat.le_of_ble_eq_true rfl) gno ?_
                        refine AV.next #[true, true, true, true, true, true, true, true, true, true, true, true, false, false] (by kernel_rfl) (fun _ h => h.sel [4] rfl) ?_
                        refine AV.all [12] (by kernel_rfl) (by decide) ?_
                        refine ⟨⟨_, rfl, ?_⟩, trivial⟩
                        · -- 12 comes up
                          refine OV.step gno (Step.idx Try.underlying43 I33 (fun w h => h.os 3 rfl) rfl rfl (by first | rfl | omega | (rw [List.length_set]; omega)) _ rfl (by omega)) rfl ?_
                          refine AV.next #[true, true, true, true, true, true, true, true, true, true, true, true, true, false] (by kernel_rfl) (fun _ h => h.sel [4] rfl) ?_
                          refine AV.all [13] (by kernel_rfl) (by decide) ?_
                          refine ⟨⟨_, rfl, ?_⟩, trivial⟩
                          · -- 13 comes up
                            refine OV.storeE 3 (q) (_) (j := 0) [_] I33 rfl rfl rfl rfl rfl rfl (by omega) rfl (Nat.le_of_ble_eq_true rfl) gno ?_
                            refine AV.next #[true, true, true, true, true, true, true, true, true, true, true, true, true, true] (by kernel_rfl) (fun _ h => h.sel [4] rfl) ?_
                            refine AV.done (by kernel_rfl) ?_
                            refine KV.block_n ?_
                            refine KV.then_n ?_
                            refine KV.env [(5, _), (6, _), (8, _), (9, _), (10, _)] ⟨rfl, rfl, rfl, rfl, rfl, trivial⟩ ?_
                            -- region 10 law.go:196
                            refine CV.region ?_
                            refine RV.op (OV.step gno (Step.move rfl) rfl ?_)
                            (first | refine RV.op (OV.step gno (Step.add rfl rfl (wI64 (by omega) (by omega))) rfl ?_) | refine RV.op (OV.step gno (Step.add rfl rfl rfl) rfl ?_))
                            refine RV.op (OV.step gno (Step.assign rfl) rfl ?_)
                            refine RV.nil ?_
                            refine KV.then_n ?_
                            refine KV.env [(5, _), (6, _), (8, _), (9, _), (10, _)] ⟨rfl, rfl, rfl, rfl, rfl, trivial⟩ ?_
                            refine KV.sel [0, 0, 0, 0] [_, _, _, _] rfl ?_
                            refine KV.loopI (k + 1) (by omega) (by omega) ⟨rfl, rfl, rfl, rfl, rfl, trivial⟩ (fun _ h => by rw [trS_on (by omega) hq1, trS_done (by omega) hq1]; exact h)
                · -- False
                  refine RV.op (OV.step gno (Step.move rfl) rfl ?_)
                  refine RV.op (OV.skip rfl rfl ?_)
                  refine RV.op (OV.skip rfl rfl ?_)
                  refine RV.op (OV.skip rfl rfl ?_)
                  refine RV.op (OV.step gno (Step.pick_f rfl rfl) rfl ?_)
                  refine RV.nil ?_
                  refine KV.then_n ?_
                  refine KV.env [(5, _), (6, _), (8, _), (9, _), (10, _), (11, _), (13, _), (87, _)] ⟨rfl, rfl, rfl, rfl, rfl, rfl, rfl, rfl, trivial⟩ ?_
                  refine CV.cond_f rfl ?_
                  refine CV.exit ?_
                  refine KV.then_exit ?_
                  refine KV.then_exit ?_
                  refine KV.block_hit ?_
                  refine KV.then_n ?_
                  refine KV.env [(5, _), (6, _), (8, _), (9, _), (10, _), (11, _)] ⟨rfl, rfl, rfl, rfl, rfl, rfl, trivial⟩ ?_
                  -- region 20 law.go:206
                  refine CV.any (Hp I w [Blk b11_4 (.cells #[.int .i64 q, .bool (op2.getD k opK.d).on, .int .u64 (op2.getD k opK.d).start, .int .u64 (op2.getD k opK.d).done] 45 (0, 0))]) (by kernel_rfl) (fun _ h => h.drew) 14 rfl ?_
                  refine AV.take 0 #[true, false, false, false, false, false, false, false, false, false, false, false, false, false] rfl (by kernel_rfl) (by kernel_rfl) (by kernel_rfl) (fun _ _ _ h => h) gno (Step.move rfl) rfl (fun _ h => h.sel [4] rfl) (by kernel_rfl) ?_
                  refine AV.take 1 #[true, true, false, false, false, false, false, false, false, false, false, false, false, false] rfl (by kernel_rfl) (by kernel_rfl) (by kernel_rfl) (fun _ _ _ h => h) gno (Step.fieldAddr rfl (F45_0 _ _)) rfl (fun _ h => h.sel [4] rfl) (by kernel_rfl) ?_
                  refine AV.take 2 #[true, true, true, false, false, false, false, false, false, false, false, false, false, false] rfl (by kernel_rfl) (by kernel_rfl) (by kernel_rfl) (fun _ _ _ h => h) gno (Step.load Try.underlying3 rfl rfl (fun w h => h.cell 0 rfl rfl)) rfl (fun _ h => h.sel [4] rfl) (by kernel_rfl) ?_
                  refine AV.take 3 #[true, true, true, true, false, false, false, false, false, false, false, false, false, false] rfl (by kernel_rfl) (by kernel_rfl) (by kernel_rfl) (fun _ _ _ h => h) gno (Step.move rfl) rfl (fun _ h => h.sel [4] rfl) (by kernel_rfl) ?_
                  refine AV.take 4 #[true, true, true, true, true, false, false, false, false, false, false, false, false, false] rfl (by kernel_rfl) (by kernel_rfl) (by kernel_rfl) (fun _ _ _ h => h) gno (Step.fieldAddr rfl (F45_0 _ _)) rfl (fun _ h => h.sel [4] rfl) (by kernel_rfl) ?_
                  refine AV.take 5 #[true, true, true, true, true, true, false, false, false, false, false, false, false, false] rfl (by kernel_rfl) (by kernel_rfl) (by kernel_rfl) (fun _ _ _ h => h) gno (Step.load Try.underlying3 rfl rfl (fun w h => h.cell 0 rfl rfl)) rfl (fun _ h => h.sel [4] rfl) (by kernel_rfl) ?_
                  refine AV.take 6 #[true, true, true, true, true, true, true, false, false, false, false, false, false, false] rfl (by kernel_rfl) (by kernel_rfl) (by kernel_rfl) (fun _ _ _ h => h) gno (Step.fieldAddr rfl (F45_1 _ _)) rfl (fun _ h => h.sel [4] rfl) (by kernel_rfl) ?_
                  refine AV.take 7 #[true, true, true, true, true, true, true, true, false, false, false, false, false, false] rfl (by kernel_rfl) (by kernel_rfl) (by kernel_rfl) (fun _ _ _ h => h) gno (Step.load Try.underlying4 rfl rfl (fun w h => h.cell 0 rfl rfl)) rfl (fun _ h => h.sel [4] rfl) (by kernel_rfl) ?_
                  refine AV.take 8 #[true, true, true, true, true, true, true, true, true, false, false, false, false, false] rfl (by kernel_rfl) (by kernel_rfl) (by kernel_rfl) (fun _ _ _ h => h) gno (Step.fieldAddr rfl (F45_3 _ _)) rfl (fun _ h => h.sel [4] rfl) (by kernel_rfl) ?_
                  refine AV.take 9 #[true, true, true, true, true, true, true, true, true, true, false, false, false, false] rfl (by kernel_rfl) (by kernel_rfl) (by kernel_rfl) (fun _ _ _ h => h) gno (Step.load Try.underlying33 rfl rfl (fun w h => h.cell 0 rfl rfl)) rfl (fun _ h => h.sel [4] rfl) (by kernel_rfl) ?_
                  refine AV.all [10] (by kernel_rfl) (by decide) ?_
                  refine ⟨⟨_, rfl, ?_⟩, trivial⟩
                  · -- 10 comes up
                    refine OV.step gno (Step.idx Try.underlying42 I4 (fun w h => h.os 2 rfl) rfl rfl (by first | rfl | omega | (rw [List.length_set]; omega)) _ rfl (by omega)) rfl ?_
                    refine AV.next #[true, true, true, true, true, true, true, true, true, true, true, false, false, false] (by kernel_rfl) (fun _ h => h.sel [4] rfl) ?_
                    refine AV.all [11] (by kernel_rfl) (by decide) ?_
                    refine ⟨⟨_, rfl, ?_⟩, trivial⟩
                    · -- 11 comes up
                      refine OV.storeE 2 (q) (_) (j := 0) [_] I4 rfl rfl rfl rfl rfl rfl (by omega) rfl (Nat.le_of_ble_eq_true rfl) gno ?_
                      refine AV.next #[true, true, true, true, true, true, true, true, true, true, true, true, false, false] (by kernel_rfl) (fun _ h => h.sel [4] rfl) ?_
                      refine AV.all [12] (by kernel_rfl) (by decide) ?_
                      refine ⟨⟨_, rfl, ?_⟩, trivial⟩
                      · -- 12 comes up
                        refine OV.step gno (Step.idx Try.underlying43 I33 (fun w h => h.os 3 rfl) rfl rfl (by first | rfl | omega | (rw [List.length_set]; omega)) _ rfl (by omega)) rfl ?_
                        refine AV.next #[true, true, true, true, true, true, true, true, true, true, true, true, true, false] (by kernel_rfl) (fun _ h => h.sel [4] rfl) ?_
                        refine AV.all [13] (by kernel_rfl) (by decide) ?_
                        refine ⟨⟨_, rfl, ?_⟩, trivial⟩
                        · -- 13 comes up
                          refine OV.storeE 3 (q) (_) (j := 0) [_] I33 rfl rfl rfl rfl rfl rfl (by omega) rfl (Nat.le_of_ble_eq_true rfl) gno ?_
                          refine AV.next #[true, true, true, true, true, true, true, true, true, true, true, true, true, true] (by kernel_rfl) (fun _ h => h.sel [4] rfl) ?_
                          refine AV.done (by kernel_rfl) ?_
                          refine KV.block_n ?_
                          refine KV.then_n ?_
                          refine KV.env [(5, _), (6, _), (8, _), (9, _), (10, _)] ⟨rfl, rfl, rfl, rfl, rfl, trivial⟩ ?_
                          -- region 10 law.go:196
                          refine CV.region ?_
                          refine RV.op (OV.step gno (Step.move rfl) rfl ?_)
                          (first | refine RV.op (OV.step gno (Step.add rfl rfl (wI64 (by omega) (by omega))) rfl ?_) | refine RV.op (OV.step gno (Step.add rfl rfl rfl) rfl ?_))
                          refine RV.op (OV.step gno (Step.assign rfl) rfl ?_)
                          refine RV.nil ?_
                          refine KV.then_n ?_
                          refine KV.env [(5, _), (6, _), (8, _), (9, _), (10, _)] ⟨rfl, rfl, rfl, rfl, rfl, trivial⟩ ?_
                          refine KV.sel [0, 0, 0, 0] [_, _, _, _] rfl ?_
                          refine KV.loopI (k + 1) (by omega) (by omega) ⟨rfl, rfl, rfl, rfl, rfl, trivial⟩ (fun _ h => by rw [trS_on (by omega) hq1, trS_done (by omega) hq1]; exact h)
            · -- False
              refine RV.nil ?_
              refine KV.then_n ?_
              refine KV.env [(5, _), (6, _), (8, _), (9, _), (10, _), (44, _)] ⟨rfl, rfl, rfl, rfl, rfl, rfl, trivial⟩ ?_
              refine CV.cond_f rfl ?_
              refine CV.exit ?_
              refine KV.then_exit ?_
              refine KV.then_exit ?_
              refine KV.block_hit ?_
              refine KV.then_n ?_
              refine KV.env [] trivial ?_
              refine CV.seq ?_
              -- region 21 law.go:208
              refine CV.region ?_
              refine RV.op (OV.call [] (F := [_, _, _, _]) Try.func12 B12 N12 rfl rfl (fun w h => awake_fn) (fun _ hb => hb.elim) gno rfl (fun v L' hp => ?_))
              obtain ⟨rfl, rfl⟩ := hp
              simp only [List.append_nil]
              refine RV.op (OV.step gno (Step.assign rfl) rfl ?_)
              refine RV.nil ?_
              refine KV.then_n ?_
              refine KV.env [(4, _)] ⟨rfl, trivial⟩ ?_
              refine CV.ret ?_
              -- return at r21
              refine KV.sel [] [] rfl ?_
              exact KV.ret1 rfl rfl _ (fun _ h => h) ⟨rfl, rfl⟩
        · -- 5 comes up
          refine OV.make (K := intK .u64) ((someM raw).length) ((someM raw).length) (0) Try.underlying43 I33 rfl rfl rfl rfl rfl (by omega) (by omega) (by omega) gno rfl (fun A6 => ?_)
          refine AV.next #[true, true, false, true, true, true, false, false] (by kernel_rfl) (fun _ h => h.sel [] rfl) ?_
          refine AV.all [2] (by kernel_rfl) (by decide) ?_
          refine ⟨⟨_, rfl, ?_⟩, trivial⟩
          · -- 2 comes up
            refine OV.make (K := boolK) ((someM raw).length) ((someM raw).length) (false) Try.underlying42 I4 rfl rfl rfl rfl rfl (by omega) (by omega) (by omega) gno rfl (fun A5 => ?_)
            refine AV.next #[true, true, true, true, true, true, false, false] (by kernel_rfl) (fun _ h => h.sel [] rfl) ?_
            refine AV.take 6 #[true, true, true, true, true, true, true, false] rfl (by kernel_rfl) (by kernel_rfl) (by kernel_rfl) (fun _ _ _ h => h) gno (Step.assign rfl) rfl (fun _ h => h.sel [] rfl) (by kernel_rfl) ?_
            refine AV.take 7 #[true, true, true, true, true, true, true, true] rfl (by kernel_rfl) (by kernel_rfl) (by kernel_rfl) (fun _ _ _ h => h) gno (Step.assign rfl) rfl (fun _ h => h.sel [] rfl) (by kernel_rfl) ?_
            refine AV.done (by kernel_rfl) ?_
            refine KV.then_n ?_
            refine KV.env [(5, _), (6, _), (8, _), (9, _)] ⟨rfl, rfl, rfl, rfl, trivial⟩ ?_
            refine CV.seq ?_
            refine CV.seq ?_
            -- region 8 law.go:196
            refine CV.region ?_
            refine RV.op (OV.step gno (Step.assign rfl) rfl ?_)
            refine RV.nil ?_
            refine KV.then_n ?_
            refine KV.env [(5, _), (6, _), (8, _), (9, _), (10, _)] ⟨rfl, rfl, rfl, rfl, rfl, trivial⟩ ?_
            refine CV.block ?_
            -- loop L9; live [5, 6, 8, 9, 10]
            refine KV.sel [0, 0, 1, 0] [_, _, _, _] rfl ?_
            refine CV.loopI (α := Nat) (fun k => k ≤ op2.length) (fun k => op2.length - k) (fun k => [(5, .slice A2 (someM raw).length c2), (6, .slice A3 op2.length c3), (8, .slice A5 (someM raw).length (someM raw).length), (9, .slice A6 (someM raw).length (someM raw).length), (10, .int .i64 k)]) (fun k => Hp I w [OS 35 railK A2 c2 (someM raw), OS 45 opK A3 c3 op2, OS 4 boolK A5 (someM raw).length (trS (sg0 (someM raw).length) op2 k).1, OS 33 (intK .u64) A6 (someM raw).length (trS (sg0 (someM raw).length) op2 k).2]) 0 (Nat.zero_le _) ⟨rfl, rfl, rfl, rfl, rfl, trivial⟩ (fun _ h => h) ?_
            intro k hk
            have htl := sg0_len (someM raw).length op2 k
            refine CV.seq ?_
            refine CV.seq ?_
            -- region 9 law.go:196
            refine CV.region ?_
            refine RV.op (OV.step gno (Step.move rfl) rfl ?_)
            refine RV.op (OV.step gno (Step.move rfl) rfl ?_)
            refine RV.op (OV.step gno (Step.lenSl Try.underlying38 rfl) rfl ?_)
            refine RV.op (OV.split gno (Step.lss rfl rfl) rfl (fun hlt => ?_) (fun hlt => ?_))
            · -- True
              refine RV.nil ?_
              refine KV.then_n ?_
              refine KV.env [(5, _), (6, _), (8, _), (9, _), (10, _), (44, _)] ⟨rfl, rfl, rfl, rfl, rfl, rfl, trivial⟩ ?_
              refine CV.cond_t rfl ?_
              refine CV.skip ?_
              refine KV.then_n ?_
              refine KV.env [(5, _), (6, _), (8, _), (9, _), (10, _)] ⟨rfl, rfl, rfl, rfl, rfl, trivial⟩ ?_
              refine CV.seq ?_
              refine CV.block ?_
              refine CV.seq ?_
              -- region 11 law.go:197
              obtain ⟨q, hq1, hq2, hon, hdn, ⟨hs0, hdone, hmax⟩, hup, hoff⟩ := htr.get.1 k (by omega)
              have hrp := G.ramp q hq2
              have hsp := G.fine q hq2
              unfold sp at hsp
              refine CV.region ?_
              refine RV.op (OV.step gno (Step.move rfl) rfl ?_)
              refine RV.op (OV.step gno (Step.move rfl) rfl ?_)
              refine RV.op (OV.step gno (Step.idx Try.underlying38 I45 (fun w h => h.os 1 rfl) rfl rfl (by first | rfl | omega | (rw [List.length_set]; omega)) _ rfl (by omega)) rfl ?_)
              refine RV.op (OV.step gno (Step.loadN _ Try.underlying45 rfl I45 rfl rfl (fun w h => (h.os 1 rfl).cells (by omega))) rfl ?_)
              refine RV.op (OV.alloc #[.int .i64 0, .bool false, .int .u64 0, .int .u64 0] I45 rfl gno rfl (fun b11_4 => ?_))
              refine RV.op (OV.store 4 [_, _, _, _] #[_, _, _, _] I45 rfl rfl rfl rfl rfl (Nat.le_of_ble_eq_true rfl) (by simp [Value.oneCell']) rfl gno ?_)
              refine RV.nil ?_
              refine KV.then_n ?_
              refine KV.env [(5, _), (6, _), (8, _), (9, _), (10, _), (11, _)] ⟨rfl, rfl, rfl, rfl, rfl, rfl, trivial⟩ ?_
              refine CV.seq ?_
              refine CV.seq ?_
              -- region 12 law.go:198
              refine CV.region ?_
              refine RV.op (OV.step gno (Step.move rfl) rfl ?_)
              refine RV.op (OV.step gno (Step.fieldAddr rfl (F45_0 _ _)) rfl ?_)
              refine RV.op (OV.step gno (Step.load Try.underlying3 rfl rfl (fun w h => h.cell 4 rfl rfl)) rfl ?_)
              rw [hq1]
              refine RV.op (OV.step gno (Step.idx Try.underlying22 I35 (fun w h => h.os 0 rfl) rfl rfl (by first | rfl | omega | (rw [List.length_set]; omega)) _ rfl (by omega)) rfl ?_)
              refine RV.op (OV.step gno (Step.fieldAddr rfl (F35_0 _ _)) rfl ?_)
              refine RV.op (OV.step gno (Step.load Try.underlying3 rfl rfl (fun w h => (h.os 0 rfl).cell0 (by omega) rfl)) rfl ?_)
              refine RV.op (OV.step gno (Step.assign rfl) rfl ?_)
              refine RV.nil ?_
              refine KV.then_n ?_
              refine KV.env [(5, _), (6, _), (8, _), (9, _), (10, _), (11, _), (12, _)] ⟨rfl, rfl, rfl, rfl, rfl, rfl, rfl, trivial⟩ ?_
              refine CV.seq ?_
              -- region 13 law.go:198
              refine CV.still (by kernel_rfl) (by kernel_rfl) (fun _ h => h.drew) ?_
              refine SV.step gno (Step.fieldAddr rfl (F45_1 _ _)) rfl ?_
              refine SV.step gno (Step.load Try.underlying4 rfl rfl (fun w h => h.cell 4 rfl rfl)) rfl ?_
              refine SV.step gno (Step.move rfl) rfl ?_
              refine SV.cases 59 rfl (fun cc10 => ?_) (fun cc10 => ?_)
              · -- True
                refine SV.step (gyes rfl) (Step.move rfl) rfl ?_
                refine SV.split (gyes rfl) (Step.geq rfl rfl) rfl (fun hge => ?_) (fun hge => ?_)
                · -- True
                  obtain ⟨p, hp2⟩ := Int.eq_ofNat_of_zero_le hge
                  have hpu := hup (by assumption) p hp2
                  rw [hp2] at hsp
                  rw [hp2]
                  refine SV.step gno (Step.pick_t rfl rfl) rfl ?_
                  refine SV.step gno (Step.move rfl) rfl ?_
                  refine SV.step (gyes rfl) (Step.move rfl) rfl ?_
                  refine SV.step (gyes rfl) (Step.move rfl) rfl ?_
                  refine SV.step (gyes rfl) (Step.idx Try.underlying42 I4 (fun w h => h.os 2 rfl) rfl rfl (by first | rfl | omega | (rw [List.length_set]; omega)) _ rfl (by omega)) rfl ?_
                  refine SV.step (gyes rfl) (Step.load Try.underlying4 rfl rfl (fun w h => (h.os 2 rfl).cell0 (by omega) rfl)) rfl ?_
                  refine SV.step (gyes rfl) (Step.not rfl) rfl ?_
                  refine SV.step (gyes rfl) (Step.move rfl) rfl ?_
                  refine SV.cases 69 rfl (fun cc11 => ?_) (fun cc11 => ?_)
                  · -- True
                    refine SV.skip rfl rfl ?_
                    refine SV.skip rfl rfl ?_
                    refine SV.skip rfl rfl ?_
                    refine SV.skip rfl rfl ?_
                    refine SV.skip rfl rfl ?_
                    refine SV.skip rfl rfl ?_
                    refine SV.skip rfl rfl ?_
                    refine SV.step (gyes rfl) (Step.pick_t rfl rfl) rfl ?_
                    refine SV.step gno (Step.pick_t rfl rfl) rfl ?_
                    refine SV.nil ?_
                    refine KV.then_n ?_
                    refine KV.env [(5, _), (6, _), (8, _), (9, _), (10, _), (11, _), (78, _)] ⟨rfl, rfl, rfl, rfl, rfl, rfl, rfl, trivial⟩ ?_
                    refine CV.cond_t rfl ?_
                    refine CV.seq ?_
                    -- region 14 law.go:199
                    refine CV.region ?_
                    refine RV.op (OV.step gno (Step.assign rfl) rfl ?_)
                    refine RV.nil ?_
                    refine KV.then_n ?_
                    refine KV.env [(4, _)] ⟨rfl, trivial⟩ ?_
                    refine CV.ret ?_
                    refine KV.then_ret ?_
                    refine KV.block_ret ?_
                    refine KV.then_ret ?_
                    refine KV.then_ret ?_
                    refine KV.block_ret ?_
                    refine KV.then_ret ?_
                    -- return at r14
                    refine KV.sel [] [] rfl ?_
                    exfalso
                    simp_all
                  · -- False
                    refine SV.step (gyes rfl) (Step.move rfl) rfl ?_
                    refine SV.step (gyes rfl) (Step.move rfl) rfl ?_
                    refine SV.step (gyes rfl) (Step.idx Try.underlying43 I33 (fun w h => h.os 3 rfl) rfl rfl (by first | rfl | omega | (rw [List.length_set]; omega)) _ rfl (by omega)) rfl ?_
                    refine SV.step (gyes rfl) (Step.load Try.underlying33 rfl rfl (fun w h => (h.os 3 rfl).cell0 (by omega) rfl)) rfl ?_
                    refine SV.step (gyes rfl) (Step.fieldAddr rfl (F45_2 _ _)) rfl ?_
                    refine SV.step (gyes rfl) (Step.load Try.underlying33 rfl rfl (fun w h => h.cell 4 rfl rfl)) rfl ?_
                    refine SV.split (gyes rfl) (Step.gtr rfl rfl) rfl (fun e2 => ?_) (fun e2 => ?_)
                    · -- True
                      exact absurd (Int.lt_of_lt_of_le e2 hpu.2) (Int.lt_irrefl _)
                    · -- False
                      refine SV.step (gyes rfl) (Step.pick_f rfl rfl) rfl ?_
                      refine SV.step gno (Step.pick_t rfl rfl) rfl ?_
                      refine SV.nil ?_
                      refine KV.then_n ?_
                      refine KV.env [(5, _), (6, _), (8, _), (9, _), (10, _), (11, _), (78, _)] ⟨rfl, rfl, rfl, rfl, rfl, rfl, rfl, trivial⟩ ?_
                      refine CV.cond_f rfl ?_
                      refine CV.skip ?_
                      refine KV.then_n ?_
                      refine KV.env [(5, _), (6, _), (8, _), (9, _), (10, _), (11, _)] ⟨rfl, rfl, rfl, rfl, rfl, rfl, trivial⟩ ?_
                      refine CV.seq ?_
                      refine CV.seq ?_
                      -- region 15 law.go:201
                      refine CV.region ?_
                      refine RV.op (OV.step gno (Step.assign rfl) rfl ?_)
                      refine RV.nil ?_
                      refine KV.then_n ?_
                      refine KV.env [(5, _), (6, _), (8, _), (9, _), (10, _), (11, _), (13, _)] ⟨rfl, rfl, rfl, rfl, rfl, rfl, rfl, trivial⟩ ?_
                      refine CV.block ?_
                      -- loop L16; live [5, 6, 8, 9, 10, 11, 13]
                      refine KV.sel [0, 0, 0, 0, 0] [_, _, _, _, _] rfl ?_
                      refine CV.loopI (α := Nat) (fun j => j ≤ (someM raw).length) (fun j => (someM raw).length - j) (fun j => [(5, .slice A2 (someM raw).length c2), (6, .slice A3 op2.length c3), (8, .slice A5 (someM raw).length (someM raw).length), (9, .slice A6 (someM raw).length (someM raw).length), (10, .int .i64 k), (11, .pointer (some ⟨b11_4, 0, none⟩)), (13, .int .i64 j)]) (fun _ => Hp I w [OS 35 railK A2 c2 (someM raw), OS 45 opK A3 c3 op2, OS 4 boolK A5 (someM raw).length (trS (sg0 (someM raw).length) op2 k).1, OS 33 (intK .u64) A6 (someM raw).length (trS (sg0 (someM raw).length) op2 k).2, Blk b11_4 (.cells #[.int .i64 q, .bool (op2.getD k opK.d).on, .int .u64 (op2.getD k opK.d).start, .int .u64 (op2.getD k opK.d).done] 45 (0, 0))]) 0 (Nat.zero_le _) ⟨rfl, rfl, rfl, rfl, rfl, rfl, rfl, trivial⟩ (fun _ h => h) ?_
                      intro j hj
                      refine CV.seq ?_
                      refine CV.seq ?_
                      -- region 16 law.go:201
                      refine CV.region ?_
                      refine RV.op (OV.step gno (Step.move rfl) rfl ?_)
                      refine RV.op (OV.step gno (Step.move rfl) rfl ?_)
                      refine RV.op (OV.step gno (Step.lenSl Try.underlying22 rfl) rfl ?_)
                      refine RV.op (OV.split gno (Step.lss rfl rfl) rfl (fun hj2 => ?_) (fun hj2 => ?_))
                      · -- True
                        refine RV.op (OV.step gno (Step.move rfl) rfl ?_)
                        refine RV.op (OV.step (gyes rfl) (Step.fieldAddr rfl (F45_1 _ _)) rfl ?_)
                        refine RV.op (OV.step (gyes rfl) (Step.load Try.underlying4 rfl rfl (fun w h => h.cell 4 rfl rfl)) rfl ?_)
                        refine RV.op (OV.step (gyes rfl) (Step.not rfl) rfl ?_)
                        refine RV.op (OV.step gno (Step.pick_t rfl rfl) rfl ?_)
                        refine RV.nil ?_
                        refine KV.then_n ?_
                        refine KV.env [(5, _), (6, _), (8, _), (9, _), (10, _), (11, _), (13, _), (87, _)] ⟨rfl, rfl, rfl, rfl, rfl, rfl, rfl, rfl, trivial⟩ ?_
                        refine KV.cases 87 rfl (fun cc12 => ?_) (fun cc12 => ?_)
                        · -- True
                          refine CV.cond_t rfl ?_
                          refine CV.skip ?_
                          refine KV.then_n ?_
                          refine KV.env [(5, _), (6, _), (8, _), (9, _), (10, _), (11, _), (13, _)] ⟨rfl, rfl, rfl, rfl, rfl, rfl, rfl, trivial⟩ ?_
                          refine CV.seq ?_
                          refine CV.block ?_
                          refine CV.seq ?_
                          -- region 18 law.go:202
                          refine CV.still (by kernel_rfl) (by kernel_rfl) (fun _ h => h.drew) ?_
                          refine SV.step gno (Step.move rfl) rfl ?_
                          refine SV.step gno (Step.move rfl) rfl ?_
                          refine SV.step gno (Step.idx Try.underlying22 I35 (fun w h => h.os 0 rfl) rfl rfl (by first | rfl | omega | (rw [List.length_set]; omega)) _ rfl (by omega)) rfl ?_
                          refine SV.step gno (Step.fieldAddr rfl (F35_0 _ _)) rfl ?_
                          refine SV.step gno (Step.load Try.underlying3 rfl rfl (fun w h => (h.os 0 rfl).cell0 (by omega) rfl)) rfl ?_
                          refine SV.step gno (Step.fieldAddr rfl (F45_0 _ _)) rfl ?_
                          refine SV.step gno (Step.load Try.underlying3 rfl rfl (fun w h => h.cell 4 rfl rfl)) rfl ?_
                          refine SV.split gno (Step.eql rfl rfl) rfl (fun e3 => ?_) (fun e3 => ?_)
                          · -- True
                            have hfu := hoff (by first | assumption | (simp only [Bool.not_eq_true'] at *; assumption)) j (by omega) e3
                            refine SV.step gno (Step.move rfl) rfl ?_
                            refine SV.step (gyes rfl) (Step.move rfl) rfl ?_
                            refine SV.step (gyes rfl) (Step.move rfl) rfl ?_
                            refine SV.step (gyes rfl) (Step.idx Try.underlying42 I4 (fun w h => h.os 2 rfl) rfl rfl (by first | rfl | omega | (rw [List.length_set]; omega)) _ rfl (by omega)) rfl ?_
                            refine SV.step (gyes rfl) (Step.load Try.underlying4 rfl rfl (fun w h => (h.os 2 rfl).cell0 (by omega) rfl)) rfl ?_
                            refine SV.step (gyes rfl) (Step.move rfl) rfl ?_
                            refine SV.cases 103 rfl (fun cc13 => ?_) (fun cc13 => ?_)
                            · -- True
                              refine SV.skip rfl rfl ?_
                              refine SV.skip rfl rfl ?_
                              refine SV.skip rfl rfl ?_
                              refine SV.skip rfl rfl ?_
                              refine SV.skip rfl rfl ?_
                              refine SV.skip rfl rfl ?_
                              refine SV.skip rfl rfl ?_
                              refine SV.step (gyes rfl) (Step.pick_t rfl rfl) rfl ?_
                              refine SV.step gno (Step.pick_t rfl rfl) rfl ?_
                              refine SV.nil ?_
                              refine KV.then_n ?_
                              refine KV.env [(5, _), (6, _), (8, _), (9, _), (10, _), (11, _), (13, _), (112, _)] ⟨rfl, rfl, rfl, rfl, rfl, rfl, rfl, rfl, trivial⟩ ?_
                              refine CV.cond_t rfl ?_
                              refine CV.seq ?_
                              -- region 19 law.go:203
                              refine CV.region ?_
                              refine RV.op (OV.step gno (Step.assign rfl) rfl ?_)
                              refine RV.nil ?_
                              refine KV.then_n ?_
                              refine KV.env [(4, _)] ⟨rfl, trivial⟩ ?_
                              refine CV.ret ?_
                              refine KV.block_ret ?_
                              refine KV.then_ret ?_
                              refine KV.then_ret ?_
                              refine KV.block_ret ?_
                              refine KV.then_ret ?_
                              refine KV.block_ret ?_
                              refine KV.then_ret ?_
                              refine KV.then_ret ?_
                              refine KV.block_ret ?_
                              refine KV.then_ret ?_
                              -- return at r19
                              refine KV.sel [] [] rfl ?_
                              exfalso
                              simp_all
                            · -- False
                              refine SV.step (gyes rfl) (Step.move rfl) rfl ?_
                              refine SV.step (gyes rfl) (Step.move rfl) rfl ?_
                              refine SV.step (gyes rfl) (Step.idx Try.underlying43 I33 (fun w h => h.os 3 rfl) rfl rfl (by first | rfl | omega | (rw [List.length_set]; omega)) _ rfl (by omega)) rfl ?_
                              refine SV.step (gyes rfl) (Step.load Try.underlying33 rfl rfl (fun w h => (h.os 3 rfl).cell0 (by omega) rfl)) rfl ?_
                              refine SV.step (gyes rfl) (Step.fieldAddr rfl (F45_2 _ _)) rfl ?_
                              refine SV.step (gyes rfl) (Step.load Try.underlying33 rfl rfl (fun w h => h.cell 4 rfl rfl)) rfl ?_
                              refine SV.split (gyes rfl) (Step.gtr rfl rfl) rfl (fun e4 => ?_) (fun e4 => ?_)
                              · -- True
                                exact absurd (Int.lt_of_lt_of_le e4 hfu.2) (Int.lt_irrefl _)
                              · -- False
                                refine SV.step (gyes rfl) (Step.pick_f rfl rfl) rfl ?_
                                refine SV.step gno (Step.pick_t rfl rfl) rfl ?_
                                refine SV.nil ?_
                                refine KV.then_n ?_
                                refine KV.env [(5, _), (6, _), (8, _), (9, _), (10, _), (11, _), (13, _), (112, _)] ⟨rfl, rfl, rfl, rfl, rfl, rfl, rfl, rfl, trivial⟩ ?_
                                refine CV.cond_f rfl ?_
                                refine CV.skip ?_
                                refine KV.block_n ?_
                                refine KV.then_n ?_
                                refine KV.env [(5, _), (6, _), (8, _), (9, _), (10, _), (11, _), (13, _)] ⟨rfl, rfl, rfl, rfl, rfl, rfl, rfl, trivial⟩ ?_
                                -- region 17 law.go:201
                                refine CV.region ?_
                                refine RV.op (OV.step gno (Step.move rfl) rfl ?_)
                                (first | refine RV.op (OV.step gno (Step.add rfl rfl (wI64 (by omega) (by omega))) rfl ?_) | refine RV.op (OV.step gno (Step.add rfl rfl rfl) rfl ?_))
                                refine RV.op (OV.step gno (Step.assign rfl) rfl ?_)
                                refine RV.nil ?_
                                refine KV.then_n ?_
                                refine KV.env [(5, _), (6, _), (8, _), (9, _), (10, _), (11, _), (13, _)] ⟨rfl, rfl, rfl, rfl, rfl, rfl, rfl, trivial⟩ ?_
                                refine KV.sel [0, 0, 0, 0, 0] [_, _, _, _, _] rfl ?_
                                refine KV.loopI (j + 1) (by omega) (by omega) ⟨rfl, rfl, rfl, rfl, rfl, rfl, rfl, trivial⟩ (fun _ h => h)
                          · -- False
                            refine SV.step gno (Step.move rfl) rfl ?_
                            refine SV.skip rfl rfl ?_
                            refine SV.skip rfl rfl ?_
                            refine SV.skip rfl rfl ?_
                            refine SV.skip rfl rfl ?_
                            refine SV.skip rfl rfl ?_
                            refine SV.skipU rfl rfl ?_
                            refine SV.skipU rfl rfl ?_
                            refine SV.skipU rfl rfl ?_
                            refine SV.skipU rfl rfl ?_
                            refine SV.skipU rfl rfl ?_
                            refine SV.skipU rfl rfl ?_
                            refine SV.skipU rfl rfl ?_
                            refine SV.skip rfl rfl ?_
                            refine SV.step gno (Step.pick_f rfl rfl) rfl ?_
                            refine SV.nil ?_
                            refine KV.then_n ?_
                            refine KV.env [(5, _), (6, _), (8, _), (9, _), (10, _), (11, _), (13, _), (112, _)] ⟨rfl, rfl, rfl, rfl, rfl, rfl, rfl, rfl, trivial⟩ ?_
                            refine CV.cond_f rfl ?_
                            refine CV.skip ?_
                            refine KV.block_n ?_
                            refine KV.then_n ?_
                            refine KV.env [(5, _), (6, _), (8, _), (9, _), (10, _), (11, _), (13, _)] ⟨rfl, rfl, rfl, rfl, rfl, rfl, rfl, trivial⟩ ?_
                            -- region 17 law.go:201
                            refine CV.region ?_
                            refine RV.op (OV.step gno (Step.move rfl) rfl ?_)
                            (first | refine RV.op (OV.step gno (Step.add rfl rfl (wI64 (by omega) (by omega))) rfl ?_) | refine RV.op (OV.step gno (Step.add rfl rfl rfl) rfl ?_))
                            refine RV.op (OV.step gno (Step.assign rfl) rfl ?_)
                            refine RV.nil ?_
                            refine KV.then_n ?_
                            refine KV.env [(5, _), (6, _), (8, _), (9, _), (10, _), (11, _), (13, _)] ⟨rfl, rfl, rfl, rfl, rfl, rfl, rfl, trivial⟩ ?_
                            refine KV.sel [0, 0, 0, 0, 0] [_, _, _, _, _] rfl ?_
                            refine KV.loopI (j + 1) (by omega) (by omega) ⟨rfl, rfl, rfl, rfl, rfl, rfl, rfl, trivial⟩ (fun _ h => h)
                        · -- False
                          refine CV.cond_f rfl ?_
                          refine CV.exit ?_
                          refine KV.then_exit ?_
                          refine KV.then_exit ?_
                          refine KV.block_hit ?_
                          refine KV.then_n ?_
                          refine KV.env [(5, _), (6, _), (8, _), (9, _), (10, _), (11, _)] ⟨rfl, rfl, rfl, rfl, rfl, rfl, trivial⟩ ?_
                          -- region 20 law.go:206
                          refine CV.any (Hp I w [Blk b11_4 (.cells #[.int .i64 q, .bool (op2.getD k opK.d).on, .int .u64 (op2.getD k opK.d).start, .int .u64 (op2.getD k opK.d).done] 45 (0, 0))]) (by kernel_rfl) (fun _ h => h.drew) 14 rfl ?_
                          refine AV.take 0 #[true, false, false, false, false, false, false, false, false, false, false, false, false, false] rfl (by kernel_rfl) (by kernel_rfl) (by kernel_rfl) (fun _ _ _ h => h) gno (Step.move rfl) rfl (fun _ h => h.sel [4] rfl) (by kernel_rfl) ?_
                          refine AV.take 1 #[true, true, false, false, false, false, false, false, false, false, false, false, false, false] rfl (by kernel_rfl) (by kernel_rfl) (by kernel_rfl) (fun _ _ _ h => h) gno (Step.fieldAddr rfl (F45_0 _ _)) rfl (fun _ h => h.sel [4] rfl) (by kernel_rfl) ?_
                          refine AV.take 2 #[true, true, true, false, false, false, false, false, false, false, false, false, false, false] rfl (by kernel_rfl) (by kernel_rfl) (by kernel_rfl) (fun _ _ _ h => h) gno (Step.load Try.underlying3 rfl rfl (fun w h => h.cell 0 rfl rfl)) rfl (fun _ h => h.sel [4] rfl) (by kernel_rfl) ?_
                          refine AV.take 3 #[true, true, true, true, false, false, false, false, false, false, false, false, false, false] rfl (by kernel_rfl) (by kernel_rfl) (by kernel_rfl) (fun _ _ _ h => h) gno (Step.move rfl) rfl (fun _ h => h.sel [4] rfl) (by kernel_rfl) ?_
                          refine AV.take 4 #[true, true, true, true, true, false, false, false, false, false, false, false, false, false] rfl (by kernel_rfl) (by kernel_rfl) (by kernel_rfl) (fun _ _ _ h => h) gno (Step.fieldAddr rfl (F45_0 _ _)) rfl (fun _ h => h.sel [4] rfl) (by kernel_rfl) ?_
                          refine AV.take 5 #[true, true, true, true, true, true, false, false, false, false, false, false, false, false] rfl (by kernel_rfl) (by kernel_rfl) (by kernel_rfl) (fun _ _ _ h => h) gno (Step.load Try.underlying3 rfl rfl (fun w h => h.cell 0 rfl rfl)) rfl (fun _ h => h.sel [4] rfl) (by kernel_rfl) ?_
                          refine AV.take 6 #[true, true, true, true, true, true, true, false, false, false, false, false, false, false] rfl (by kernel_rfl) (by kernel_rfl) (by kernel_rfl) (fun _ _ _ h => h) gno (Step.fieldAddr rfl (F45_1 _ _)) rfl (fun _ h => h.sel [4] rfl) (by kernel_rfl) ?_
                          refine AV.take 7 #[true, true, true, true, true, true, true, true, false, false, false, false, false, false] rfl (by kernel_rfl) (by kernel_rfl) (by kernel_rfl) (fun _ _ _ h => h) gno (Step.load Try.underlying4 rfl rfl (fun w h => h.cell 0 rfl rfl)) rfl (fun _ h => h.sel [4] rfl) (by kernel_rfl) ?_
                          refine AV.take 8 #[true, true, true, true, true, true, true, true, true, false, false, false, false, false] rfl (by kernel_rfl) (by kernel_rfl) (by kernel_rfl) (fun _ _ _ h => h) gno (Step.fieldAddr rfl (F45_3 _ _)) rfl (fun _ h => h.sel [4] rfl) (by kernel_rfl) ?_
                          refine AV.take 9 #[true, true, true, true, true, true, true, true, true, true, false, false, false, false] rfl (by kernel_rfl) (by kernel_rfl) (by kernel_rfl) (fun _ _ _ h => h) gno (Step.load Try.underlying33 rfl rfl (fun w h => h.cell 0 rfl rfl)) rfl (fun _ h => h.sel [4] rfl) (by kernel_rfl) ?_
                          refine AV.all [10] (by kernel_rfl) (by decide) ?_
                          refine ⟨⟨_, rfl, ?_⟩, trivial⟩
                          · -- 10 comes up
                            refine OV.step gno (Step.idx Try.underlying42 I4 (fun w h => h.os 2 rfl) rfl rfl (by first | rfl | omega | (rw [List.length_set]; omega)) _ rfl (by omega)) rfl ?_
                            refine AV.next #[true, true, true, true, true, true, true, true, true, true, true, false, false, false] (by kernel_rfl) (fun _ h => h.sel [4] rfl) ?_
                            refine AV.all [11] (by kernel_rfl) (by decide) ?_
                            refine ⟨⟨_, rfl, ?_⟩, trivial⟩
                            · -- 11 comes up
                              refine OV.storeE 2 (q) (_) (j := 0) [_] I4 rfl rfl rfl rfl rfl rfl (by omega) rfl (Nat.le_of_ble_eq_true rfl) gno ?_
                              refine AV.next #[true, true, true, true, true, true, true, true, true, true, true, true, false, false] (by kernel_rfl) (fun _ h => h.sel [4] rfl) ?_
                              refine AV.all [12] (by kernel_rfl) (by decide) ?_
                              refine ⟨⟨_, rfl, ?_⟩, trivial⟩
                              · -- 12 comes up
                                refine OV.step gno (Step.idx Try.underlying43 I33 (fun w h => h.os 3 rfl) rfl rfl (by first | rfl | omega | (rw [List.length_set]; omega)) _ rfl (by omega)) rfl ?_
                                refine AV.next #[true, true, true, true, true, true, true, true, true, true, true, true, true, false] (by kernel_rfl) (fun _ h => h.sel [4] rfl) ?_
                                refine AV.all [13] (by kernel_rfl) (by decide) ?_
                                refine ⟨⟨_, rfl, ?_⟩, trivial⟩
                                · -- 13 comes up
                                  refine OV.storeE 3 (q) (_) (j := 0) [_] I33 rfl rfl rfl rfl rfl rfl (by omega) rfl (Nat.le_of_ble_eq_true rfl) gno ?_
                                  refine AV.next #[true, true, true, true, true, true, true, true, true, true, true, true, true, true] (by kernel_rfl) (fun _ h => h.sel [4] rfl) ?_
                                  refine AV.done (by kernel_rfl) ?_
                                  refine KV.block_n ?_
                                  refine KV.then_n ?_
                                  refine KV.env [(5, _), (6, _), (8, _), (9, _), (10, _)] ⟨rfl, rfl, rfl, rfl, rfl, trivial⟩ ?_
                                  -- region 10 law.go:196
                                  refine CV.region ?_
                                  refine RV.op (OV.step gno (Step.move rfl) rfl ?_)
                                  (first | refine RV.op (OV.step gno (Step.add rfl rfl (wI64 (by omega) (by omega))) rfl ?_) | refine RV.op (OV.step gno (Step.add rfl rfl rfl) rfl ?_))
                                  refine RV.op (OV.step gno (Step.assign rfl) rfl ?_)
                                  refine RV.nil ?_
                                  refine KV.then_n ?_
                                  refine KV.env [(5, _), (6, _), (8, _), (9, _), (10, _)] ⟨rfl, rfl, rfl, rfl, rfl, trivial⟩ ?_
                                  refine KV.sel [0, 0, 0, 0] [_, _, _, _] rfl ?_
                                  refine KV.loopI (k + 1) (by omega) (by omega) ⟨rfl, rfl, rfl, rfl, rfl, trivial⟩ (fun _ h => by rw [trS_on (by omega) hq1, trS_done (by omega) hq1]; exact h)
                      · -- False
                        refine RV.op (OV.step gno (Step.move rfl) rfl ?_)
                        refine RV.op (OV.skip rfl rfl ?_)
                        refine RV.op (OV.skip rfl rfl ?_)
                        refine RV.op (OV.skip rfl rfl ?_)
                        refine RV.op (OV.step gno (Step.pick_f rfl rfl) rfl ?_)
                        refine RV.nil ?_
                        refine KV.then_n ?_
                        refine KV.env [(5, _), (6, _), (8, _), (9, _), (10, _), (11, _), (13, _), (87, _)] ⟨rfl, rfl, rfl, rfl, rfl, rfl, rfl, rfl, trivial⟩ ?_
                        refine CV.cond_f rfl ?_
                        refine CV.exit ?_
                        refine KV.then_exit ?_
                        refine KV.then_exit ?_
                        refine KV.block_hit ?_
                        refine KV.then_n ?_
                        refine KV.env [(5, _), (6, _), (8, _), (9, _), (10, _), (11, _)] ⟨rfl, rfl, rfl, rfl, rfl, rfl, trivial⟩ ?_
                        -- region 20 law.go:206
                        refine CV.any (Hp I w [Blk b11_4 (.cells #[.int .i64 q, .bool (op2.getD k opK.d).on, .int .u64 (op2.getD k opK.d).start, .int .u64 (op2.getD k opK.d).done] 45 (0, 0))]) (by kernel_rfl) (fun _ h => h.drew) 14 rfl ?_
                        refine AV.take 0 #[true, false, false, false, false, false, false, false, false, false, false, false, false, false] rfl (by kernel_rfl) (by kernel_rfl) (by kernel_rfl) (fun _ _ _ h => h) gno (Step.move rfl) rfl (fun _ h => h.sel [4] rfl) (by kernel_rfl) ?_
                        refine AV.take 1 #[true, true, false, false, false, false, false, false, false, false, false, false, false, false] rfl (by kernel_rfl) (by kernel_rfl) (by kernel_rfl) (fun _ _ _ h => h) gno (Step.fieldAddr rfl (F45_0 _ _)) rfl (fun _ h => h.sel [4] rfl) (by kernel_rfl) ?_
                        refine AV.take 2 #[true, true, true, false, false, false, false, false, false, false, false, false, false, false] rfl (by kernel_rfl) (by kernel_rfl) (by kernel_rfl) (fun _ _ _ h => h) gno (Step.load Try.underlying3 rfl rfl (fun w h => h.cell 0 rfl rfl)) rfl (fun _ h => h.sel [4] rfl) (by kernel_rfl) ?_
                        refine AV.take 3 #[true, true, true, true, false, false, false, false, false, false, false, false, false, false] rfl (by kernel_rfl) (by kernel_rfl) (by kernel_rfl) (fun _ _ _ h => h) gno (Step.move rfl) rfl (fun _ h => h.sel [4] rfl) (by kernel_rfl) ?_
                        refine AV.take 4 #[true, true, true, true, true, false, false, false, false, false, false, false, false, false] rfl (by kernel_rfl) (by kernel_rfl) (by kernel_rfl) (fun _ _ _ h => h) gno (Step.fieldAddr rfl (F45_0 _ _)) rfl (fun _ h => h.sel [4] rfl) (by kernel_rfl) ?_
                        refine AV.take 5 #[true, true, true, true, true, true, false, false, false, false, false, false, false, false] rfl (by kernel_rfl) (by kernel_rfl) (by kernel_rfl) (fun _ _ _ h => h) gno (Step.load Try.underlying3 rfl rfl (fun w h => h.cell 0 rfl rfl)) rfl (fun _ h => h.sel [4] rfl) (by kernel_rfl) ?_
                        refine AV.take 6 #[true, true, true, true, true, true, true, false, false, false, false, false, false, false] rfl (by kernel_rfl) (by kernel_rfl) (by kernel_rfl) (fun _ _ _ h => h) gno (Step.fieldAddr rfl (F45_1 _ _)) rfl (fun _ h => h.sel [4] rfl) (by kernel_rfl) ?_
                        refine AV.take 7 #[true, true, true, true, true, true, true, true, false, false, false, false, false, false] rfl (by kernel_rfl) (by kernel_rfl) (by kernel_rfl) (fun _ _ _ h => h) gno (Step.load Try.underlying4 rfl rfl (fun w h => h.cell 0 rfl rfl)) rfl (fun _ h => h.sel [4] rfl) (by kernel_rfl) ?_
                        refine AV.take 8 #[true, true, true, true, true, true, true, true, true, false, false, false, false, false] rfl (by kernel_rfl) (by kernel_rfl) (by kernel_rfl) (fun _ _ _ h => h) gno (Step.fieldAddr rfl (F45_3 _ _)) rfl (fun _ h => h.sel [4] rfl) (by kernel_rfl) ?_
                        refine AV.take 9 #[true, true, true, true, true, true, true, true, true, true, false, false, false, false] rfl (by kernel_rfl) (by kernel_rfl) (by kernel_rfl) (fun _ _ _ h => h) gno (Step.load Try.underlying33 rfl rfl (fun w h => h.cell 0 rfl rfl)) rfl (fun _ h => h.sel [4] rfl) (by kernel_rfl) ?_
                        refine AV.all [10] (by kernel_rfl) (by decide) ?_
                        refine ⟨⟨_, rfl, ?_⟩, trivial⟩
                        · -- 10 comes up
                          refine OV.step gno (Step.idx Try.underlying42 I4 (fun w h => h.os 2 rfl) rfl rfl (by first | rfl | omega | (rw [List.length_set]; omega)) _ rfl (by omega)) rfl ?_
                          refine AV.next #[true, true, true, true, true, true, true, true, true, true, true, false, false, false] (by kernel_rfl) (fun _ h => h.sel [4] rfl) ?_
                          refine AV.all [11] (by kernel_rfl) (by decide) ?_
                          refine ⟨⟨_, rfl, ?_⟩, trivial⟩
                          · -- 11 comes up
                            refine OV.storeE 2 (q) (_) (j := 0) [_] I4 rfl rfl rfl rfl rfl rfl (by omega) rfl (Nat.le_of_ble_eq_true rfl) gno ?_
                            refine AV.next #[true, true, true, true, true, true, true, true, true, true, true, true, false, false] (by kernel_rfl) (fun _ h => h.sel [4] rfl) ?_
                            refine AV.all [12] (by kernel_rfl) (by decide) ?_
                            refine ⟨⟨_, rfl, ?_⟩, trivial⟩
                            · -- 12 comes up
                              refine OV.step gno (Step.idx Try.underlying43 I33 (fun w h => h.os 3 rfl) rfl rfl (by first | rfl | omega | (rw [List.length_set]; omega)) _ rfl (by omega)) rfl ?_
                              refine AV.next #[true, true, true, true, true, true, true, true, true, true, true, true, true, false] (by kernel_rfl) (fun _ h => h.sel [4] rfl) ?_
                              refine AV.all [13] (by kernel_rfl) (by decide) ?_
                              refine ⟨⟨_, rfl, ?_⟩, trivial⟩
                              · -- 13 comes up
                                refine OV.storeE 3 (q) (_) (j := 0) [_] I33 rfl rfl rfl rfl rfl rfl (by omega) rfl (Nat.le_of_ble_eq_true rfl) gno ?_
                                refine AV.next #[true, true, true, true, true, true, true, true, true, true, true, true, true, true] (by kernel_rfl) (fun _ h => h.sel [4] rfl) ?_
                                refine AV.done (by kernel_rfl) ?_
                                refine KV.block_n ?_
                                refine KV.then_n ?_
                                refine KV.env [(5, _), (6, _), (8, _), (9, _), (10, _)] ⟨rfl, rfl, rfl, rfl, rfl, trivial⟩ ?_
                                -- region 10 law.go:196
                                refine CV.region ?_
                                refine RV.op (OV.step gno (Step.move rfl) rfl ?_)
                                (first | refine RV.op (OV.step gno (Step.add rfl rfl (wI64 (by omega) (by omega))) rfl ?_) | refine RV.op (OV.step gno (Step.add rfl rfl rfl) rfl ?_))
                                refine RV.op (OV.step gno (Step.assign rfl) rfl ?_)
                                refine RV.nil ?_
                                refine KV.then_n ?_
                                refine KV.env [(5, _), (6, _), (8, _), (9, _), (10, _)] ⟨rfl, rfl, rfl, rfl, rfl, trivial⟩ ?_
                                refine KV.sel [0, 0, 0, 0] [_, _, _, _] rfl ?_
                                refine KV.loopI (k + 1) (by omega) (by omega) ⟨rfl, rfl, rfl, rfl, rfl, trivial⟩ (fun _ h => by rw [trS_on (by omega) hq1, trS_done (by omega) hq1]; exact h)
                · -- False
                  refine SV.step gno (Step.pick_t rfl rfl) rfl ?_
                  refine SV.step gno (Step.move rfl) rfl ?_
                  refine SV.skip rfl rfl ?_
                  refine SV.skip rfl rfl ?_
                  refine SV.skip rfl rfl ?_
                  refine SV.skip rfl rfl ?_
                  refine SV.skip rfl rfl ?_
                  refine SV.skip rfl rfl ?_
                  refine SV.skipU rfl rfl ?_
                  refine SV.skipU rfl rfl ?_
                  refine SV.skipU rfl rfl ?_
                  refine SV.skipU rfl rfl ?_
                  refine SV.skipU rfl rfl ?_
                  refine SV.skipU rfl rfl ?_
                  refine SV.skipU rfl rfl ?_
                  refine SV.skip rfl rfl ?_
                  refine SV.step gno (Step.pick_f rfl rfl) rfl ?_
                  refine SV.nil ?_
                  refine KV.then_n ?_
                  refine KV.env [(5, _), (6, _), (8, _), (9, _), (10, _), (11, _), (78, _)] ⟨rfl, rfl, rfl, rfl, rfl, rfl, rfl, trivial⟩ ?_
                  refine CV.cond_f rfl ?_
                  refine CV.skip ?_
                  refine KV.then_n ?_
                  refine KV.env [(5, _), (6, _), (8, _), (9, _), (10, _), (11, _)] ⟨rfl, rfl, rfl, rfl, rfl, rfl, trivial⟩ ?_
                  refine CV.seq ?_
                  refine CV.seq ?_
                  -- region 15 law.go:201
                  refine CV.region ?_
                  refine RV.op (OV.step gno (Step.assign rfl) rfl ?_)
                  refine RV.nil ?_
                  refine KV.then_n ?_
                  refine KV.env [(5, _), (6, _), (8, _), (9, _), (10, _), (11, _), (13, _)] ⟨rfl, rfl, rfl, rfl, rfl, rfl, rfl, trivial⟩ ?_
                  refine CV.block ?_
                  -- loop L16; live [5, 6, 8, 9, 10, 11, 13]
                  refine KV.sel [0, 0, 0, 0, 0] [_, _, _, _, _] rfl ?_
                  refine CV.loopI (α := Nat) (fun j => j ≤ (someM raw).length) (fun j => (someM raw).length - j) (fun j => [(5, .slice A2 (someM raw).length c2), (6, .slice A3 op2.length c3), (8, .slice A5 (someM raw).length (someM raw).length), (9, .slice A6 (someM raw).length (someM raw).length), (10, .int .i64 k), (11, .pointer (some ⟨b11_4, 0, none⟩)), (13, .int .i64 j)]) (fun _ => Hp I w [OS 35 railK A2 c2 (someM raw), OS 45 opK A3 c3 op2, OS 4 boolK A5 (someM raw).length (trS (sg0 (someM raw).length) op2 k).1, OS 33 (intK .u64) A6 (someM raw).length (trS (sg0 (someM raw).length) op2 k).2, Blk b11_4 (.cells #[.int .i64 q, .bool (op2.getD k opK.d).on, .int .u64 (op2.getD k opK.d).start, .int .u64 (op2.getD k opK.d).done] 45 (0, 0))]) 0 (Nat.zero_le _) ⟨rfl, rfl, rfl, rfl, rfl, rfl, rfl, trivial⟩ (fun _ h => h) ?_
                  intro j hj
                  refine CV.seq ?_
                  refine CV.seq ?_
                  -- region 16 law.go:201
                  refine CV.region ?_
                  refine RV.op (OV.step gno (Step.move rfl) rfl ?_)
                  refine RV.op (OV.step gno (Step.move rfl) rfl ?_)
                  refine RV.op (OV.step gno (Step.lenSl Try.underlying22 rfl) rfl ?_)
                  refine RV.op (OV.split gno (Step.lss rfl rfl) rfl (fun hj2 => ?_) (fun hj2 => ?_))
                  · -- True
                    refine RV.op (OV.step gno (Step.move rfl) rfl ?_)
                    refine RV.op (OV.step (gyes rfl) (Step.fieldAddr rfl (F45_1 _ _)) rfl ?_)
                    refine RV.op (OV.step (gyes rfl) (Step.load Try.underlying4 rfl rfl (fun w h => h.cell 4 rfl rfl)) rfl ?_)
                    refine RV.op (OV.step (gyes rfl) (Step.not rfl) rfl ?_)
                    refine RV.op (OV.step gno (Step.pick_t rfl rfl) rfl ?_)
                    refine RV.nil ?_
                    refine KV.then_n ?_
                    refine KV.env [(5, _), (6, _), (8, _), (9, _), (10, _), (11, _), (13, _), (87, _)] ⟨rfl, rfl, rfl, rfl, rfl, rfl, rfl, rfl, trivial⟩ ?_
                    refine KV.cases 87 rfl (fun cc14 => ?_) (fun cc14 => ?_)
                    · -- True
                      refine CV.cond_t rfl ?_
                      refine CV.skip ?_
                      refine KV.then_n ?_
                      refine KV.env [(5, _), (6, _), (8, _), (9, _), (10, _), (11, _), (13, _)] ⟨rfl, rfl, rfl, rfl, rfl, rfl, rfl, trivial⟩ ?_
                      refine CV.seq ?_
                      refine CV.block ?_
                      refine CV.seq ?_
                      -- region 18 law.go:202
                      refine CV.still (by kernel_rfl) (by kernel_rfl) (fun _ h => h.drew) ?_
                      refine SV.step gno (Step.move rfl) rfl ?_
                      refine SV.step gno (Step.move rfl) rfl ?_
                      refine SV.step gno (Step.idx Try.underlying22 I35 (fun w h => h.os 0 rfl) rfl rfl (by first | rfl | omega | (rw [List.length_set]; omega)) _ rfl (by omega)) rfl ?_
                      refine SV.step gno (Step.fieldAddr rfl (F35_0 _ _)) rfl ?_
                      refine SV.step gno (Step.load Try.underlying3 rfl rfl (fun w h => (h.os 0 rfl).cell0 (by omega) rfl)) rfl ?_
                      refine SV.step gno (Step.fieldAddr rfl (F45_0 _ _)) rfl ?_
                      refine SV.step gno (Step.load Try.underlying3 rfl rfl (fun w h => h.cell 4 rfl rfl)) rfl ?_
                      refine SV.split gno (Step.eql rfl rfl) rfl (fun e3 => ?_) (fun e3 => ?_)
                      · -- True
                        have hfu := hoff (by first | assumption | (simp only [Bool.not_eq_true'] at *; assumption)) j (by omega) e3
                        refine SV.step gno (Step.move rfl) rfl ?_
                        refine SV.step (gyes rfl) (Step.move rfl) rfl ?_
                        refine SV.step (gyes rfl) (Step.move rfl) rfl ?_
                        refine SV.step (gyes rfl) (Step.idx Try.underlying42 I4 (fun w h => h.os 2 rfl) rfl rfl (by first | rfl | omega | (rw [List.length_set]; omega)) _ rfl (by omega)) rfl ?_
                        refine SV.step (gyes rfl) (Step.load Try.underlying4 rfl rfl (fun w h => (h.os 2 rfl).cell0 (by omega) rfl)) rfl ?_
                        refine SV.step (gyes rfl) (Step.move rfl) rfl ?_
                        refine SV.cases 103 rfl (fun cc15 => ?_) (fun cc15 => ?_)
                        · -- True
                          refine SV.skip rfl rfl ?_
                          refine SV.skip rfl rfl ?_
                          refine SV.skip rfl rfl ?_
                          refine SV.skip rfl rfl ?_
                          refine SV.skip rfl rfl ?_
                          refine SV.skip rfl rfl ?_
                          refine SV.skip rfl rfl ?_
                          refine SV.step (gyes rfl) (Step.pick_t rfl rfl) rfl ?_
                          refine SV.step gno (Step.pick_t rfl rfl) rfl ?_
                          refine SV.nil ?_
                          refine KV.then_n ?_
                          refine KV.env [(5, _), (6, _), (8, _), (9, _), (10, _), (11, _), (13, _), (112, _)] ⟨rfl, rfl, rfl, rfl, rfl, rfl, rfl, rfl, trivial⟩ ?_
                          refine CV.cond_t rfl ?_
                          refine CV.seq ?_
                          -- region 19 law.go:203
                          refine CV.region ?_
                          refine RV.op (OV.step gno (Step.assign rfl) rfl ?_)
                          refine RV.nil ?_
                          refine KV.then_n ?_
                          refine KV.env [(4, _)] ⟨rfl, trivial⟩ ?_
                          refine CV.ret ?_
                          refine KV.block_ret ?_
                          refine KV.then_ret ?_
                          refine KV.then_ret ?_
                          refine KV.block_ret ?_
                          refine KV.then_ret ?_
                          refine KV.block_ret ?_
                          refine KV.then_ret ?_
                          refine KV.then_ret ?_
                          refine KV.block_ret ?_
                          refine KV.then_ret ?_
                          -- return at r19
                          refine KV.sel [] [] rfl ?_
                          exfalso
                          simp_all
                        · -- False
                          refine SV.step (gyes rfl) (Step.move rfl) rfl ?_
                          refine SV.step (gyes rfl) (Step.move rfl) rfl ?_
                          refine SV.step (gyes rfl) (Step.idx Try.underlying43 I33 (fun w h => h.os 3 rfl) rfl rfl (by first | rfl | omega | (rw [List.length_set]; omega)) _ rfl (by omega)) rfl ?_
                          refine SV.step (gyes rfl) (Step.load Try.underlying33 rfl rfl (fun w h => (h.os 3 rfl).cell0 (by omega) rfl)) rfl ?_
                          refine SV.step (gyes rfl) (Step.fieldAddr rfl (F45_2 _ _)) rfl ?_
                          refine SV.step (gyes rfl) (Step.load Try.underlying33 rfl rfl (fun w h => h.cell 4 rfl rfl)) rfl ?_
                          refine SV.split (gyes rfl) (Step.gtr rfl rfl) rfl (fun e4 => ?_) (fun e4 => ?_)
                          · -- True
                            exact absurd (Int.lt_of_lt_of_le e4 hfu.2) (Int.lt_irrefl _)
                          · -- False
                            refine SV.step (gyes rfl) (Step.pick_f rfl rfl) rfl ?_
                            refine SV.step gno (Step.pick_t rfl rfl) rfl ?_
                            refine SV.nil ?_
                            refine KV.then_n ?_
                            refine KV.env [(5, _), (6, _), (8, _), (9, _), (10, _), (11, _), (13, _), (112, _)] ⟨rfl, rfl, rfl, rfl, rfl, rfl, rfl, rfl, trivial⟩ ?_
                            refine CV.cond_f rfl ?_
                            refine CV.skip ?_
                            refine KV.block_n ?_
                            refine KV.then_n ?_
                            refine KV.env [(5, _), (6, _), (8, _), (9, _), (10, _), (11, _), (13, _)] ⟨rfl, rfl, rfl, rfl, rfl, rfl, rfl, trivial⟩ ?_
                            -- region 17 law.go:201
                            refine CV.region ?_
                            refine RV.op (OV.step gno (Step.move rfl) rfl ?_)
                            (first | refine RV.op (OV.step gno (Step.add rfl rfl (wI64 (by omega) (by omega))) rfl ?_) | refine RV.op (OV.step gno (Step.add rfl rfl rfl) rfl ?_))
                            refine RV.op (OV.step gno (Step.assign rfl) rfl ?_)
                            refine RV.nil ?_
                            refine KV.then_n ?_
                            refine KV.env [(5, _), (6, _), (8, _), (9, _), (10, _), (11, _), (13, _)] ⟨rfl, rfl, rfl, rfl, rfl, rfl, rfl, trivial⟩ ?_
                            refine KV.sel [0, 0, 0, 0, 0] [_, _, _, _, _] rfl ?_
                            refine KV.loopI (j + 1) (by omega) (by omega) ⟨rfl, rfl, rfl, rfl, rfl, rfl, rfl, trivial⟩ (fun _ h => h)
                      · -- False
                        refine SV.step gno (Step.move rfl) rfl ?_
                        refine SV.skip rfl rfl ?_
                        refine SV.skip rfl rfl ?_
                        refine SV.skip rfl rfl ?_
                        refine SV.skip rfl rfl ?_
                        refine SV.skip rfl rfl ?_
                        refine SV.skipU rfl rfl ?_
                        refine SV.skipU rfl rfl ?_
                        refine SV.skipU rfl rfl ?_
                        refine SV.skipU rfl rfl ?_
                        refine SV.skipU rfl rfl ?_
                        refine SV.skipU rfl rfl ?_
                        refine SV.skipU rfl rfl ?_
                        refine SV.skip rfl rfl ?_
                        refine SV.step gno (Step.pick_f rfl rfl) rfl ?_
                        refine SV.nil ?_
                        refine KV.then_n ?_
                        refine KV.env [(5, _), (6, _), (8, _), (9, _), (10, _), (11, _), (13, _), (112, _)] ⟨rfl, rfl, rfl, rfl, rfl, rfl, rfl, rfl, trivial⟩ ?_
                        refine CV.cond_f rfl ?_
                        refine CV.skip ?_
                        refine KV.block_n ?_
                        refine KV.then_n ?_
                        refine KV.env [(5, _), (6, _), (8, _), (9, _), (10, _), (11, _), (13, _)] ⟨rfl, rfl, rfl, rfl, rfl, rfl, rfl, trivial⟩ ?_
                        -- region 17 law.go:201
                        refine CV.region ?_
                        refine RV.op (OV.step gno (Step.move rfl) rfl ?_)
                        (first | refine RV.op (OV.step gno (Step.add rfl rfl (wI64 (by omega) (by omega))) rfl ?_) | refine RV.op (OV.step gno (Step.add rfl rfl rfl) rfl ?_))
                        refine RV.op (OV.step gno (Step.assign rfl) rfl ?_)
                        refine RV.nil ?_
                        refine KV.then_n ?_
                        refine KV.env [(5, _), (6, _), (8, _), (9, _), (10, _), (11, _), (13, _)] ⟨rfl, rfl, rfl, rfl, rfl, rfl, rfl, trivial⟩ ?_
                        refine KV.sel [0, 0, 0, 0, 0] [_, _, _, _, _] rfl ?_
                        refine KV.loopI (j + 1) (by omega) (by omega) ⟨rfl, rfl, rfl, rfl, rfl, rfl, rfl, trivial⟩ (fun _ h => h)
                    · -- False
                      refine CV.cond_f rfl ?_
                      refine CV.exit ?_
                      refine KV.then_exit ?_
                      refine KV.then_exit ?_
                      refine KV.block_hit ?_
                      refine KV.then_n ?_
                      refine KV.env [(5, _), (6, _), (8, _), (9, _), (10, _), (11, _)] ⟨rfl, rfl, rfl, rfl, rfl, rfl, trivial⟩ ?_
                      -- region 20 law.go:206
                      refine CV.any (Hp I w [Blk b11_4 (.cells #[.int .i64 q, .bool (op2.getD k opK.d).on, .int .u64 (op2.getD k opK.d).start, .int .u64 (op2.getD k opK.d).done] 45 (0, 0))]) (by kernel_rfl) (fun _ h => h.drew) 14 rfl ?_
                      refine AV.take 0 #[true, false, false, false, false, false, false, false, false, false, false, false, false, false] rfl (by kernel_rfl) (by kernel_rfl) (by kernel_rfl) (fun _ _ _ h => h) gno (Step.move rfl) rfl (fun _ h => h.sel [4] rfl) (by kernel_rfl) ?_
                      refine AV.take 1 #[true, true, false, false, false, false, false, false, false, false, false, false, false, false] rfl (by kernel_rfl) (by kernel_rfl) (by kernel_rfl) (fun _ _ _ h => h) gno (Step.fieldAddr rfl (F45_0 _ _)) rfl (fun _ h => h.sel [4] rfl) (by kernel_rfl) ?_
                      refine AV.take 2 #[true, true, true, false, false, false, false, false, false, false, false, false, false, false] rfl (by kernel_rfl) (by kernel_rfl) (by kernel_rfl) (fun _ _ _ h => h) gno (Step.load Try.underlying3 rfl rfl (fun w h => h.cell 0 rfl rfl)) rfl (fun _ h => h.sel [4] rfl) (by kernel_rfl) ?_
                      refine AV.take 3 #[true, true, true, true, false, false, false, false, false, false, false, false, false, false] rfl (by kernel_rfl) (by kernel_rfl) (by kernel_rfl) (fun _ _ _ h => h) gno (Step.move rfl) rfl (fun _ h => h.sel [4] rfl) (by kernel_rfl) ?_
                      refine AV.take 4 #[true, true, true, true, true, false, false, false, false, false, false, false, false, false] rfl (by kernel_rfl) (by kernel_rfl) (by kernel_rfl) (fun _ _ _ h => h) gno (Step.fieldAddr rfl (F45_0 _ _)) rfl (fun _ h => h.sel [4] rfl) (by kernel_rfl) ?_
                      refine AV.take 5 #[true, true, true, true, true, true, false, false, false, false, false, false, false, false] rfl (by kernel_rfl) (by kernel_rfl) (by kernel_rfl) (fun _ _ _ h => h) gno (Step.load Try.underlying3 rfl rfl (fun w h => h.cell 0 rfl rfl)) rfl (fun _ h => h.sel [4] rfl) (by kernel_rfl) ?_
                      refine AV.take 6 #[true, true, true, true, true, true, true, false, false, false, false, false, false, false] rfl (by kernel_rfl) (by kernel_rfl) (by kernel_rfl) (fun _ _ _ h => h) gno (Step.fieldAddr rfl (F45_1 _ _)) rfl (fun _ h => h.sel [4] rfl) (by kernel_rfl) ?_
                      refine AV.take 7 #[true, true, true, true, true, true, true, true, false, false, false, false, false, false] rfl (by kernel_rfl) (by kernel_rfl) (by kernel_rfl) (fun _ _ _ h => h) gno (Step.load Try.underlying4 rfl rfl (fun w h => h.cell 0 rfl rfl)) rfl (fun _ h => h.sel [4] rfl) (by kernel_rfl) ?_
                      refine AV.take 8 #[true, true, true, true, true, true, true, true, true, false, false, false, false, false] rfl (by kernel_rfl) (by kernel_rfl) (by kernel_rfl) (fun _ _ _ h => h) gno (Step.fieldAddr rfl (F45_3 _ _)) rfl (fun _ h => h.sel [4] rfl) (by kernel_rfl) ?_
                      refine AV.take 9 #[true, true, true, true, true, true, true, true, true, true, false, false, false, false] rfl (by kernel_rfl) (by kernel_rfl) (by kernel_rfl) (fun _ _ _ h => h) gno (Step.load Try.underlying33 rfl rfl (fun w h => h.cell 0 rfl rfl)) rfl (fun _ h => h.sel [4] rfl) (by kernel_rfl) ?_
                      refine AV.all [10] (by kernel_rfl) (by decide) ?_
                      refine ⟨⟨_, rfl, ?_⟩, trivial⟩
                      · -- 10 comes up
                        refine OV.step gno (Step.idx Try.underlying42 I4 (fun w h => h.os 2 rfl) rfl rfl (by first | rfl | omega | (rw [List.length_set]; omega)) _ rfl (by omega)) rfl ?_
                        refine AV.next #[true, true, true, true, true, true, true, true, true, true, true, false, false, false] (by kernel_rfl) (fun _ h => h.sel [4] rfl) ?_
                        refine AV.all [11] (by kernel_rfl) (by decide) ?_
                        refine ⟨⟨_, rfl, ?_⟩, trivial⟩
                        · -- 11 comes up
                          refine OV.storeE 2 (q) (_) (j := 0) [_] I4 rfl rfl rfl rfl rfl rfl (by omega) rfl (Nat.le_of_ble_eq_true rfl) gno ?_
                          refine AV.next #[true, true, true, true, true, true, true, true, true, true, true, true, false, false] (by kernel_rfl) (fun _ h => h.sel [4] rfl) ?_
                          refine AV.all [12] (by kernel_rfl) (by decide) ?_
                          refine ⟨⟨_, rfl, ?_⟩, trivial⟩
                          · -- 12 comes up
                            refine OV.step gno (Step.idx Try.underlying43 I33 (fun w h => h.os 3 rfl) rfl rfl (by first | rfl | omega | (rw [List.length_set]; omega)) _ rfl (by omega)) rfl ?_
                            refine AV.next #[true, true, true, true, true, true, true, true, true, true, true, true, true, false] (by kernel_rfl) (fun _ h => h.sel [4] rfl) ?_
                            refine AV.all [13] (by kernel_rfl) (by decide) ?_
                            refine ⟨⟨_, rfl, ?_⟩, trivial⟩
                            · -- 13 comes up
                              refine OV.storeE 3 (q) (_) (j := 0) [_] I33 rfl rfl rfl rfl rfl rfl (by omega) rfl (Nat.le_of_ble_eq_true rfl) gno ?_
                              refine AV.next #[true, true, true, true, true, true, true, true, true, true, true, true, true, true] (by kernel_rfl) (fun _ h => h.sel [4] rfl) ?_
                              refine AV.done (by kernel_rfl) ?_
                              refine KV.block_n ?_
                              refine KV.then_n ?_
                              refine KV.env [(5, _), (6, _), (8, _), (9, _), (10, _)] ⟨rfl, rfl, rfl, rfl, rfl, trivial⟩ ?_
                              -- region 10 law.go:196
                              refine CV.region ?_
                              refine RV.op (OV.step gno (Step.move rfl) rfl ?_)
                              (first | refine RV.op (OV.step gno (Step.add rfl rfl (wI64 (by omega) (by omega))) rfl ?_) | refine RV.op (OV.step gno (Step.add rfl rfl rfl) rfl ?_))
                              refine RV.op (OV.step gno (Step.assign rfl) rfl ?_)
                              refine RV.nil ?_
                              refine KV.then_n ?_
                              refine KV.env [(5, _), (6, _), (8, _), (9, _), (10, _)] ⟨rfl, rfl, rfl, rfl, rfl, trivial⟩ ?_
                              refine KV.sel [0, 0, 0, 0] [_, _, _, _] rfl ?_
                              refine KV.loopI (k + 1) (by omega) (by omega) ⟨rfl, rfl, rfl, rfl, rfl, trivial⟩ (fun _ h => by rw [trS_on (by omega) hq1, trS_done (by omega) hq1]; exact h)
                  · -- False
                    refine RV.op (OV.step gno (Step.move rfl) rfl ?_)
                    refine RV.op (OV.skip rfl rfl ?_)
                    refine RV.op (OV.skip rfl rfl ?_)
                    refine RV.op (OV.skip rfl rfl ?_)
                    refine RV.op (OV.step gno (Step.pick_f rfl rfl) rfl ?_)
                    refine RV.nil ?_
                    refine KV.then_n ?_
                    refine KV.env [(5, _), (6, _), (8, _), (9, _), (10, _), (11, _), (13, _), (87, _)] ⟨rfl, rfl, rfl, rfl, rfl, rfl, rfl, rfl, trivial⟩ ?_
                    refine CV.cond_f rfl ?_
                    refine CV.exit ?_
                    refine KV.then_exit ?_
                    refine KV.then_exit ?_
                    refine KV.block_hit ?_
                    refine KV.then_n ?_
                    refine KV.env [(5, _), (6, _), (8, _), (9, _), (10, _), (11, _)] ⟨rfl, rfl, rfl, rfl, rfl, rfl, trivial⟩ ?_
                    -- region 20 law.go:206
                    refine CV.any (Hp I w [Blk b11_4 (.cells #[.int .i64 q, .bool (op2.getD k opK.d).on, .int .u64 (op2.getD k opK.d).start, .int .u64 (op2.getD k opK.d).done] 45 (0, 0))]) (by kernel_rfl) (fun _ h => h.drew) 14 rfl ?_
                    refine AV.take 0 #[true, false, false, false, false, false, false, false, false, false, false, false, false, false] rfl (by kernel_rfl) (by kernel_rfl) (by kernel_rfl) (fun _ _ _ h => h) gno (Step.move rfl) rfl (fun _ h => h.sel [4] rfl) (by kernel_rfl) ?_
                    refine AV.take 1 #[true, true, false, false, false, false, false, false, false, false, false, false, false, false] rfl (by kernel_rfl) (by kernel_rfl) (by kernel_rfl) (fun _ _ _ h => h) gno (Step.fieldAddr rfl (F45_0 _ _)) rfl (fun _ h => h.sel [4] rfl) (by kernel_rfl) ?_
                    refine AV.take 2 #[true, true, true, false, false, false, false, false, false, false, false, false, false, false] rfl (by kernel_rfl) (by kernel_rfl) (by kernel_rfl) (fun _ _ _ h => h) gno (Step.load Try.underlying3 rfl rfl (fun w h => h.cell 0 rfl rfl)) rfl (fun _ h => h.sel [4] rfl) (by kernel_rfl) ?_
                    refine AV.take 3 #[true, true, true, true, false, false, false, false, false, false, false, false, false, false] rfl (by kernel_rfl) (by kernel_rfl) (by kernel_rfl) (fun _ _ _ h => h) gno (Step.move rfl) rfl (fun _ h => h.sel [4] rfl) (by kernel_rfl) ?_
                    refine AV.take 4 #[true, true, true, true, true, false, false, false, false, false, false, false, false, false] rfl (by kernel_rfl) (by kernel_rfl) (by kernel_rfl) (fun _ _ _ h => h) gno (Step.fieldAddr rfl (F45_0 _ _)) rfl (fun _ h => h.sel [4] rfl) (by kernel_rfl) ?_
                    refine AV.take 5 #[true, true, true, true, true, true, false, false, false, false, false, false, false, false] rfl (by kernel_rfl) (by kernel_rfl) (by kernel_rfl) (fun _ _ _ h => h) gno (Step.load Try.underlying3 rfl rfl (fun w h => h.cell 0 rfl rfl)) rfl (fun _ h => h.sel [4] rfl) (by kernel_rfl) ?_
                    refine AV.take 6 #[true, true, true, true, true, true, true, false, false, false, false, false, false, false] rfl (by kernel_rfl) (by kernel_rfl) (by kernel_rfl) (fun _ _ _ h => h) gno (Step.fieldAddr rfl (F45_1 _ _)) rfl (fun _ h => h.sel [4] rfl) (by kernel_rfl) ?_
                    refine AV.take 7 #[true, true, true, true, true, true, true, true, false, false, false, false, false, false] rfl (by kernel_rfl) (by kernel_rfl) (by kernel_rfl) (fun _ _ _ h => h) gno (Step.load Try.underlying4 rfl rfl (fun w h => h.cell 0 rfl rfl)) rfl (fun _ h => h.sel [4] rfl) (by kernel_rfl) ?_
                    refine AV.take 8 #[true, true, true, true, true, true, true, true, true, false, false, false, false, false] rfl (by kernel_rfl) (by kernel_rfl) (by kernel_rfl) (fun _ _ _ h => h) gno (Step.fieldAddr rfl (F45_3 _ _)) rfl (fun _ h => h.sel [4] rfl) (by kernel_rfl) ?_
                    refine AV.take 9 #[true, true, true, true, true, true, true, true, true, true, false, false, false, false] rfl (by kernel_rfl) (by kernel_rfl) (by kernel_rfl) (fun _ _ _ h => h) gno (Step.load Try.underlying33 rfl rfl (fun w h => h.cell 0 rfl rfl)) rfl (fun _ h => h.sel [4] rfl) (by kernel_rfl) ?_
                    refine AV.all [10] (by kernel_rfl) (by decide) ?_
                    refine ⟨⟨_, rfl, ?_⟩, trivial⟩
                    · -- 10 comes up
                      refine OV.step gno (Step.idx Try.underlying42 I4 (fun w h => h.os 2 rfl) rfl rfl (by first | rfl | omega | (rw [List.length_set]; omega)) _ rfl (by omega)) rfl ?_
                      refine AV.next #[true, true, true, true, true, true, true, true, true, true, true, false, false, false] (by kernel_rfl) (fun _ h => h.sel [4] rfl) ?_
                      refine AV.all [11] (by kernel_rfl) (by decide) ?_
                      refine ⟨⟨_, rfl, ?_⟩, trivial⟩
                      · -- 11 comes up
                        refine OV.storeE 2 (q) (_) (j := 0) [_] I4 rfl rfl rfl rfl rfl rfl (by omega) rfl (Nat.le_of_ble_eq_true rfl) gno ?_
                        refine AV.next #[true, true, true, true, true, true, true, true, true, true, true, true, false, false] (by kernel_rfl) (fun _ h => h.sel [4] rfl) ?_
                        refine AV.all [12] (by kernel_rfl) (by decide) ?_
                        refine ⟨⟨_, rfl, ?_⟩, trivial⟩
                        · -- 12 comes up
                          refine OV.step gno (Step.idx Try.underlying43 I33 (fun w h => h.os 3 rfl) rfl rfl (by first | rfl | omega | (rw [List.length_set]; omega)) _ rfl (by omega)) rfl ?_
                          refine AV.next #[true, true, true, true, true, true, true, true, true, true, true, true, true, false] (by kernel_rfl) (fun _ h => h.sel [4] rfl) ?_
                          refine AV.all [13] (by kernel_rfl) (by decide) ?_
                          refine ⟨⟨_, rfl, ?_⟩, trivial⟩
                          · -- 13 comes up
                            refine OV.storeE 3 (q) (_) (j := 0) [_] I33 rfl rfl rfl rfl rfl rfl (by omega) rfl (Nat.le_of_ble_eq_true rfl) gno ?_
                            refine AV.next #[true, true, true, true, true, true, true, true, true, true, true, true, true, true] (by kernel_rfl) (fun _ h => h.sel [4] rfl) ?_
                            refine AV.done (by kernel_rfl) ?_
                            refine KV.block_n ?_
                            refine KV.then_n ?_
                            refine KV.env [(5, _), (6, _), (8, _), (9, _), (10, _)] ⟨rfl, rfl, rfl, rfl, rfl, trivial⟩ ?_
                            -- region 10 law.go:196
                            refine CV.region ?_
                            refine RV.op (OV.step gno (Step.move rfl) rfl ?_)
                            (first | refine RV.op (OV.step gno (Step.add rfl rfl (wI64 (by omega) (by omega))) rfl ?_) | refine RV.op (OV.step gno (Step.add rfl rfl rfl) rfl ?_))
                            refine RV.op (OV.step gno (Step.assign rfl) rfl ?_)
                            refine RV.nil ?_
                            refine KV.then_n ?_
                            refine KV.env [(5, _), (6, _), (8, _), (9, _), (10, _)] ⟨rfl, rfl, rfl, rfl, rfl, trivial⟩ ?_
                            refine KV.sel [0, 0, 0, 0] [_, _, _, _] rfl ?_
                            refine KV.loopI (k + 1) (by omega) (by omega) ⟨rfl, rfl, rfl, rfl, rfl, trivial⟩ (fun _ h => by rw [trS_on (by omega) hq1, trS_done (by omega) hq1]; exact h)
              · -- False
                refine SV.skip rfl rfl ?_
                refine SV.skip rfl rfl ?_
                refine SV.step gno (Step.pick_f rfl rfl) rfl ?_
                refine SV.step gno (Step.move rfl) rfl ?_
                refine SV.skip rfl rfl ?_
                refine SV.skip rfl rfl ?_
                refine SV.skip rfl rfl ?_
                refine SV.skip rfl rfl ?_
                refine SV.skip rfl rfl ?_
                refine SV.skip rfl rfl ?_
                refine SV.skipU rfl rfl ?_
                refine SV.skipU rfl rfl ?_
                refine SV.skipU rfl rfl ?_
                refine SV.skipU rfl rfl ?_
                refine SV.skipU rfl rfl ?_
                refine SV.skipU rfl rfl ?_
                refine SV.skipU rfl rfl ?_
                refine SV.skip rfl rfl ?_
                refine SV.step gno (Step.pick_f rfl rfl) rfl ?_
                refine SV.nil ?_
                refine KV.then_n ?_
                refine KV.env [(5, _), (6, _), (8, _), (9, _), (10, _), (11, _), (78, _)] ⟨rfl, rfl, rfl, rfl, rfl, rfl, rfl, trivial⟩ ?_
                refine CV.cond_f rfl ?_
                refine CV.skip ?_
                refine KV.then_n ?_
                refine KV.env [(5, _), (6, _), (8, _), (9, _), (10, _), (11, _)] ⟨rfl, rfl, rfl, rfl, rfl, rfl, trivial⟩ ?_
                refine CV.seq ?_
                refine CV.seq ?_
                -- region 15 law.go:201
                refine CV.region ?_
                refine RV.op (OV.step gno (Step.assign rfl) rfl ?_)
                refine RV.nil ?_
                refine KV.then_n ?_
                refine KV.env [(5, _), (6, _), (8, _), (9, _), (10, _), (11, _), (13, _)] ⟨rfl, rfl, rfl, rfl, rfl, rfl, rfl, trivial⟩ ?_
                refine CV.block ?_
                -- loop L16; live [5, 6, 8, 9, 10, 11, 13]
                refine KV.sel [0, 0, 0, 0, 0] [_, _, _, _, _] rfl ?_
                refine CV.loopI (α := Nat) (fun j => j ≤ (someM raw).length) (fun j => (someM raw).length - j) (fun j => [(5, .slice A2 (someM raw).length c2), (6, .slice A3 op2.length c3), (8, .slice A5 (someM raw).length (someM raw).length), (9, .slice A6 (someM raw).length (someM raw).length), (10, .int .i64 k), (11, .pointer (some ⟨b11_4, 0, none⟩)), (13, .int .i64 j)]) (fun _ => Hp I w [OS 35 railK A2 c2 (someM raw), OS 45 opK A3 c3 op2, OS 4 boolK A5 (someM raw).length (trS (sg0 (someM raw).length) op2 k).1, OS 33 (intK .u64) A6 (someM raw).length (trS (sg0 (someM raw).length) op2 k).2, Blk b11_4 (.cells #[.int .i64 q, .bool (op2.getD k opK.d).on, .int .u64 (op2.getD k opK.d).start, .int .u64 (op2.getD k opK.d).done] 45 (0, 0))]) 0 (Nat.zero_le _) ⟨rfl, rfl, rfl, rfl, rfl, rfl, rfl, trivial⟩ (fun _ h => h) ?_
                intro j hj
                refine CV.seq ?_
                refine CV.seq ?_
                -- region 16 law.go:201
                refine CV.region ?_
                refine RV.op (OV.step gno (Step.move rfl) rfl ?_)
                refine RV.op (OV.step gno (Step.move rfl) rfl ?_)
                refine RV.op (OV.step gno (Step.lenSl Try.underlying22 rfl) rfl ?_)
                refine RV.op (OV.split gno (Step.lss rfl rfl) rfl (fun hj2 => ?_) (fun hj2 => ?_))
                · -- True
                  refine RV.op (OV.step gno (Step.move rfl) rfl ?_)
                  refine RV.op (OV.step (gyes rfl) (Step.fieldAddr rfl (F45_1 _ _)) rfl ?_)
                  refine RV.op (OV.step (gyes rfl) (Step.load Try.underlying4 rfl rfl (fun w h => h.cell 4 rfl rfl)) rfl ?_)
                  refine RV.op (OV.step (gyes rfl) (Step.not rfl) rfl ?_)
                  refine RV.op (OV.step gno (Step.pick_t rfl rfl) rfl ?_)
                  refine RV.nil ?_
                  refine KV.then_n ?_
                  refine KV.env [(5, _), (6, _), (8, _), (9, _), (10, _), (11, _), (13, _), (87, _)] ⟨rfl, rfl, rfl, rfl, rfl, rfl, rfl, rfl, trivial⟩ ?_
                  refine KV.cases 87 rfl (fun cc16 => ?_) (fun cc16 => ?_)
                  · -- True
                    refine CV.cond_t rfl ?_
                    refine CV.skip ?_
                    refine KV.then_n ?_
                    refine KV.env [(5, _), (6, _), (8, _), (9, _), (10, _), (11, _), (13, _)] ⟨rfl, rfl, rfl, rfl, rfl, rfl, rfl, trivial⟩ ?_
                    refine CV.seq ?_
                    refine CV.block ?_
                    refine CV.seq ?_
                    -- region 18 law.go:202
                    refine CV.still (by kernel_rfl) (by kernel_rfl) (fun _ h => h.drew) ?_
                    refine SV.step gno (Step.move rfl) rfl ?_
                    refine SV.step gno (Step.move rfl) rfl ?_
                    refine SV.step gno (Step.idx Try.underlying22 I35 (fun w h => h.os 0 rfl) rfl rfl (by first | rfl | omega | (rw [List.length_set]; omega)) _ rfl (by omega)) rfl ?_
                    refine SV.step gno (Step.fieldAddr rfl (F35_0 _ _)) rfl ?_
                    refine SV.step gno (Step.load Try.underlying3 rfl rfl (fun w h => (h.os 0 rfl).cell0 (by omega) rfl)) rfl ?_
                    refine SV.step gno (Step.fieldAddr rfl (F45_0 _ _)) rfl ?_
                    refine SV.step gno (Step.load Try.underlying3 rfl rfl (fun w h => h.cell 4 rfl rfl)) rfl ?_
                    refine SV.split gno (Step.eql rfl rfl) rfl (fun e3 => ?_) (fun e3 => ?_)
                    · -- True
                      have hfu := hoff (by first | assumption | (simp only [Bool.not_eq_true'] at *; assumption)) j (by omega) e3
                      refine SV.step gno (Step.move rfl) rfl ?_
                      refine SV.step (gyes rfl) (Step.move rfl) rfl ?_
                      refine SV.step (gyes rfl) (Step.move rfl) rfl ?_
                      refine SV.step (gyes rfl) (Step.idx Try.underlying42 I4 (fun w h => h.os 2 rfl) rfl rfl (by first | rfl | omega | (rw [List.length_set]; omega)) _ rfl (by omega)) rfl ?_
                      refine SV.step (gyes rfl) (Step.load Try.underlying4 rfl rfl (fun w h => (h.os 2 rfl).cell0 (by omega) rfl)) rfl ?_
                      refine SV.step (gyes rfl) (Step.move rfl) rfl ?_
                      refine SV.cases 103 rfl (fun cc17 => ?_) (fun cc17 => ?_)
                      · -- True
                        refine SV.skip rfl rfl ?_
                        refine SV.skip rfl rfl ?_
                        refine SV.skip rfl rfl ?_
                        refine SV.skip rfl rfl ?_
                        refine SV.skip rfl rfl ?_
                        refine SV.skip rfl rfl ?_
                        refine SV.skip rfl rfl ?_
                        refine SV.step (gyes rfl) (Step.pick_t rfl rfl) rfl ?_
                        refine SV.step gno (Step.pick_t rfl rfl) rfl ?_
                        refine SV.nil ?_
                        refine KV.then_n ?_
                        refine KV.env [(5, _), (6, _), (8, _), (9, _), (10, _), (11, _), (13, _), (112, _)] ⟨rfl, rfl, rfl, rfl, rfl, rfl, rfl, rfl, trivial⟩ ?_
                        refine CV.cond_t rfl ?_
                        refine CV.seq ?_
                        -- region 19 law.go:203
                        refine CV.region ?_
                        refine RV.op (OV.step gno (Step.assign rfl) rfl ?_)
                        refine RV.nil ?_
                        refine KV.then_n ?_
                        refine KV.env [(4, _)] ⟨rfl, trivial⟩ ?_
                        refine CV.ret ?_
                        refine KV.block_ret ?_
                        refine KV.then_ret ?_
                        refine KV.then_ret ?_
                        refine KV.block_ret ?_
                        refine KV.then_ret ?_
                        refine KV.block_ret ?_
                        refine KV.then_ret ?_
                        refine KV.then_ret ?_
                        refine KV.block_ret ?_
                        refine KV.then_ret ?_
                        -- return at r19
                        refine KV.sel [] [] rfl ?_
                        exfalso
                        simp_all
                      · -- False
                        refine SV.step (gyes rfl) (Step.move rfl) rfl ?_
                        refine SV.step (gyes rfl) (Step.move rfl) rfl ?_
                        refine SV.step (gyes rfl) (Step.idx Try.underlying43 I33 (fun w h => h.os 3 rfl) rfl rfl (by first | rfl | omega | (rw [List.length_set]; omega)) _ rfl (by omega)) rfl ?_
                        refine SV.step (gyes rfl) (Step.load Try.underlying33 rfl rfl (fun w h => (h.os 3 rfl).cell0 (by omega) rfl)) rfl ?_
                        refine SV.step (gyes rfl) (Step.fieldAddr rfl (F45_2 _ _)) rfl ?_
                        refine SV.step (gyes rfl) (Step.load Try.underlying33 rfl rfl (fun w h => h.cell 4 rfl rfl)) rfl ?_
                        refine SV.split (gyes rfl) (Step.gtr rfl rfl) rfl (fun e4 => ?_) (fun e4 => ?_)
                        · -- True
                          exact absurd (Int.lt_of_lt_of_le e4 hfu.2) (Int.lt_irrefl _)
                        · -- False
                          refine SV.step (gyes rfl) (Step.pick_f rfl rfl) rfl ?_
                          refine SV.step gno (Step.pick_t rfl rfl) rfl ?_
                          refine SV.nil ?_
                          refine KV.then_n ?_
                          refine KV.env [(5, _), (6, _), (8, _), (9, _), (10, _), (11, _), (13, _), (112, _)] ⟨rfl, rfl, rfl, rfl, rfl, rfl, rfl, rfl, trivial⟩ ?_
                          refine CV.cond_f rfl ?_
                          refine CV.skip ?_
                          refine KV.block_n ?_
                          refine KV.then_n ?_
                          refine KV.env [(5, _), (6, _), (8, _), (9, _), (10, _), (11, _), (13, _)] ⟨rfl, rfl, rfl, rfl, rfl, rfl, rfl, trivial⟩ ?_
                          -- region 17 law.go:201
                          refine CV.region ?_
                          refine RV.op (OV.step gno (Step.move rfl) rfl ?_)
                          (first | refine RV.op (OV.step gno (Step.add rfl rfl (wI64 (by omega) (by omega))) rfl ?_) | refine RV.op (OV.step gno (Step.add rfl rfl rfl) rfl ?_))
                          refine RV.op (OV.step gno (Step.assign rfl) rfl ?_)
                          refine RV.nil ?_
                          refine KV.then_n ?_
                          refine KV.env [(5, _), (6, _), (8, _), (9, _), (10, _), (11, _), (13, _)] ⟨rfl, rfl, rfl, rfl, rfl, rfl, rfl, trivial⟩ ?_
                          refine KV.sel [0, 0, 0, 0, 0] [_, _, _, _, _] rfl ?_
                          refine KV.loopI (j + 1) (by omega) (by omega) ⟨rfl, rfl, rfl, rfl, rfl, rfl, rfl, trivial⟩ (fun _ h => h)
                    · -- False
                      refine SV.step gno (Step.move rfl) rfl ?_
                      refine SV.skip rfl rfl ?_
                      refine SV.skip rfl rfl ?_
                      refine SV.skip rfl rfl ?_
                      refine SV.skip rfl rfl ?_
                      refine SV.skip rfl rfl ?_
                      refine SV.skipU rfl rfl ?_
                      refine SV.skipU rfl rfl ?_
                      refine SV.skipU rfl rfl ?_
                      refine SV.skipU rfl rfl ?_
                      refine SV.skipU rfl rfl ?_
                      refine SV.skipU rfl rfl ?_
                      refine SV.skipU rfl rfl ?_
                      refine SV.skip rfl rfl ?_
                      refine SV.step gno (Step.pick_f rfl rfl) rfl ?_
                      refine SV.nil ?_
                      refine KV.then_n ?_
                      refine KV.env [(5, _), (6, _), (8, _), (9, _), (10, _), (11, _), (13, _), (112, _)] ⟨rfl, rfl, rfl, rfl, rfl, rfl, rfl, rfl, trivial⟩ ?_
                      refine CV.cond_f rfl ?_
                      refine CV.skip ?_
                      refine KV.block_n ?_
                      refine KV.then_n ?_
                      refine KV.env [(5, _), (6, _), (8, _), (9, _), (10, _), (11, _), (13, _)] ⟨rfl, rfl, rfl, rfl, rfl, rfl, rfl, trivial⟩ ?_
                      -- region 17 law.go:201
                      refine CV.region ?_
                      refine RV.op (OV.step gno (Step.move rfl) rfl ?_)
                      (first | refine RV.op (OV.step gno (Step.add rfl rfl (wI64 (by omega) (by omega))) rfl ?_) | refine RV.op (OV.step gno (Step.add rfl rfl rfl) rfl ?_))
                      refine RV.op (OV.step gno (Step.assign rfl) rfl ?_)
                      refine RV.nil ?_
                      refine KV.then_n ?_
                      refine KV.env [(5, _), (6, _), (8, _), (9, _), (10, _), (11, _), (13, _)] ⟨rfl, rfl, rfl, rfl, rfl, rfl, rfl, trivial⟩ ?_
                      refine KV.sel [0, 0, 0, 0, 0] [_, _, _, _, _] rfl ?_
                      refine KV.loopI (j + 1) (by omega) (by omega) ⟨rfl, rfl, rfl, rfl, rfl, rfl, rfl, trivial⟩ (fun _ h => h)
                  · -- False
                    refine CV.cond_f rfl ?_
                    refine CV.exit ?_
                    refine KV.then_exit ?_
                    refine KV.then_exit ?_
                    refine KV.block_hit ?_
                    refine KV.then_n ?_
                    refine KV.env [(5, _), (6, _), (8, _), (9, _), (10, _), (11, _)] ⟨rfl, rfl, rfl, rfl, rfl, rfl, trivial⟩ ?_
                    -- region 20 law.go:206
                    refine CV.any (Hp I w [Blk b11_4 (.cells #[.int .i64 q, .bool (op2.getD k opK.d).on, .int .u64 (op2.getD k opK.d).start, .int .u64 (op2.getD k opK.d).done] 45 (0, 0))]) (by kernel_rfl) (fun _ h => h.drew) 14 rfl ?_
                    refine AV.take 0 #[true, false, false, false, false, false, false, false, false, false, false, false, false, false] rfl (by kernel_rfl) (by kernel_rfl) (by kernel_rfl) (fun _ _ _ h => h) gno (Step.move rfl) rfl (fun _ h => h.sel [4] rfl) (by kernel_rfl) ?_
                    refine AV.take 1 #[true, true, false, false, false, false, false, false, false, false, false, false, false, false] rfl (by kernel_rfl) (by kernel_rfl) (by kernel_rfl) (fun _ _ _ h => h) gno (Step.fieldAddr rfl (F45_0 _ _)) rfl (fun _ h => h.sel [4] rfl) (by kernel_rfl) ?_
                    refine AV.take 2 #[true, true, true, false, false, false, false, false, false, false, false, false, false, false] rfl (by kernel_rfl) (by kernel_rfl) (by kernel_rfl) (fun _ _ _ h => h) gno (Step.load Try.underlying3 rfl rfl (fun w h => h.cell 0 rfl rfl)) rfl (fun _ h => h.sel [4] rfl) (by kernel_rfl) ?_
                    refine AV.take 3 #[true, true, true, true, false, false, false, false, false, false, false, false, false, false] rfl (by kernel_rfl) (by kernel_rfl) (by kernel_rfl) (fun _ _ _ h => h) gno (Step.move rfl) rfl (fun _ h => h.sel [4] rfl) (by kernel_rfl) ?_
                    refine AV.take 4 #[true, true, true, true, true, false, false, false, false, false, false, false, false, false] rfl (by kernel_rfl) (by kernel_rfl) (by kernel_rfl) (fun _ _ _ h => h) gno (Step.fieldAddr rfl (F45_0 _ _)) rfl (fun _ h => h.sel [4] rfl) (by kernel_rfl) ?_
                    refine AV.take 5 #[true, true, true, true, true, true, false, false, false, false, false, false, false, false] rfl (by kernel_rfl) (by kernel_rfl) (by kernel_rfl) (fun _ _ _ h => h) gno (Step.load Try.underlying3 rfl rfl (fun w h => h.cell 0 rfl rfl)) rfl (fun _ h => h.sel [4] rfl) (by kernel_rfl) ?_
                    refine AV.take 6 #[true, true, true, true, true, true, true, false, false, false, false, false, false, false] rfl (by kernel_rfl) (by kernel_rfl) (by kernel_rfl) (fun _ _ _ h => h) gno (Step.fieldAddr rfl (F45_1 _ _)) rfl (fun _ h => h.sel [4] rfl) (by kernel_rfl) ?_
                    refine AV.take 7 #[true, true, true, true, true, true, true, true, false, false, false, false, false, false] rfl (by kernel_rfl) (by kernel_rfl) (by kernel_rfl) (fun _ _ _ h => h) gno (Step.load Try.underlying4 rfl rfl (fun w h => h.cell 0 rfl rfl)) rfl (fun _ h => h.sel [4] rfl) (by kernel_rfl) ?_
                    refine AV.take 8 #[true, true, true, true, true, true, true, true, true, false, false, false, false, false] rfl (by kernel_rfl) (by kernel_rfl) (by kernel_rfl) (fun _ _ _ h => h) gno (Step.fieldAddr rfl (F45_3 _ _)) rfl (fun _ h => h.sel [4] rfl) (by kernel_rfl) ?_
                    refine AV.take 9 #[true, true, true, true, true, true, true, true, true, true, false, false, false, false] rfl (by kernel_rfl) (by kernel_rfl) (by kernel_rfl) (fun _ _ _ h => h) gno (Step.load Try.underlying33 rfl rfl (fun w h => h.cell 0 rfl rfl)) rfl (fun _ h => h.sel [4] rfl) (by kernel_rfl) ?_
                    refine AV.all [10] (by kernel_rfl) (by decide) ?_
                    refine ⟨⟨_, rfl, ?_⟩, trivial⟩
                    · -- 10 comes up
                      refine OV.step gno (Step.idx Try.underlying42 I4 (fun w h => h.os 2 rfl) rfl rfl (by first | rfl | omega | (rw [List.length_set]; omega)) _ rfl (by omega)) rfl ?_
                      refine AV.next #[true, true, true, true, true, true, true, true, true, true, true, false, false, false] (by kernel_rfl) (fun _ h => h.sel [4] rfl) ?_
                      refine AV.all [11] (by kernel_rfl) (by decide) ?_
                      refine ⟨⟨_, rfl, ?_⟩, trivial⟩
                      · -- 11 comes up
                        refine OV.storeE 2 (q) (_) (j := 0) [_] I4 rfl rfl rfl rfl rfl rfl (by omega) rfl (Nat.le_of_ble_eq_true rfl) gno ?_
                        refine AV.next #[true, true, true, true, true, true, true, true, true, true, true, true, false, false] (by kernel_rfl) (fun _ h => h.sel [4] rfl) ?_
                        refine AV.all [12] (by kernel_rfl) (by decide) ?_
                        refine ⟨⟨_, rfl, ?_⟩, trivial⟩
                        · -- 12 comes up
                          refine OV.step gno (Step.idx Try.underlying43 I33 (fun w h => h.os 3 rfl) rfl rfl (by first | rfl | omega | (rw [List.length_set]; omega)) _ rfl (by omega)) rfl ?_
                          refine AV.next #[true, true, true, true, true, true, true, true, true, true, true, true, true, false] (by kernel_rfl) (fun _ h => h.sel [4] rfl) ?_
                          refine AV.all [13] (by kernel_rfl) (by decide) ?_
                          refine ⟨⟨_, rfl, ?_⟩, trivial⟩
                          · -- 13 comes up
                            refine OV.storeE 3 (q) (_) (j := 0) [_] I33 rfl rfl rfl rfl rfl rfl (by omega) rfl (Nat.le_of_ble_eq_true rfl) gno ?_
                            refine AV.next #[true, true, true, true, true, true, true, true, true, true, true, true, true, true] (by kernel_rfl) (fun _ h => h.sel [4] rfl) ?_
                            refine AV.done (by kernel_rfl) ?_
                            refine KV.block_n ?_
                            refine KV.then_n ?_
                            refine KV.env [(5, _), (6, _), (8, _), (9, _), (10, _)] ⟨rfl, rfl, rfl, rfl, rfl, trivial⟩ ?_
                            -- region 10 law.go:196
                            refine CV.region ?_
                            refine RV.op (OV.step gno (Step.move rfl) rfl ?_)
                            (first | refine RV.op (OV.step gno (Step.add rfl rfl (wI64 (by omega) (by omega))) rfl ?_) | refine RV.op (OV.step gno (Step.add rfl rfl rfl) rfl ?_))
                            refine RV.op (OV.step gno (Step.assign rfl) rfl ?_)
                            refine RV.nil ?_
                            refine KV.then_n ?_
                            refine KV.env [(5, _), (6, _), (8, _), (9, _), (10, _)] ⟨rfl, rfl, rfl, rfl, rfl, trivial⟩ ?_
                            refine KV.sel [0, 0, 0, 0] [_, _, _, _] rfl ?_
                            refine KV.loopI (k + 1) (by omega) (by omega) ⟨rfl, rfl, rfl, rfl, rfl, trivial⟩ (fun _ h => by rw [trS_on (by omega) hq1, trS_done (by omega) hq1]; exact h)
                · -- False
                  refine RV.op (OV.step gno (Step.move rfl) rfl ?_)
                  refine RV.op (OV.skip rfl rfl ?_)
                  refine RV.op (OV.skip rfl rfl ?_)
                  refine RV.op (OV.skip rfl rfl ?_)
                  refine RV.op (OV.step gno (Step.pick_f rfl rfl) rfl ?_)
                  refine RV.nil ?_
                  refine KV.then_n ?_
                  refine KV.env [(5, _), (6, _), (8, _), (9, _), (10, _), (11, _), (13, _), (87, _)] ⟨rfl, rfl, rfl, rfl, rfl, rfl, rfl, rfl, trivial⟩ ?_
                  refine CV.cond_f rfl ?_
                  refine CV.exit ?_
                  refine KV.then_exit ?_
                  refine KV.then_exit ?_
                  refine KV.block_hit ?_
                  refine KV.then_n ?_
                  refine KV.env [(5, _), (6, _), (8, _), (9, _), (10, _), (11, _)] ⟨rfl, rfl, rfl, rfl, rfl, rfl, trivial⟩ ?_
                  -- region 20 law.go:206
                  refine CV.any (Hp I w [Blk b11_4 (.cells #[.int .i64 q, .bool (op2.getD k opK.d).on, .int .u64 (op2.getD k opK.d).start, .int .u64 (op2.getD k opK.d).done] 45 (0, 0))]) (by kernel_rfl) (fun _ h => h.drew) 14 rfl ?_
                  refine AV.take 0 #[true, false, false, false, false, false, false, false, false, false, false, false, false, false] rfl (by kernel_rfl) (by kernel_rfl) (by kernel_rfl) (fun _ _ _ h => h) gno (Step.move rfl) rfl (fun _ h => h.sel [4] rfl) (by kernel_rfl) ?_
                  refine AV.take 1 #[true, true, false, false, false, false, false, false, false, false, false, false, false, false] rfl (by kernel_rfl) (by kernel_rfl) (by kernel_rfl) (fun _ _ _ h => h) gno (Step.fieldAddr rfl (F45_0 _ _)) rfl (fun _ h => h.sel [4] rfl) (by kernel_rfl) ?_
                  refine AV.take 2 #[true, true, true, false, false, false, false, false, false, false, false, false, false, false] rfl (by kernel_rfl) (by kernel_rfl) (by kernel_rfl) (fun _ _ _ h => h) gno (Step.load Try.underlying3 rfl rfl (fun w h => h.cell 0 rfl rfl)) rfl (fun _ h => h.sel [4] rfl) (by kernel_rfl) ?_
                  refine AV.take 3 #[true, true, true, true, false, false, false, false, false, false, false, false, false, false] rfl (by kernel_rfl) (by kernel_rfl) (by kernel_rfl) (fun _ _ _ h => h) gno (Step.move rfl) rfl (fun _ h => h.sel [4] rfl) (by kernel_rfl) ?_
                  refine AV.take 4 #[true, true, true, true, true, false, false, false, false, false, false, false, false, false] rfl (by kernel_rfl) (by kernel_rfl) (by kernel_rfl) (fun _ _ _ h => h) gno (Step.fieldAddr rfl (F45_0 _ _)) rfl (fun _ h => h.sel [4] rfl) (by kernel_rfl) ?_
                  refine AV.take 5 #[true, true, true, true, true, true, false, false, false, false, false, false, false, false] rfl (by kernel_rfl) (by kernel_rfl) (by kernel_rfl) (fun _ _ _ h => h) gno (Step.load Try.underlying3 rfl rfl (fun w h => h.cell 0 rfl rfl)) rfl (fun _ h => h.sel [4] rfl) (by kernel_rfl) ?_
                  refine AV.take 6 #[true, true, true, true, true, true, true, false, false, false, false, false, false, false] rfl (by kernel_rfl) (by kernel_rfl) (by kernel_rfl) (fun _ _ _ h => h) gno (Step.fieldAddr rfl (F45_1 _ _)) rfl (fun _ h => h.sel [4] rfl) (by kernel_rfl) ?_
                  refine AV.take 7 #[true, true, true, true, true, true, true, true, false, false, false, false, false, false] rfl (by kernel_rfl) (by kernel_rfl) (by kernel_rfl) (fun _ _ _ h => h) gno (Step.load Try.underlying4 rfl rfl (fun w h => h.cell 0 rfl rfl)) rfl (fun _ h => h.sel [4] rfl) (by kernel_rfl) ?_
                  refine AV.take 8 #[true, true, true, true, true, true, true, true, true, false, false, false, false, false] rfl (by kernel_rfl) (by kernel_rfl) (by kernel_rfl) (fun _ _ _ h => h) gno (Step.fieldAddr rfl (F45_3 _ _)) rfl (fun _ h => h.sel [4] rfl) (by kernel_rfl) ?_
                  refine AV.take 9 #[true, true, true, true, true, true, true, true, true, true, false, false, false, false] rfl (by kernel_rfl) (by kernel_rfl) (by kernel_rfl) (fun _ _ _ h => h) gno (Step.load Try.underlying33 rfl rfl (fun w h => h.cell 0 rfl rfl)) rfl (fun _ h => h.sel [4] rfl) (by kernel_rfl) ?_
                  refine AV.all [10] (by kernel_rfl) (by decide) ?_
                  refine ⟨⟨_, rfl, ?_⟩, trivial⟩
                  · -- 10 comes up
                    refine OV.step gno (Step.idx Try.underlying42 I4 (fun w h => h.os 2 rfl) rfl rfl (by first | rfl | omega | (rw [List.length_set]; omega)) _ rfl (by omega)) rfl ?_
                    refine AV.next #[true, true, true, true, true, true, true, true, true, true, true, false, false, false] (by kernel_rfl) (fun _ h => h.sel [4] rfl) ?_
                    refine AV.all [11] (by kernel_rfl) (by decide) ?_
                    refine ⟨⟨_, rfl, ?_⟩, trivial⟩
                    · -- 11 comes up
                      refine OV.storeE 2 (q) (_) (j := 0) [_] I4 rfl rfl rfl rfl rfl rfl (by omega) rfl (Nat.le_of_ble_eq_true rfl) gno ?_
                      refine AV.next #[true, true, true, true, true, true, true, true, true, true, true, true, false, false] (by kernel_rfl) (fun _ h => h.sel [4] rfl) ?_
                      refine AV.all [12] (by kernel_rfl) (by decide) ?_
                      refine ⟨⟨_, rfl, ?_⟩, trivial⟩
                      · -- 12 comes up
                        refine OV.step gno (Step.idx Try.underlying43 I33 (fun w h => h.os 3 rfl) rfl rfl (by first | rfl | omega | (rw [List.length_set]; omega)) _ rfl (by omega)) rfl ?_
                        refine AV.next #[true, true, true, true, true, true, true, true, true, true, true, true, true, false] (by kernel_rfl) (fun _ h => h.sel [4] rfl) ?_
                        refine AV.all [13] (by kernel_rfl) (by decide) ?_
                        refine ⟨⟨_, rfl, ?_⟩, trivial⟩
                        · -- 13 comes up
                          refine OV.storeE 3 (q) (_) (j := 0) [_] I33 rfl rfl rfl rfl rfl rfl (by omega) rfl (Nat.le_of_ble_eq_true rfl) gno ?_
                          refine AV.next #[true, true, true, true, true, true, true, true, true, true, true, true, true, true] (by kernel_rfl) (fun _ h => h.sel [4] rfl) ?_
                          refine AV.done (by kernel_rfl) ?_
                          refine KV.block_n ?_
                          refine KV.then_n ?_
                          refine KV.env [(5, _), (6, _), (8, _), (9, _), (10, _)] ⟨rfl, rfl, rfl, rfl, rfl, trivial⟩ ?_
                          -- region 10 law.go:196
                          refine CV.region ?_
                          refine RV.op (OV.step gno (Step.move rfl) rfl ?_)
                          (first | refine RV.op (OV.step gno (Step.add rfl rfl (wI64 (by omega) (by omega))) rfl ?_) | refine RV.op (OV.step gno (Step.add rfl rfl rfl) rfl ?_))
                          refine RV.op (OV.step gno (Step.assign rfl) rfl ?_)
                          refine RV.nil ?_
                          refine KV.then_n ?_
                          refine KV.env [(5, _), (6, _), (8, _), (9, _), (10, _)] ⟨rfl, rfl, rfl, rfl, rfl, trivial⟩ ?_
                          refine KV.sel [0, 0, 0, 0] [_, _, _, _] rfl ?_
                          refine KV.loopI (k + 1) (by omega) (by omega) ⟨rfl, rfl, rfl, rfl, rfl, trivial⟩ (fun _ h => by rw [trS_on (by omega) hq1, trS_done (by omega) hq1]; exact h)
            · -- False
              refine RV.nil ?_
              refine KV.then_n ?_
              refine KV.env [(5, _), (6, _), (8, _), (9, _), (10, _), (44, _)] ⟨rfl, rfl, rfl, rfl, rfl, rfl, trivial⟩ ?_
              refine CV.cond_f rfl ?_
              refine CV.exit ?_
              refine KV.then_exit ?_
              refine KV.then_exit ?_
              refine KV.block_hit ?_
              refine KV.then_n ?_
              refine KV.env [] trivial ?_
              refine CV.seq ?_
              -- region 21 law.go:208
              refine CV.region ?_
              refine RV.op (OV.call [] (F := [_, _, _, _]) Try.func12 B12 N12 rfl rfl (fun w h => awake_fn) (fun _ hb => hb.elim) gno rfl (fun v L' hp => ?_))
              obtain ⟨rfl, rfl⟩ := hp
              simp only [List.append_nil]
              refine RV.op (OV.step gno (Step.assign rfl) rfl ?_)
              refine RV.nil ?_
              refine KV.then_n ?_
              refine KV.env [(4, _)] ⟨rfl, trivial⟩ ?_
              refine CV.ret ?_
              -- return at r21
              refine KV.sel [] [] rfl ?_
              exact KV.ret1 rfl rfl _ (fun _ h => h) ⟨rfl, rfl⟩
      · rw [decide_eq_false hnm]
        exact absurd htr.named hnm
end Go.Proofs.Ytcmalbkflbfidaa
