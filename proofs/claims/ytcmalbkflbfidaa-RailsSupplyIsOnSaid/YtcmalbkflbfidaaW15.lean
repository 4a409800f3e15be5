/-
  Walks, part 15.
-/
import Derived.Test.YtcmalbkflbfidaaTab15
import Derived.Test.YtcmalbkflbfidaaW7
import Derived.Test.YtcmalbkflbfidaaPl7
import Derived.Test.YtcmalbkflbfidaaSv8
set_option linter.unusedSimpArgs false
set_option linter.unusedVariables false
namespace Go.Proofs.Ytcmalbkflbfidaa
open Go.Sv Go.Rails
set_option maxRecDepth 100000 in
set_option maxHeartbeats 1000000 in
theorem log_fn {A B : Option Addr} {c d : Nat} {s : List Rail} {l : List RCall} {rk : Nat → Nat} {w : World} (G : Rails.Good s rk) (hr : RS w railK A s) (hl : RS w callK B l) (hl40 : l.length ≤ 40) : Fx Try.prog 17 [.slice A s.length c, .slice B l.length d] w [] no (fun v L => ∃ A3 c3, v = .tuple #[.slice A3 (logM s l l.length).2.length c3, .bool true] ∧ L = [OS 45 opK A3 c3 (logM s l l.length).2]) := by
  refine Sv.Fx.body Try.func17 rfl T17 rfl ?_
  intro I hro hI
  refine KV.env [(0, _), (1, _)] ⟨rfl, rfl, trivial⟩ ?_
  refine CV.seq ?_
  -- region 0 law.go:128
  refine CV.region ?_
  refine RV.op (OV.step gno (Step.assign rfl) rfl ?_)
  refine RV.op (OV.step gno (Step.assign rfl) rfl ?_)
  refine RV.nil ?_
  refine KV.then_n ?_
  refine KV.env [(0, _), (1, _)] ⟨rfl, rfl, trivial⟩ ?_
  refine CV.seq ?_
  -- region 1 law.go:129
  refine CV.region ?_
  refine RV.op (OV.step gno (Step.move rfl) rfl ?_)
  refine RV.op (OV.call [] (F := []) Try.func13 B13 N13 rfl rfl (fun w h => new_fn (h.rs hr (fun _ => hI _)) rfl) (fun _ hb => hb.elim) gno rfl (fun v L' hp => ?_))
  obtain ⟨b, a, rfl, rfl⟩ := hp.1 (good_new G)
  refine RV.op (OV.step gno (Step.move rfl) rfl ?_)
  refine RV.op (OV.step gno (Step.extract0 rfl rfl) rfl ?_)
  refine RV.op (OV.step gno (Step.extract0 rfl rfl) rfl ?_)
  refine RV.op (OV.step gno (Step.assign rfl) rfl ?_)
  refine RV.op (OV.step gno (Step.assign rfl) rfl ?_)
  refine RV.nil ?_
  refine KV.then_n ?_
  refine KV.env [(0, _), (1, _), (6, _), (7, _)] ⟨rfl, rfl, rfl, rfl, trivial⟩ ?_
  refine CV.seq ?_
  refine CV.seq ?_
  -- region 2 law.go:130
  refine CV.region ?_
  refine RV.op (OV.step gno (Step.move rfl) rfl ?_)
  refine RV.op (OV.split gno (Step.neq rfl rfl) rfl (fun z1 => ?_) (fun z1 => ?_))
  · -- True
    exact absurd rfl z1
  · -- False
    refine RV.op (OV.step gno (Step.move rfl) rfl ?_)
    refine RV.op (OV.step (gyes rfl) (Step.move rfl) rfl ?_)
    refine RV.op (OV.split (gyes rfl) (Step.eqlP Try.underlying24 rfl rfl) rfl (fun z2 => ?_) (fun z2 => ?_))
    · -- True
      cases z2
    · -- False
      refine RV.op (OV.step gno (Step.pick_f rfl rfl) rfl ?_)
      refine RV.nil ?_
      refine KV.then_n ?_
      refine KV.env [(0, _), (1, _), (6, _), (26, _)] ⟨rfl, rfl, rfl, rfl, trivial⟩ ?_
      refine CV.cond_f rfl ?_
      refine CV.skip ?_
      refine KV.then_n ?_
      refine KV.env [(0, _), (1, _), (6, _)] ⟨rfl, rfl, rfl, trivial⟩ ?_
      refine CV.seq ?_
      -- region 4 law.go:133
      refine KV.heap (fun w h => h.nilOS (e := 45) (K := opK)) ?_
      refine CV.region ?_
      refine RV.op (OV.step gno (Step.assign rfl) rfl ?_)
      refine RV.nil ?_
      refine KV.then_n ?_
      refine KV.env [(0, _), (1, _), (6, _), (8, _)] ⟨rfl, rfl, rfl, rfl, trivial⟩ ?_
      refine CV.seq ?_
      -- region 5 law.go:134
      refine CV.region ?_
      refine RV.op (OV.step gno (Step.assign rfl) rfl ?_)
      refine RV.nil ?_
      refine KV.then_n ?_
      refine KV.env [(0, _), (1, _), (6, _), (8, _), (9, _)] ⟨rfl, rfl, rfl, rfl, rfl, trivial⟩ ?_
      refine CV.seq ?_
      refine CV.seq ?_
      -- region 6 law.go:135
      refine CV.region ?_
      refine RV.op (OV.step gno (Step.assign rfl) rfl ?_)
      refine RV.nil ?_
      refine KV.then_n ?_
      refine KV.env [(0, _), (1, _), (6, _), (8, _), (9, _), (10, _)] ⟨rfl, rfl, rfl, rfl, rfl, rfl, trivial⟩ ?_
      refine CV.block ?_
      -- loop L7; live [0, 1, 6, 8, 9, 10]
      refine KV.sel [0, 0, 0, 0, 0] [_, _, _, _, _] rfl ?_
      refine CV.loop3 (fun i (_ : Option Addr) (_ : Nat) => i ≤ l.length) (fun i _ _ => l.length - i) (fun i A4 c4 => [(0, .slice A s.length c), (1, .slice B l.length d), (6, .pointer (some ⟨b, 0, none⟩)), (8, .slice A4 (logM s l i).2.length c4), (9, .int .u64 (logM s l i).1.clock), (10, .int .i64 i)]) (fun i A4 c4 => Hp I w (robj 73 b a (logM s l i).1 ++ [OS 45 opK A4 c4 (logM s l i).2])) 0 none 0 (Nat.zero_le _) ⟨rfl, rfl, rfl, rfl, rfl, rfl, trivial⟩ (fun _ h => h) ?_
      intro i A4 c4 hi0
      obtain ⟨hin, htr0, hll⟩ := logM_IN G l i (by omega)
      have hlen := G.len
      obtain ⟨st, hst⟩ : ∃ st, st = (logM s l i).1 := ⟨_, rfl⟩
      rw [← hst]
      rw [← hst] at hin
      have hi := And.intro hi0 hin
      refine CV.seq ?_
      refine CV.seq ?_
      -- region 7 law.go:135
      refine CV.region ?_
      refine RV.op (OV.step gno (Step.move rfl) rfl ?_)
      refine RV.op (OV.step gno (Step.move rfl) rfl ?_)
      refine RV.op (OV.step gno (Step.lenSl Try.underlying37 rfl) rfl ?_)
      refine RV.op (OV.split gno (Step.lss rfl rfl) rfl (fun hlt => ?_) (fun hlt => ?_))
      · -- True
        refine RV.nil ?_
        refine KV.then_n ?_
        refine KV.env [(0, _), (1, _), (6, _), (8, _), (9, _), (10, _), (30, _)] ⟨rfl, rfl, rfl, rfl, rfl, rfl, rfl, trivial⟩ ?_
        refine CV.cond_t rfl ?_
        refine CV.skip ?_
        refine KV.then_n ?_
        refine KV.env [(0, _), (1, _), (6, _), (8, _), (9, _), (10, _)] ⟨rfl, rfl, rfl, rfl, rfl, rfl, trivial⟩ ?_
        refine CV.seq ?_
        refine CV.block ?_
        refine CV.seq ?_
        -- region 9 law.go:136
        refine CV.region ?_
        refine RV.op (OV.step gno (Step.move rfl) rfl ?_)
        refine RV.op (OV.step gno (Step.move rfl) rfl ?_)
        refine RV.op (OV.step gno (Step.idx Try.underlying37 I48 (fun w h => h.rs hl (fun _ => hI _)) rfl rfl (rfl) _ rfl (by omega)) rfl ?_)
        refine RV.op (OV.step gno (Step.loadN _ Try.underlying48 rfl I48 rfl rfl (fun w h => (h.rs hl (fun _ => hI _)).cells (by omega))) rfl ?_)
        refine RV.op (OV.alloc #[.bool false, .int .i64 0, .int .u64 0, .bool false] I48 rfl gno rfl (fun b9_4 => ?_))
        refine RV.op (OV.store 5 [_, _, _, _] #[_, _, _, _] I48 rfl rfl rfl rfl rfl (Nat.le_of_ble_eq_true rfl) (by simp [Value.oneCell']) rfl gno ?_)
        refine RV.nil ?_
        refine KV.then_n ?_
        refine KV.env [(0, _), (1, _), (6, _), (8, _), (9, _), (10, _), (11, _)] ⟨rfl, rfl, rfl, rfl, rfl, rfl, rfl, trivial⟩ ?_
        refine CV.seq ?_
        -- region 10 law.go:137
        refine CV.region ?_
        refine RV.op (OV.step gno (Step.fieldAddr rfl (F48_3 _ _)) rfl ?_)
        refine RV.op (OV.store 5 [_] #[_, _, _, _] I4 rfl rfl rfl rfl rfl (Nat.le_of_ble_eq_true rfl) (by simp [Value.oneCell']) rfl gno ?_)
        refine RV.nil ?_
        refine KV.then_n ?_
        refine KV.env [(0, _), (1, _), (6, _), (8, _), (9, _), (10, _), (11, _)] ⟨rfl, rfl, rfl, rfl, rfl, rfl, rfl, trivial⟩ ?_
        refine CV.seq ?_
        -- region 11 law.go:138
        refine CV.region ?_
        refine RV.op (OV.step gno (Step.loadN _ Try.underlying48 rfl I48 rfl rfl (fun w h => h.cells 5 rfl)) rfl ?_)
        refine RV.op (OV.step gno (Step.move rfl) rfl ?_)
        refine RV.op (OV.step gno (Step.lenSl Try.underlying22 rfl) rfl ?_)
        refine RV.op (OV.step gno (Step.move rfl) rfl ?_)
        refine RV.op (OV.call [] (F := [_, _, _, _, _, _]) Try.func19 B19 N19 rfl rfl (fun w h => at_fn (cf (l.getD i callK.d)) s.length st.clock (by omega)) (fun _ hb => hb.elim) gno rfl (fun v L' hp => ?_))
        obtain ⟨rfl, rfl⟩ := hp
        simp only [List.append_nil]
        refine RV.op (OV.step gno (Step.move rfl) rfl ?_)
        refine RV.op (OV.step gno (Step.extract0 rfl rfl) rfl ?_)
        refine RV.op (OV.step gno (Step.extract0 rfl rfl) rfl ?_)
        refine RV.op (OV.step gno (Step.assign rfl) rfl ?_)
        refine RV.op (OV.step gno (Step.assign rfl) rfl ?_)
        refine RV.nil ?_
        refine KV.then_n ?_
        refine KV.env [(0, _), (1, _), (6, _), (8, _), (9, _), (10, _), (11, _), (13, _)] ⟨rfl, rfl, rfl, rfl, rfl, rfl, rfl, rfl, trivial⟩ ?_
        refine CV.seq ?_
        -- region 12 law.go:139
        refine CV.region ?_
        refine RV.op (OV.step gno (Step.move rfl) rfl ?_)
        refine RV.op (OV.step gno (Step.loadN _ Try.underlying48 rfl I48 rfl rfl (fun w h => h.cells 5 rfl)) rfl ?_)
        refine RV.op (OV.step gno (Step.move rfl) rfl ?_)
        refine RV.op (OV.step gno (Step.lenSl Try.underlying22 rfl) rfl ?_)
        refine RV.op (OV.step gno (Step.move rfl) rfl ?_)
        refine RV.op (OV.call [0, 0, 0, 0] (F := [_, _]) Try.func20 B20 N20 rfl rfl (fun w h => do_fn b a st (cf (l.getD i callK.d)) s.length st.clock (by omega) 8 rk hi.2.inv.wf (G.acy' hi.2.inv.rails) (G.rank' hi.2.inv.rails) (by omega)) (fun _ hb => hb.elim) gno rfl (fun v L' hp => ?_))
        obtain ⟨A3, c3, rfl, rfl⟩ := hp
        have D := do_did G (m := i) (by omega) hi.2 (cf (l.getD i callK.d)) s.length st.clock
        have hle := do_len 8 st (cf (l.getD i callK.d)) s.length st.clock
        generalize hdo : doM 8 st (cf (l.getD i callK.d)) s.length st.clock = r at D hle ⊢
        obtain ⟨st2, op2, er⟩ := r
        have d1 : IN s (i + 1) st2 := D.inn
        have d2 := d1.clock
        have hr2 := d1.inv.rails
        have hrl2 : st2.rails.length = s.length := by rw [hr2]
        have wf2 := d1.inv.wf
        simp only []
        have hle2 : op2.length ≤ 8 := hle
        refine RV.op (OV.step gno (Step.move rfl) rfl ?_)
        refine RV.op (OV.step gno (Step.extract0 rfl rfl) rfl ?_)
        refine RV.op (OV.step gno (Step.extract0 rfl rfl) rfl ?_)
        refine RV.op (OV.step gno (Step.assign rfl) rfl ?_)
        refine RV.op (OV.step gno (Step.assign rfl) rfl ?_)
        refine RV.nil ?_
        refine KV.then_n ?_
        refine KV.env [(0, _), (1, _), (6, _), (8, _), (9, _), (10, _), (13, _), (14, _), (15, _)] ⟨rfl, rfl, rfl, rfl, rfl, rfl, rfl, rfl, rfl, trivial⟩ ?_
        refine CV.seq ?_
        refine CV.seq ?_
        -- region 13 law.go:140
        refine CV.region ?_
        refine RV.op (OV.step gno (Step.move rfl) rfl ?_)
        refine RV.op (OV.split gno (Step.eql rfl rfl) rfl (fun he => ?_) (fun he => ?_))
        · -- True
          have hck := (D.good he).1
          simp only [] at hck
          rw [← hck]
          refine RV.nil ?_
          refine KV.then_n ?_
          refine KV.env [(0, _), (1, _), (6, _), (8, _), (9, _), (10, _), (13, _), (14, _), (56, _)] ⟨rfl, rfl, rfl, rfl, rfl, rfl, rfl, rfl, rfl, trivial⟩ ?_
          refine CV.cond_t rfl ?_
          -- region 14 law.go:141
          refine CV.region ?_
          refine RV.op (OV.step gno (Step.move rfl) rfl ?_)
          refine RV.op (OV.step gno (Step.assign rfl) rfl ?_)
          refine RV.nil ?_
          refine KV.then_n ?_
          refine KV.env [(0, _), (1, _), (6, _), (8, _), (9, _), (10, _), (14, _)] ⟨rfl, rfl, rfl, rfl, rfl, rfl, rfl, trivial⟩ ?_
          -- region 17 law.go:145
          refine CV.region ?_
          refine RV.op (OV.step gno (Step.move rfl) rfl ?_)
          refine RV.op (OV.step gno (Step.move rfl) rfl ?_)
          refine RV.op (OV.append 0 Try.underlying38 I45 rfl rfl rfl rfl rfl rfl (fun w h => h.os 6 rfl) (by omega) (by omega) gno rfl (fun b17_2a b17_2c => ?_))
          refine RV.op (OV.step gno (Step.assign rfl) rfl ?_)
          refine RV.nil ?_
          refine KV.block_n ?_
          refine KV.then_n ?_
          refine KV.env [(0, _), (1, _), (6, _), (8, _), (9, _), (10, _)] ⟨rfl, rfl, rfl, rfl, rfl, rfl, trivial⟩ ?_
          -- region 8 law.go:135
          refine CV.region ?_
          refine RV.op (OV.step gno (Step.move rfl) rfl ?_)
          (first | refine RV.op (OV.step gno (Step.add rfl rfl (wI64 (by omega) (by omega))) rfl ?_) | refine RV.op (OV.step gno (Step.add rfl rfl rfl) rfl ?_))
          refine RV.op (OV.step gno (Step.assign rfl) rfl ?_)
          refine RV.nil ?_
          refine KV.then_n ?_
          refine KV.env [(0, _), (1, _), (6, _), (8, _), (9, _), (10, _)] ⟨rfl, rfl, rfl, rfl, rfl, rfl, trivial⟩ ?_
          refine KV.sel [2, 2, 2, 2, 0] [_, _, _, _, _] rfl ?_
          have hnx := logM_succ (s := s) (l := l) (k := i) (st2 := st2) (op2 := op2) (er := er) (by rw [← hst]; exact hdo)
          refine KV.loop3 (y := A4) (z := c4) (i + 1) b17_2a b17_2c (by omega) (by omega) ⟨rfl, rfl, rfl, by rw [hnx]; rfl, by rw [hnx]; rfl, rfl, trivial⟩ (fun _ h => by rw [hnx]; exact h)
        · -- False
          obtain ⟨hs1, hs2⟩ := D.bad he
          simp only [] at hs1 hs2
          subst hs1
          refine RV.nil ?_
          refine KV.then_n ?_
          refine KV.env [(0, _), (1, _), (6, _), (8, _), (9, _), (10, _), (13, _), (14, _), (56, _)] ⟨rfl, rfl, rfl, rfl, rfl, rfl, rfl, rfl, rfl, trivial⟩ ?_
          refine CV.cond_f rfl ?_
          refine CV.seq ?_
          -- region 15 law.go:142
          refine CV.region ?_
          refine RV.op (OV.step gno (Step.move rfl) rfl ?_)
          refine RV.op (OV.step gno (Step.lenSl Try.underlying38 rfl) rfl ?_)
          refine RV.op (OV.split gno (Step.gtr rfl rfl) rfl (fun hx => ?_) (fun hx => ?_))
          · -- True
            simp [hs2] at hx
          · -- False
            refine RV.nil ?_
            refine KV.then_n ?_
            refine KV.env [(0, _), (1, _), (6, _), (8, _), (9, _), (10, _), (14, _), (60, _)] ⟨rfl, rfl, rfl, rfl, rfl, rfl, rfl, rfl, trivial⟩ ?_
            refine CV.cond_f rfl ?_
            refine CV.skip ?_
            refine KV.then_n ?_
            refine KV.env [(0, _), (1, _), (6, _), (8, _), (9, _), (10, _), (14, _)] ⟨rfl, rfl, rfl, rfl, rfl, rfl, rfl, trivial⟩ ?_
            -- region 17 law.go:145
            refine CV.region ?_
            refine RV.op (OV.step gno (Step.move rfl) rfl ?_)
            refine RV.op (OV.step gno (Step.move rfl) rfl ?_)
            refine RV.op (OV.append 0 Try.underlying38 I45 rfl rfl rfl rfl rfl rfl (fun w h => h.os 6 rfl) (by omega) (by omega) gno rfl (fun b17_2a b17_2c => ?_))
            refine RV.op (OV.step gno (Step.assign rfl) rfl ?_)
            refine RV.nil ?_
            refine KV.block_n ?_
            refine KV.then_n ?_
            refine KV.env [(0, _), (1, _), (6, _), (8, _), (9, _), (10, _)] ⟨rfl, rfl, rfl, rfl, rfl, rfl, trivial⟩ ?_
            -- region 8 law.go:135
            refine CV.region ?_
            refine RV.op (OV.step gno (Step.move rfl) rfl ?_)
            (first | refine RV.op (OV.step gno (Step.add rfl rfl (wI64 (by omega) (by omega))) rfl ?_) | refine RV.op (OV.step gno (Step.add rfl rfl rfl) rfl ?_))
            refine RV.op (OV.step gno (Step.assign rfl) rfl ?_)
            refine RV.nil ?_
            refine KV.then_n ?_
            refine KV.env [(0, _), (1, _), (6, _), (8, _), (9, _), (10, _)] ⟨rfl, rfl, rfl, rfl, rfl, rfl, trivial⟩ ?_
            refine KV.sel [2, 2, 2, 2, 0] [_, _, _, _, _] rfl ?_
            have hnx := logM_succ (s := s) (l := l) (k := i) (st2 := st2) (op2 := op2) (er := er) (by rw [← hst]; exact hdo)
            refine KV.loop3 (y := A4) (z := c4) (i + 1) b17_2a b17_2c (by omega) (by omega) ⟨rfl, rfl, rfl, by rw [hnx]; rfl, by rw [hnx]; rfl, rfl, trivial⟩ (fun _ h => by rw [hnx]; exact h)
      · -- False
        obtain rfl : i = l.length := by omega
        refine RV.nil ?_
        refine KV.then_n ?_
        refine KV.env [(0, _), (1, _), (6, _), (8, _), (9, _), (10, _), (30, _)] ⟨rfl, rfl, rfl, rfl, rfl, rfl, rfl, trivial⟩ ?_
        refine CV.cond_f rfl ?_
        refine CV.exit ?_
        refine KV.then_exit ?_
        refine KV.then_exit ?_
        refine KV.block_hit ?_
        refine KV.then_n ?_
        refine KV.env [(8, _)] ⟨rfl, trivial⟩ ?_
        refine CV.seq ?_
        -- region 18 law.go:147
        refine CV.region ?_
        refine RV.op (OV.step gno (Step.move rfl) rfl ?_)
        refine RV.op (OV.step gno (Step.assign rfl) rfl ?_)
        refine RV.op (OV.step gno (Step.assign rfl) rfl ?_)
        refine RV.nil ?_
        refine KV.then_n ?_
        refine KV.env [(4, _), (5, _)] ⟨rfl, rfl, trivial⟩ ?_
        refine CV.ret ?_
        -- return at r18
        refine KV.sel [4] [_] rfl ?_
        exact KV.ret2 rfl rfl rfl _ (fun _ h => h) ⟨_, _, rfl, rfl⟩
end Go.Proofs.Ytcmalbkflbfidaa
