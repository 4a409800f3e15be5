/-
  Walks, part 14.
-/
import Derived.Test.YtplmfekhdaefaaaDoorTabA
import Derived.Test.YtplmfekhdaefaaaDoorW13
set_option linter.unusedSimpArgs false
set_option linter.unusedVariables false
namespace Go.Proofs.YtplmfekhdaefaaaDoor
open Go.Sv Go.Drv
theorem chk_zero {d : Dv} (h : chkM d = 0) : chkA d = true := by
  unfold chkM at h
  cases hc : chkA d with
  | true => rfl
  | false => rw [hc] at h; simp at h
structure Bnd (d : DH) : Prop where
  s : d.ss.length ≤ 32
  t : d.hs.length ≤ 128
  o : ∀ i, i < d.hs.length → (d.hs.getD i thK.d).t.ops.length ≤ 16
theorem chk_bnd {d : DH} (h : chkM d.d = 0) : Bnd d := by
  have h1 := (chkD_iff d).1 (chk_zero h)
  refine ⟨h1.2.1.2.1, h1.2.1.2.2, fun i hi => ?_⟩
  have h2 := (okT_iff _ _).1 (h1.2.2.2.1 i hi)
  have e : (th d.hs i).t.ops.length = (d.hs.getD i thK.d).t.ops.length := rfl
  omega
theorem Bnd.eq {d d2 : DH} (h : Bnd d) (e : d2.d = d.d) : Bnd d2 := by
  have e1 : d2.ss = d.ss := congrArg Dv.ss e
  have e2 : d2.hs.map (·.t) = d.hs.map (·.t) := congrArg Dv.ts e
  have e3 : d2.hs.length = d.hs.length := by have := congrArg List.length e2; simpa using this
  refine ⟨by rw [e1]; exact h.s, by rw [e3]; exact h.t, fun i hi => ?_⟩
  have := h.o i (by omega)
  rw [← trA_th] at this ⊢
  rw [e2]; exact this

set_option maxRecDepth 100000 in
set_option maxHeartbeats 4000000 in
theorem handle_fn {q : Nat} (d : DH) (s : IS) (ev : Bs) {w : World} (hb : Bnd d) : Fx Tryd.prog 22 [.pointer (some ⟨q, 0, none⟩), .string (bs ev)] w (instL q d s) no (fun v L => ∃ A c, v = .tuple #[.agg #[.slice A (hdlM (d.hs.map (·.t)) s ev).1.2.1.length c, .bool (hdlM (d.hs.map (·.t)) s ev).1.2.2], .int .i64 (hdlM (d.hs.map (·.t)) s ev).2] ∧ L = instL q d (hdlM (d.hs.map (·.t)) s ev).1.1 ++ [OS 71 roK A c (hdlM (d.hs.map (·.t)) s ev).1.2.1]) := by
  refine Sv.Fx.body Tryd.func22 rfl T22 rfl ?_
  intro I hro hI
  refine KV.env [(0, _), (1, _)] ⟨rfl, rfl, trivial⟩ ?_
  unfold instL
  refine CV.seq (CV.region ?_)
  refine RV.op (OV.alloc #[.slice none 0 0, .bool false] I48 rfl gno rfl (fun p => ?_))
  refine RV.op (OV.step gno (Step.assign rfl) rfl ?_)
  refine RV.nil (KV.then_n (KV.env [(0, _), (1, _), (4, _)] ⟨rfl, rfl, rfl, trivial⟩ (CV.seq (CV.seq (CV.region ?_)))))
  refine RV.op (OV.step gno (Step.move rfl) rfl ?_)
  refine RV.op (OV.step gno (Step.nilCheck rfl) rfl ?_)
  refine RV.op (OV.step gno (Step.fieldAddr rfl (F105_2 _ _)) rfl ?_)
  refine RV.op (OV.step gno (Step.load Tryd.underlying4 rfl rfl (fun w h => h.cell 0 rfl rfl)) rfl ?_)
  refine RV.nil (KV.then_n (KV.env [(0, _), (1, _), (4, _), (9, _)] ⟨rfl, rfl, rfl, rfl, trivial⟩ ?_))
  refine KV.cases 9 rfl (fun cc1 => ?_) (fun cc1 => ?_)
  · -- True
    have hw : s.wt = true := cc1
    refine CV.cond_t rfl (CV.seq (CV.region ?_))
    refine RV.op (OV.step gno (Step.build rfl (Bd48_)) rfl ?_)
    refine RV.op (OV.store 4 [_, _] #[_, _] I48 rfl rfl rfl rfl rfl (Nat.le_of_ble_eq_true rfl) (by simp [Value.oneCell']) rfl gno ?_)
    refine RV.op (OV.step gno (Step.assign rfl) rfl ?_)
    refine RV.nil (KV.then_n (KV.env [(4, _), (5, _)] ⟨rfl, rfl, trivial⟩ (CV.ret (KV.then_ret ?_))))
    refine KV.sel [4, 0, 0, 0, 0] [_, _, _, _, _] rfl ?_
    have hm : hdlM (d.hs.map (·.t)) s ev = ((s, [], false), 9) := by unfold hdlM; rw [if_pos hw]
    exact KV.retC2 [_, _] rfl rfl rfl Tryd.underlying48 rfl I48 rfl (fun w h => h.cells 0 rfl) _ (fun _ h => (h.sel [1, 1, 1, 1] rfl).nilOS) ⟨none, 0, by rw [hm] <;> rfl, by rw [hm] <;> rfl⟩
  · -- False
    have hw : s.wt = false := cc1
    refine CV.cond_f rfl (CV.skip (KV.then_n (KV.env [(0, _), (1, _), (4, _)] ⟨rfl, rfl, rfl, trivial⟩ (CV.seq (CV.region ?_)))))
    refine RV.op (OV.step gno (Step.move rfl) rfl ?_)
    refine RV.op (OV.step gno (Step.move rfl) rfl ?_)
    refine RV.op (OV.call [0, 0, 0, 0] (F := [_]) Tryd.func48 B48 N48 rfl rfl (fun w h => consider_fn (k := 0) d s ev (Nat.zero_le _) (by have := hb.t; omega) (fun i hi => by have := hb.o i hi; omega)) (fun _ hb => hb.elim) gno rfl (fun v L' hp => ?_))
    obtain ⟨A3, c3, rfl, rfl⟩ := hp
    refine RV.op (OV.store 0 [_, _] #[_, _] I48 rfl rfl rfl rfl rfl (Nat.le_of_ble_eq_true rfl) (by simp [Value.oneCell']) rfl gno ?_)
    refine RV.op (OV.step gno (Step.assign rfl) rfl ?_)
    refine RV.nil (KV.then_n (KV.env [(4, _), (5, _)] ⟨rfl, rfl, trivial⟩ (CV.ret ?_)))
    refine KV.sel [0, 0, 0, 0, 0, 0] [_, _, _, _, _, _] rfl ?_
    have hm : hdlM (d.hs.map (·.t)) s ev = (conM (d.hs.map (·.t)) s ev 0, 0) := by unfold hdlM; rw [if_neg (by rw [hw]; decide)]
    exact KV.retC2 [_, _] rfl rfl rfl Tryd.underlying48 rfl I48 rfl (fun w h => h.cells 0 rfl) _ (fun _ h => h.sel [1, 1, 1, 1, 1] rfl) ⟨A3, c3, by rw [hm] <;> rfl, by rw [hm] <;> rfl⟩

set_option maxRecDepth 100000 in
set_option maxHeartbeats 4000000 in
theorem reply_fn {q : Nat} (d : DH) (s : IS) (v0 : Int) {w : World} (hb : Bnd d) (hc : s.wt = true → s.cd < d.hs.length) : Fx Tryd.prog 20 [.pointer (some ⟨q, 0, none⟩), .int .u64 v0] w (instL q d s) no (fun v L => ∃ A c, v = .tuple #[.agg #[.slice A (rplM (d.hs.map (·.t)) s v0).1.2.1.length c, .bool (rplM (d.hs.map (·.t)) s v0).1.2.2], .int .i64 (rplM (d.hs.map (·.t)) s v0).2] ∧ L = instL q d (rplM (d.hs.map (·.t)) s v0).1.1 ++ [OS 71 roK A c (rplM (d.hs.map (·.t)) s v0).1.2.1]) := by
  refine Sv.Fx.body Tryd.func20 rfl T20 rfl ?_
  intro I hro hI
  refine KV.env [(0, _), (1, _)] ⟨rfl, rfl, trivial⟩ ?_
  unfold instL
  have hbt := hb.t
  refine CV.seq (CV.region ?_)
  refine RV.op (OV.alloc #[.slice none 0 0, .bool false] I48 rfl gno rfl (fun p => ?_))
  refine RV.op (OV.step gno (Step.assign rfl) rfl ?_)
  refine RV.nil (KV.then_n (KV.env [(0, _), (1, _), (4, _)] ⟨rfl, rfl, rfl, trivial⟩ (CV.seq (CV.seq (CV.region ?_)))))
  refine RV.op (OV.step gno (Step.move rfl) rfl ?_)
  refine RV.op (OV.step gno (Step.nilCheck rfl) rfl ?_)
  refine RV.op (OV.step gno (Step.fieldAddr rfl (F105_2 _ _)) rfl ?_)
  refine RV.op (OV.step gno (Step.load Tryd.underlying4 rfl rfl (fun w h => h.cell 0 rfl rfl)) rfl ?_)
  refine RV.op (OV.step gno (Step.not rfl) rfl ?_)
  refine RV.nil (KV.then_n (KV.env [(0, _), (1, _), (4, _), (12, _)] ⟨rfl, rfl, rfl, rfl, trivial⟩ ?_))
  refine KV.cases 12 rfl (fun cc1 => ?_) (fun cc1 => ?_)
  · -- True
    have hw := neg_t cc1
    refine CV.cond_t rfl (CV.seq (CV.region ?_))
    refine RV.op (OV.step gno (Step.build rfl (Bd48_)) rfl ?_)
    refine RV.op (OV.store 4 [_, _] #[_, _] I48 rfl rfl rfl rfl rfl (Nat.le_of_ble_eq_true rfl) (by simp [Value.oneCell']) rfl gno ?_)
    refine RV.op (OV.step gno (Step.assign rfl) rfl ?_)
    refine RV.nil (KV.then_n (KV.env [(4, _), (5, _)] ⟨rfl, rfl, trivial⟩ (CV.ret (KV.then_ret ?_))))
    refine KV.sel [4, 0, 0, 0, 0] [_, _, _, _, _] rfl ?_
    have hm : rplM (d.hs.map (·.t)) s v0 = ((s, [], false), 9) := by unfold rplM; rw [if_pos hw]
    exact KV.retC2 [_, _] rfl rfl rfl Tryd.underlying48 rfl I48 rfl (fun w h => h.cells 0 rfl) _ (fun _ h => (h.sel [1, 1, 1, 1] rfl).nilOS) ⟨none, 0, by rw [hm] <;> rfl, by rw [hm] <;> rfl⟩
  · -- False
    have hw := neg_f cc1
    have hcl := hc hw
    refine CV.cond_f rfl (CV.skip (KV.then_n (KV.env [(0, _), (1, _), (4, _)] ⟨rfl, rfl, rfl, trivial⟩ (CV.seq ?_))))
    refine CV.any (Hp I w [Blk q (.cells #[.string (bs d.name), .slice d.sA d.ss.length d.sc, .slice d.tA d.hs.length d.tc, .int .i64 (s.st), .bool s.wt, .int .i64 (s.cd)] 105 (0, 0)), OS 61 thK d.tA d.tc d.hs]) (by kernel_rfl) (fun _ h => h.drew) 13 rfl ?_
    refine AV.take 0 #[true, false, false, false, false, false, false, false, false, false, false, false, false] rfl (by kernel_rfl) (by kernel_rfl) (by kernel_rfl) (fun _ _ _ h => h) gno (Step.move rfl) rfl (fun _ h => h.sel [0, 1] rfl) (by kernel_rfl) ?_
    refine AV.take 1 #[true, true, false, false, false, false, false, false, false, false, false, false, false] rfl (by kernel_rfl) (by kernel_rfl) (by kernel_rfl) (fun _ _ _ h => h) gno (Step.nilCheck rfl) rfl (fun _ h => h.sel [0, 1] rfl) (by kernel_rfl) ?_
    refine AV.take 2 #[true, true, true, false, false, false, false, false, false, false, false, false, false] rfl (by kernel_rfl) (by kernel_rfl) (by kernel_rfl) (fun _ _ _ h => h) gno (Step.fieldAddr rfl (F105_0 _ _)) rfl (fun _ h => h.sel [0, 1] rfl) (by kernel_rfl) ?_
    refine AV.take 3 #[true, true, true, true, false, false, false, false, false, false, false, false, false] rfl (by kernel_rfl) (by kernel_rfl) (by kernel_rfl) (fun _ _ _ h => h) gno (Step.fieldAddr rfl (F26_2 _ _)) rfl (fun _ h => h.sel [0, 1] rfl) (by kernel_rfl) ?_
    refine AV.take 4 #[true, true, true, true, true, false, false, false, false, false, false, false, false] rfl (by kernel_rfl) (by kernel_rfl) (by kernel_rfl) (fun _ _ _ h => h) gno (Step.load Tryd.underlying24 rfl rfl (fun w h => h.cell 0 rfl rfl)) rfl (fun _ h => h.sel [0, 1] rfl) (by kernel_rfl) ?_
    refine AV.take 5 #[true, true, true, true, true, true, false, false, false, false, false, false, false] rfl (by kernel_rfl) (by kernel_rfl) (by kernel_rfl) (fun _ _ _ h => h) gno (Step.move rfl) rfl (fun _ h => h.sel [0, 1] rfl) (by kernel_rfl) ?_
    refine AV.take 6 #[true, true, true, true, true, true, true, false, false, false, false, false, false] rfl (by kernel_rfl) (by kernel_rfl) (by kernel_rfl) (fun _ _ _ h => h) gno (Step.nilCheck rfl) rfl (fun _ h => h.sel [0, 1] rfl) (by kernel_rfl) ?_
    refine AV.take 7 #[true, true, true, true, true, true, true, true, false, false, false, false, false] rfl (by kernel_rfl) (by kernel_rfl) (by kernel_rfl) (fun _ _ _ h => h) gno (Step.fieldAddr rfl (F105_3 _ _)) rfl (fun _ h => h.sel [0, 1] rfl) (by kernel_rfl) ?_
    refine AV.take 8 #[true, true, true, true, true, true, true, true, true, false, false, false, false] rfl (by kernel_rfl) (by kernel_rfl) (by kernel_rfl) (fun _ _ _ h => h) gno (Step.load Tryd.underlying3 rfl rfl (fun w h => h.cell 0 rfl rfl)) rfl (fun _ h => h.sel [0, 1] rfl) (by kernel_rfl) ?_
    refine AV.take 9 #[true, true, true, true, true, true, true, true, true, true, false, false, false] rfl (by kernel_rfl) (by kernel_rfl) (by kernel_rfl) (fun _ _ _ h => h) gno (Step.idx Tryd.underlying24 I61 (fun w h => h.os 1 rfl) rfl rfl (rfl) _ rfl (by omega)) rfl (fun _ h => h.sel [0, 1] rfl) (by kernel_rfl) ?_
    refine AV.take 10 #[true, true, true, true, true, true, true, true, true, true, true, false, false] rfl (by kernel_rfl) (by kernel_rfl) (by kernel_rfl) (fun _ _ _ h => h) gno (Step.loadN _ Tryd.underlying61 rfl I61 rfl rfl (fun w h => (h.os 1 rfl).cells (by omega))) rfl (fun _ h => h.sel [0, 1] rfl) (by kernel_rfl) ?_
    refine AV.all [11] (by kernel_rfl) (by decide) ?_
    refine ⟨⟨_, rfl, ?_⟩, trivial⟩
    · -- 11 comes up
      refine OV.alloc #[.int .i64 0, .string (Sv.bs []), .bool false, .int .u64 0, .int .u64 0, .int .u64 0, .slice none 0 0, .int .i64 0] I61 rfl gno rfl (fun x => ?_)
      refine AV.next #[true, true, true, true, true, true, true, true, true, true, true, true, false] (by kernel_rfl) (fun _ h => h.sel [0, 1] rfl) ?_
      refine AV.all [12] (by kernel_rfl) (by decide) ?_
      refine ⟨⟨_, rfl, ?_⟩, trivial⟩
      · -- 12 comes up
        refine OV.store 5 [_, _, _, _, _, _, _, _] #[_, _, _, _, _, _, _, _] I61 rfl rfl rfl rfl rfl (Nat.le_of_ble_eq_true rfl) (by simp [Value.oneCell']) rfl gno ?_
        refine AV.next #[true, true, true, true, true, true, true, true, true, true, true, true, true] (by kernel_rfl) (fun _ h => h.sel [0, 1] rfl) ?_
        refine AV.done (by kernel_rfl) ?_
        refine KV.then_n (KV.env [(0, _), (1, _), (4, _), (6, _)] ⟨rfl, rfl, rfl, rfl, trivial⟩ (CV.seq (CV.region ?_)))
        refine RV.op (OV.step gno (Step.move rfl) rfl ?_)
        refine RV.op (OV.step gno (Step.nilCheck rfl) rfl ?_)
        refine RV.op (OV.step gno (Step.fieldAddr rfl (F105_3 _ _)) rfl ?_)
        refine RV.op (OV.step gno (Step.load Tryd.underlying3 rfl rfl (fun w h => h.cell 0 rfl rfl)) rfl ?_)
        (first | refine RV.op (OV.step gno (Step.add rfl rfl (wI64 (by omega) (by omega))) rfl ?_) | refine RV.op (OV.step gno (Step.add rfl rfl rfl) rfl ?_))
        refine RV.op (OV.step gno (Step.assign rfl) rfl ?_)
        refine RV.nil (KV.then_n (KV.env [(0, _), (1, _), (4, _), (6, _), (7, _)] ⟨rfl, rfl, rfl, rfl, rfl, trivial⟩ (CV.seq (CV.region ?_))))
        refine RV.op (OV.step gno (Step.move rfl) rfl ?_)
        refine RV.op (OV.step gno (Step.nilCheck rfl) rfl ?_)
        refine RV.op (OV.step gno (Step.fieldAddr rfl (F105_2 _ _)) rfl ?_)
        refine RV.op (OV.store 0 [_] #[_, _, _, _, _, _] I4 rfl rfl rfl rfl rfl (Nat.le_of_ble_eq_true rfl) (by simp [Value.oneCell']) rfl gno ?_)
        refine RV.nil (KV.then_n (KV.env [(0, _), (1, _), (4, _), (6, _), (7, _)] ⟨rfl, rfl, rfl, rfl, rfl, trivial⟩ (CV.seq (CV.region ?_))))
        refine RV.op (OV.step gno (Step.move rfl) rfl ?_)
        refine RV.op (OV.step gno (Step.nilCheck rfl) rfl ?_)
        refine RV.op (OV.step gno (Step.fieldAddr rfl (F105_3 _ _)) rfl ?_)
        refine RV.op (OV.store 0 [_] #[_, _, _, _, _, _] I3 rfl rfl rfl rfl rfl (Nat.le_of_ble_eq_true rfl) (by simp [Value.oneCell']) rfl gno ?_)
        refine RV.nil (KV.then_n (KV.env [(0, _), (1, _), (4, _), (6, _), (7, _)] ⟨rfl, rfl, rfl, rfl, rfl, trivial⟩ (CV.seq (CV.seq (CV.region ?_)))))
        refine RV.op (OV.step gno (Step.move rfl) rfl ?_)
        refine RV.op (OV.step gno (Step.fieldAddr rfl (F61_2 _ _)) rfl ?_)
        refine RV.op (OV.step gno (Step.fieldAddr rfl (F59_2 _ _)) rfl ?_)
        refine RV.op (OV.step gno (Step.load Tryd.underlying51 rfl rfl (fun w h => h.cell 5 rfl rfl)) rfl ?_)
        refine RV.op (OV.step gno (Step.band rfl rfl (rfl)) rfl ?_)
        refine RV.op (OV.step gno (Step.fieldAddr rfl (F61_2 _ _)) rfl ?_)
        refine RV.op (OV.step gno (Step.fieldAddr rfl (F59_3 _ _)) rfl ?_)
        refine RV.op (OV.step gno (Step.load Tryd.underlying51 rfl rfl (fun w h => h.cell 5 rfl rfl)) rfl ?_)
        refine RV.op (OV.split gno (Step.eql rfl rfl) rfl (fun hv => ?_) (fun hv => ?_))
        · -- True
          refine RV.nil (KV.then_n (KV.env [(0, _), (4, _), (6, _), (7, _), (44, _)] ⟨rfl, rfl, rfl, rfl, rfl, trivial⟩ (CV.cond_t rfl (CV.seq (CV.region ?_)))))
          refine RV.op (OV.step gno (Step.move rfl) rfl ?_)
          refine RV.op (OV.step gno (Step.loadN _ Tryd.underlying61 rfl I61 rfl rfl (fun w h => h.cells 5 rfl)) rfl ?_)
          refine RV.op (OV.call [0, 0, 0, 0] (F := [_, _]) Tryd.func47 B47 N47 rfl rfl (fun w h => take_fn (k := s.cd) d ⟨s.st, false, 0⟩ (by omega) (fun i hi => by have := hb.o i hi; omega)) (fun _ hb => hb.elim) gno rfl (fun v L' hp => ?_))
          obtain ⟨A3, c3, rfl, rfl⟩ := hp
          refine RV.op (OV.store 0 [_, _] #[_, _] I48 rfl rfl rfl rfl rfl (Nat.le_of_ble_eq_true rfl) (by simp [Value.oneCell']) rfl gno ?_)
          refine RV.op (OV.step gno (Step.assign rfl) rfl ?_)
          refine RV.nil (KV.then_n (KV.env [(4, _), (5, _)] ⟨rfl, rfl, trivial⟩ (CV.ret (KV.then_ret ?_))))
          refine KV.sel [0, 1, 1, 1, 1, 1] [_, _, _, _, _, _] rfl ?_
          have hm : rplM (d.hs.map (·.t)) s v0 = ((⟨(d.hs.getD s.cd thK.d).t.to, false, 0⟩, (d.hs.getD s.cd thK.d).t.ops, false), 0) := by unfold rplM; rw [if_neg (by rw [hw]; decide)]; simp only [trA_th]; exact if_pos hv
          exact KV.retC2 [_, _] rfl rfl rfl Tryd.underlying48 rfl I48 rfl (fun w h => h.cells 0 rfl) _ (fun _ h => h.sel [1, 1, 1, 1, 1] rfl) ⟨A3, c3, by rw [hm] <;> rfl, by rw [hm] <;> rfl⟩
        · -- False
          refine RV.nil (KV.then_n (KV.env [(0, _), (4, _), (6, _), (7, _), (44, _)] ⟨rfl, rfl, rfl, rfl, rfl, trivial⟩ (CV.cond_f rfl (CV.skip (KV.then_n ?_)))))
          refine KV.env [(0, _), (4, _), (6, _), (7, _)] ⟨rfl, rfl, rfl, rfl, trivial⟩ (CV.seq (CV.region ?_))
          refine RV.op (OV.step gno (Step.move rfl) rfl ?_)
          refine RV.op (OV.step gno (Step.move rfl) rfl ?_)
          refine RV.op (OV.step gno (Step.fieldAddr rfl (F61_1 _ _)) rfl ?_)
          refine RV.op (OV.step gno (Step.load Tryd.underlying9 rfl rfl (fun w h => h.cell 5 rfl rfl)) rfl ?_)
          refine RV.op (OV.call [0, 0, 0, 0] (F := [_, _]) Tryd.func48 B48 N48 rfl rfl (fun w h => consider_fn (k := s.cd + 1) d ⟨s.st, false, 0⟩ (d.hs.getD s.cd thK.d).t.ev (by omega) (by have := hb.t; omega) (fun i hi => by have := hb.o i hi; omega)) (fun _ hb => hb.elim) gno rfl (fun v L' hp => ?_))
          obtain ⟨A3, c3, rfl, rfl⟩ := hp
          refine RV.op (OV.store 0 [_, _] #[_, _] I48 rfl rfl rfl rfl rfl (Nat.le_of_ble_eq_true rfl) (by simp [Value.oneCell']) rfl gno ?_)
          refine RV.op (OV.step gno (Step.assign rfl) rfl ?_)
          refine RV.nil (KV.then_n (KV.env [(4, _), (5, _)] ⟨rfl, rfl, trivial⟩ (CV.ret ?_)))
          refine KV.sel [0, 1, 1, 1, 1, 1] [_, _, _, _, _, _] rfl ?_
          have hm : rplM (d.hs.map (·.t)) s v0 = (conM (d.hs.map (·.t)) ⟨s.st, false, 0⟩ (d.hs.getD s.cd thK.d).t.ev (s.cd + 1), 0) := by unfold rplM; rw [if_neg (by rw [hw]; decide)]; simp only [trA_th]; exact if_neg hv
          exact KV.retC2 [_, _] rfl rfl rfl Tryd.underlying48 rfl I48 rfl (fun w h => h.cells 0 rfl) _ (fun _ h => h.sel [1, 1, 1, 1, 1] rfl) ⟨A3, c3, by rw [hm] <;> rfl, by rw [hm] <;> rfl⟩

set_option maxRecDepth 100000 in
set_option maxHeartbeats 1000000 in
theorem state_fn {q : Nat} {d : DH} {s : IS} {w : World} (hq : w.heap[q]? = some (.cells #[.string (bs d.name), .slice d.sA d.ss.length d.sc, .slice d.tA d.hs.length d.tc, .int .i64 s.st, .bool s.wt, .int .i64 s.cd] 105 (0, 0))) : Fx Tryd.prog 26 [.pointer (some ⟨q, 0, none⟩)] w [] no (fun v L => v = .int .i64 s.st ∧ L = []) := by
  refine Sv.Fx.body Tryd.func26 rfl T26 rfl ?_
  intro I hro hI
  refine KV.env [(0, _)] ⟨rfl, trivial⟩ (CV.seq (CV.region ?_))
  refine RV.op (OV.step gno (Step.assign rfl) rfl ?_)
  refine RV.nil (KV.then_n (KV.env [(0, _)] ⟨rfl, trivial⟩ (CV.seq (CV.region ?_))))
  refine RV.op (OV.step gno (Step.move rfl) rfl ?_)
  refine RV.op (OV.step gno (Step.nilCheck rfl) rfl ?_)
  refine RV.op (OV.step gno (Step.fieldAddr rfl (F105_1 _ _)) rfl ?_)
  refine RV.op (OV.step gno (Step.load Tryd.underlying3 rfl rfl (fun w h => (cell_of (h.ro hq (hI _)) 3).trans rfl)) rfl ?_)
  refine RV.op (OV.step gno (Step.assign rfl) rfl ?_)
  refine RV.nil (KV.then_n (KV.env [(2, _)] ⟨rfl, trivial⟩ (CV.ret ?_)))
  refine KV.sel [] [] rfl ?_
  exact KV.ret1 rfl rfl _ (fun _ h => h) ⟨rfl, rfl⟩

set_option maxRecDepth 100000 in
set_option maxHeartbeats 1000000 in
theorem waiting_fn {q : Nat} {d : DH} {s : IS} {w : World} (hq : w.heap[q]? = some (.cells #[.string (bs d.name), .slice d.sA d.ss.length d.sc, .slice d.tA d.hs.length d.tc, .int .i64 s.st, .bool s.wt, .int .i64 s.cd] 105 (0, 0))) : Fx Tryd.prog 27 [.pointer (some ⟨q, 0, none⟩)] w [] no (fun v L => v = .bool s.wt ∧ L = []) := by
  refine Sv.Fx.body Tryd.func27 rfl T27 rfl ?_
  intro I hro hI
  refine KV.env [(0, _)] ⟨rfl, trivial⟩ (CV.seq (CV.region ?_))
  refine RV.op (OV.step gno (Step.assign rfl) rfl ?_)
  refine RV.nil (KV.then_n (KV.env [(0, _)] ⟨rfl, trivial⟩ (CV.seq (CV.region ?_))))
  refine RV.op (OV.step gno (Step.move rfl) rfl ?_)
  refine RV.op (OV.step gno (Step.nilCheck rfl) rfl ?_)
  refine RV.op (OV.step gno (Step.fieldAddr rfl (F105_2 _ _)) rfl ?_)
  refine RV.op (OV.step gno (Step.load Tryd.underlying4 rfl rfl (fun w h => (cell_of (h.ro hq (hI _)) 4).trans rfl)) rfl ?_)
  refine RV.op (OV.step gno (Step.assign rfl) rfl ?_)
  refine RV.nil (KV.then_n (KV.env [(2, _)] ⟨rfl, trivial⟩ (CV.ret ?_)))
  refine KV.sel [] [] rfl ?_
  exact KV.ret1 rfl rfl _ (fun _ h => h) ⟨rfl, rfl⟩

set_option maxRecDepth 100000 in
set_option maxHeartbeats 4000000 in
theorem new_fn (d : DH) {w : World} (hd : DR w d) : Fx Tryd.prog 18 [.agg #[.string (bs d.name), .slice d.sA d.ss.length d.sc, .slice d.tA d.hs.length d.tc]] w [] no (fun v L => (chkM d.d = 0 ∧ ∃ (q : Nat) (d2 : DH), d2.d = d.d ∧ v = .tuple #[.pointer (some ⟨q, 0, none⟩), .int .i64 0] ∧ L = instL q d2 (⟨0, false, 0⟩ : IS)) ∨ (chkM d.d ≠ 0 ∧ v = .tuple #[.pointer none, .int .i64 (chkM d.d)] ∧ L = [])) := by
  refine Sv.Fx.body Tryd.func18 rfl T18 rfl ?_
  intro I hro hI
  refine KV.env [(0, _)] ⟨rfl, trivial⟩ (CV.seq (CV.region ?_))
  refine RV.op (OV.box (t := 26) #[_, _, _] rfl rfl gno rfl (fun b => ?_))
  refine RV.op (OV.step gno (Step.assign rfl) rfl ?_)
  refine RV.op (OV.step gno (Step.assign rfl) rfl ?_)
  refine RV.nil (KV.then_n (KV.env [(1, _)] ⟨rfl, trivial⟩ (CV.seq (CV.seq (CV.region ?_)))))
  refine RV.op (OV.step gno (Step.loadN _ Tryd.underlying26 rfl I26 rfl rfl (fun w h => h.cells 0 rfl)) rfl ?_)
  refine RV.op (OV.call [] (F := [_]) Tryd.func32 B32 N32 rfl rfl (fun w h => check_fn d (DR.keep h hd hI)) (fun _ hb => hb.elim) gno rfl (fun v L' hp => ?_))
  obtain ⟨rfl, rfl⟩ := hp
  simp only [List.append_nil]
  refine RV.op (OV.step gno (Step.assign rfl) rfl ?_)
  refine RV.nil (KV.then_n (KV.env [(1, _), (4, _)] ⟨rfl, rfl, trivial⟩ (CV.seq (CV.region ?_))))
  refine RV.op (OV.step gno (Step.move rfl) rfl ?_)
  refine RV.op (OV.split gno (Step.neq rfl rfl) rfl (fun hck => ?_) (fun hck => ?_))
  · -- True
    refine RV.nil (KV.then_n (KV.env [(1, _), (4, _), (8, _)] ⟨rfl, rfl, rfl, trivial⟩ (CV.cond_t rfl (CV.seq (CV.region ?_)))))
    refine RV.op (OV.step gno (Step.move rfl) rfl ?_)
    refine RV.op (OV.step gno (Step.assign rfl) rfl ?_)
    refine RV.op (OV.step gno (Step.assign rfl) rfl ?_)
    refine RV.nil (KV.then_n (KV.env [(2, _), (3, _)] ⟨rfl, rfl, trivial⟩ (CV.ret (KV.then_ret ?_))))
    refine KV.sel [] [] rfl ?_
    exact KV.ret2 rfl rfl rfl _ (fun _ h => h) (.inr ⟨hck, rfl, rfl⟩)
  · -- False
    have hck0 := Decidable.not_not.1 hck
    have hbd := chk_bnd hck0
    refine RV.nil (KV.then_n (KV.env [(1, _), (4, _), (8, _)] ⟨rfl, rfl, rfl, trivial⟩ (CV.cond_f rfl (CV.skip (KV.then_n ?_)))))
    refine KV.env [(1, _)] ⟨rfl, trivial⟩ (CV.seq (CV.region ?_))
    refine RV.op (OV.step gno (Step.loadN _ Tryd.underlying26 rfl I26 rfl rfl (fun w h => h.cells 0 rfl)) rfl ?_)
    refine RV.op (OV.call [] (F := [_]) Tryd.func46 B46 N46 rfl rfl (fun w h => copy_fn d (DR.keep h hd hI) (by have := hbd.s; omega) (by have := hbd.t; omega) (fun i hi => by have := hbd.o i hi; exact Nat.le_trans this (by decide))) (fun _ hb => hb.elim) gno rfl (fun v L' hp => ?_))
    obtain ⟨d2, he, rfl, rfl⟩ := hp
    refine RV.op (OV.step gno (Step.build rfl (Bd105_0 _ _ _)) rfl ?_)
    refine RV.op (OV.box (t := 105) #[_, _, _, _, _, _] rfl rfl gno rfl (fun q => ?_))
    refine RV.op (OV.step gno (Step.assign rfl) rfl ?_)
    refine RV.op (OV.step gno (Step.assign rfl) rfl ?_)
    refine RV.nil (KV.then_n (KV.env [(2, _), (3, _)] ⟨rfl, rfl, trivial⟩ (CV.ret ?_)))
    refine KV.sel [4, 1, 1, 1] [_, _, _, _] rfl ?_
    exact KV.ret2 rfl rfl rfl _ (fun _ h => h) (.inl ⟨hck0, q, d2, he, rfl, rfl⟩)
end Go.Proofs.YtplmfekhdaefaaaDoor
