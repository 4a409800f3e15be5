/-
 Walks, part 14.
-/
import Derived.Test.YtplmfekhdaefaaaGreatDoorTabA
import Derived.Test.YtplmfekhdaefaaaGreatDoorW13
set_option linter.unusedSimpArgs false
set_option linter.unusedVariables false
namespace Go.Proofs.YtplmfekhdaefaaaGreatDoor
open Go.Sv Go.Drv
theorem chk_zero {d : Dv} (h : chkM d = 0) : chkA d = true := by
 unfold chkM at h
 cases hc : chkA d with
 | true => rfl
 | false => rw [hc] at h; simp at h
structure Bnd (d : DH) : Prop where
 s : d.ss.length ≤ 32
 t : d.hs.length ≤ 128
 o : ∀ i, i < d.hs.length → (d.hs.getD i thK.d).t.ops.length ≤ 16
theorem chk_bnd {d : DH} (h : chkM d.d = 0) : Bnd d := by
 have h1 := (chkD_iff d).1 (chk_zero h)
 refine ⟨h1.2.1.2.1, h1.2.1.2.2, fun i hi => ?_⟩
 have h2 := (okT_iff _ _).1 (h1.2.2.2.1 i hi)
 have e : (th d.hs i).t.ops.length = (d.hs.getD i thK.d).t.ops.length := rfl
 omega
theorem Bnd.eq {d d2 : DH} (h : Bnd d) (e : d2.d = d.d) : Bnd d2 := by
 have e1 : d2.ss = d.ss := congrArg Dv.ss e
 have e2 : d2.hs.map (·.t) = d.hs.map (·.t) := congrArg Dv.ts e
 have e3 : d2.hs.length = d.hs.length := by have := congrArg List.length e2; simpa using this
 refine ⟨by rw [e1]; exact h.s, by rw [e3]; exact h.t, fun i hi => ?_⟩
 have := h.o i (by omega)
 rw [← trA_th] at this ⊢
 rw [e2]; exact this

set_option maxRecDepth 100000 in
set_option maxHeartbeats 4000000 in
theorem handle_fn {q : Nat} (d : DH) (s : IS) (ev : Bs) {w : World} (hb : Bnd d) : Fx Tryz.prog 18 [.pointer (some ⟨q, 0, none⟩), .string (bs ev)] w (instL q d s) no (fun v L => ∃ A c, v = .tuple #[.agg #[.slice A (hdlM (d.hs.map (·.t)) s ev).1.2.1.length c, .bool (hdlM (d.hs.map (·.t)) s ev).1.2.2], .int .i64 (hdlM (d.hs.map (·.t)) s ev).2] ∧ L = instL q d (hdlM (d.hs.map (·.t)) s ev).1.1 ++ [OS 59 roK A c (hdlM (d.hs.map (·.t)) s ev).1.2.1]) := by
 refine Sv.Fx.body Tryz.func18 rfl T18 rfl ?_
 intro I hro hI
 refine KV.env [(0, _), (1, _)] ⟨rfl, rfl, trivial⟩ ?_
 unfold instL
 refine CV.seq (CV.region ?_)
 refine RV.op (OV.alloc #[.slice none 0 0, .bool false] I53 rfl gno rfl (fun p => ?_))
 refine RV.a rfl rfl ?_
 refine RV.nil (KV.then_n (KV.env [(0, _), (1, _), (4, _)] ⟨rfl, rfl, rfl, trivial⟩ (CV.seq (CV.seq (CV.region ?_)))))
 refine RV.m rfl rfl (RV.s (Step.nilCheck rfl) rfl (RV.s (Step.fieldAddr rfl (F104_2 _ _)) rfl (RV.s (Step.load Tryz.underlying4 rfl rfl (fun w h => h.cell 0 rfl rfl)) rfl ?_)))
 refine RV.nil (KV.then_n (KV.env [(0, _), (1, _), (4, _), (9, _)] ⟨rfl, rfl, rfl, rfl, trivial⟩ ?_))
 refine KV.cases 9 rfl (fun cc1 => ?_) (fun cc1 => ?_)
 ·
  have hw : s.wt = true := cc1
  refine CV.cond_t rfl (CV.seq (CV.region ?_))
  refine RV.s (Step.build rfl (Bd53_)) rfl ?_
  refine RV.op (OV.store 4 [_, _] #[_, _] I53 rfl rfl rfl rfl rfl (Nat.le_of_ble_eq_true rfl) (by simp [Value.oneCell']) rfl gno ?_)
  refine RV.a rfl rfl ?_
  refine RV.nil (KV.then_n (KV.env [(4, _), (5, _)] ⟨rfl, rfl, trivial⟩ (CV.ret (KV.then_ret ?_))))
  refine KV.sel [4, 0, 0, 0, 0] [_, _, _, _, _] rfl ?_
  have hm : hdlM (d.hs.map (·.t)) s ev = ((s, [], false), 9) := by unfold hdlM; rw [if_pos hw]
  exact KV.retC2 [_, _] rfl rfl rfl Tryz.underlying53 rfl I53 rfl (fun w h => h.cells 0 rfl) _ (fun _ h => (h.sel [1, 1, 1, 1] rfl).nilOS) ⟨none, 0, by rw [hm] <;> rfl, by rw [hm] <;> rfl⟩
 ·
  have hw : s.wt = false := cc1
  refine CV.cond_f rfl (CV.skip (KV.then_n (KV.env [(0, _), (1, _), (4, _)] ⟨rfl, rfl, rfl, trivial⟩ (CV.seq (CV.region ?_)))))
  refine RV.m rfl rfl (RV.m rfl rfl ?_)
  refine RV.op (OV.call [0, 0, 0, 0] (F := [_]) Tryz.func43 B43 N43 rfl rfl (fun w h => consider_fn (k := 0) d s ev (Nat.zero_le _) (by have := hb.t; omega) (fun i hi => by have := hb.o i hi; omega)) (fun _ hb => hb.elim) gno rfl (fun v L' hp => ?_))
  obtain ⟨A3, c3, rfl, rfl⟩ := hp
  refine RV.op (OV.store 0 [_, _] #[_, _] I53 rfl rfl rfl rfl rfl (Nat.le_of_ble_eq_true rfl) (by simp [Value.oneCell']) rfl gno ?_)
  refine RV.a rfl rfl ?_
  refine RV.nil (KV.then_n (KV.env [(4, _), (5, _)] ⟨rfl, rfl, trivial⟩ (CV.ret ?_)))
  refine KV.sel [0, 0, 0, 0, 0, 0] [_, _, _, _, _, _] rfl ?_
  have hm : hdlM (d.hs.map (·.t)) s ev = (conM (d.hs.map (·.t)) s ev 0, 0) := by unfold hdlM; rw [if_neg (by rw [hw]; decide)]
  exact KV.retC2 [_, _] rfl rfl rfl Tryz.underlying53 rfl I53 rfl (fun w h => h.cells 0 rfl) _ (fun _ h => h.sel [1, 1, 1, 1, 1] rfl) ⟨A3, c3, by rw [hm] <;> rfl, by rw [hm] <;> rfl⟩

set_option maxRecDepth 100000 in
set_option maxHeartbeats 4000000 in
theorem reply_fn {q : Nat} (d : DH) (s : IS) (v0 : Int) {w : World} (hb : Bnd d) (hc : s.wt = true → s.cd < d.hs.length) : Fx Tryz.prog 20 [.pointer (some ⟨q, 0, none⟩), .int .u64 v0] w (instL q d s) no (fun v L => ∃ A c, v = .tuple #[.agg #[.slice A (rplM (d.hs.map (·.t)) s v0).1.2.1.length c, .bool (rplM (d.hs.map (·.t)) s v0).1.2.2], .int .i64 (rplM (d.hs.map (·.t)) s v0).2] ∧ L = instL q d (rplM (d.hs.map (·.t)) s v0).1.1 ++ [OS 59 roK A c (rplM (d.hs.map (·.t)) s v0).1.2.1]) := by
 refine Sv.Fx.body Tryz.func20 rfl T20 rfl ?_
 intro I hro hI
 refine KV.env [(0, _), (1, _)] ⟨rfl, rfl, trivial⟩ ?_
 unfold instL
 have hbt := hb.t
 refine CV.seq (CV.region ?_)
 refine RV.op (OV.alloc #[.slice none 0 0, .bool false] I53 rfl gno rfl (fun p => ?_))
 refine RV.a rfl rfl ?_
 refine RV.nil (KV.then_n (KV.env [(0, _), (1, _), (4, _)] ⟨rfl, rfl, rfl, trivial⟩ (CV.seq (CV.seq (CV.region ?_)))))
 refine RV.m rfl rfl (RV.s (Step.nilCheck rfl) rfl (RV.s (Step.fieldAddr rfl (F104_2 _ _)) rfl (RV.s (Step.load Tryz.underlying4 rfl rfl (fun w h => h.cell 0 rfl rfl)) rfl (RV.s (Step.not rfl) rfl ?_))))
 refine RV.nil (KV.then_n (KV.env [(0, _), (1, _), (4, _), (12, _)] ⟨rfl, rfl, rfl, rfl, trivial⟩ ?_))
 refine KV.cases 12 rfl (fun cc1 => ?_) (fun cc1 => ?_)
 ·
  have hw := neg_t cc1
  refine CV.cond_t rfl (CV.seq (CV.region ?_))
  refine RV.s (Step.build rfl (Bd53_)) rfl ?_
  refine RV.op (OV.store 4 [_, _] #[_, _] I53 rfl rfl rfl rfl rfl (Nat.le_of_ble_eq_true rfl) (by simp [Value.oneCell']) rfl gno ?_)
  refine RV.a rfl rfl ?_
  refine RV.nil (KV.then_n (KV.env [(4, _), (5, _)] ⟨rfl, rfl, trivial⟩ (CV.ret (KV.then_ret ?_))))
  refine KV.sel [4, 0, 0, 0, 0] [_, _, _, _, _] rfl ?_
  have hm : rplM (d.hs.map (·.t)) s v0 = ((s, [], false), 9) := by unfold rplM; rw [if_pos hw]
  exact KV.retC2 [_, _] rfl rfl rfl Tryz.underlying53 rfl I53 rfl (fun w h => h.cells 0 rfl) _ (fun _ h => (h.sel [1, 1, 1, 1] rfl).nilOS) ⟨none, 0, by rw [hm] <;> rfl, by rw [hm] <;> rfl⟩
 ·
  have hw := neg_f cc1
  have hcl := hc hw
  refine CV.cond_f rfl (CV.skip (KV.then_n (KV.env [(0, _), (1, _), (4, _)] ⟨rfl, rfl, rfl, trivial⟩ (CV.seq ?_))))
  refine CV.any (Hp I w [Blk q (.cells #[.string (bs d.name), .slice d.sA d.ss.length d.sc, .slice d.tA d.hs.length d.tc, .int .i64 (s.st), .bool s.wt, .int .i64 (s.cd)] 104 (0, 0)), OS 48 thK d.tA d.tc d.hs]) (by kernel_rfl) (fun _ h => h.drew) 13 rfl ?_
  refine AV.u 0 (bl 13 1) rfl gno (Step.move rfl) rfl (fun _ h => h.sel [0, 1] rfl) ?_
  refine AV.u 1 (bl 13 3) rfl gno (Step.nilCheck rfl) rfl (fun _ h => h.sel [0, 1] rfl) ?_
  refine AV.u 2 (bl 13 7) rfl gno (Step.fieldAddr rfl (F104_0 _ _)) rfl (fun _ h => h.sel [0, 1] rfl) ?_
  refine AV.u 3 (bl 13 15) rfl gno (Step.fieldAddr rfl (F25_2 _ _)) rfl (fun _ h => h.sel [0, 1] rfl) ?_
  refine AV.u 4 (bl 13 31) rfl gno (Step.load Tryz.underlying23 rfl rfl (fun w h => h.cell 0 rfl rfl)) rfl (fun _ h => h.sel [0, 1] rfl) ?_
  refine AV.u 5 (bl 13 63) rfl gno (Step.move rfl) rfl (fun _ h => h.sel [0, 1] rfl) ?_
  refine AV.u 6 (bl 13 127) rfl gno (Step.nilCheck rfl) rfl (fun _ h => h.sel [0, 1] rfl) ?_
  refine AV.u 7 (bl 13 255) rfl gno (Step.fieldAddr rfl (F104_3 _ _)) rfl (fun _ h => h.sel [0, 1] rfl) ?_
  refine AV.u 8 (bl 13 511) rfl gno (Step.load Tryz.underlying3 rfl rfl (fun w h => h.cell 0 rfl rfl)) rfl (fun _ h => h.sel [0, 1] rfl) ?_
  refine AV.u 9 (bl 13 1023) rfl gno (Step.idx Tryz.underlying23 I48 (fun w h => h.os 1 rfl) rfl rfl (rfl) _ rfl (by omega)) rfl (fun _ h => h.sel [0, 1] rfl) ?_
  refine AV.u 10 (bl 13 2047) rfl gno (Step.loadN _ Tryz.underlying48 rfl I48 rfl rfl (fun w h => (h.os 1 rfl).cells (by omega))) rfl (fun _ h => h.sel [0, 1] rfl) ?_
  refine AV.all [11] (by kernel_rfl) (by decide) ?_
  refine ⟨⟨_, rfl, ?_⟩, trivial⟩
  ·
   refine OV.alloc #[.int .i64 0, .string (Sv.bs []), .bool false, .int .u64 0, .int .u64 0, .int .u64 0, .slice none 0 0, .int .i64 0] I48 rfl gno rfl (fun x => ?_)
   refine AV.next (bl 13 4095) (by kernel_rfl) (fun _ h => h.sel [0, 1] rfl) ?_
   refine AV.all [12] (by kernel_rfl) (by decide) ?_
   refine ⟨⟨_, rfl, ?_⟩, trivial⟩
   ·
    refine OV.store 5 [_, _, _, _, _, _, _, _] #[_, _, _, _, _, _, _, _] I48 rfl rfl rfl rfl rfl (Nat.le_of_ble_eq_true rfl) (by simp [Value.oneCell']) rfl gno ?_
    refine AV.next (bl 13 8191) (by kernel_rfl) (fun _ h => h.sel [0, 1] rfl) ?_
    refine AV.done (by kernel_rfl) ?_
    refine KV.then_n (KV.env [(0, _), (1, _), (4, _), (6, _)] ⟨rfl, rfl, rfl, rfl, trivial⟩ (CV.seq (CV.region ?_)))
    refine RV.m rfl rfl (RV.s (Step.nilCheck rfl) rfl (RV.s (Step.fieldAddr rfl (F104_3 _ _)) rfl (RV.s (Step.load Tryz.underlying3 rfl rfl (fun w h => h.cell 0 rfl rfl)) rfl ?_)))
    (first | refine RV.op (OV.step gno (Step.add rfl rfl (wI64 (by omega) (by omega))) rfl ?_) | refine RV.op (OV.step gno (Step.add rfl rfl rfl) rfl ?_))
    refine RV.a rfl rfl ?_
    refine RV.nil (KV.then_n (KV.env [(0, _), (1, _), (4, _), (6, _), (7, _)] ⟨rfl, rfl, rfl, rfl, rfl, trivial⟩ (CV.seq (CV.region ?_))))
    refine RV.m rfl rfl (RV.s (Step.nilCheck rfl) rfl (RV.s (Step.fieldAddr rfl (F104_2 _ _)) rfl ?_))
    refine RV.op (OV.store 0 [_] #[_, _, _, _, _, _] I4 rfl rfl rfl rfl rfl (Nat.le_of_ble_eq_true rfl) (by simp [Value.oneCell']) rfl gno ?_)
    refine RV.nil (KV.then_n (KV.env [(0, _), (1, _), (4, _), (6, _), (7, _)] ⟨rfl, rfl, rfl, rfl, rfl, trivial⟩ (CV.seq (CV.region ?_))))
    refine RV.m rfl rfl (RV.s (Step.nilCheck rfl) rfl (RV.s (Step.fieldAddr rfl (F104_3 _ _)) rfl ?_))
    refine RV.op (OV.store 0 [_] #[_, _, _, _, _, _] I3 rfl rfl rfl rfl rfl (Nat.le_of_ble_eq_true rfl) (by simp [Value.oneCell']) rfl gno ?_)
    refine RV.nil (KV.then_n (KV.env [(0, _), (1, _), (4, _), (6, _), (7, _)] ⟨rfl, rfl, rfl, rfl, rfl, trivial⟩ (CV.seq (CV.seq (CV.region ?_)))))
    refine RV.m rfl rfl (RV.s (Step.fieldAddr rfl (F48_2 _ _)) rfl (RV.s (Step.fieldAddr rfl (F45_2 _ _)) rfl (RV.s (Step.load Tryz.underlying43 rfl rfl (fun w h => h.cell 5 rfl rfl)) rfl (RV.s (Step.band rfl rfl (rfl)) rfl (RV.s (Step.fieldAddr rfl (F48_2 _ _)) rfl (RV.s (Step.fieldAddr rfl (F45_3 _ _)) rfl (RV.s (Step.load Tryz.underlying43 rfl rfl (fun w h => h.cell 5 rfl rfl)) rfl ?_)))))))
    refine RV.op (OV.split gno (Step.eql rfl rfl) rfl (fun hv => ?_) (fun hv => ?_))
    ·
     refine RV.nil (KV.then_n (KV.env [(0, _), (4, _), (6, _), (7, _), (44, _)] ⟨rfl, rfl, rfl, rfl, rfl, trivial⟩ (CV.cond_t rfl (CV.seq (CV.region ?_)))))
     refine RV.m rfl rfl (RV.s (Step.loadN _ Tryz.underlying48 rfl I48 rfl rfl (fun w h => h.cells 5 rfl)) rfl ?_)
     refine RV.op (OV.call [0, 0, 0, 0] (F := [_, _]) Tryz.func44 B44 N44 rfl rfl (fun w h => take_fn (k := s.cd) d ⟨s.st, false, 0⟩ (by omega) (fun i hi => by have := hb.o i hi; omega)) (fun _ hb => hb.elim) gno rfl (fun v L' hp => ?_))
     obtain ⟨A3, c3, rfl, rfl⟩ := hp
     refine RV.op (OV.store 0 [_, _] #[_, _] I53 rfl rfl rfl rfl rfl (Nat.le_of_ble_eq_true rfl) (by simp [Value.oneCell']) rfl gno ?_)
     refine RV.a rfl rfl ?_
     refine RV.nil (KV.then_n (KV.env [(4, _), (5, _)] ⟨rfl, rfl, trivial⟩ (CV.ret (KV.then_ret ?_))))
     refine KV.sel [0, 1, 1, 1, 1, 1] [_, _, _, _, _, _] rfl ?_
     have hm : rplM (d.hs.map (·.t)) s v0 = ((⟨(d.hs.getD s.cd thK.d).t.to, false, 0⟩, (d.hs.getD s.cd thK.d).t.ops, false), 0) := by unfold rplM; rw [if_neg (by rw [hw]; decide)]; simp only [trA_th]; exact if_pos hv
     exact KV.retC2 [_, _] rfl rfl rfl Tryz.underlying53 rfl I53 rfl (fun w h => h.cells 0 rfl) _ (fun _ h => h.sel [1, 1, 1, 1, 1] rfl) ⟨A3, c3, by rw [hm] <;> rfl, by rw [hm] <;> rfl⟩
    ·
     refine RV.nil (KV.then_n (KV.env [(0, _), (4, _), (6, _), (7, _), (44, _)] ⟨rfl, rfl, rfl, rfl, rfl, trivial⟩ (CV.cond_f rfl (CV.skip (KV.then_n ?_)))))
     refine KV.env [(0, _), (4, _), (6, _), (7, _)] ⟨rfl, rfl, rfl, rfl, trivial⟩ (CV.seq (CV.region ?_))
     refine RV.m rfl rfl (RV.m rfl rfl (RV.s (Step.fieldAddr rfl (F48_1 _ _)) rfl (RV.s (Step.load Tryz.underlying9 rfl rfl (fun w h => h.cell 5 rfl rfl)) rfl ?_)))
     refine RV.op (OV.call [0, 0, 0, 0] (F := [_, _]) Tryz.func43 B43 N43 rfl rfl (fun w h => consider_fn (k := s.cd + 1) d ⟨s.st, false, 0⟩ (d.hs.getD s.cd thK.d).t.ev (by omega) (by have := hb.t; omega) (fun i hi => by have := hb.o i hi; omega)) (fun _ hb => hb.elim) gno rfl (fun v L' hp => ?_))
     obtain ⟨A3, c3, rfl, rfl⟩ := hp
     refine RV.op (OV.store 0 [_, _] #[_, _] I53 rfl rfl rfl rfl rfl (Nat.le_of_ble_eq_true rfl) (by simp [Value.oneCell']) rfl gno ?_)
     refine RV.a rfl rfl ?_
     refine RV.nil (KV.then_n (KV.env [(4, _), (5, _)] ⟨rfl, rfl, trivial⟩ (CV.ret ?_)))
     refine KV.sel [0, 1, 1, 1, 1, 1] [_, _, _, _, _, _] rfl ?_
     have hm : rplM (d.hs.map (·.t)) s v0 = (conM (d.hs.map (·.t)) ⟨s.st, false, 0⟩ (d.hs.getD s.cd thK.d).t.ev (s.cd + 1), 0) := by unfold rplM; rw [if_neg (by rw [hw]; decide)]; simp only [trA_th]; exact if_neg hv
     exact KV.retC2 [_, _] rfl rfl rfl Tryz.underlying53 rfl I53 rfl (fun w h => h.cells 0 rfl) _ (fun _ h => h.sel [1, 1, 1, 1, 1] rfl) ⟨A3, c3, by rw [hm] <;> rfl, by rw [hm] <;> rfl⟩

set_option maxRecDepth 100000 in
set_option maxHeartbeats 1000000 in
theorem state_fn {q : Nat} {d : DH} {s : IS} {w : World} (hq : w.heap[q]? = some (.cells #[.string (bs d.name), .slice d.sA d.ss.length d.sc, .slice d.tA d.hs.length d.tc, .int .i64 s.st, .bool s.wt, .int .i64 s.cd] 104 (0, 0))) : Fx Tryz.prog 22 [.pointer (some ⟨q, 0, none⟩)] w [] no (fun v L => v = .int .i64 s.st ∧ L = []) := by
 refine Sv.Fx.body Tryz.func22 rfl T22 rfl ?_
 intro I hro hI
 refine KV.env [(0, _)] ⟨rfl, trivial⟩ (CV.seq (CV.region ?_))
 refine RV.a rfl rfl ?_
 refine RV.nil (KV.then_n (KV.env [(0, _)] ⟨rfl, trivial⟩ (CV.seq (CV.region ?_))))
 refine RV.m rfl rfl (RV.s (Step.nilCheck rfl) rfl (RV.s (Step.fieldAddr rfl (F104_1 _ _)) rfl (RV.s (Step.load Tryz.underlying3 rfl rfl (fun w h => (cell_of (h.ro hq (hI _)) 3).trans rfl)) rfl (RV.a rfl rfl ?_))))
 refine RV.nil (KV.then_n (KV.env [(2, _)] ⟨rfl, trivial⟩ (CV.ret ?_)))
 refine KV.sel [] [] rfl ?_
 exact KV.ret1 rfl rfl _ (fun _ h => h) ⟨rfl, rfl⟩

set_option maxRecDepth 100000 in
set_option maxHeartbeats 1000000 in
theorem waiting_fn {q : Nat} {d : DH} {s : IS} {w : World} (hq : w.heap[q]? = some (.cells #[.string (bs d.name), .slice d.sA d.ss.length d.sc, .slice d.tA d.hs.length d.tc, .int .i64 s.st, .bool s.wt, .int .i64 s.cd] 104 (0, 0))) : Fx Tryz.prog 19 [.pointer (some ⟨q, 0, none⟩)] w [] no (fun v L => v = .bool s.wt ∧ L = []) := by
 refine Sv.Fx.body Tryz.func19 rfl T19 rfl ?_
 intro I hro hI
 refine KV.env [(0, _)] ⟨rfl, trivial⟩ (CV.seq (CV.region ?_))
 refine RV.a rfl rfl ?_
 refine RV.nil (KV.then_n (KV.env [(0, _)] ⟨rfl, trivial⟩ (CV.seq (CV.region ?_))))
 refine RV.m rfl rfl (RV.s (Step.nilCheck rfl) rfl (RV.s (Step.fieldAddr rfl (F104_2 _ _)) rfl (RV.s (Step.load Tryz.underlying4 rfl rfl (fun w h => (cell_of (h.ro hq (hI _)) 4).trans rfl)) rfl (RV.a rfl rfl ?_))))
 refine RV.nil (KV.then_n (KV.env [(2, _)] ⟨rfl, trivial⟩ (CV.ret ?_)))
 refine KV.sel [] [] rfl ?_
 exact KV.ret1 rfl rfl _ (fun _ h => h) ⟨rfl, rfl⟩

set_option maxRecDepth 100000 in
set_option maxHeartbeats 4000000 in
theorem new_fn (d : DH) {w : World} (hd : DR w d) : Fx Tryz.prog 17 [.agg #[.string (bs d.name), .slice d.sA d.ss.length d.sc, .slice d.tA d.hs.length d.tc]] w [] no (fun v L => (chkM d.d = 0 ∧ ∃ (q : Nat) (d2 : DH), d2.d = d.d ∧ v = .tuple #[.pointer (some ⟨q, 0, none⟩), .int .i64 0] ∧ L = instL q d2 (⟨0, false, 0⟩ : IS)) ∨ (chkM d.d ≠ 0 ∧ v = .tuple #[.pointer none, .int .i64 (chkM d.d)] ∧ L = [])) := by
 refine Sv.Fx.body Tryz.func17 rfl T17 rfl ?_
 intro I hro hI
 refine KV.env [(0, _)] ⟨rfl, trivial⟩ (CV.seq (CV.region ?_))
 refine RV.op (OV.box (t := 25) #[_, _, _] rfl rfl gno rfl (fun b => ?_))
 refine RV.a rfl rfl (RV.a rfl rfl ?_)
 refine RV.nil (KV.then_n (KV.env [(1, _)] ⟨rfl, trivial⟩ (CV.seq (CV.seq (CV.region ?_)))))
 refine RV.s (Step.loadN _ Tryz.underlying25 rfl I25 rfl rfl (fun w h => h.cells 0 rfl)) rfl ?_
 refine RV.op (OV.call [] (F := [_]) Tryz.func29 B29 N29 rfl rfl (fun w h => check_fn d (DR.keep h hd hI)) (fun _ hb => hb.elim) gno rfl (fun v L' hp => ?_))
 obtain ⟨rfl, rfl⟩ := hp
 simp only [List.append_nil]
 refine RV.a rfl rfl ?_
 refine RV.nil (KV.then_n (KV.env [(1, _), (4, _)] ⟨rfl, rfl, trivial⟩ (CV.seq (CV.region ?_))))
 refine RV.m rfl rfl ?_
 refine RV.op (OV.split gno (Step.neq rfl rfl) rfl (fun hck => ?_) (fun hck => ?_))
 ·
  refine RV.nil (KV.then_n (KV.env [(1, _), (4, _), (8, _)] ⟨rfl, rfl, rfl, trivial⟩ (CV.cond_t rfl (CV.seq (CV.region ?_)))))
  refine RV.m rfl rfl (RV.a rfl rfl (RV.a rfl rfl ?_))
  refine RV.nil (KV.then_n (KV.env [(2, _), (3, _)] ⟨rfl, rfl, trivial⟩ (CV.ret (KV.then_ret ?_))))
  refine KV.sel [] [] rfl ?_
  exact KV.ret2 rfl rfl rfl _ (fun _ h => h) (.inr ⟨hck, rfl, rfl⟩)
 ·
  have hck0 := Decidable.not_not.1 hck
  have hbd := chk_bnd hck0
  refine RV.nil (KV.then_n (KV.env [(1, _), (4, _), (8, _)] ⟨rfl, rfl, rfl, trivial⟩ (CV.cond_f rfl (CV.skip (KV.then_n ?_)))))
  refine KV.env [(1, _)] ⟨rfl, trivial⟩ (CV.seq (CV.region ?_))
  refine RV.s (Step.loadN _ Tryz.underlying25 rfl I25 rfl rfl (fun w h => h.cells 0 rfl)) rfl ?_
  refine RV.op (OV.call [] (F := [_]) Tryz.func42 B42 N42 rfl rfl (fun w h => copy_fn d (DR.keep h hd hI) (by have := hbd.s; omega) (by have := hbd.t; omega) (fun i hi => by have := hbd.o i hi; exact Nat.le_trans this (by decide))) (fun _ hb => hb.elim) gno rfl (fun v L' hp => ?_))
  obtain ⟨d2, he, rfl, rfl⟩ := hp
  refine RV.s (Step.build rfl (Bd104_0 _ _ _)) rfl ?_
  refine RV.op (OV.box (t := 104) #[_, _, _, _, _, _] rfl rfl gno rfl (fun q => ?_))
  refine RV.a rfl rfl (RV.a rfl rfl ?_)
  refine RV.nil (KV.then_n (KV.env [(2, _), (3, _)] ⟨rfl, rfl, trivial⟩ (CV.ret ?_)))
  refine KV.sel [4, 1, 1, 1] [_, _, _, _] rfl ?_
  exact KV.ret2 rfl rfl rfl _ (fun _ h => h) (.inl ⟨hck0, q, d2, he, rfl, rfl⟩)
end Go.Proofs.YtplmfekhdaefaaaGreatDoor
