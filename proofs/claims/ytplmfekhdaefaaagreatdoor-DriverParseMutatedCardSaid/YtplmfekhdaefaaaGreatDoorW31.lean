/-
 Walks, part 31.
-/
import Derived.Test.YtplmfekhdaefaaaGreatDoorTabA
import Derived.Test.YtplmfekhdaefaaaGreatDoorW30
import Derived.Test.YtplmfekhdaefaaaGreatDoorDmC
import Derived.Test.YtplmfekhdaefaaaGreatDoorW10
set_option linter.unusedSimpArgs false
set_option linter.unusedVariables false
namespace Go.Proofs.YtplmfekhdaefaaaGreatDoor
open Go.Sv Go.Drv
theorem ln_pre {y : LH} : ∀ (j : Nat) (v : Value), (thK.f y.h)[j]? = some v → (lnK.f y)[j]? = some v := fun j v h => by
 have e : lnK.f y = thK.f y.h ++ [.string (bs y.to)] := rfl
 rw [e, List.getElem?_append_left (List.getElem?_eq_some_iff.1 h).1]; exact h

set_option maxRecDepth 100000 in
set_option maxHeartbeats 16000000 in
theorem rparse_fn (s : Bs) (hs : s.length ≤ 900000) {w : World} : Fx Tryz.prog 13 [.string (bs s)] w [] no (fun v L => ∃ d : DH, v = .tuple #[.agg #[.string (bs d.name), .slice d.sA d.ss.length d.sc, .slice d.tA d.hs.length d.tc], .int .i64 (parseM s).1] ∧ d.d = (parseM s).2 ∧ L = dL d) := by
 refine Sv.Fx.body Tryz.func13 rfl T13 rfl ?_
 intro I hro hI
 refine KV.env [(0, _)] ⟨rfl, trivial⟩ (CV.seq (CV.region ?_))
 refine RV.op (OV.alloc #[.string (Sv.bs []), .slice none 0 0, .slice none 0 0] I25 rfl gno rfl (fun d => ?_))
 refine RV.a rfl rfl ?_
 refine RV.nil (KV.then_n (KV.env [(0, _), (2, _)] ⟨rfl, rfl, trivial⟩ (CV.seq (CV.region ?_))))
 refine RV.s (Step.build rfl (Bd81_)) rfl ?_
 refine RV.op (OV.box (t := 81) #[_, _, _, _, _] rfl rfl gno rfl (fun q => ?_))
 refine RV.a rfl rfl ?_
 refine RV.nil (KV.then_n (KV.env [(0, _), (2, _), (4, _)] ⟨rfl, rfl, rfl, trivial⟩ (CV.seq ?_)))
 refine KV.heap (fun w h => ((h.nilOS (e := 9) (K := strK)).nilOS (e := 88) (K := lnK)).newBig (F := opL) 0 ⟨thD, []⟩ fun w => OS.emp w) ?_
 refine CV.region ?_
 refine RV.m rfl rfl ?_
 refine RV.op (OV.call [] (F := [_, _, _, _, _]) Tryz.func30 B30 N30 rfl rfl (fun w h => rlines_fn s (by omega)) (fun _ hb => hb.elim) gno rfl (fun v L' hp => ?_))
 obtain ⟨lA, lc, rfl, rfl⟩ := hp
 obtain ⟨LS, hLS⟩ : ∃ LS, LS = splitNL s := ⟨_, rfl⟩
 rw [← hLS]
 have hLl : LS.length ≤ s.length + 1 := by rw [hLS]; exact split_len s
 have hLm : ∀ l ∈ LS, l.length ≤ s.length := by rw [hLS]; exact split_mem s
 refine RV.a rfl rfl ?_
 refine RV.nil (KV.then_n (KV.env [(2, _), (4, _), (5, _)] ⟨rfl, rfl, rfl, trivial⟩ (CV.seq (CV.seq (CV.region ?_)))))
 refine RV.a rfl rfl ?_
 refine RV.nil (KV.then_n (KV.env [(2, _), (4, _), (5, _), (6, _)] ⟨rfl, rfl, rfl, rfl, trivial⟩ (CV.block ?_)))
 refine KV.sel [0, 0, 0, 0, 0, 0] [_, _, _, _, _, _] rfl ?_
 refine CV.loop2 (fun (i : Nat) (X : RH) => i ≤ LS.length ∧ runM ps0 (LS.take i) = some X.ps ∧ X.ss.length ≤ i ∧ X.al.length ≤ i) (fun (i : Nat) (X : RH) => LS.length - i) (fun (i : Nat) (X : RH) => [(2, .pointer (some ⟨d, 0, none⟩)), (4, .pointer (some ⟨q, 0, none⟩)), (5, .slice lA LS.length lc), (6, .int .i64 i)]) (fun (i : Nat) (X : RH) => Hp I w [Blk d (.cells #[.string (bs []), .slice none 0 0, .slice none 0 0] 25 (0, 0)), Blk q (.cells #[.string (bs X.name), .slice X.sA X.ss.length X.sc, .slice none 0 0, .slice X.aA X.al.length X.ac, .bool X.named] 81 (0, 0)), OS 9 strK X.sA X.sc X.ss, OS 88 lnK X.aA X.ac X.al, Big opL X.al, OS 9 strK lA lc LS]) (0) (rh0) ⟨Nat.zero_le _, rfl, Nat.le_refl _, Nat.le_refl _⟩ ⟨rfl, rfl, rfl, rfl, trivial⟩ (fun _ h => h) ?_
 intro i X hinv
 refine CV.seq (CV.seq (CV.region ?_))
 refine RV.m rfl rfl (RV.m rfl rfl (RV.s (Step.lenSl Tryz.underlying22 rfl) rfl ?_))
 refine RV.op (OV.split gno (Step.lss rfl rfl) rfl (fun hi => ?_) (fun hi => ?_))
 ·
  refine RV.nil (KV.then_n (KV.env [(2, _), (4, _), (5, _), (6, _), (20, _)] ⟨rfl, rfl, rfl, rfl, rfl, trivial⟩ (CV.cond_t rfl (CV.skip (KV.then_n ?_)))))
  refine KV.env [(2, _), (4, _), (5, _), (6, _)] ⟨rfl, rfl, rfl, rfl, trivial⟩ (CV.seq (CV.block (CV.seq ?_)))
  have hll : (LS.getD i strK.d).length ≤ s.length := hLm _ (by simp [List.getD, show i < LS.length by omega])
  refine CV.region ?_
  refine RV.m rfl rfl (RV.m rfl rfl ?_)
  refine RV.op (OV.step gno (Step.idx Tryz.underlying22 I9 (fun w h => h.os 5 rfl) rfl rfl (by first | rfl | omega) _ rfl (by omega)) rfl ?_)
  refine RV.s (Step.load Tryz.underlying9 rfl rfl (fun w h => (h.os 5 rfl).cell0 (by omega) rfl)) rfl ?_
  refine RV.op (OV.call [] (F := [_, _, _, _, _, _]) Tryz.func31 B31 N31 rfl rfl (fun w h => rtokens_fn (LS.getD i strK.d) (by omega)) (fun _ hb => hb.elim) gno rfl (fun v L' hp => ?_))
  rcases hp with ⟨ts, A1, c1, htk, htl, rfl, rfl⟩ | ⟨htk, rfl, rfl⟩
  ·
   skip
   refine RV.m rfl rfl (RV.s (Step.extract0 rfl rfl) rfl (RV.s (Step.extract0 rfl rfl) rfl (RV.a rfl rfl (RV.a rfl rfl ?_))))
   refine RV.nil (KV.then_n (KV.env [(2, _), (4, _), (5, _), (6, _), (7, _), (8, _)] ⟨rfl, rfl, rfl, rfl, rfl, rfl, trivial⟩ (CV.seq (CV.region ?_))))
   refine RV.m rfl rfl (RV.s (Step.not rfl) rfl (RV.m rfl rfl (RV.gw rfl (Step.move rfl) rfl (RV.gw rfl (Step.lenSl Tryz.underlying83 rfl) rfl ?_))))
   refine RV.op (OV.split (gyes rfl) (Step.gtr rfl rfl) rfl (fun hl0 => ?_) (fun hl0 => ?_))
   ·
    refine RV.gw rfl (Step.move rfl) rfl (RV.gw rfl (Step.move rfl) rfl (RV.gw rfl (Step.move rfl) rfl ?_))
    refine RV.op (OV.call [1, 1, 1, 1, 2] (F := [_, _]) Tryz.func32 B32 N32 rfl rfl (fun w h => radd_fn X (tk_ok htk) (by omega) (by omega) (by omega) (by omega)) (fun _ hb => hb.elim) (gyes rfl) rfl (fun v L' hp => ?_))
    rcases hp with ⟨Y, hlm, hgr, rfl, rfl⟩ | ⟨hlm, rfl, rfl⟩
    ·
     skip
     unfold rdL
     have hgs := hgr.s
     have hga := hgr.a
     refine RV.gw rfl (Step.not rfl) rfl (RV.gw rfl (Step.pick_t rfl rfl) rfl (RV.s (Step.pick_f rfl rfl) rfl ?_))
     refine RV.nil (KV.then_n (KV.env [(2, _), (4, _), (5, _), (6, _), (43, _)] ⟨rfl, rfl, rfl, rfl, rfl, trivial⟩ (CV.cond_f rfl (CV.skip (KV.block_n ?_)))))
     refine KV.then_n (KV.env [(2, _), (4, _), (5, _), (6, _)] ⟨rfl, rfl, rfl, rfl, trivial⟩ (CV.region ?_))
     refine RV.m rfl rfl ?_
     (first | refine RV.op (OV.step gno (Step.add rfl rfl (wI64 (by omega) (by omega))) rfl ?_) | refine RV.op (OV.step gno (Step.add rfl rfl rfl) rfl ?_))
     refine RV.a rfl rfl ?_
     refine RV.nil (KV.then_n (KV.env [(2, _), (4, _), (5, _), (6, _)] ⟨rfl, rfl, rfl, rfl, trivial⟩ ?_))
     refine KV.sel [0, 1, 1, 1, 1, 0] [_, _, _, _, _, _] rfl ?_
     (first | exact KV.loop2 (x := i) (y := X) (i + 1) (Y) ⟨by omega, runR_ok hinv.2.1 (by omega) (by unfold lnM; rw [htk]; exact hlm), by omega, by omega⟩ (by omega) ⟨rfl, rfl, rfl, rfl, trivial⟩ (fun _ h => h) | exact KV.loop2 (x := i) (y := X) (i + 1) (X) ⟨by omega, runR_ok hinv.2.1 (by omega) (by unfold lnM; rw [htk, List.eq_nil_of_length_eq_zero (show ts.length = 0 by omega)]; rfl), by omega, by omega⟩ (by omega) ⟨rfl, rfl, rfl, rfl, trivial⟩ (fun _ h => h))
    ·
     skip
     simp only [List.append_nil]
     refine RV.gw rfl (Step.not rfl) rfl (RV.gw rfl (Step.pick_t rfl rfl) rfl (RV.s (Step.pick_f rfl rfl) rfl ?_))
     refine RV.nil (KV.then_n (KV.env [(2, _), (4, _), (5, _), (6, _), (43, _)] ⟨rfl, rfl, rfl, rfl, rfl, trivial⟩ (CV.cond_t rfl (CV.seq (CV.region ?_)))))
     refine RV.s (Step.build rfl (Bd25_)) rfl ?_
     refine RV.op (OV.store 0 [_, _, _] #[_, _, _] I25 rfl rfl rfl rfl rfl (Nat.le_of_ble_eq_true rfl) (by simp [Value.oneCell']) rfl gno ?_)
     refine RV.a rfl rfl ?_
     refine RV.nil (KV.then_n (KV.env [(2, _), (3, _)] ⟨rfl, rfl, trivial⟩ (CV.ret (KV.block_ret (KV.then_ret ?_)))))
     refine KV.then_ret (KV.block_ret (KV.then_ret ?_))
     refine KV.sel [0] [_] rfl ?_
     have hpm := parse_none (s := s) (by rw [← hLS]; exact runR_bad hinv.2.1 (by omega) (by unfold lnM; rw [htk]; first | rfl | exact hlm))
     exact KV.retC2 [_, _, _] rfl rfl rfl Tryz.underlying25 rfl I25 rfl (fun w h => h.cells 0 rfl) _ (fun _ h => Hp.dL0 (h.sel [] rfl)) ⟨dh0, by rw [hpm]; rfl, by rw [hpm]; rfl, rfl⟩
   ·
    refine RV.gw rfl (Step.move rfl) rfl (RV.k rfl rfl (RV.k rfl rfl (RV.k rfl rfl (RV.k rfl rfl (RV.gw rfl (Step.pick_f rfl rfl) rfl (RV.s (Step.pick_f rfl rfl) rfl ?_))))))
    refine RV.nil (KV.then_n (KV.env [(2, _), (4, _), (5, _), (6, _), (43, _)] ⟨rfl, rfl, rfl, rfl, rfl, trivial⟩ (CV.cond_f rfl (CV.skip (KV.block_n ?_)))))
    refine KV.then_n (KV.env [(2, _), (4, _), (5, _), (6, _)] ⟨rfl, rfl, rfl, rfl, trivial⟩ (CV.region ?_))
    refine RV.m rfl rfl ?_
    (first | refine RV.op (OV.step gno (Step.add rfl rfl (wI64 (by omega) (by omega))) rfl ?_) | refine RV.op (OV.step gno (Step.add rfl rfl rfl) rfl ?_))
    refine RV.a rfl rfl ?_
    refine RV.nil (KV.then_n (KV.env [(2, _), (4, _), (5, _), (6, _)] ⟨rfl, rfl, rfl, rfl, trivial⟩ ?_))
    refine KV.sel [0, 0, 0, 0, 0, 0] [_, _, _, _, _, _] rfl ?_
    (first | exact KV.loop2 (x := i) (y := X) (i + 1) (Y) ⟨by omega, runR_ok hinv.2.1 (by omega) (by unfold lnM; rw [htk]; exact hlm), by omega, by omega⟩ (by omega) ⟨rfl, rfl, rfl, rfl, trivial⟩ (fun _ h => h) | exact KV.loop2 (x := i) (y := X) (i + 1) (X) ⟨by omega, runR_ok hinv.2.1 (by omega) (by unfold lnM; rw [htk, List.eq_nil_of_length_eq_zero (show ts.length = 0 by omega)]; rfl), by omega, by omega⟩ (by omega) ⟨rfl, rfl, rfl, rfl, trivial⟩ (fun _ h => h))
  ·
   skip
   simp only [List.append_nil]
   refine RV.m rfl rfl (RV.s (Step.extract0 rfl rfl) rfl (RV.s (Step.extract0 rfl rfl) rfl (RV.a rfl rfl (RV.a rfl rfl ?_))))
   refine RV.nil (KV.then_n (KV.env [(2, _), (4, _), (5, _), (6, _), (7, _), (8, _)] ⟨rfl, rfl, rfl, rfl, rfl, rfl, trivial⟩ (CV.seq (CV.region ?_))))
   refine RV.m rfl rfl (RV.s (Step.not rfl) rfl (RV.m rfl rfl (RV.k rfl rfl (RV.k rfl rfl (RV.k rfl rfl (RV.k rfl rfl ?_))))))
   refine RV.op (OV.skipU rfl rfl ?_)
   refine RV.op (OV.skipU rfl rfl ?_)
   refine RV.op (OV.skipU rfl rfl ?_)
   refine RV.op (OV.skipU rfl rfl ?_)
   refine RV.k rfl rfl (RV.s (Step.pick_t rfl rfl) rfl ?_)
   refine RV.nil (KV.then_n (KV.env [(2, _), (4, _), (5, _), (6, _), (43, _)] ⟨rfl, rfl, rfl, rfl, rfl, trivial⟩ (CV.cond_t rfl (CV.seq (CV.region ?_)))))
   refine RV.s (Step.build rfl (Bd25_)) rfl ?_
   refine RV.op (OV.store 0 [_, _, _] #[_, _, _] I25 rfl rfl rfl rfl rfl (Nat.le_of_ble_eq_true rfl) (by simp [Value.oneCell']) rfl gno ?_)
   refine RV.a rfl rfl ?_
   refine RV.nil (KV.then_n (KV.env [(2, _), (3, _)] ⟨rfl, rfl, trivial⟩ (CV.ret (KV.block_ret (KV.then_ret ?_)))))
   refine KV.then_ret (KV.block_ret (KV.then_ret ?_))
   refine KV.sel [0] [_] rfl ?_
   have hpm := parse_none (s := s) (by rw [← hLS]; exact runR_bad hinv.2.1 (by omega) (by unfold lnM; rw [htk]; first | rfl | exact hlm))
   exact KV.retC2 [_, _, _] rfl rfl rfl Tryz.underlying25 rfl I25 rfl (fun w h => h.cells 0 rfl) _ (fun _ h => Hp.dL0 (h.sel [] rfl)) ⟨dh0, by rw [hpm]; rfl, by rw [hpm]; rfl, rfl⟩
 ·
  refine RV.nil (KV.then_n (KV.env [(2, _), (4, _), (5, _), (6, _), (20, _)] ⟨rfl, rfl, rfl, rfl, rfl, trivial⟩ (CV.cond_f rfl (CV.exit (KV.then_exit ?_)))))
  refine KV.then_exit (KV.block_hit (KV.then_n (KV.env [(2, _), (4, _)] ⟨rfl, rfl, trivial⟩ (CV.seq (CV.seq ?_)))))
  obtain rfl : i = LS.length := by omega
  have hrun := hinv.2.1
  rw [List.take_length, hLS] at hrun
  have hpar := parse_some hrun
  refine CV.region ?_
  refine RV.m rfl rfl (RV.s (Step.nilCheck rfl) rfl (RV.s (Step.fieldAddr rfl (F81_2 _ _)) rfl (RV.s (Step.load Tryz.underlying4 rfl rfl (fun w h => h.cell 1 rfl rfl)) rfl (RV.s (Step.not rfl) rfl ?_))))
  refine RV.nil (KV.then_n (KV.env [(2, _), (4, _), (49, _)] ⟨rfl, rfl, rfl, trivial⟩ ?_))
  refine KV.cases 49 rfl (fun cc1 => ?_) (fun cc1 => ?_)
  ·
   have hnd := neg_t cc1
   refine CV.cond_t rfl (CV.seq (CV.region ?_))
   refine RV.s (Step.build rfl (Bd25_)) rfl ?_
   refine RV.op (OV.store 0 [_, _, _] #[_, _, _] I25 rfl rfl rfl rfl rfl (Nat.le_of_ble_eq_true rfl) (by simp [Value.oneCell']) rfl gno ?_)
   refine RV.a rfl rfl ?_
   refine RV.nil (KV.then_n (KV.env [(2, _), (3, _)] ⟨rfl, rfl, trivial⟩ (CV.ret (KV.then_ret ?_))))
   refine KV.sel [0] [_] rfl ?_
   have hpm := hpar.trans (fin_un hnd)
   exact KV.retC2 [_, _, _] rfl rfl rfl Tryz.underlying25 rfl I25 rfl (fun w h => h.cells 0 rfl) _ (fun _ h => Hp.dL0 (h.sel [] rfl)) ⟨dh0, by rw [hpm]; rfl, by rw [hpm]; rfl, rfl⟩
  ·
   have hnd := neg_f cc1
   refine CV.cond_f rfl (CV.skip (KV.then_n (KV.env [(2, _), (4, _)] ⟨rfl, rfl, trivial⟩ (CV.seq (CV.seq ?_)))))
   refine CV.region ?_
   refine RV.m rfl rfl (RV.s (Step.nilCheck rfl) rfl (RV.s (Step.fieldAddr rfl (F81_0 _ _)) rfl (RV.s (Step.fieldAddr rfl (F25_1 _ _)) rfl (RV.s (Step.load Tryz.underlying22 rfl rfl (fun w h => h.cell 1 rfl rfl)) rfl ?_))))
   refine RV.op (OV.call [] (F := [_, _, _, _, _, _]) Tryz.func33 B33 N33 rfl rfl (fun w h => twice_fn (h.os 2 rfl) rfl (by omega)) (fun _ hb => hb.elim) gno rfl (fun v L' hp => ?_))
   obtain ⟨rfl, rfl⟩ := hp
   simp only [List.append_nil]
   by_cases hdup : ¬ X.ss.Nodup
   ·
    rw [decide_eq_true hdup]
    refine RV.nil (KV.then_n (KV.env [(2, _), (4, _), (56, _)] ⟨rfl, rfl, rfl, trivial⟩ (CV.cond_t rfl (CV.seq (CV.region ?_)))))
    refine RV.s (Step.build rfl (Bd25_)) rfl ?_
    refine RV.op (OV.store 0 [_, _, _] #[_, _, _] I25 rfl rfl rfl rfl rfl (Nat.le_of_ble_eq_true rfl) (by simp [Value.oneCell']) rfl gno ?_)
    refine RV.a rfl rfl ?_
    refine RV.nil (KV.then_n (KV.env [(2, _), (3, _)] ⟨rfl, rfl, trivial⟩ (CV.ret (KV.then_ret ?_))))
    refine KV.sel [0] [_] rfl ?_
    have hpm := hpar.trans (fin_dup hnd hdup)
    exact KV.retC2 [_, _, _] rfl rfl rfl Tryz.underlying25 rfl I25 rfl (fun w h => h.cells 0 rfl) _ (fun _ h => Hp.dL0 (h.sel [] rfl)) ⟨dh0, by rw [hpm]; rfl, by rw [hpm]; rfl, rfl⟩
   ·
    rw [decide_eq_false hdup]
    refine RV.nil (KV.then_n (KV.env [(2, _), (4, _), (56, _)] ⟨rfl, rfl, rfl, trivial⟩ (CV.cond_f rfl (CV.skip (KV.then_n ?_)))))
    refine KV.env [(2, _), (4, _)] ⟨rfl, rfl, trivial⟩ (CV.seq (CV.seq ?_))
    refine KV.heap (fun w h => h.nilOS (e := 48) (K := thK)) ?_
    refine CV.region ?_
    refine RV.a rfl rfl ?_
    refine RV.nil (KV.then_n (KV.env [(2, _), (4, _), (9, _)] ⟨rfl, rfl, rfl, trivial⟩ (CV.block ?_)))
    refine KV.sel [0, 0, 0, 0, 0, 1] [_, _, _, _, _, _] rfl ?_
    refine CV.loop2 (fun (j : Nat) (K : KG) => LkR X K j) (fun (j : Nat) (K : KG) => X.al.length - j) (fun (j : Nat) (K : KG) => [(2, .pointer (some ⟨d, 0, none⟩)), (4, .pointer (some ⟨q, 0, none⟩)), (9, .int .i64 j)]) (fun (j : Nat) (K : KG) => Hp I w [Blk d (.cells #[.string (bs []), .slice none 0 0, .slice none 0 0] 25 (0, 0)), Blk q (.cells #[.string (bs X.name), .slice X.sA X.ss.length X.sc, .slice K.tA K.H.length K.tc, .slice X.aA K.al.length X.ac, .bool X.named] 81 (0, 0)), OS 9 strK X.sA X.sc X.ss, OS 88 lnK X.aA X.ac K.al, Big opL X.al, OS 48 thK K.tA K.tc K.H]) (0) (⟨X.al, [], none, 0⟩) (LkR.start X) ⟨rfl, rfl, rfl, trivial⟩ (fun _ h => h) ?_
    intro j K hK
    refine CV.seq (CV.seq (CV.region ?_))
    refine RV.m rfl rfl (RV.m rfl rfl (RV.s (Step.nilCheck rfl) rfl (RV.s (Step.fieldAddr rfl (F81_1 _ _)) rfl (RV.s (Step.load Tryz.underlying79 rfl rfl (fun w h => h.cell 1 rfl rfl)) rfl (RV.s (Step.lenSl Tryz.underlying79 rfl) rfl ?_)))))
    refine RV.op (OV.split gno (Step.lss rfl rfl) rfl (fun hj => ?_) (fun hj => ?_))
    ·
     refine RV.nil (KV.then_n (KV.env [(2, _), (4, _), (9, _), (64, _)] ⟨rfl, rfl, rfl, rfl, trivial⟩ (CV.cond_t rfl (CV.skip (KV.then_n ?_)))))
     refine KV.env [(2, _), (4, _), (9, _)] ⟨rfl, rfl, rfl, trivial⟩ (CV.seq (CV.block (CV.seq ?_)))
     have hKl := hK.len
     have hjX : j < X.al.length := by omega
     refine CV.region ?_
     refine RV.a rfl rfl ?_
     refine RV.nil (KV.then_n (KV.env [(2, _), (4, _), (9, _), (10, _)] ⟨rfl, rfl, rfl, rfl, trivial⟩ (CV.seq (CV.seq (CV.region ?_)))))
     refine RV.a rfl rfl ?_
     refine RV.nil (KV.then_n (KV.env [(2, _), (4, _), (9, _), (10, _), (11, _)] ⟨rfl, rfl, rfl, rfl, rfl, trivial⟩ (CV.block ?_)))
     refine KV.sel [0, 0, 0, 0, 0, 0] [_, _, _, _, _, _] rfl ?_
     refine CV.loopI (fun (k : Nat) => k ≤ X.ss.length) (fun (k : Nat) => X.ss.length - k) (fun (k : Nat) => [(2, .pointer (some ⟨d, 0, none⟩)), (4, .pointer (some ⟨q, 0, none⟩)), (9, .int .i64 j), (10, .int .i64 (lst X.ss (K.al.getD j lnK.d).to k)), (11, .int .i64 k)]) (fun (k : Nat) => Hp I w [Blk d (.cells #[.string (bs []), .slice none 0 0, .slice none 0 0] 25 (0, 0)), Blk q (.cells #[.string (bs X.name), .slice X.sA X.ss.length X.sc, .slice K.tA K.H.length K.tc, .slice X.aA K.al.length X.ac, .bool X.named] 81 (0, 0)), OS 9 strK X.sA X.sc X.ss, OS 88 lnK X.aA X.ac K.al, Big opL X.al, OS 48 thK K.tA K.tc K.H]) (0) (Nat.zero_le _) ⟨rfl, rfl, rfl, rfl, rfl, trivial⟩ (fun _ h => h) ?_
     intro k hkl
     refine CV.seq (CV.seq (CV.region ?_))
     refine RV.m rfl rfl (RV.m rfl rfl (RV.s (Step.nilCheck rfl) rfl (RV.s (Step.fieldAddr rfl (F81_0 _ _)) rfl (RV.s (Step.fieldAddr rfl (F25_1 _ _)) rfl (RV.s (Step.load Tryz.underlying22 rfl rfl (fun w h => h.cell 1 rfl rfl)) rfl (RV.s (Step.lenSl Tryz.underlying22 rfl) rfl ?_))))))
     refine RV.op (OV.split gno (Step.lss rfl rfl) rfl (fun hk => ?_) (fun hk => ?_))
     ·
      refine RV.nil (KV.then_n (KV.env [(2, _), (4, _), (9, _), (10, _), (11, _), (74, _)] ⟨rfl, rfl, rfl, rfl, rfl, rfl, trivial⟩ (CV.cond_t rfl (CV.skip (KV.then_n ?_)))))
      refine KV.env [(2, _), (4, _), (9, _), (10, _), (11, _)] ⟨rfl, rfl, rfl, rfl, rfl, trivial⟩ (CV.seq (CV.block (CV.seq ?_)))
      refine CV.still (by kernel_rfl) (by kernel_rfl) (fun _ h => h.drew) ?_
      refine SV.step gno (Step.move rfl) rfl ?_
      refine SV.step gno (Step.nilCheck rfl) rfl ?_
      refine SV.step gno (Step.fieldAddr rfl (F81_0 _ _)) rfl ?_
      refine SV.step gno (Step.fieldAddr rfl (F25_1 _ _)) rfl ?_
      refine SV.step gno (Step.load Tryz.underlying22 rfl rfl (fun w h => h.cell 1 rfl rfl)) rfl ?_
      refine SV.step gno (Step.move rfl) rfl ?_
      refine SV.step gno (Step.idx Tryz.underlying22 I9 (fun w h => h.os 2 rfl) rfl rfl (by first | rfl | omega) _ rfl (by omega)) rfl ?_
      refine SV.step gno (Step.load Tryz.underlying9 rfl rfl (fun w h => (h.os 2 rfl).cell0 (by omega) rfl)) rfl ?_
      refine SV.step gno (Step.move rfl) rfl ?_
      refine SV.step gno (Step.nilCheck rfl) rfl ?_
      refine SV.step gno (Step.fieldAddr rfl (F81_1 _ _)) rfl ?_
      refine SV.step gno (Step.load Tryz.underlying79 rfl rfl (fun w h => h.cell 1 rfl rfl)) rfl ?_
      refine SV.step gno (Step.move rfl) rfl ?_
      refine SV.step gno (Step.idx Tryz.underlying79 I88 (fun w h => h.os 3 rfl) rfl rfl (by first | rfl | omega) _ rfl (by omega)) rfl ?_
      refine SV.step gno (Step.fieldAddr rfl (F88_1 _ _)) rfl ?_
      refine SV.step gno (Step.load Tryz.underlying9 rfl rfl (fun w h => (h.os 3 rfl).cell (by omega) rfl)) rfl ?_
      refine SV.split gno (Step.eqlStr rfl rfl) rfl (fun hm => ?_) (fun hm => ?_)
      ·
       refine SV.nil (KV.then_n (KV.env [(2, _), (4, _), (9, _), (10, _), (11, _), (93, _)] ⟨rfl, rfl, rfl, rfl, rfl, rfl, trivial⟩ (CV.cond_t rfl (CV.region ?_))))
       refine RV.m rfl rfl (RV.a rfl rfl ?_)
       refine RV.nil (KV.block_n (KV.then_n (KV.env [(2, _), (4, _), (9, _), (10, _), (11, _)] ⟨rfl, rfl, rfl, rfl, rfl, trivial⟩ (CV.region ?_))))
       refine RV.m rfl rfl ?_
       (first | refine RV.op (OV.step gno (Step.add rfl rfl (wI64 (by omega) (by omega))) rfl ?_) | refine RV.op (OV.step gno (Step.add rfl rfl rfl) rfl ?_))
       refine RV.a rfl rfl ?_
       refine RV.nil (KV.then_n (KV.env [(2, _), (4, _), (9, _), (10, _), (11, _)] ⟨rfl, rfl, rfl, rfl, rfl, trivial⟩ ?_))
       refine KV.sel [0, 0, 0, 0, 0, 0] [_, _, _, _, _, _] rfl ?_
       exact KV.loopI (z := k) (k + 1) (by omega) (by omega) ⟨rfl, rfl, rfl, (by first | (rw [lst_t hm]; rfl) | (rw [lst_f hm]; rfl)), rfl, trivial⟩ (fun _ h => h)
      ·
       refine SV.nil (KV.then_n (KV.env [(2, _), (4, _), (9, _), (10, _), (11, _), (93, _)] ⟨rfl, rfl, rfl, rfl, rfl, rfl, trivial⟩ (CV.cond_f rfl (CV.skip (KV.block_n ?_)))))
       refine KV.then_n (KV.env [(2, _), (4, _), (9, _), (10, _), (11, _)] ⟨rfl, rfl, rfl, rfl, rfl, trivial⟩ (CV.region ?_))
       refine RV.m rfl rfl ?_
       (first | refine RV.op (OV.step gno (Step.add rfl rfl (wI64 (by omega) (by omega))) rfl ?_) | refine RV.op (OV.step gno (Step.add rfl rfl rfl) rfl ?_))
       refine RV.a rfl rfl ?_
       refine RV.nil (KV.then_n (KV.env [(2, _), (4, _), (9, _), (10, _), (11, _)] ⟨rfl, rfl, rfl, rfl, rfl, trivial⟩ ?_))
       refine KV.sel [0, 0, 0, 0, 0, 0] [_, _, _, _, _, _] rfl ?_
       exact KV.loopI (z := k) (k + 1) (by omega) (by omega) ⟨rfl, rfl, rfl, (by first | (rw [lst_t hm]; rfl) | (rw [lst_f hm]; rfl)), rfl, trivial⟩ (fun _ h => h)
     ·
      refine RV.nil (KV.then_n (KV.env [(2, _), (4, _), (9, _), (10, _), (11, _), (74, _)] ⟨rfl, rfl, rfl, rfl, rfl, rfl, trivial⟩ (CV.cond_f rfl (CV.exit (KV.then_exit ?_)))))
      refine KV.then_exit (KV.block_hit (KV.then_n (KV.env [(2, _), (4, _), (9, _), (10, _)] ⟨rfl, rfl, rfl, rfl, trivial⟩ (CV.seq (CV.seq ?_)))))
      obtain rfl : k = X.ss.length := by omega
      refine CV.region ?_
      refine RV.m rfl rfl ?_
      refine RV.op (OV.split gno (Step.lss rfl rfl) rfl (fun hneg => ?_) (fun hneg => ?_))
      ·
       refine RV.nil (KV.then_n (KV.env [(2, _), (4, _), (9, _), (10, _), (96, _)] ⟨rfl, rfl, rfl, rfl, rfl, trivial⟩ (CV.cond_t rfl (CV.seq (CV.region ?_)))))
       refine RV.s (Step.build rfl (Bd25_)) rfl ?_
       refine RV.op (OV.store 0 [_, _, _] #[_, _, _] I25 rfl rfl rfl rfl rfl (Nat.le_of_ble_eq_true rfl) (by simp [Value.oneCell']) rfl gno ?_)
       refine RV.a rfl rfl ?_
       refine RV.nil (KV.then_n (KV.env [(2, _), (3, _)] ⟨rfl, rfl, trivial⟩ (CV.ret (KV.then_ret (KV.block_ret ?_)))))
       refine KV.then_ret (KV.then_ret (KV.block_ret (KV.then_ret ?_)))
       refine KV.sel [0] [_] rfl ?_
       have hpm := hpar.trans (fin_nf hnd (Decidable.not_not.1 hdup) (hK.bad hjX (lst_neg (Decidable.not_not.1 hdup) hneg)))
       exact KV.retC2 [_, _, _] rfl rfl rfl Tryz.underlying25 rfl I25 rfl (fun w h => h.cells 0 rfl) _ (fun _ h => Hp.dL0 (h.sel [] rfl)) ⟨dh0, by rw [hpm]; rfl, by rw [hpm]; rfl, rfl⟩
      ·
       refine RV.nil (KV.then_n (KV.env [(2, _), (4, _), (9, _), (10, _), (96, _)] ⟨rfl, rfl, rfl, rfl, rfl, trivial⟩ (CV.cond_f rfl (CV.skip (KV.then_n ?_)))))
       refine KV.env [(2, _), (4, _), (9, _), (10, _)] ⟨rfl, rfl, rfl, rfl, trivial⟩ (CV.seq ?_)
       obtain ⟨ix, hix1, hix⟩ := lst_pos (Decidable.not_not.1 hdup) hneg
       rw [hix1]
       refine CV.region ?_
       refine RV.m rfl rfl (RV.s (Step.nilCheck rfl) rfl (RV.s (Step.fieldAddr rfl (F81_1 _ _)) rfl (RV.s (Step.load Tryz.underlying79 rfl rfl (fun w h => h.cell 1 rfl rfl)) rfl (RV.m rfl rfl (RV.m rfl rfl ?_)))))
       refine RV.op (OV.step gno (Step.idx Tryz.underlying79 I88 (fun w h => h.os 3 rfl) rfl rfl (by first | rfl | omega) _ rfl (by omega)) rfl ?_)
       refine RV.s (Step.fieldAddr rfl (F88_0 _ _)) rfl (RV.s (Step.fieldAddr rfl (F48_4 _ _)) rfl ?_)
       refine RV.op (OV.storeE 3 (j) (lnTo (K.al.getD j lnK.d) ix) (j := 7) [_] I3 rfl rfl rfl rfl rfl rfl (by omega) rfl (Nat.le_of_ble_eq_true rfl) gno ?_)
       refine RV.nil (KV.then_n (KV.env [(2, _), (4, _), (9, _)] ⟨rfl, rfl, rfl, trivial⟩ ?_))
       have hls : (K.al.set j (lnTo (K.al.getD j lnK.d) ix)).length = K.al.length := List.length_set
       have hHl := hK.hl
       have hal2 : ((K.al.set j (lnTo (K.al.getD j lnK.d) ix)).getD j lnK.d) = lnTo (K.al.getD j lnK.d) ix := getD_set_self _ _ _ _ (by omega)
       refine CV.any (Hp I w [OS 88 lnK X.aA X.ac (K.al.set j (lnTo (K.al.getD j lnK.d) ix))]) (by kernel_rfl) (fun _ h => h.drew) 20 rfl ?_
       refine AV.u 0 (bl 20 1) rfl gno (Step.move rfl) rfl (fun _ h => h.sel [3] rfl) ?_
       refine AV.u 1 (bl 20 3) rfl gno (Step.move rfl) rfl (fun _ h => h.sel [3] rfl) ?_
       refine AV.u 2 (bl 20 7) rfl gno (Step.nilCheck rfl) rfl (fun _ h => h.sel [3] rfl) ?_
       refine AV.u 3 (bl 20 15) rfl gno (Step.fieldAddr rfl (F81_0 _ _)) rfl (fun _ h => h.sel [3] rfl) ?_
       refine AV.u 4 (bl 20 31) rfl gno (Step.fieldAddr rfl (F25_2 _ _)) rfl (fun _ h => h.sel [3] rfl) ?_
       refine AV.u 6 (bl 20 95) rfl gno (Step.move rfl) rfl (fun _ h => h.sel [3] rfl) ?_
       refine AV.u 7 (bl 20 223) rfl gno (Step.nilCheck rfl) rfl (fun _ h => h.sel [3] rfl) ?_
       refine AV.u 8 (bl 20 479) rfl gno (Step.fieldAddr rfl (F81_1 _ _)) rfl (fun _ h => h.sel [3] rfl) ?_
       refine AV.u 10 (bl 20 1503) rfl gno (Step.move rfl) rfl (fun _ h => h.sel [3] rfl) ?_
       refine AV.all [5, 9] (by kernel_rfl) (by decide) ?_
       refine ⟨⟨_, rfl, ?_⟩, ⟨⟨_, rfl, ?_⟩, trivial⟩⟩
       ·
        refine OV.step gno (Step.load Tryz.underlying23 rfl rfl (fun w h => h.cell 1 rfl rfl)) rfl ?_
        refine AV.next (bl 20 1535) (by kernel_rfl) (fun _ h => h.sel [3] rfl) ?_
        refine AV.all [9] (by kernel_rfl) (by decide) ?_
        refine ⟨⟨_, rfl, ?_⟩, trivial⟩
        ·
         refine OV.step gno (Step.load Tryz.underlying79 rfl rfl (fun w h => h.cell 1 rfl rfl)) rfl ?_
         refine AV.next (bl 20 2047) (by kernel_rfl) (fun _ h => h.sel [3] rfl) ?_
         refine AV.u 11 (bl 20 4095) rfl gno (Step.idx Tryz.underlying79 I88 (fun w h => h.os 0 rfl) rfl rfl (by first | rfl | omega) _ rfl (by omega)) rfl (fun _ h => h.sel [3] rfl) ?_
         refine AV.u 12 (bl 20 8191) rfl gno (Step.fieldAddr rfl (F88_0 _ _)) rfl (fun _ h => h.sel [3] rfl) ?_
         refine AV.all [13] (by kernel_rfl) (by decide) ?_
         refine ⟨⟨_, rfl, ?_⟩, trivial⟩
         ·
          refine OV.step gno (Step.loadN [.int .i64 ((K.al.set j (lnTo (K.al.getD j lnK.d) ix)).getD j lnK.d).h.t.frm, .string (bs ((K.al.set j (lnTo (K.al.getD j lnK.d) ix)).getD j lnK.d).h.t.ev), .bool ((K.al.set j (lnTo (K.al.getD j lnK.d) ix)).getD j lnK.d).h.t.gd.used, .int .u64 ((K.al.set j (lnTo (K.al.getD j lnK.d) ix)).getD j lnK.d).h.t.gd.reg, .int .u64 ((K.al.set j (lnTo (K.al.getD j lnK.d) ix)).getD j lnK.d).h.t.gd.mask, .int .u64 ((K.al.set j (lnTo (K.al.getD j lnK.d) ix)).getD j lnK.d).h.t.gd.val, .slice ((K.al.set j (lnTo (K.al.getD j lnK.d) ix)).getD j lnK.d).h.A ((K.al.set j (lnTo (K.al.getD j lnK.d) ix)).getD j lnK.d).h.t.ops.length ((K.al.set j (lnTo (K.al.getD j lnK.d) ix)).getD j lnK.d).h.c, .int .i64 ((K.al.set j (lnTo (K.al.getD j lnK.d) ix)).getD j lnK.d).h.t.to] Tryz.underlying48 rfl I48 rfl rfl (fun w h j2 v hv => (h.os 3 rfl).cells (by omega) j2 v (ln_pre j2 v hv))) rfl ?_
          refine AV.next (bl 20 16383) (by kernel_rfl) (fun _ h => h.sel [3] rfl) ?_
          refine AV.all [14] (by kernel_rfl) (by decide) ?_
          refine ⟨⟨_, rfl, ?_⟩, trivial⟩
          ·
           refine OV.buildSlice (K := thK) ([((K.al.set j (lnTo (K.al.getD j lnK.d) ix)).getD j lnK.d).h]) rfl (Bs23_1_0 _ _ _ _ _ _ _ _) rfl rfl (by omega) gno rfl (fun y => ?_)
           refine AV.next (bl 20 32767) (by kernel_rfl) (fun _ h => h.sel [3] rfl) ?_
           refine AV.all [15] (by kernel_rfl) (by decide) ?_
           refine ⟨⟨_, rfl, ?_⟩, trivial⟩
           ·
            refine OV.append 5 Tryz.underlying23 I48 rfl rfl rfl rfl rfl rfl (fun w h => h.os 6 rfl) (by simp only [List.length_cons, List.length_nil]; omega) (by simp only [List.length_cons, List.length_nil]; omega) gno rfl (fun A2 c2 => ?_)
            refine AV.next (bl 20 65535) (by kernel_rfl) (fun _ h => h.sel [3] rfl) ?_
            refine AV.u 16 (bl 20 131071) rfl gno (Step.nilCheck rfl) rfl (fun _ h => h.sel [3] rfl) ?_
            refine AV.u 17 (bl 20 262143) rfl gno (Step.fieldAddr rfl (F81_0 _ _)) rfl (fun _ h => h.sel [3] rfl) ?_
            refine AV.u 18 (bl 20 524287) rfl gno (Step.fieldAddr rfl (F25_2 _ _)) rfl (fun _ h => h.sel [3] rfl) ?_
            refine AV.all [19] (by kernel_rfl) (by decide) ?_
            refine ⟨⟨_, rfl, ?_⟩, trivial⟩
            ·
             refine OV.store 1 [_] #[_, _, _, _, _] I23 rfl rfl rfl rfl rfl (Nat.le_of_ble_eq_true rfl) (by simp [Value.oneCell']) rfl gno ?_
             refine AV.next (bl 20 1048575) (by kernel_rfl) (fun _ h => h.sel [3] rfl) ?_
             refine AV.done (by kernel_rfl) ?_
             refine KV.block_n (KV.then_n (KV.env [(2, _), (4, _), (9, _)] ⟨rfl, rfl, rfl, trivial⟩ (CV.region ?_)))
             refine RV.m rfl rfl ?_
             (first | refine RV.op (OV.step gno (Step.add rfl rfl (wI64 (by omega) (by omega))) rfl ?_) | refine RV.op (OV.step gno (Step.add rfl rfl rfl) rfl ?_))
             refine RV.a rfl rfl ?_
             refine RV.nil (KV.then_n (KV.env [(2, _), (4, _), (9, _)] ⟨rfl, rfl, rfl, trivial⟩ ?_))
             refine KV.sel [0, 0, 0, 0, 0, 0] [_, _, _, _, _, _] rfl ?_
             exact KV.loop2 (x := j) (y := K) (j + 1) (⟨(K.al.set j (lnTo (K.al.getD j lnK.d) ix)), K.H ++ [((K.al.set j (lnTo (K.al.getD j lnK.d) ix)).getD j lnK.d).h], A2, c2⟩) (by rw [hal2]; exact hK.next hjX hix A2 c2) (by omega) ⟨rfl, rfl, rfl, trivial⟩ (fun _ h => by rw [hls]; exact h)
       ·
        refine OV.step gno (Step.load Tryz.underlying79 rfl rfl (fun w h => h.cell 1 rfl rfl)) rfl ?_
        refine AV.next (bl 20 2015) (by kernel_rfl) (fun _ h => h.sel [3] rfl) ?_
        refine AV.u 11 (bl 20 4063) rfl gno (Step.idx Tryz.underlying79 I88 (fun w h => h.os 0 rfl) rfl rfl (by first | rfl | omega) _ rfl (by omega)) rfl (fun _ h => h.sel [3] rfl) ?_
        refine AV.u 12 (bl 20 8159) rfl gno (Step.fieldAddr rfl (F88_0 _ _)) rfl (fun _ h => h.sel [3] rfl) ?_
        refine AV.all [5, 13] (by kernel_rfl) (by decide) ?_
        refine ⟨⟨_, rfl, ?_⟩, ⟨⟨_, rfl, ?_⟩, trivial⟩⟩
        ·
         refine OV.step gno (Step.load Tryz.underlying23 rfl rfl (fun w h => h.cell 1 rfl rfl)) rfl ?_
         refine AV.next (bl 20 8191) (by kernel_rfl) (fun _ h => h.sel [3] rfl) ?_
         refine AV.all [13] (by kernel_rfl) (by decide) ?_
         refine ⟨⟨_, rfl, ?_⟩, trivial⟩
         ·
          refine OV.step gno (Step.loadN [.int .i64 ((K.al.set j (lnTo (K.al.getD j lnK.d) ix)).getD j lnK.d).h.t.frm, .string (bs ((K.al.set j (lnTo (K.al.getD j lnK.d) ix)).getD j lnK.d).h.t.ev), .bool ((K.al.set j (lnTo (K.al.getD j lnK.d) ix)).getD j lnK.d).h.t.gd.used, .int .u64 ((K.al.set j (lnTo (K.al.getD j lnK.d) ix)).getD j lnK.d).h.t.gd.reg, .int .u64 ((K.al.set j (lnTo (K.al.getD j lnK.d) ix)).getD j lnK.d).h.t.gd.mask, .int .u64 ((K.al.set j (lnTo (K.al.getD j lnK.d) ix)).getD j lnK.d).h.t.gd.val, .slice ((K.al.set j (lnTo (K.al.getD j lnK.d) ix)).getD j lnK.d).h.A ((K.al.set j (lnTo (K.al.getD j lnK.d) ix)).getD j lnK.d).h.t.ops.length ((K.al.set j (lnTo (K.al.getD j lnK.d) ix)).getD j lnK.d).h.c, .int .i64 ((K.al.set j (lnTo (K.al.getD j lnK.d) ix)).getD j lnK.d).h.t.to] Tryz.underlying48 rfl I48 rfl rfl (fun w h j2 v hv => (h.os 3 rfl).cells (by omega) j2 v (ln_pre j2 v hv))) rfl ?_
          refine AV.next (bl 20 16383) (by kernel_rfl) (fun _ h => h.sel [3] rfl) ?_
          refine AV.all [14] (by kernel_rfl) (by decide) ?_
          refine ⟨⟨_, rfl, ?_⟩, trivial⟩
          ·
           refine OV.buildSlice (K := thK) ([((K.al.set j (lnTo (K.al.getD j lnK.d) ix)).getD j lnK.d).h]) rfl (Bs23_1_0 _ _ _ _ _ _ _ _) rfl rfl (by omega) gno rfl (fun y => ?_)
           refine AV.next (bl 20 32767) (by kernel_rfl) (fun _ h => h.sel [3] rfl) ?_
           refine AV.all [15] (by kernel_rfl) (by decide) ?_
           refine ⟨⟨_, rfl, ?_⟩, trivial⟩
           ·
            refine OV.append 5 Tryz.underlying23 I48 rfl rfl rfl rfl rfl rfl (fun w h => h.os 6 rfl) (by simp only [List.length_cons, List.length_nil]; omega) (by simp only [List.length_cons, List.length_nil]; omega) gno rfl (fun A2 c2 => ?_)
            refine AV.next (bl 20 65535) (by kernel_rfl) (fun _ h => h.sel [3] rfl) ?_
            refine AV.u 16 (bl 20 131071) rfl gno (Step.nilCheck rfl) rfl (fun _ h => h.sel [3] rfl) ?_
            refine AV.u 17 (bl 20 262143) rfl gno (Step.fieldAddr rfl (F81_0 _ _)) rfl (fun _ h => h.sel [3] rfl) ?_
            refine AV.u 18 (bl 20 524287) rfl gno (Step.fieldAddr rfl (F25_2 _ _)) rfl (fun _ h => h.sel [3] rfl) ?_
            refine AV.all [19] (by kernel_rfl) (by decide) ?_
            refine ⟨⟨_, rfl, ?_⟩, trivial⟩
            ·
             refine OV.store 1 [_] #[_, _, _, _, _] I23 rfl rfl rfl rfl rfl (Nat.le_of_ble_eq_true rfl) (by simp [Value.oneCell']) rfl gno ?_
             refine AV.next (bl 20 1048575) (by kernel_rfl) (fun _ h => h.sel [3] rfl) ?_
             refine AV.done (by kernel_rfl) ?_
             refine KV.block_n (KV.then_n (KV.env [(2, _), (4, _), (9, _)] ⟨rfl, rfl, rfl, trivial⟩ (CV.region ?_)))
             refine RV.m rfl rfl ?_
             (first | refine RV.op (OV.step gno (Step.add rfl rfl (wI64 (by omega) (by omega))) rfl ?_) | refine RV.op (OV.step gno (Step.add rfl rfl rfl) rfl ?_))
             refine RV.a rfl rfl ?_
             refine RV.nil (KV.then_n (KV.env [(2, _), (4, _), (9, _)] ⟨rfl, rfl, rfl, trivial⟩ ?_))
             refine KV.sel [0, 0, 0, 0, 0, 0] [_, _, _, _, _, _] rfl ?_
             exact KV.loop2 (x := j) (y := K) (j + 1) (⟨(K.al.set j (lnTo (K.al.getD j lnK.d) ix)), K.H ++ [((K.al.set j (lnTo (K.al.getD j lnK.d) ix)).getD j lnK.d).h], A2, c2⟩) (by rw [hal2]; exact hK.next hjX hix A2 c2) (by omega) ⟨rfl, rfl, rfl, trivial⟩ (fun _ h => by rw [hls]; exact h)
        ·
         refine OV.step gno (Step.loadN [.int .i64 ((K.al.set j (lnTo (K.al.getD j lnK.d) ix)).getD j lnK.d).h.t.frm, .string (bs ((K.al.set j (lnTo (K.al.getD j lnK.d) ix)).getD j lnK.d).h.t.ev), .bool ((K.al.set j (lnTo (K.al.getD j lnK.d) ix)).getD j lnK.d).h.t.gd.used, .int .u64 ((K.al.set j (lnTo (K.al.getD j lnK.d) ix)).getD j lnK.d).h.t.gd.reg, .int .u64 ((K.al.set j (lnTo (K.al.getD j lnK.d) ix)).getD j lnK.d).h.t.gd.mask, .int .u64 ((K.al.set j (lnTo (K.al.getD j lnK.d) ix)).getD j lnK.d).h.t.gd.val, .slice ((K.al.set j (lnTo (K.al.getD j lnK.d) ix)).getD j lnK.d).h.A ((K.al.set j (lnTo (K.al.getD j lnK.d) ix)).getD j lnK.d).h.t.ops.length ((K.al.set j (lnTo (K.al.getD j lnK.d) ix)).getD j lnK.d).h.c, .int .i64 ((K.al.set j (lnTo (K.al.getD j lnK.d) ix)).getD j lnK.d).h.t.to] Tryz.underlying48 rfl I48 rfl rfl (fun w h j2 v hv => (h.os 3 rfl).cells (by omega) j2 v (ln_pre j2 v hv))) rfl ?_
         refine AV.next (bl 20 16351) (by kernel_rfl) (fun _ h => h.sel [3] rfl) ?_
         refine AV.all [5, 14] (by kernel_rfl) (by decide) ?_
         refine ⟨⟨_, rfl, ?_⟩, ⟨⟨_, rfl, ?_⟩, trivial⟩⟩
         ·
          refine OV.step gno (Step.load Tryz.underlying23 rfl rfl (fun w h => h.cell 1 rfl rfl)) rfl ?_
          refine AV.next (bl 20 16383) (by kernel_rfl) (fun _ h => h.sel [3] rfl) ?_
          refine AV.all [14] (by kernel_rfl) (by decide) ?_
          refine ⟨⟨_, rfl, ?_⟩, trivial⟩
          ·
           refine OV.buildSlice (K := thK) ([((K.al.set j (lnTo (K.al.getD j lnK.d) ix)).getD j lnK.d).h]) rfl (Bs23_1_0 _ _ _ _ _ _ _ _) rfl rfl (by omega) gno rfl (fun y => ?_)
           refine AV.next (bl 20 32767) (by kernel_rfl) (fun _ h => h.sel [3] rfl) ?_
           refine AV.all [15] (by kernel_rfl) (by decide) ?_
           refine ⟨⟨_, rfl, ?_⟩, trivial⟩
           ·
            refine OV.append 5 Tryz.underlying23 I48 rfl rfl rfl rfl rfl rfl (fun w h => h.os 6 rfl) (by simp only [List.length_cons, List.length_nil]; omega) (by simp only [List.length_cons, List.length_nil]; omega) gno rfl (fun A2 c2 => ?_)
            refine AV.next (bl 20 65535) (by kernel_rfl) (fun _ h => h.sel [3] rfl) ?_
            refine AV.u 16 (bl 20 131071) rfl gno (Step.nilCheck rfl) rfl (fun _ h => h.sel [3] rfl) ?_
            refine AV.u 17 (bl 20 262143) rfl gno (Step.fieldAddr rfl (F81_0 _ _)) rfl (fun _ h => h.sel [3] rfl) ?_
            refine AV.u 18 (bl 20 524287) rfl gno (Step.fieldAddr rfl (F25_2 _ _)) rfl (fun _ h => h.sel [3] rfl) ?_
            refine AV.all [19] (by kernel_rfl) (by decide) ?_
            refine ⟨⟨_, rfl, ?_⟩, trivial⟩
            ·
             refine OV.store 1 [_] #[_, _, _, _, _] I23 rfl rfl rfl rfl rfl (Nat.le_of_ble_eq_true rfl) (by simp [Value.oneCell']) rfl gno ?_
             refine AV.next (bl 20 1048575) (by kernel_rfl) (fun _ h => h.sel [3] rfl) ?_
             refine AV.done (by kernel_rfl) ?_
             refine KV.block_n (KV.then_n (KV.env [(2, _), (4, _), (9, _)] ⟨rfl, rfl, rfl, trivial⟩ (CV.region ?_)))
             refine RV.m rfl rfl ?_
             (first | refine RV.op (OV.step gno (Step.add rfl rfl (wI64 (by omega) (by omega))) rfl ?_) | refine RV.op (OV.step gno (Step.add rfl rfl rfl) rfl ?_))
             refine RV.a rfl rfl ?_
             refine RV.nil (KV.then_n (KV.env [(2, _), (4, _), (9, _)] ⟨rfl, rfl, rfl, trivial⟩ ?_))
             refine KV.sel [0, 0, 0, 0, 0, 0] [_, _, _, _, _, _] rfl ?_
             exact KV.loop2 (x := j) (y := K) (j + 1) (⟨(K.al.set j (lnTo (K.al.getD j lnK.d) ix)), K.H ++ [((K.al.set j (lnTo (K.al.getD j lnK.d) ix)).getD j lnK.d).h], A2, c2⟩) (by rw [hal2]; exact hK.next hjX hix A2 c2) (by omega) ⟨rfl, rfl, rfl, trivial⟩ (fun _ h => by rw [hls]; exact h)
         ·
          refine OV.buildSlice (K := thK) ([((K.al.set j (lnTo (K.al.getD j lnK.d) ix)).getD j lnK.d).h]) rfl (Bs23_1_0 _ _ _ _ _ _ _ _) rfl rfl (by omega) gno rfl (fun y => ?_)
          refine AV.next (bl 20 32735) (by kernel_rfl) (fun _ h => h.sel [3] rfl) ?_
          refine AV.all [5] (by kernel_rfl) (by decide) ?_
          refine ⟨⟨_, rfl, ?_⟩, trivial⟩
          ·
           refine OV.step gno (Step.load Tryz.underlying23 rfl rfl (fun w h => h.cell 1 rfl rfl)) rfl ?_
           refine AV.next (bl 20 32767) (by kernel_rfl) (fun _ h => h.sel [3] rfl) ?_
           refine AV.all [15] (by kernel_rfl) (by decide) ?_
           refine ⟨⟨_, rfl, ?_⟩, trivial⟩
           ·
            refine OV.append 5 Tryz.underlying23 I48 rfl rfl rfl rfl rfl rfl (fun w h => h.os 6 rfl) (by simp only [List.length_cons, List.length_nil]; omega) (by simp only [List.length_cons, List.length_nil]; omega) gno rfl (fun A2 c2 => ?_)
            refine AV.next (bl 20 65535) (by kernel_rfl) (fun _ h => h.sel [3] rfl) ?_
            refine AV.u 16 (bl 20 131071) rfl gno (Step.nilCheck rfl) rfl (fun _ h => h.sel [3] rfl) ?_
            refine AV.u 17 (bl 20 262143) rfl gno (Step.fieldAddr rfl (F81_0 _ _)) rfl (fun _ h => h.sel [3] rfl) ?_
            refine AV.u 18 (bl 20 524287) rfl gno (Step.fieldAddr rfl (F25_2 _ _)) rfl (fun _ h => h.sel [3] rfl) ?_
            refine AV.all [19] (by kernel_rfl) (by decide) ?_
            refine ⟨⟨_, rfl, ?_⟩, trivial⟩
            ·
             refine OV.store 1 [_] #[_, _, _, _, _] I23 rfl rfl rfl rfl rfl (Nat.le_of_ble_eq_true rfl) (by simp [Value.oneCell']) rfl gno ?_
             refine AV.next (bl 20 1048575) (by kernel_rfl) (fun _ h => h.sel [3] rfl) ?_
             refine AV.done (by kernel_rfl) ?_
             refine KV.block_n (KV.then_n (KV.env [(2, _), (4, _), (9, _)] ⟨rfl, rfl, rfl, trivial⟩ (CV.region ?_)))
             refine RV.m rfl rfl ?_
             (first | refine RV.op (OV.step gno (Step.add rfl rfl (wI64 (by omega) (by omega))) rfl ?_) | refine RV.op (OV.step gno (Step.add rfl rfl rfl) rfl ?_))
             refine RV.a rfl rfl ?_
             refine RV.nil (KV.then_n (KV.env [(2, _), (4, _), (9, _)] ⟨rfl, rfl, rfl, trivial⟩ ?_))
             refine KV.sel [0, 0, 0, 0, 0, 0] [_, _, _, _, _, _] rfl ?_
             exact KV.loop2 (x := j) (y := K) (j + 1) (⟨(K.al.set j (lnTo (K.al.getD j lnK.d) ix)), K.H ++ [((K.al.set j (lnTo (K.al.getD j lnK.d) ix)).getD j lnK.d).h], A2, c2⟩) (by rw [hal2]; exact hK.next hjX hix A2 c2) (by omega) ⟨rfl, rfl, rfl, trivial⟩ (fun _ h => by rw [hls]; exact h)
    ·
     refine RV.nil (KV.then_n (KV.env [(2, _), (4, _), (9, _), (64, _)] ⟨rfl, rfl, rfl, rfl, trivial⟩ (CV.cond_f rfl (CV.exit (KV.then_exit ?_)))))
     refine KV.then_exit (KV.block_hit (KV.then_n (KV.env [(2, _), (4, _)] ⟨rfl, rfl, trivial⟩ (CV.seq (CV.seq ?_)))))
     have hKl := hK.len
     refine CV.region ?_
     refine RV.m rfl rfl (RV.s (Step.nilCheck rfl) rfl (RV.s (Step.fieldAddr rfl (F81_0 _ _)) rfl (RV.s (Step.loadN _ Tryz.underlying25 rfl I25 rfl rfl (fun w h => cells_off 0 (us := [.string (bs X.name), .slice X.sA X.ss.length X.sc, .slice K.tA K.H.length K.tc]) (h.cells 1 rfl) rfl)) rfl ?_)))
     refine RV.op (OV.call [] (F := [_, _, _, _, _, _]) Tryz.func23 B23 N23 rfl rfl (fun w h => rcheck_fn (⟨X.name, X.sA, X.sc, X.ss, K.tA, K.tc, K.H⟩ : DH) (DR.ofHpL (k1 := 2) (k2 := 5) (k3 := 4) h rfl rfl rfl (hK.own (by omega)))) (fun _ hb => hb.elim) gno rfl (fun v L' hp => ?_))
     obtain ⟨rfl, rfl⟩ := hp
     simp only [List.append_nil]
     refine RV.a rfl rfl ?_
     refine RV.nil (KV.then_n (KV.env [(2, _), (4, _), (12, _)] ⟨rfl, rfl, rfl, trivial⟩ (CV.seq (CV.region ?_))))
     refine RV.m rfl rfl ?_
     refine RV.op (OV.split gno (Step.neq rfl rfl) rfl (fun hck => ?_) (fun hck => ?_))
     ·
      refine RV.nil (KV.then_n (KV.env [(2, _), (4, _), (12, _), (132, _)] ⟨rfl, rfl, rfl, rfl, trivial⟩ (CV.cond_t rfl (CV.seq (CV.region ?_)))))
      refine RV.s (Step.build rfl (Bd25_)) rfl (RV.m rfl rfl ?_)
      refine RV.op (OV.store 0 [_, _, _] #[_, _, _] I25 rfl rfl rfl rfl rfl (Nat.le_of_ble_eq_true rfl) (by simp [Value.oneCell']) rfl gno ?_)
      refine RV.a rfl rfl ?_
      refine RV.nil (KV.then_n (KV.env [(2, _), (3, _)] ⟨rfl, rfl, trivial⟩ (CV.ret (KV.then_ret ?_))))
      refine KV.sel [0] [_] rfl ?_
      have hpm := hpar.trans (fin_ck hnd (Decidable.not_not.1 hdup) (hK.fin (by omega)) hck)
      exact KV.retC2 [_, _, _] rfl rfl rfl Tryz.underlying25 rfl I25 rfl (fun w h => h.cells 0 rfl) _ (fun _ h => Hp.dL0 (h.sel [] rfl)) ⟨dh0, by rw [hpm]; rfl, by rw [hpm]; rfl, rfl⟩
     ·
      refine RV.nil (KV.then_n (KV.env [(2, _), (4, _), (12, _), (132, _)] ⟨rfl, rfl, rfl, rfl, trivial⟩ (CV.cond_f rfl (CV.skip (KV.then_n ?_)))))
      refine KV.env [(2, _), (4, _)] ⟨rfl, rfl, trivial⟩ (CV.seq (CV.region ?_))
      refine RV.m rfl rfl (RV.s (Step.nilCheck rfl) rfl (RV.s (Step.fieldAddr rfl (F81_0 _ _)) rfl (RV.s (Step.loadN _ Tryz.underlying25 rfl I25 rfl rfl (fun w h => cells_off 0 (us := [.string (bs X.name), .slice X.sA X.ss.length X.sc, .slice K.tA K.H.length K.tc]) (h.cells 1 rfl) rfl)) rfl ?_)))
      refine RV.op (OV.store 0 [_, _, _] #[_, _, _] I25 rfl rfl rfl rfl rfl (Nat.le_of_ble_eq_true rfl) (by simp [Value.oneCell']) rfl gno ?_)
      refine RV.a rfl rfl ?_
      refine RV.nil (KV.then_n (KV.env [(2, _), (3, _)] ⟨rfl, rfl, trivial⟩ (CV.ret ?_)))
      refine KV.sel [0, 1, 3, 2] [_, _, _, _] rfl ?_
      have hpm := hpar.trans (fin_ok hnd (Decidable.not_not.1 hdup) (hK.fin (by omega)) (Decidable.not_not.1 hck))
      exact KV.retC2 [_, _, _] rfl rfl rfl Tryz.underlying25 rfl I25 rfl (fun w h => h.cells 0 rfl) _ (fun _ h => by show Hp I w [OS 9 strK X.sA X.sc X.ss, OS 48 thK K.tA K.tc K.H, Big opA K.H] _; rw [Big_congr2 (hK.own (by omega))]; exact h.sel [1, 1, 1] rfl) ⟨⟨X.name, X.sA, X.sc, X.ss, K.tA, K.tc, K.H⟩, by rw [hpm], by rw [hpm]; rfl, rfl⟩
end Go.Proofs.YtplmfekhdaefaaaGreatDoor
