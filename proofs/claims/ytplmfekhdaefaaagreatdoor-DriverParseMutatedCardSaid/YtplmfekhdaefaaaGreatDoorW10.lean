/-
 Walks, part 10.
-/
import Derived.Test.YtplmfekhdaefaaaGreatDoorTabA
import Derived.Test.YtplmfekhdaefaaaGreatDoorW9
import Derived.Test.YtplmfekhdaefaaaGreatDoorDmA
import Derived.Test.YtplmfekhdaefaaaGreatDoorSvC
set_option linter.unusedSimpArgs false
set_option linter.unusedVariables false
namespace Go.Proofs.YtplmfekhdaefaaaGreatDoor
open Go.Sv Go.Drv
set_option maxRecDepth 100000 in
set_option maxHeartbeats 1000000 in
theorem splitSeq0_fn (s : Bs) {w : World} : Fx Tryz.prog 48 [.string (bs s), .string (bs [10]), .int .i64 0] w [] no (fun v L => ∃ b1 b2 b3 : Nat, v = .func (.func 68) #[] #[.pointer (some ⟨b1, 0, none⟩), .pointer (some ⟨b2, 0, none⟩), .pointer (some ⟨b3, 0, none⟩)] ∧ L = [Blk b1 (.cells #[.string (bs [10])] 9 (0, 0)), Blk b2 (.cells #[.string (bs s)] 9 (0, 0)), Blk b3 (.cells #[.int .i64 0] 3 (0, 0))]) := by
 refine Sv.Fx.body Tryz.func48 rfl T48 rfl ?_
 intro I hro hI
 refine KV.env [(0, _), (1, _), (2, _)] ⟨rfl, rfl, rfl, trivial⟩ (CV.seq (CV.region ?_))
 refine RV.op (OV.box (t := 9) #[_] rfl rfl gno rfl (fun b2 => ?_))
 refine RV.op (OV.box (t := 9) #[_] rfl rfl gno rfl (fun b1 => ?_))
 refine RV.op (OV.box (t := 3) #[_] rfl rfl gno rfl (fun b3 => ?_))
 refine RV.a rfl rfl ?_
 refine RV.nil (KV.then_n (KV.env [(3, _), (4, _), (5, _)] ⟨rfl, rfl, rfl, trivial⟩ (CV.seq (CV.region ?_))))
 refine RV.s (Step.makeFunc rfl) rfl (RV.a rfl rfl ?_)
 refine RV.nil (KV.then_n (KV.env [(6, _)] ⟨rfl, trivial⟩ (CV.ret ?_)))
 refine KV.sel [1, 0, 0] [_, _, _] rfl ?_
 exact KV.ret1 rfl rfl _ (fun _ h => h) ⟨b1, b2, b3, rfl, rfl⟩

set_option maxRecDepth 100000 in
set_option maxHeartbeats 1000000 in
theorem splitSeq_fn (s : Bs) {w : World} : Fx Tryz.prog 25 [.string (bs s), .string (bs [10])] w [] no (fun v L => ∃ b1 b2 b3 : Nat, v = .func (.func 68) #[] #[.pointer (some ⟨b1, 0, none⟩), .pointer (some ⟨b2, 0, none⟩), .pointer (some ⟨b3, 0, none⟩)] ∧ L = [Blk b1 (.cells #[.string (bs [10])] 9 (0, 0)), Blk b2 (.cells #[.string (bs s)] 9 (0, 0)), Blk b3 (.cells #[.int .i64 0] 3 (0, 0))]) := by
 refine Sv.Fx.body Tryz.func25 rfl T25 rfl ?_
 intro I hro hI
 refine KV.env [(0, _), (1, _)] ⟨rfl, rfl, trivial⟩ (CV.seq (CV.region ?_))
 refine RV.a rfl rfl ?_
 refine RV.nil (KV.then_n (KV.env [(0, _), (1, _)] ⟨rfl, rfl, trivial⟩ (CV.seq (CV.region ?_))))
 refine RV.m rfl rfl (RV.m rfl rfl ?_)
 refine RV.op (OV.call [] (F := []) Tryz.func48 B48 N48 rfl rfl (fun w h => splitSeq0_fn s) (fun _ hb => hb.elim) gno rfl (fun v L' hp => ?_))
 obtain ⟨b1, b2, b3, rfl, rfl⟩ := hp
 refine RV.a rfl rfl ?_
 refine RV.nil (KV.then_n (KV.env [(4, _)] ⟨rfl, trivial⟩ (CV.ret ?_)))
 refine KV.sel [0, 0, 0] [_, _, _] rfl ?_
 exact KV.ret1 rfl rfl _ (fun _ h => h) ⟨b1, b2, b3, rfl, rfl⟩

theorem parse_open {I : Ids} {w0 w : World} {p d e b1 b2 b3 D l : Nat} {s : Bs} {rc : Loop} (h : Hp I w0 [Blk d (.cells #[.string (bs []), .slice none 0 0, .slice none 0 0] 25 (0, 0)), Blk e (.cells #[.int .i64 0] 28 (0, 0)), Blk p (.cells #[.string (bs []), .slice none 0 0, .slice none 0 0, .bool false, .slice none 0 0] 67 (0, 0)), Blk b1 (.cells #[.string (bs [10])] 9 (0, 0)), Blk b2 (.cells #[.string (bs s)] 9 (0, 0)), Blk b3 (.cells #[.int .i64 0] 3 (0, 0)), OS 9 strK none 0 [], OS 48 thK none 0 [], OS 9 strK none 0 [], Big opA [], Blk D (.deferred (some [])), Blk l (.loop rc)] w) : Hp I w0 [Blk b1 (.cells #[.string (bs [10])] 9 (0, 0)), Blk b2 (.cells #[.string (bs s)] 9 (0, 0)), Blk b3 (.cells #[.int .i64 0] 3 (0, 0)), Bun [Blk p (.cells #[.string (bs ph0.name), .slice ph0.sA ph0.ss.length ph0.sc, .slice ph0.tA ph0.hs.length ph0.tc, .bool ph0.named, .slice ph0.gA ph0.tg.length ph0.gc] 67 (0, 0)), OS 9 strK ph0.sA ph0.sc ph0.ss, OS 48 thK ph0.tA ph0.tc ph0.hs, Big opA ph0.hs, OS 9 strK ph0.gA ph0.gc ph0.tg, Blk d (.cells #[.string (bs []), .slice none 0 0, .slice none 0 0] 25 (0, 0)), Blk e (.cells #[.int .i64 0] 28 (0, 0)), Blk l (.loop rc)], Blk D (.deferred (some []))] w := by
 have h1 : Hp I w0 [Blk p (.cells #[.string (bs []), .slice none 0 0, .slice none 0 0, .bool false, .slice none 0 0] 67 (0, 0)), OS 9 strK none 0 [], OS 48 thK none 0 [], Big opA [], OS 9 strK none 0 [], Blk d (.cells #[.string (bs []), .slice none 0 0, .slice none 0 0] 25 (0, 0)), Blk e (.cells #[.int .i64 0] 28 (0, 0)), Blk l (.loop rc), Blk b1 (.cells #[.string (bs [10])] 9 (0, 0)), Blk b2 (.cells #[.string (bs s)] 9 (0, 0)), Blk b3 (.cells #[.int .i64 0] 3 (0, 0)), Blk D (.deferred (some []))] w := h.sel [2, 5, 5, 6, 5, 0, 0, 4, 0, 0, 0, 0] rfl
 have h2 : Hp I w0 [Bun [Blk p (.cells #[.string (bs ph0.name), .slice ph0.sA ph0.ss.length ph0.sc, .slice ph0.tA ph0.hs.length ph0.tc, .bool ph0.named, .slice ph0.gA ph0.tg.length ph0.gc] 67 (0, 0)), OS 9 strK ph0.sA ph0.sc ph0.ss, OS 48 thK ph0.tA ph0.tc ph0.hs, Big opA ph0.hs, OS 9 strK ph0.gA ph0.gc ph0.tg, Blk d (.cells #[.string (bs []), .slice none 0 0, .slice none 0 0] 25 (0, 0)), Blk e (.cells #[.int .i64 0] 28 (0, 0)), Blk l (.loop rc)], Blk b1 (.cells #[.string (bs [10])] 9 (0, 0)), Blk b2 (.cells #[.string (bs s)] 9 (0, 0)), Blk b3 (.cells #[.int .i64 0] 3 (0, 0)), Blk D (.deferred (some []))] w := Hp.bun (M := [Blk p (.cells #[.string (bs ph0.name), .slice ph0.sA ph0.ss.length ph0.sc, .slice ph0.tA ph0.hs.length ph0.tc, .bool ph0.named, .slice ph0.gA ph0.tg.length ph0.gc] 67 (0, 0)), OS 9 strK ph0.sA ph0.sc ph0.ss, OS 48 thK ph0.tA ph0.tc ph0.hs, Big opA ph0.hs, OS 9 strK ph0.gA ph0.gc ph0.tg, Blk d (.cells #[.string (bs []), .slice none 0 0, .slice none 0 0] 25 (0, 0)), Blk e (.cells #[.int .i64 0] 28 (0, 0)), Blk l (.loop rc)]) h1
 exact h2.sel [1, 1, 1, 0, 0] rfl
theorem parse_n {I : Ids} {w0 w : World} {p d e D l : Nat} {P : PH} {rc : Loop} (h : Hp I w0 [Blk D (.deferred (some [])), Bun [Blk p (.cells #[.string (bs P.name), .slice P.sA P.ss.length P.sc, .slice P.tA P.hs.length P.tc, .bool P.named, .slice P.gA P.tg.length P.gc] 67 (0, 0)), OS 9 strK P.sA P.sc P.ss, OS 48 thK P.tA P.tc P.hs, Big opA P.hs, OS 9 strK P.gA P.gc P.tg, Blk d (.cells #[.string (bs []), .slice none 0 0, .slice none 0 0] 25 (0, 0)), Blk e (.cells #[.int .i64 0] 28 (0, 0)), Blk l (.loop rc)]] w) : Hp I w0 [Blk p (.cells #[.string (bs P.name), .slice P.sA P.ss.length P.sc, .slice P.tA P.hs.length P.tc, .bool P.named, .slice P.gA P.tg.length P.gc] 67 (0, 0)), OS 9 strK P.sA P.sc P.ss, OS 48 thK P.tA P.tc P.hs, Big opA P.hs, OS 9 strK P.gA P.gc P.tg, Blk d (.cells #[.string (bs []), .slice none 0 0, .slice none 0 0] 25 (0, 0)), Blk e (.cells #[.int .i64 0] 28 (0, 0)), Blk l (.loop rc), Blk D (.deferred (some []))] w := by
 have h1 : Hp I w0 [Bun [Blk p (.cells #[.string (bs P.name), .slice P.sA P.ss.length P.sc, .slice P.tA P.hs.length P.tc, .bool P.named, .slice P.gA P.tg.length P.gc] 67 (0, 0)), OS 9 strK P.sA P.sc P.ss, OS 48 thK P.tA P.tc P.hs, Big opA P.hs, OS 9 strK P.gA P.gc P.tg, Blk d (.cells #[.string (bs []), .slice none 0 0, .slice none 0 0] 25 (0, 0)), Blk e (.cells #[.int .i64 0] 28 (0, 0)), Blk l (.loop rc)], Blk D (.deferred (some []))] w := h.sel [1, 0] rfl
 exact Hp.unbun h1
theorem parse_r {I : Ids} {w0 w : World} {d e D l : Nat} {rc : Loop} (h : Hp I w0 [Blk D (.deferred (some [])), Bun [Blk d (.cells #[.string (bs []), .slice none 0 0, .slice none 0 0] 25 (0, 0)), Blk e (.cells #[.int .i64 2] 28 (0, 0)), Blk l (.loop { rc with state := .done, pending := some .ret })]] w) : Hp I w0 [Blk d (.cells #[.string (bs []), .slice none 0 0, .slice none 0 0] 25 (0, 0)), Blk e (.cells #[.int .i64 2] 28 (0, 0)), Blk l (.loop { rc with state := .done, pending := some .ret }), Blk D (.deferred (some []))] w := by
 have h1 : Hp I w0 [Bun [Blk d (.cells #[.string (bs []), .slice none 0 0, .slice none 0 0] 25 (0, 0)), Blk e (.cells #[.int .i64 2] 28 (0, 0)), Blk l (.loop { rc with state := .done, pending := some .ret })], Blk D (.deferred (some []))] w := h.sel [1, 0] rfl
 exact Hp.unbun h1

theorem DR.ofHp {I : Ids} {w0 w : World} {L : List Assn} {k1 k2 k3 : Nat} {nm : Bs} {sA tA : Option Addr} {sc tc : Nat} {ss : List Bs} {H Hs : List TH} (h : Hp I w0 L w) (h1 : L[k1]? = some (OS 9 strK sA sc ss)) (h2 : L[k2]? = some (OS 48 thK tA tc H)) (h3 : L[k3]? = some (Big opA Hs)) (e : H.map opA = Hs.map opA) : DR w ⟨nm, sA, sc, ss, tA, tc, H⟩ := by
 rw [← Big_congr e] at h3
 exact ⟨h.os k1 h1, h.os k2 h2, fun i hi => h.bigOS thD h3 hi (G := fun b w => RS w roK b.A b.t.ops) fun i b k => OS.rs (show (OS 59 roK b.A b.c b.t.ops).sat w i from k)⟩

set_option maxRecDepth 100000 in
set_option maxHeartbeats 16000000 in
theorem parse_fn (s : Bs) (hs : s.length ≤ 900000) {w : World} (hE : EvR w) : Fx Tryz.prog 12 [.string (bs s)] w [] at4 (fun v L => ∃ d : DH, v = .tuple #[.agg #[.string (bs d.name), .slice d.sA d.ss.length d.sc, .slice d.tA d.hs.length d.tc], .int .i64 (parseM s).1] ∧ d.d = (parseM s).2 ∧ L = dL d) := by
 refine Sv.Fx.bodyM Tryz.func12 rfl T12 rfl ?_
 intro I hro hI
 refine KV.env [(0, _)] ⟨rfl, trivial⟩ (CV.seq (CV.region ?_))
 refine RV.op (OV.alloc #[.string (Sv.bs []), .slice none 0 0, .slice none 0 0] I25 rfl gno rfl (fun d => ?_))
 refine RV.op (OV.alloc #[.int .i64 0] I28 rfl gno rfl (fun e => ?_))
 refine RV.nil (KV.then_n (KV.env [(0, _), (2, _), (3, _)] ⟨rfl, rfl, rfl, trivial⟩ (CV.seq (CV.region ?_))))
 refine RV.op (OV.alloc #[.string (Sv.bs []), .slice none 0 0, .slice none 0 0, .bool false, .slice none 0 0] I67 rfl gno rfl (fun p => ?_))
 refine RV.nil (KV.then_n (KV.env [(0, _), (2, _), (3, _), (4, _)] ⟨rfl, rfl, rfl, rfl, trivial⟩ (CV.seq (CV.seq (CV.region ?_)))))
 refine RV.m rfl rfl ?_
 refine RV.op (OV.call [] (F := [_, _, _]) Tryz.func25 B25 N25 rfl rfl (fun w h => splitSeq_fn s) (fun _ hb => hb.elim) gno rfl (fun v L' hp => ?_))
 obtain ⟨b1, b2, b3, rfl, rfl⟩ := hp
 refine RV.nil (KV.then_n (KV.env [(2, _), (3, _), (4, _), (17, _)] ⟨rfl, rfl, rfl, rfl, trivial⟩ (CV.block ?_)))
 refine KV.heap (fun w h => (((h.nilOS (e := 9) (K := strK)).nilOS (e := 48) (K := thK)).nilOS (e := 9) (K := strK)).newBig (F := opA) 0 thD fun w => OS.emp w) ?_
 refine CV.rangeFuncB at4 (caps := [_, _, _]) rfl Tryz.func68 B68 N68 ?_
 intro fn D l tm rc hrc hfit
 have hround : ∀ (x : PH) (ln : Bs) (w : World), EvR w → ln.length ≤ 900000 → x.le 900000 → RoundFx Tryz.prog l [.string (bs ln)] w [Blk p (.cells #[.string (bs x.name), .slice x.sA x.ss.length x.sc, .slice x.tA x.hs.length x.tc, .bool x.named, .slice x.gA x.tg.length x.gc] 67 (0, 0)), OS 9 strK x.sA x.sc x.ss, OS 48 thK x.tA x.tc x.hs, Big opA x.hs, OS 9 strK x.gA x.gc x.tg, Blk d (.cells #[.string (bs []), .slice none 0 0, .slice none 0 0] 25 (0, 0)), Blk e (.cells #[.int .i64 0] 28 (0, 0)), Blk l (.loop rc)] at4 (fun v L => (∃ y : PH, lnM x.ps ln = some y.ps ∧ Grow x y ∧ v = .bool true ∧ L = [Blk p (.cells #[.string (bs y.name), .slice y.sA y.ss.length y.sc, .slice y.tA y.hs.length y.tc, .bool y.named, .slice y.gA y.tg.length y.gc] 67 (0, 0)), OS 9 strK y.sA y.sc y.ss, OS 48 thK y.tA y.tc y.hs, Big opA y.hs, OS 9 strK y.gA y.gc y.tg, Blk d (.cells #[.string (bs []), .slice none 0 0, .slice none 0 0] 25 (0, 0)), Blk e (.cells #[.int .i64 0] 28 (0, 0)), Blk l (.loop rc)]) ∨ (lnM x.ps ln = none ∧ v = .bool false ∧ L = [Blk d (.cells #[.string (bs []), .slice none 0 0, .slice none 0 0] 25 (0, 0)), Blk e (.cells #[.int .i64 2] 28 (0, 0)), Blk l (.loop { rc with state := .done, pending := some .ret })])) := by
  intro x ln w hE hln hx
  subst hrc
  have hx1 := hx.1
  have hx2 := hx.2.1
  have hx3 := hx.2.2
  refine RoundFx.ofWalkN (k := 7) (E := set _ 18 (.string (bs ln))) hfit.size rfl rfl rfl ?_ (Fits.one (.string (bs ln)) hfit rfl)
  intro I hro
  refine CI.region ?_
  refine LI.op (fun _ h => by cases h) (OV.step gno (Step.assign rfl) rfl ?_)
  refine LI.nil ?_
  refine KV.then_n ?_
  refine KV.begin (k := 7) rfl rfl ?_
  refine KV.env [(2, _), (3, _), (4, _), (5, _)] ⟨rfl, rfl, rfl, rfl, trivial⟩ ?_
  refine CI.block ?_
  refine CI.seq ?_
  refine CI.region ?_
  refine LI.op (fun _ h => by cases h) (OV.step gno (Step.move rfl) rfl ?_)
  refine LI.op (fun _ h => by cases h) (OV.call [] (F := [_, _, _, _, _, _, _, _]) Tryz.func26 B26 N26 rfl rfl (fun w h => tokenize_fn ln (by omega) (EvR.keep h hE (hro 4 rfl))) (fun _ hb => hb.elim) gno rfl (fun v L' hp => ?_))
  rcases hp with ⟨ts, A, c, htk, htl, rfl, rfl⟩ | ⟨htk, rfl, rfl⟩
  ·
   skip
   refine LI.op (fun _ h => by cases h) (OV.step gno (Step.move rfl) rfl ?_)
   refine LI.op (fun _ h => by cases h) (OV.step gno (Step.extract0 rfl rfl) rfl ?_)
   refine LI.op (fun _ h => by cases h) (OV.step gno (Step.extract0 rfl rfl) rfl ?_)
   refine LI.op (fun _ h => by cases h) (OV.step gno (Step.assign rfl) rfl ?_)
   refine LI.op (fun _ h => by cases h) (OV.step gno (Step.assign rfl) rfl ?_)
   refine LI.nil ?_
   refine KV.then_n (KV.env [(2, _), (3, _), (4, _), (6, _), (7, _)] ⟨rfl, rfl, rfl, rfl, rfl, trivial⟩ ?_)
   refine CI.seq ?_
   refine CI.region ?_
   refine LI.op (fun _ h => by cases h) (OV.step gno (Step.move rfl) rfl ?_)
   refine LI.op (fun _ h => by cases h) (OV.step gno (Step.not rfl) rfl ?_)
   refine LI.op (fun _ h => by cases h) (OV.step gno (Step.move rfl) rfl ?_)
   refine LI.op (fun _ h => by cases h) (OV.step (gyes rfl) (Step.move rfl) rfl ?_)
   refine LI.op (fun _ h => by cases h) (OV.call [0, 0, 0, 0, 0, 3] (F := [_, _, _]) Tryz.func27 B27 N27 rfl rfl (fun w h => line_fn x (tk_ok htk) (by omega) (by omega) (by omega) (by omega)) (fun _ hb => hb.elim) (gyes rfl) rfl (fun v L' hp => ?_))
   rcases hp with ⟨y, hly, hgr, rfl, rfl⟩ | ⟨hly, rfl, rfl⟩
   ·
    skip
    refine LI.op (fun _ h => by cases h) (OV.step (gyes rfl) (Step.not rfl) rfl ?_)
    refine LI.op (fun _ h => by cases h) (OV.step gno (Step.pick_f rfl rfl) rfl ?_)
    refine LI.nil ?_
    refine KV.then_n (KV.env [(2, _), (3, _), (30, _)] ⟨rfl, rfl, rfl, trivial⟩ ?_)
    refine CI.cond_f rfl ?_
    refine CI.skip ?_
    refine KV.block_n ?_
    refine KV.sel [3, 3, 3, 3, 3, 0, 0, 0] [_, _, _, _, _, _, _, _] rfl ?_
    exact KV.round_n (k := 7) rfl _ (fun _ h => h) (.inl ⟨y, by unfold lnM; rw [htk]; exact hly, hgr, rfl, rfl⟩)
   ·
    skip
    refine LI.op (fun _ h => by cases h) (OV.step (gyes rfl) (Step.not rfl) rfl ?_)
    refine LI.op (fun _ h => by cases h) (OV.step gno (Step.pick_f rfl rfl) rfl ?_)
    refine LI.nil ?_
    refine KV.then_n (KV.env [(2, _), (3, _), (30, _)] ⟨rfl, rfl, rfl, trivial⟩ ?_)
    refine CI.cond_t rfl ?_
    refine CI.seq ?_
    refine CI.region ?_
    refine LI.op (fun _ h => by cases h) (OV.step gno (Step.build rfl (Bd25_)) rfl ?_)
    refine LI.op (fun _ h => by cases h) (OV.store 0 [_, _, _] #[_, _, _] I25 rfl rfl rfl rfl rfl (Nat.le_of_ble_eq_true rfl) (by simp [Value.oneCell']) rfl gno ?_)
    refine LI.op (fun _ h => by cases h) (OV.store 1 [_] #[_] I28 rfl rfl rfl rfl rfl (Nat.le_of_ble_eq_true rfl) (by simp [Value.oneCell']) rfl gno ?_)
    refine LI.nil ?_
    refine KV.then_n (KV.env [] trivial ?_)
    refine CI.ret ?_
    refine KV.block_ret ?_
    refine KV.sel [0, 0, 0] [_, _, _] rfl ?_
    (first | exact KV.round_ret (k := 2) rfl _ (fun _ h => h) (.inr ⟨by unfold lnM; rw [htk]; rfl, rfl, rfl⟩) | exact KV.round_ret (k := 2) rfl _ (fun _ h => h) (.inr ⟨by unfold lnM; rw [htk]; exact hly, rfl, rfl⟩))
  ·
   skip
   simp only [List.append_nil]
   refine LI.op (fun _ h => by cases h) (OV.step gno (Step.move rfl) rfl ?_)
   refine LI.op (fun _ h => by cases h) (OV.step gno (Step.extract0 rfl rfl) rfl ?_)
   refine LI.op (fun _ h => by cases h) (OV.step gno (Step.extract0 rfl rfl) rfl ?_)
   refine LI.op (fun _ h => by cases h) (OV.step gno (Step.assign rfl) rfl ?_)
   refine LI.op (fun _ h => by cases h) (OV.step gno (Step.assign rfl) rfl ?_)
   refine LI.nil ?_
   refine KV.then_n (KV.env [(2, _), (3, _), (4, _), (6, _), (7, _)] ⟨rfl, rfl, rfl, rfl, rfl, trivial⟩ ?_)
   refine CI.seq ?_
   refine CI.region ?_
   refine LI.op (fun _ h => by cases h) (OV.step gno (Step.move rfl) rfl ?_)
   refine LI.op (fun _ h => by cases h) (OV.step gno (Step.not rfl) rfl ?_)
   refine LI.op (fun _ h => by cases h) (OV.step gno (Step.move rfl) rfl ?_)
   refine LI.op (fun _ h => by cases h) (OV.skip rfl rfl ?_)
   refine LI.op (fun _ h => by cases h) (OV.skip rfl rfl ?_)
   refine LI.op (fun _ h => by cases h) (OV.skip rfl rfl ?_)
   refine LI.op (fun _ h => by cases h) (OV.step gno (Step.pick_t rfl rfl) rfl ?_)
   refine LI.nil ?_
   refine KV.then_n (KV.env [(2, _), (3, _), (30, _)] ⟨rfl, rfl, rfl, trivial⟩ ?_)
   refine CI.cond_t rfl ?_
   refine CI.seq ?_
   refine CI.region ?_
   refine LI.op (fun _ h => by cases h) (OV.step gno (Step.build rfl (Bd25_)) rfl ?_)
   refine LI.op (fun _ h => by cases h) (OV.store 5 [_, _, _] #[_, _, _] I25 rfl rfl rfl rfl rfl (Nat.le_of_ble_eq_true rfl) (by simp [Value.oneCell']) rfl gno ?_)
   refine LI.op (fun _ h => by cases h) (OV.store 6 [_] #[_] I28 rfl rfl rfl rfl rfl (Nat.le_of_ble_eq_true rfl) (by simp [Value.oneCell']) rfl gno ?_)
   refine LI.nil ?_
   refine KV.then_n (KV.env [] trivial ?_)
   refine CI.ret ?_
   refine KV.block_ret ?_
   refine KV.sel [5, 5, 5] [_, _, _] rfl ?_
   (first | exact KV.round_ret (k := 2) rfl _ (fun _ h => h) (.inr ⟨by unfold lnM; rw [htk]; rfl, rfl, rfl⟩) | exact KV.round_ret (k := 2) rfl _ (fun _ h => h) (.inr ⟨by unfold lnM; rw [htk]; exact hly, rfl, rfl⟩))
 refine ⟨[Blk b1 (.cells #[.string (bs [10])] 9 (0, 0)), Blk b2 (.cells #[.string (bs s)] 9 (0, 0)), Blk b3 (.cells #[.int .i64 0] 3 (0, 0)), Bun [Blk p (.cells #[.string (bs ph0.name), .slice ph0.sA ph0.ss.length ph0.sc, .slice ph0.tA ph0.hs.length ph0.tc, .bool ph0.named, .slice ph0.gA ph0.tg.length ph0.gc] 67 (0, 0)), OS 9 strK ph0.sA ph0.sc ph0.ss, OS 48 thK ph0.tA ph0.tc ph0.hs, Big opA ph0.hs, OS 9 strK ph0.gA ph0.gc ph0.tg, Blk d (.cells #[.string (bs []), .slice none 0 0, .slice none 0 0] 25 (0, 0)), Blk e (.cells #[.int .i64 0] 28 (0, 0)), Blk l (.loop rc)]], [Blk D (.deferred (some []))], _, fun w h => parse_open h, fun b hb => roAt4 hE hro b hb, fun w h => splitter_fn s hs (fun x => Bun [Blk p (.cells #[.string (bs x.name), .slice x.sA x.ss.length x.sc, .slice x.tA x.hs.length x.tc, .bool x.named, .slice x.gA x.tg.length x.gc] 67 (0, 0)), OS 9 strK x.sA x.sc x.ss, OS 48 thK x.tA x.tc x.hs, Big opA x.hs, OS 9 strK x.gA x.gc x.tg, Blk d (.cells #[.string (bs []), .slice none 0 0, .slice none 0 0] 25 (0, 0)), Blk e (.cells #[.int .i64 0] 28 (0, 0)), Blk l (.loop rc)]) (Bun [Blk d (.cells #[.string (bs []), .slice none 0 0, .slice none 0 0] 25 (0, 0)), Blk e (.cells #[.int .i64 2] 28 (0, 0)), Blk l (.loop { rc with state := .done, pending := some .ret })]) (EvR.keep h hE (hro 4 rfl)) (fun x ln w h1 h2 h3 => RoundFx.bun (hround x ln w h1 h2 h3) fun v L h => ?_), ?_⟩
 ·
  rcases h with ⟨y, a1, a2, rfl, rfl⟩ | ⟨a1, rfl, rfl⟩
  ·
   exact .inl ⟨y, a1, a2, rfl, rfl⟩
  ·
   exact .inr ⟨a1, rfl, rfl⟩
 intro v L' hp
 rcases hp with ⟨P, hrun, hle, rfl⟩ | ⟨hrun, rfl⟩
 ·
  skip
  refine ⟨rc, _, 7, fun w h => parse_n h, rfl, by rw [hrc]; exact (fun h => by cases h), .inl ⟨by rw [hrc]; rfl, ?_⟩⟩
  have hpar := parse_some hrun
  have htg : P.tg.length = P.hs.length := by have := run_tg _ hrun rfl; simpa [PH.ps] using this.symm
  have hl1 := hle.1
  have hl2 := hle.2.1
  have hl3 := hle.2.2
  refine KV.block_n (KV.then_n (KV.env [(2, _), (3, _), (4, _)] ⟨rfl, rfl, rfl, trivial⟩ (CV.seq (CV.seq (CV.region ?_)))))
  refine RV.s (Step.fieldAddr rfl (F67_1 _ _)) rfl (RV.s (Step.load Tryz.underlying4 rfl rfl (fun w h => h.cell 0 rfl rfl)) rfl (RV.s (Step.not rfl) rfl ?_))
  refine RV.nil (KV.then_n (KV.env [(2, _), (3, _), (4, _), (34, _)] ⟨rfl, rfl, rfl, rfl, trivial⟩ ?_))
  refine KV.cases 34 rfl (fun cc1 => ?_) (fun cc1 => ?_)
  ·
   have hnd := neg_t cc1
   refine CV.cond_t rfl (CV.seq (CV.region ?_))
   refine RV.s (Step.build rfl (Bd25_)) rfl ?_
   refine RV.op (OV.store 5 [_, _, _] #[_, _, _] I25 rfl rfl rfl rfl rfl (Nat.le_of_ble_eq_true rfl) (by simp [Value.oneCell']) rfl gno ?_)
   refine RV.op (OV.store 6 [_] #[_] I28 rfl rfl rfl rfl rfl (Nat.le_of_ble_eq_true rfl) (by simp [Value.oneCell']) rfl gno ?_)
   refine RV.nil (KV.then_n (KV.env [(2, _), (3, _)] ⟨rfl, rfl, trivial⟩ (CV.ret (KV.then_ret ?_))))
   have hpm := hpar.trans (fin_un hnd)
   exact KV.retM2 [_, _, _] 8 rfl rfl rfl Tryz.underlying25 rfl I25 rfl Tryz.underlying28 rfl rfl (fun w h => h.cells 5 rfl) (fun w h => h.cell 6 rfl rfl) _ (fun _ h => Hp.dL0 (h.sel [] rfl)) ⟨dh0, by rw [hpm]; rfl, by rw [hpm]; rfl, rfl⟩
  ·
   have hnd := neg_f cc1
   refine CV.cond_f rfl (CV.skip (KV.then_n (KV.env [(2, _), (3, _), (4, _)] ⟨rfl, rfl, rfl, trivial⟩ (CV.seq (CV.seq ?_)))))
   refine CV.region ?_
   refine RV.s (Step.fieldAddr rfl (F67_0 _ _)) rfl (RV.s (Step.fieldAddr rfl (F25_1 _ _)) rfl (RV.s (Step.load Tryz.underlying22 rfl rfl (fun w h => h.cell 0 rfl rfl)) rfl ?_))
   refine RV.op (OV.call [] (F := [_, _, _, _, _, _, _, _, _]) Tryz.func28 B28 N28 rfl rfl (fun w h => repeats_fn (h.os 1 rfl) rfl (by omega)) (fun _ hb => hb.elim) gno rfl (fun v L' hp => ?_))
   obtain ⟨rfl, rfl⟩ := hp
   simp only [List.append_nil]
   by_cases hdup : ¬ P.ss.Nodup
   ·
    rw [decide_eq_true hdup]
    refine RV.nil (KV.then_n (KV.env [(2, _), (3, _), (4, _), (39, _)] ⟨rfl, rfl, rfl, rfl, trivial⟩ (CV.cond_t rfl (CV.seq (CV.region ?_)))))
    refine RV.s (Step.build rfl (Bd25_)) rfl ?_
    refine RV.op (OV.store 5 [_, _, _] #[_, _, _] I25 rfl rfl rfl rfl rfl (Nat.le_of_ble_eq_true rfl) (by simp [Value.oneCell']) rfl gno ?_)
    refine RV.op (OV.store 6 [_] #[_] I28 rfl rfl rfl rfl rfl (Nat.le_of_ble_eq_true rfl) (by simp [Value.oneCell']) rfl gno ?_)
    refine RV.nil (KV.then_n (KV.env [(2, _), (3, _)] ⟨rfl, rfl, trivial⟩ (CV.ret (KV.then_ret ?_))))
    have hpm := hpar.trans (fin_dup hnd hdup)
    exact KV.retM2 [_, _, _] 8 rfl rfl rfl Tryz.underlying25 rfl I25 rfl Tryz.underlying28 rfl rfl (fun w h => h.cells 5 rfl) (fun w h => h.cell 6 rfl rfl) _ (fun _ h => Hp.dL0 (h.sel [] rfl)) ⟨dh0, by rw [hpm]; rfl, by rw [hpm]; rfl, rfl⟩
   ·
    rw [decide_eq_false hdup]
    refine RV.nil (KV.then_n (KV.env [(2, _), (3, _), (4, _), (39, _)] ⟨rfl, rfl, rfl, rfl, trivial⟩ (CV.cond_f rfl (CV.skip (KV.then_n ?_)))))
    refine KV.env [(2, _), (3, _), (4, _)] ⟨rfl, rfl, rfl, trivial⟩ (CV.seq (CV.region ?_))
    refine RV.s (Step.fieldAddr rfl (F67_0 _ _)) rfl (RV.s (Step.fieldAddr rfl (F25_1 _ _)) rfl (RV.s (Step.load Tryz.underlying22 rfl rfl (fun w h => h.cell 0 rfl rfl)) rfl (RV.s (Step.lenSl Tryz.underlying22 rfl) rfl ?_)))
    refine RV.op (OV.makeMap (κ := Bs) (ν := Int) strV (Value.int .i64) Tryz.underlying76 rfl gno rfl (fun mb => ?_))
    refine RV.a rfl rfl ?_
    refine RV.nil (KV.then_n (KV.env [(2, _), (3, _), (4, _), (8, _)] ⟨rfl, rfl, rfl, rfl, trivial⟩ (CV.seq (CV.seq (CV.region ?_)))))
    refine RV.s (Step.fieldAddr rfl (F67_0 _ _)) rfl (RV.s (Step.fieldAddr rfl (F25_1 _ _)) rfl (RV.s (Step.load Tryz.underlying22 rfl rfl (fun w h => h.cell 0 rfl rfl)) rfl (RV.s (Step.lenSl Tryz.underlying22 rfl) rfl (RV.m rfl rfl ?_))))
    refine RV.nil (KV.then_n (KV.env [(2, _), (3, _), (4, _), (8, _), (48, _), (49, _), (50, _)] ⟨rfl, rfl, rfl, rfl, rfl, rfl, rfl, trivial⟩ (CV.block ?_)))
    refine KV.sel [0, 0, 0, 0, 0, 0, 0, 1, 1] [_, _, _, _, _, _, _, _, _] rfl ?_
    refine CV.loopI (fun (j : Nat) => j ≤ P.ss.length) (fun (j : Nat) => P.ss.length - j) (fun (j : Nat) => [(2, .pointer (some ⟨d, 0, none⟩)), (3, .pointer (some ⟨e, 0, none⟩)), (4, .pointer (some ⟨p, 0, none⟩)), (8, .map (some mb)), (48, .slice P.sA P.ss.length P.sc), (49, .int .i64 P.ss.length), (50, .int .i64 j)]) (fun (j : Nat) => Hp I w [Blk p (.cells #[.string (bs P.name), .slice P.sA P.ss.length P.sc, .slice P.tA P.hs.length P.tc, .bool P.named, .slice P.gA P.tg.length P.gc] 67 (0, 0)), OS 9 strK P.sA P.sc P.ss, OS 48 thK P.tA P.tc P.hs, Big opA P.hs, OS 9 strK P.gA P.gc P.tg, Blk d (.cells #[.string (bs []), .slice none 0 0, .slice none 0 0] 25 (0, 0)), Blk e (.cells #[.int .i64 0] 28 (0, 0)), Blk D (.deferred (some [])), OM mb strV (Value.int .i64) (ents P.ss j)]) (0) (Nat.zero_le _) ⟨rfl, rfl, rfl, rfl, rfl, rfl, rfl, trivial⟩ (fun _ h => h) ?_
    intro j hinv
    refine CV.seq (CV.region ?_)
    refine RV.op (OV.split gno (Step.lss rfl rfl) rfl (fun hj => ?_) (fun hj => ?_))
    ·
     refine RV.nil (KV.then_n (KV.env [(2, _), (3, _), (4, _), (8, _), (48, _), (49, _), (50, _), (51, _)] ⟨rfl, rfl, rfl, rfl, rfl, rfl, rfl, rfl, trivial⟩ (CV.seq (CV.cond_t rfl (CV.skip ?_)))))
     refine KV.then_n (KV.env [(2, _), (3, _), (4, _), (8, _), (48, _), (49, _), (50, _)] ⟨rfl, rfl, rfl, rfl, rfl, rfl, rfl, trivial⟩ (CV.seq (CV.block (CV.seq (CV.region ?_)))))
     refine RV.m rfl rfl ?_
     refine RV.s (Step.idx Tryz.underlying22 I9 (fun w h => h.os 1 rfl) rfl rfl (rfl) _ rfl (by omega)) rfl ?_
     refine RV.s (Step.load Tryz.underlying9 rfl rfl (fun w h => (h.os 1 rfl).cell0 (by omega) rfl)) rfl ?_
     refine RV.a rfl rfl (RV.a rfl rfl ?_)
     refine RV.nil (KV.then_n (KV.env [(2, _), (3, _), (4, _), (8, _), (9, _), (10, _), (48, _), (49, _), (50, _)] ⟨rfl, rfl, rfl, rfl, rfl, rfl, rfl, rfl, rfl, trivial⟩ (CV.region ?_)))
     refine RV.m rfl rfl (RV.m rfl rfl (RV.m rfl rfl ?_))
     refine RV.op (OV.mapInsert 8 (P.ss.getD j strK.d) (j : Int) Tryz.underlying76 (KeyT.string Tryz.underlying9) rfl rfl rfl rfl (mget_new fun i hi => nodup_iff.1 (Decidable.not_not.1 hdup) i j hi (by omega)) gno ?_)
     refine RV.nil (KV.block_n (KV.then_n (KV.env [(2, _), (3, _), (4, _), (8, _), (48, _), (49, _), (50, _)] ⟨rfl, rfl, rfl, rfl, rfl, rfl, rfl, trivial⟩ (CV.region ?_))))
     (first | refine RV.op (OV.step gno (Step.add rfl rfl (wI64 (by omega) (by omega))) rfl ?_) | refine RV.op (OV.step gno (Step.add rfl rfl rfl) rfl ?_))
     refine RV.m rfl rfl ?_
     refine RV.nil (KV.then_n (KV.env [(2, _), (3, _), (4, _), (8, _), (48, _), (49, _), (50, _)] ⟨rfl, rfl, rfl, rfl, rfl, rfl, rfl, trivial⟩ ?_))
     refine KV.sel [0, 0, 0, 0, 0, 0, 0, 0, 0] [_, _, _, _, _, _, _, _, _] rfl ?_
     exact KV.loopI (z := j) (j + 1) (by omega) (by omega) ⟨rfl, rfl, rfl, rfl, rfl, rfl, rfl, trivial⟩ (fun _ h => by rw [ents_succ]; exact h)
    ·
     refine RV.nil (KV.then_n (KV.env [(2, _), (3, _), (4, _), (8, _), (48, _), (49, _), (50, _), (51, _)] ⟨rfl, rfl, rfl, rfl, rfl, rfl, rfl, rfl, trivial⟩ (CV.seq (CV.cond_f rfl (CV.exit ?_)))))
     refine KV.then_exit (KV.then_exit (KV.block_hit (KV.then_n (KV.env [(2, _), (3, _), (4, _), (8, _)] ⟨rfl, rfl, rfl, rfl, trivial⟩ (CV.seq ?_)))))
     refine CV.seq ?_
     have hjl : j = P.ss.length := by omega
     subst hjl
     refine CV.region ?_
     refine RV.s (Step.fieldAddr rfl (F67_2 _ _)) rfl (RV.s (Step.load Tryz.underlying22 rfl rfl (fun w h => h.cell 0 rfl rfl)) rfl (RV.s (Step.lenSl Tryz.underlying22 rfl) rfl (RV.m rfl rfl ?_)))
     refine RV.nil (KV.then_n (KV.env [(2, _), (3, _), (4, _), (8, _), (60, _), (61, _), (62, _)] ⟨rfl, rfl, rfl, rfl, rfl, rfl, rfl, trivial⟩ (CV.block ?_)))
     refine KV.sel [0, 0, 0, 0, 0, 0, 0, 0, 0] [_, _, _, _, _, _, _, _, _] rfl ?_
     refine CV.loop2 (fun (j : Nat) (H : List TH) => j ≤ P.tg.length ∧ LkI P H j) (fun (j : Nat) (H : List TH) => P.tg.length - j) (fun (j : Nat) (H : List TH) => [(2, .pointer (some ⟨d, 0, none⟩)), (3, .pointer (some ⟨e, 0, none⟩)), (4, .pointer (some ⟨p, 0, none⟩)), (8, .map (some mb)), (60, .slice P.gA P.tg.length P.gc), (61, .int .i64 P.tg.length), (62, .int .i64 j)]) (fun (j : Nat) (H : List TH) => Hp I w [Blk p (.cells #[.string (bs P.name), .slice P.sA P.ss.length P.sc, .slice P.tA P.hs.length P.tc, .bool P.named, .slice P.gA P.tg.length P.gc] 67 (0, 0)), OS 9 strK P.sA P.sc P.ss, OS 48 thK P.tA P.tc H, Big opA P.hs, OS 9 strK P.gA P.gc P.tg, Blk d (.cells #[.string (bs []), .slice none 0 0, .slice none 0 0] 25 (0, 0)), Blk e (.cells #[.int .i64 0] 28 (0, 0)), Blk D (.deferred (some [])), OM mb strV (Value.int .i64) (ents P.ss P.ss.length)]) (0) (P.hs) ⟨Nat.zero_le _, LkI.start P⟩ ⟨rfl, rfl, rfl, rfl, rfl, rfl, rfl, trivial⟩ (fun _ h => h) ?_
     intro j H hinv
     refine CV.seq (CV.region ?_)
     refine RV.op (OV.split gno (Step.lss rfl rfl) rfl (fun hj => ?_) (fun hj => ?_))
     ·
      refine RV.nil (KV.then_n (KV.env [(2, _), (3, _), (4, _), (8, _), (60, _), (61, _), (62, _), (63, _)] ⟨rfl, rfl, rfl, rfl, rfl, rfl, rfl, rfl, trivial⟩ (CV.seq (CV.cond_t rfl (CV.skip ?_)))))
      refine KV.then_n (KV.env [(2, _), (3, _), (4, _), (8, _), (60, _), (61, _), (62, _)] ⟨rfl, rfl, rfl, rfl, rfl, rfl, rfl, trivial⟩ (CV.seq (CV.block (CV.seq (CV.region ?_)))))
      refine RV.m rfl rfl ?_
      refine RV.s (Step.idx Tryz.underlying22 I9 (fun w h => h.os 4 rfl) rfl rfl (rfl) _ rfl (by omega)) rfl ?_
      refine RV.s (Step.load Tryz.underlying9 rfl rfl (fun w h => (h.os 4 rfl).cell0 (by omega) rfl)) rfl ?_
      refine RV.a rfl rfl (RV.a rfl rfl ?_)
      refine RV.nil (KV.then_n (KV.env [(2, _), (3, _), (4, _), (8, _), (11, _), (12, _), (60, _), (61, _), (62, _)] ⟨rfl, rfl, rfl, rfl, rfl, rfl, rfl, rfl, rfl, trivial⟩ (CV.seq (CV.region ?_))))
      refine RV.m rfl rfl (RV.m rfl rfl (RV.s (Step.lookupOk 8 (vf := Value.int .i64) (zv := 0) (P.tg.getD j strK.d) Tryz.underlying76 (KeyT.string Tryz.underlying9) I3 rfl rfl rfl) rfl ?_))
      rw [mget_ents]
      rcases hix : idxOf P.ss (P.tg.getD j strK.d) with _ | ix
      ·
       skip
       refine RV.m rfl rfl (RV.s (Step.extract0 rfl rfl) rfl (RV.s (Step.extract0 rfl rfl) rfl (RV.a rfl rfl (RV.a rfl rfl ?_))))
       refine RV.nil (KV.then_n (KV.env [(2, _), (3, _), (4, _), (8, _), (11, _), (13, _), (14, _), (60, _), (61, _), (62, _)] ⟨rfl, rfl, rfl, rfl, rfl, rfl, rfl, rfl, rfl, rfl, trivial⟩ (CV.seq (CV.seq (CV.region ?_)))))
       refine RV.m rfl rfl (RV.s (Step.not rfl) rfl ?_)
       refine RV.nil (KV.then_n (KV.env [(2, _), (3, _), (4, _), (8, _), (11, _), (13, _), (60, _), (61, _), (62, _), (74, _)] ⟨rfl, rfl, rfl, rfl, rfl, rfl, rfl, rfl, rfl, rfl, trivial⟩ (CV.cond_t rfl (CV.seq (CV.region ?_)))))
       refine RV.s (Step.build rfl (Bd25_)) rfl ?_
       refine RV.op (OV.store 5 [_, _, _] #[_, _, _] I25 rfl rfl rfl rfl rfl (Nat.le_of_ble_eq_true rfl) (by simp [Value.oneCell']) rfl gno ?_)
       refine RV.op (OV.store 6 [_] #[_] I28 rfl rfl rfl rfl rfl (Nat.le_of_ble_eq_true rfl) (by simp [Value.oneCell']) rfl gno ?_)
       refine RV.nil (KV.then_n (KV.env [(2, _), (3, _)] ⟨rfl, rfl, trivial⟩ (CV.ret (KV.then_ret (KV.block_ret ?_)))))
       refine KV.then_ret (KV.then_ret (KV.block_ret (KV.then_ret ?_)))
       have hpm := hpar.trans (fin_nf hnd (Decidable.not_not.1 hdup) (hinv.2.bad (by omega) htg hix))
       exact KV.retM2 [_, _, _] 7 rfl rfl rfl Tryz.underlying25 rfl I25 rfl Tryz.underlying28 rfl rfl (fun w h => h.cells 5 rfl) (fun w h => h.cell 6 rfl rfl) _ (fun _ h => Hp.dL0 (h.sel [] rfl)) ⟨dh0, by rw [hpm]; rfl, by rw [hpm]; rfl, rfl⟩
      ·
       skip
       refine RV.m rfl rfl (RV.s (Step.extract0 rfl rfl) rfl (RV.s (Step.extract0 rfl rfl) rfl (RV.a rfl rfl (RV.a rfl rfl ?_))))
       refine RV.nil (KV.then_n (KV.env [(2, _), (3, _), (4, _), (8, _), (11, _), (13, _), (14, _), (60, _), (61, _), (62, _)] ⟨rfl, rfl, rfl, rfl, rfl, rfl, rfl, rfl, rfl, rfl, trivial⟩ (CV.seq (CV.seq (CV.region ?_)))))
       refine RV.m rfl rfl (RV.s (Step.not rfl) rfl ?_)
       refine RV.nil (KV.then_n (KV.env [(2, _), (3, _), (4, _), (8, _), (11, _), (13, _), (60, _), (61, _), (62, _), (74, _)] ⟨rfl, rfl, rfl, rfl, rfl, rfl, rfl, rfl, rfl, rfl, trivial⟩ (CV.cond_f rfl (CV.skip (KV.then_n ?_)))))
       refine KV.env [(2, _), (3, _), (4, _), (8, _), (11, _), (13, _), (60, _), (61, _), (62, _)] ⟨rfl, rfl, rfl, rfl, rfl, rfl, rfl, rfl, rfl, trivial⟩ ?_
       have hHl := hinv.2.len
       rw [← hinv.2.len]
       refine CV.region ?_
       refine RV.s (Step.fieldAddr rfl (F67_0 _ _)) rfl (RV.s (Step.fieldAddr rfl (F25_2 _ _)) rfl (RV.s (Step.load Tryz.underlying23 rfl rfl (fun w h => h.cell 0 rfl rfl)) rfl (RV.m rfl rfl (RV.m rfl rfl ?_))))
       refine RV.s (Step.idx Tryz.underlying23 I48 (fun w h => h.os 2 rfl) rfl rfl (rfl) _ rfl (by omega)) rfl ?_
       refine RV.s (Step.fieldAddr rfl (F48_4 _ _)) rfl ?_
       refine RV.op (OV.storeE 2 (j) (linkT (H.getD j thK.d) ix) (j := 7) [_] I3 rfl rfl rfl rfl rfl rfl (by first | omega | (rw [hinv.2.len]; omega)) rfl (Nat.le_of_ble_eq_true rfl) gno ?_)
       refine RV.nil (KV.block_n (KV.then_n (KV.env [(2, _), (3, _), (4, _), (8, _), (60, _), (61, _), (62, _)] ⟨rfl, rfl, rfl, rfl, rfl, rfl, rfl, trivial⟩ (CV.region ?_))))
       (first | refine RV.op (OV.step gno (Step.add rfl rfl (wI64 (by omega) (by omega))) rfl ?_) | refine RV.op (OV.step gno (Step.add rfl rfl rfl) rfl ?_))
       refine RV.m rfl rfl ?_
       refine RV.nil (KV.then_n (KV.env [(2, _), (3, _), (4, _), (8, _), (60, _), (61, _), (62, _)] ⟨rfl, rfl, rfl, rfl, rfl, rfl, rfl, trivial⟩ ?_))
       refine KV.sel [0, 0, 0, 0, 0, 0, 0, 0, 0] [_, _, _, _, _, _, _, _, _] rfl ?_
       exact KV.loop2 (x := j) (y := H) (j + 1) (H.set j (linkT (H.getD j thK.d) ix)) ⟨by omega, hinv.2.next (by omega) htg hix⟩ (by omega) ⟨rfl, rfl, rfl, rfl, rfl, rfl, rfl, trivial⟩ (fun _ h => h)
     ·
      refine RV.nil (KV.then_n (KV.env [(2, _), (3, _), (4, _), (8, _), (60, _), (61, _), (62, _), (63, _)] ⟨rfl, rfl, rfl, rfl, rfl, rfl, rfl, rfl, trivial⟩ (CV.seq (CV.cond_f rfl (CV.exit ?_)))))
      refine KV.then_exit (KV.then_exit (KV.block_hit (KV.then_n (KV.env [(2, _), (3, _), (4, _)] ⟨rfl, rfl, rfl, trivial⟩ (CV.seq ?_)))))
      refine CV.seq ?_
      rw [← hinv.2.len]
      refine CV.region ?_
      refine RV.s (Step.fieldAddr rfl (F67_0 _ _)) rfl (RV.s (Step.loadN _ Tryz.underlying25 rfl I25 rfl rfl (fun w h => cells_off 0 (us := [.string (bs P.name), .slice P.sA P.ss.length P.sc, .slice P.tA H.length P.tc]) (h.cells 0 rfl) rfl)) rfl ?_)
      refine RV.op (OV.call [] (F := [_, _, _, _, _, _, _, _, _]) Tryz.func29 B29 N29 rfl rfl (fun w h => check_fn (⟨P.name, P.sA, P.sc, P.ss, P.tA, P.tc, H⟩ : DH) (DR.ofHp (k1 := 1) (k2 := 2) (k3 := 3) h rfl rfl rfl hinv.2.own)) (fun _ hb => hb.elim) gno rfl (fun v L' hp => ?_))
      obtain ⟨rfl, rfl⟩ := hp
      simp only [List.append_nil]
      refine RV.a rfl rfl ?_
      refine RV.nil (KV.then_n (KV.env [(2, _), (3, _), (4, _), (15, _)] ⟨rfl, rfl, rfl, rfl, trivial⟩ (CV.seq (CV.region ?_))))
      refine RV.m rfl rfl ?_
      refine RV.op (OV.split gno (Step.neq rfl rfl) rfl (fun hck => ?_) (fun hck => ?_))
      ·
       refine RV.nil (KV.then_n (KV.env [(2, _), (3, _), (4, _), (15, _), (88, _)] ⟨rfl, rfl, rfl, rfl, rfl, trivial⟩ (CV.cond_t rfl (CV.seq (CV.region ?_)))))
       refine RV.s (Step.build rfl (Bd25_)) rfl (RV.m rfl rfl ?_)
       refine RV.op (OV.store 5 [_, _, _] #[_, _, _] I25 rfl rfl rfl rfl rfl (Nat.le_of_ble_eq_true rfl) (by simp [Value.oneCell']) rfl gno ?_)
       refine RV.op (OV.store 6 [_] #[_] I28 rfl rfl rfl rfl rfl (Nat.le_of_ble_eq_true rfl) (by simp [Value.oneCell']) rfl gno ?_)
       refine RV.nil (KV.then_n (KV.env [(2, _), (3, _)] ⟨rfl, rfl, trivial⟩ (CV.ret (KV.then_ret ?_))))
       have hpm := hpar.trans (fin_ck hnd (Decidable.not_not.1 hdup) (hinv.2.fin (by omega) htg) hck)
       exact KV.retM2 [_, _, _] 7 rfl rfl rfl Tryz.underlying25 rfl I25 rfl Tryz.underlying28 rfl rfl (fun w h => h.cells 5 rfl) (fun w h => h.cell 6 rfl rfl) _ (fun _ h => Hp.dL0 (h.sel [] rfl)) ⟨dh0, by rw [hpm]; rfl, by rw [hpm]; rfl, rfl⟩
      ·
       refine RV.nil (KV.then_n (KV.env [(2, _), (3, _), (4, _), (15, _), (88, _)] ⟨rfl, rfl, rfl, rfl, rfl, trivial⟩ (CV.cond_f rfl (CV.skip (KV.then_n ?_)))))
       refine KV.env [(2, _), (3, _), (4, _)] ⟨rfl, rfl, rfl, trivial⟩ (CV.seq (CV.region ?_))
       refine RV.s (Step.fieldAddr rfl (F67_0 _ _)) rfl (RV.s (Step.loadN _ Tryz.underlying25 rfl I25 rfl rfl (fun w h => cells_off 0 (us := [.string (bs P.name), .slice P.sA P.ss.length P.sc, .slice P.tA H.length P.tc]) (h.cells 0 rfl) rfl)) rfl ?_)
       refine RV.op (OV.store 5 [_, _, _] #[_, _, _] I25 rfl rfl rfl rfl rfl (Nat.le_of_ble_eq_true rfl) (by simp [Value.oneCell']) rfl gno ?_)
       refine RV.op (OV.store 6 [_] #[_] I28 rfl rfl rfl rfl rfl (Nat.le_of_ble_eq_true rfl) (by simp [Value.oneCell']) rfl gno ?_)
       refine RV.nil (KV.then_n (KV.env [(2, _), (3, _)] ⟨rfl, rfl, trivial⟩ (CV.ret ?_)))
       refine KV.sel [0, 0, 0, 0, 0, 0, 0, 0] [_, _, _, _, _, _, _, _] rfl ?_
       have hpm := hpar.trans (fin_ok hnd (Decidable.not_not.1 hdup) (hinv.2.fin (by omega) htg) (Decidable.not_not.1 hck))
       exact KV.retM2 [_, _, _] 7 rfl rfl rfl Tryz.underlying25 rfl I25 rfl Tryz.underlying28 rfl rfl (fun w h => h.cells 5 rfl) (fun w h => h.cell 6 rfl rfl) _ (fun _ h => by show Hp I w [OS 9 strK P.sA P.sc P.ss, OS 48 thK P.tA P.tc H, Big opA H] _; rw [Big_congr hinv.2.own]; exact h.sel [1, 1, 1] rfl) ⟨⟨P.name, P.sA, P.sc, P.ss, P.tA, P.tc, H⟩, by rw [hpm], by rw [hpm]; rfl, rfl⟩
 ·
  skip
  refine ⟨_, _, 2, fun w h => parse_r h, rfl, (fun h => by cases h), .inr ⟨rfl, ?_⟩⟩
  refine KV.block_ret (KV.then_ret ?_)
  have hpm := parse_none hrun
  exact KV.retM2 [_, _, _] 3 rfl rfl rfl Tryz.underlying25 rfl I25 rfl Tryz.underlying28 rfl rfl (fun w h => h.cells 0 rfl) (fun w h => h.cell 1 rfl rfl) _ (fun _ h => Hp.dL0 (h.sel [] rfl)) ⟨dh0, by rw [hpm]; rfl, by rw [hpm]; rfl, rfl⟩
end Go.Proofs.YtplmfekhdaefaaaGreatDoor
