/-
 Walks, part 20.
-/
import Derived.Test.YtdfkpdcpegcieaaGreatDoorTab20
import Derived.Test.YtdfkpdcpegcieaaGreatDoorW19
import Derived.Test.YtdfkpdcpegcieaaGreatDoorCm
set_option linter.unusedSimpArgs false
set_option linter.unusedVariables false
namespace Go.Proofs.YtdfkpdcpegcieaaGreatDoor
open Go.Sv Go.Perf Go.Ctl
theorem newThE_fn {A : Option Addr} {n c : Nat} {l : List RB} {w : World} (hr : RS w rbK A l) (hn : n = l.length) (hl : l.length ≤ 1000000) (hp0 : ∀ i, i < l.length → (l.getD i rbK.d).rs w) (hsz : ∀ i, i < l.length → (l.getD i rbK.d).ys.length ≤ 1000000 ∧ (l.getD i rbK.d).tr.length ≤ 1000000) {B : Option Addr} {m d : Nat} {M : List HL} (hr2 : RS w hlK B M) (hm : m = M.length) (hl2 : M.length ≤ 1000000) (base lim bud : Int) :
  Fx Tryz.prog 11 [.slice A n c, .slice B m d, .int .i64 base, .int .i64 lim, .int .u64 bud] w [] no (fun v L => (∃ p, v = .tuple #[.pointer p, .int .i64 (erN (NewOk (l.map RB.bd) M base lim bud))] ∧ (p = none ↔ ¬ NewOk (l.map RB.bd) M base lim bud)) ∧ L = []) :=
 (Fx.drop (newThermal_fn hr hn hl hp0 hsz hr2 hm hl2 base lim bud)).mono fun v L ⟨⟨L0, h⟩, hL⟩ => by
  refine ⟨?_, hL⟩
  by_cases hok : NewOk (l.map RB.bd) M base lim bud
  ·
   rw [erN_t hok]
   by_cases h0 : 0 < l.length
   ·
    obtain ⟨t, rfl, _, _⟩ := (h.1 hok).1 h0
    exact ⟨_, rfl, (fun k => by cases k), fun k => absurd hok k⟩
   ·
    obtain ⟨⟨b, rfl⟩, _⟩ := (h.1 hok).2 (by omega)
    exact ⟨_, rfl, (fun k => by cases k), fun k => absurd hok k⟩
  ·
   rw [erN_f hok]
   obtain ⟨rfl, _⟩ := h.2 hok
   exact ⟨_, rfl, fun _ => hok, fun _ => rfl⟩
theorem newThRE_fn {A : Option Addr} {n c : Nat} {l : List RB} {w : World} (hr : RS w rbK A l) (hn : n = l.length) (hl : l.length ≤ 1000000) (hp0 : ∀ i, i < l.length → (l.getD i rbK.d).rs w) (hsz : ∀ i, i < l.length → (l.getD i rbK.d).ys.length ≤ 1000000 ∧ (l.getD i rbK.d).tr.length ≤ 1000000) {B : Option Addr} {m d : Nat} {M : List HL} (hr2 : RS w hlK B M) (hm : m = M.length) (hl2 : M.length ≤ 1000000) (base lim bud : Int) :
  Fx Tryz.prog 12 [.slice A n c, .slice B m d, .int .i64 base, .int .i64 lim, .int .u64 bud] w [] no (fun v L => (∃ p, v = .tuple #[.pointer p, .int .i64 (erN (NewOk (l.map RB.bd) M base lim bud))] ∧ (p = none ↔ ¬ NewOk (l.map RB.bd) M base lim bud)) ∧ L = []) :=
 (Fx.drop (newThermalRef_fn hr hn hl hp0 hsz hr2 hm hl2 base lim bud)).mono fun v L ⟨⟨L0, h⟩, hL⟩ => by
  refine ⟨?_, hL⟩
  by_cases hok : NewOk (l.map RB.bd) M base lim bud
  ·
   rw [erN_t hok]
   obtain ⟨b, rfl⟩ := h.1.1 hok
   exact ⟨_, rfl, (fun k => by cases k), fun k => absurd hok k⟩
  ·
   rw [erN_f hok]
   obtain rfl := h.1.2 hok
   exact ⟨_, rfl, fun _ => hok, fun _ => rfl⟩

set_option maxRecDepth 100000 in
set_option maxHeartbeats 4000000 in
theorem newAgrees_fn {A : Option Addr} {n c : Nat} {l0 : List RB} {w : World} (hr : RS w rbK A l0) (hn : n = l0.length) (hl : l0.length ≤ 9223372036854775807) (hp0 : ∀ i, i < l0.length → (l0.getD i rbK.d).rs w) (hf0 : ∀ i, i < l0.length → fitT (l0.getD i rbK.d).ys) {B : Option Addr} {m d : Nat} {M0 : List HL} (hr2 : RS w hlK B M0) (hm : m = M0.length) (amb lim0 bud : Int) (hb0 : 0 ≤ bud) (hb1 : bud ≤ 18446744073709551615) (k how : Int) : Fx Tryz.prog 3 [.slice A n c, .slice B m d, .int .i64 amb, .int .i64 lim0, .int .u64 bud, .int .i64 k, .int .u8 how] w [] no (fun v L => v = .bool true ∧ L = []) := by
 subst hn
 subst hm
 refine Sv.Fx.body Tryz.func3 rfl T3 rfl ?_
 intro I hro hI
 refine KV.e7 0 1 2 3 4 5 6 (CV.seq (CV.region ?_))
 refine RV.a rfl rfl ?_
 refine RV.nil (KV.then_n (KV.e7 0 1 2 3 4 5 6 (CV.seq (CV.seq (CV.region ?_)))))
 refine RV.m rfl rfl ?_
 refine RV.op (OV.call [] (F := []) Tryz.func9 B9 N9 rfl rfl (fun w h => large_fn (h.rs hr (fun _ => hI _)) rfl hl) (fun _ hb => hb.elim) gno rfl (fun v L' hp => ?_))
 obtain ⟨big, rfl, hsm, rfl⟩ := hp
 simp only [List.append_nil]
 refine RV.m rfl rfl ?_
 refine KV.cases 27 rfl (fun cc1 => ?_) (fun cc1 => ?_)
 ·
  refine RV.k rfl rfl (RV.k rfl rfl (RV.k rfl rfl (RV.s (Step.pick_t rfl rfl) rfl ?_)))
  refine RV.nil (KV.then_n (KV.e8 0 1 2 3 4 5 6 31 (CV.cond_t rfl (CV.seq (CV.region ?_)))))
  refine RV.op (OV.call [] (F := []) Tryz.func10 B10 N10 rfl rfl (fun w h => awake_fn) (fun _ hb => hb.elim) gno rfl (fun v L' hp => ?_))
  obtain ⟨rfl, rfl⟩ := hp
  simp only [List.append_nil]
  refine RV.a rfl rfl ?_
  refine RV.nil (KV.then_n (KV.e1 14 (CV.ret (KV.then_ret ?_))))
  refine KV.sel [] [] rfl ?_
  exact KV.ret1 rfl rfl _ (fun _ h => h) ⟨rfl, rfl⟩
 ·
  have hbig := cc1
  have hs := hsm hbig
  refine RV.gw rfl (Step.move rfl) rfl (RV.gw rfl (Step.lenSl Tryz.underlying23 rfl) rfl ?_)
  refine RV.op (OV.split (gyes rfl) (Step.gtr rfl rfl) rfl (fun cc2 => ?_) (fun cc2 => ?_))
  ·
   refine RV.s (Step.pick_f rfl rfl) rfl ?_
   refine RV.nil (KV.then_n (KV.e8 0 1 2 3 4 5 6 31 (CV.cond_t rfl (CV.seq (CV.region ?_)))))
   refine RV.op (OV.call [] (F := []) Tryz.func10 B10 N10 rfl rfl (fun w h => awake_fn) (fun _ hb => hb.elim) gno rfl (fun v L' hp => ?_))
   obtain ⟨rfl, rfl⟩ := hp
   simp only [List.append_nil]
   refine RV.a rfl rfl ?_
   refine RV.nil (KV.then_n (KV.e1 14 (CV.ret (KV.then_ret ?_))))
   refine KV.sel [] [] rfl ?_
   exact KV.ret1 rfl rfl _ (fun _ h => h) ⟨rfl, rfl⟩
  ·
   refine RV.s (Step.pick_f rfl rfl) rfl ?_
   refine RV.nil (KV.then_n (KV.e8 0 1 2 3 4 5 6 31 (CV.cond_f rfl (CV.skip (KV.then_n ?_)))))
   refine KV.e7 0 1 2 3 4 5 6 (CV.seq (CV.region ?_))
   refine RV.m rfl rfl (RV.m rfl rfl (RV.m rfl rfl (RV.m rfl rfl (RV.m rfl rfl ?_))))
   refine RV.op (OV.call [] (F := []) Tryz.func11 B11 N11 rfl rfl (fun w h => newThE_fn (h.rs hr (fun _ => hI _)) rfl (by have := hs.1; omega) (fun i hi => ⟨h.rs (hp0 i hi).1 (fun _ => hI _), h.rs (hp0 i hi).2 (fun _ => hI _)⟩) (fun i hi => by have := hs.2 i hi; omega) (h.rs hr2 (fun _ => hI _)) rfl (by omega) amb lim0 bud) (fun _ hb => hb.elim) gno rfl (fun v L' hp => ?_))
   obtain ⟨⟨p1, rfl, hp1⟩, rfl⟩ := hp
   simp only [List.append_nil]
   refine RV.m rfl rfl (RV.s (Step.extract0 rfl rfl) rfl (RV.s (Step.extract0 rfl rfl) rfl (RV.a rfl rfl (RV.a rfl rfl ?_))))
   refine RV.nil (KV.then_n (KV.e9 0 1 2 3 4 5 6 15 16 (CV.seq (CV.region ?_))))
   refine RV.m rfl rfl (RV.m rfl rfl (RV.m rfl rfl (RV.m rfl rfl (RV.m rfl rfl ?_))))
   refine RV.op (OV.call [] (F := []) Tryz.func12 B12 N12 rfl rfl (fun w h => newThRE_fn (h.rs hr (fun _ => hI _)) rfl (by have := hs.1; omega) (fun i hi => ⟨h.rs (hp0 i hi).1 (fun _ => hI _), h.rs (hp0 i hi).2 (fun _ => hI _)⟩) (fun i hi => by have := hs.2 i hi; omega) (h.rs hr2 (fun _ => hI _)) rfl (by omega) amb lim0 bud) (fun _ hb => hb.elim) gno rfl (fun v L' hp => ?_))
   obtain ⟨⟨p2, rfl, hp2⟩, rfl⟩ := hp
   simp only [List.append_nil]
   refine RV.m rfl rfl (RV.s (Step.extract0 rfl rfl) rfl (RV.s (Step.extract0 rfl rfl) rfl (RV.a rfl rfl (RV.a rfl rfl ?_))))
   refine RV.nil (KV.then_n (KV.e10 0 1 2 3 4 5 6 15 16 18 (CV.seq (CV.region ?_))))
   refine RV.m rfl rfl (RV.m rfl rfl (RV.m rfl rfl (RV.m rfl rfl (RV.m rfl rfl ?_))))
   refine RV.op (OV.call [] (F := []) Tryz.func13 B13 N13 rfl rfl (fun w h => some44_fn (h.rs hr (fun _ => hI _)) rfl ⟨fun i hi => ⟨h.rs (hp0 i hi).1 (fun _ => hI _), h.rs (hp0 i hi).2 (fun _ => hI _)⟩, hf0, hsm hbig⟩ (h.rs hr2 (fun _ => hI _)) rfl amb lim0 bud hb0 hb1) (fun _ hb => hb.elim) gno rfl (fun v L' hp => ?_))
   obtain ⟨A3, c3, l, B3, d3, M, base, lim, bd, rfl, hcl, rfl⟩ := hp
   have hn1 := hcl.n1
   have hn2 := hcl.n2
   have hs1 := hcl.s1
   have hs2 := hcl.s2
   refine RV.op (OV.alloc #[.slice none 0 0, .slice none 0 0, .int .i64 0, .int .i64 0, .int .u64 0] I35 rfl gno rfl (fun b5_6 => ?_))
   refine RV.op (OV.store 3 [_, _, _, _, _] #[_, _, _, _, _] I35 rfl rfl rfl rfl rfl (Nat.le_of_ble_eq_true rfl) (by simp [Value.oneCell']) rfl gno ?_)
   refine RV.nil (KV.then_n (KV.e7 4 5 6 15 16 18 19 (CV.seq (CV.region ?_))))
   refine RV.m rfl rfl (RV.s (Step.fieldAddr rfl (F35_0 _ _)) rfl (RV.s (Step.load Tryz.underlying22 rfl rfl (fun w h => h.cell 3 rfl rfl)) rfl (RV.s (Step.lenSl Tryz.underlying22 rfl) rfl ?_)))
   refine RV.op (OV.callP Tryz.func14 B14 N14 rfl (mod_fn _ l.length (by omega) (by omega)) gno rfl ?_)
   obtain ⟨ix, hix, hixl⟩ := modNat k (n := l.length) hcl.n1
   rw [hix]
   refine RV.a rfl rfl ?_
   refine RV.nil (KV.then_n (KV.e8 4 5 6 15 16 18 19 20 ?_))
   refine CV.join (fun (z : CMg) => [(15, .pointer p1), (16, .int .i64 (erN (NewOk (l0.map RB.bd) M0 amb lim0 bud))), (18, .int .i64 (erN (NewOk (l0.map RB.bd) M0 amb lim0 bud))), (19, .pointer (some ⟨b5_6, 0, none⟩))]) (fun (z : CMg) => (fun w9 => CmOk A3 l B3 M z ∧ Hp I w [Blk b5_6 (.cells #[.slice z.A z.l.length z.c, .slice z.B z.mn z.d, .int .i64 z.base, .int .i64 z.lim, .int .u64 z.bud] 35 (0, 0)), OS 45 rbK A3 c3 z.l1, Big rF l, OS 195 hlK B3 d3 M] w9)) ?_ ?_
   ·
    skip
    refine CV.seq (CV.region ?_)
    refine RV.m rfl rfl ?_
    refine RV.s (Step.rem rfl rfl (by omega) (rfl)) rfl ?_
    refine RV.nil (KV.then_n (KV.e8 4 5 15 16 18 19 20 63 (CV.block (CV.seq (CV.region ?_)))))
    refine RV.op (OV.split gno (Step.eql rfl rfl) rfl (fun cc3 => ?_) (fun cc3 => ?_))
    ·
     refine RV.a rfl rfl ?_
     refine RV.nil (KV.then_n (KV.e9 4 5 15 16 18 19 20 63 64 (CV.cond_t rfl (CV.region ?_))))
     refine RV.s (Step.fieldAddr rfl (F35_2 _ _)) rfl (RV.s (Step.load Tryz.underlying2 rfl rfl (fun w h => h.cell 3 rfl rfl)) rfl (RV.s (Step.sub rfl rfl (rfl)) rfl (RV.s (Step.fieldAddr rfl (F35_3 _ _)) rfl ?_)))
     refine RV.op (OV.store 3 [_] #[_, _, _, _, _] I2 rfl rfl rfl rfl rfl (Nat.le_of_ble_eq_true rfl) (by simp [Value.oneCell']) rfl gno ?_)
     refine RV.nil (KV.block_n (KV.then_n (KV.e4 15 16 18 19 ?_)))
     refine KV.sel [3, 0, 0, 0] [_, _, _, _] rfl ?_
     (first | exact KV.join (zS l A3 c3 M B3 d3 base _ _) ⟨rfl, rfl, rfl, rfl, trivial⟩ (fun _ h => ⟨CmOk.same hcl, h⟩) | exact KV.join (zS (l.set ix (xUp (l.getD ix rbK.d) k)) A3 c3 M B3 d3 base lim bd) ⟨rfl, rfl, rfl, rfl, trivial⟩ (fun _ h => ⟨CmOk.set0 hcl hixl (fun _ k => k) rfl rfl, by simp only [List.length_set]; exact h⟩) | exact KV.join (zS (l.set ix (xPt (l.getD ix rbK.d))) A3 c3 M B3 d3 base lim bd) ⟨rfl, rfl, rfl, rfl, trivial⟩ (fun _ h => ⟨CmOk.set hcl hixl (fun _ k => ⟨.inl rfl, k.2⟩) (Nat.zero_le _) (cl_sz hcl hixl).2, by simp only [List.length_set]; exact h⟩) | exact KV.join (zS (l.set ix (xCp (l.getD ix rbK.d) k)) A3 c3 M B3 d3 base lim bd) ⟨rfl, rfl, rfl, rfl, trivial⟩ (fun _ h => ⟨CmOk.set0 hcl hixl (fun _ k => k) rfl rfl, by simp only [List.length_set]; exact h⟩) | exact KV.join (⟨l, [], none, 0, M.take q, q, B3, d3, base, lim, bd⟩) ⟨rfl, rfl, rfl, rfl, trivial⟩ (fun _ h => ⟨CmOk.none hcl hql, h⟩))
    ·
     refine RV.a rfl rfl ?_
     refine RV.nil (KV.then_n (KV.e9 4 5 15 16 18 19 20 63 64 (CV.cond_f rfl (CV.seq (CV.region ?_)))))
     refine RV.op (OV.split gno (Step.eql rfl rfl) rfl (fun cc4 => ?_) (fun cc4 => ?_))
     ·
      refine RV.a rfl rfl ?_
      refine RV.nil (KV.then_n (KV.e9 4 5 15 16 18 19 20 63 70 (CV.cond_t rfl (CV.region ?_))))
      refine RV.m rfl rfl ?_
      refine RV.s (Step.rem rfl rfl (by omega) (rfl)) rfl ?_
      refine RV.s (Step.sub rfl rfl (rfl)) rfl (RV.s (Step.fieldAddr rfl (F35_4 _ _)) rfl ?_)
      refine RV.op (OV.store 3 [_] #[_, _, _, _, _] I24 rfl rfl rfl rfl rfl (Nat.le_of_ble_eq_true rfl) (by simp [Value.oneCell']) rfl gno ?_)
      refine RV.nil (KV.block_n (KV.then_n (KV.e4 15 16 18 19 ?_)))
      refine KV.sel [3, 0, 0, 0] [_, _, _, _] rfl ?_
      (first | exact KV.join (zS l A3 c3 M B3 d3 base _ _) ⟨rfl, rfl, rfl, rfl, trivial⟩ (fun _ h => ⟨CmOk.same hcl, h⟩) | exact KV.join (zS (l.set ix (xUp (l.getD ix rbK.d) k)) A3 c3 M B3 d3 base lim bd) ⟨rfl, rfl, rfl, rfl, trivial⟩ (fun _ h => ⟨CmOk.set0 hcl hixl (fun _ k => k) rfl rfl, by simp only [List.length_set]; exact h⟩) | exact KV.join (zS (l.set ix (xPt (l.getD ix rbK.d))) A3 c3 M B3 d3 base lim bd) ⟨rfl, rfl, rfl, rfl, trivial⟩ (fun _ h => ⟨CmOk.set hcl hixl (fun _ k => ⟨.inl rfl, k.2⟩) (Nat.zero_le _) (cl_sz hcl hixl).2, by simp only [List.length_set]; exact h⟩) | exact KV.join (zS (l.set ix (xCp (l.getD ix rbK.d) k)) A3 c3 M B3 d3 base lim bd) ⟨rfl, rfl, rfl, rfl, trivial⟩ (fun _ h => ⟨CmOk.set0 hcl hixl (fun _ k => k) rfl rfl, by simp only [List.length_set]; exact h⟩) | exact KV.join (⟨l, [], none, 0, M.take q, q, B3, d3, base, lim, bd⟩) ⟨rfl, rfl, rfl, rfl, trivial⟩ (fun _ h => ⟨CmOk.none hcl hql, h⟩))
     ·
      refine RV.a rfl rfl ?_
      refine RV.nil (KV.then_n (KV.e9 4 5 15 16 18 19 20 63 70 (CV.cond_f rfl (CV.seq (CV.region ?_)))))
      refine RV.op (OV.split gno (Step.eql rfl rfl) rfl (fun cc5 => ?_) (fun cc5 => ?_))
      ·
       refine RV.a rfl rfl ?_
       refine RV.nil (KV.then_n (KV.e8 5 15 16 18 19 20 63 76 (CV.cond_t rfl ?_)))
       refine CV.stillTail 6 (by kernel_rfl) (by kernel_rfl) (fun _ h => h.drew) ?_
       refine SV.step gno (Step.fieldAddr rfl (F35_0 _ _)) rfl ?_
       refine SV.step gno (Step.load Tryz.underlying22 rfl rfl (fun w h => h.cell 3 rfl rfl)) rfl ?_
       refine SV.step gno (Step.move rfl) rfl ?_
       refine SV.step gno (Step.move rfl) rfl ?_
       refine SV.call Tryz.func14 B14 N14 rfl (mod_fn _ 104 (by omega) (by omega)) gno rfl ?_
       refine SV.step gno (Step.sub rfl rfl (rfl)) rfl ?_
       refine SV.nil ?_
       show KV _ (wpList _ _ _ _) _ _
       refine RV.s (Step.idx Tryz.underlying22 I45 (fun w h => h.os 0 rfl) rfl rfl (rfl) _ rfl (by omega)) rfl ?_
       refine RV.s (Step.fieldAddr rfl (F45_2 _ _)) rfl (RV.s (Step.fieldAddr rfl (F39_0 _ _)) rfl ?_)
       refine RV.op (OV.storeE 0 (ix) ((xUp (l.getD ix rbK.d) k)) (j := 3) [_] I3 rfl rfl rfl rfl rfl rfl (by omega) rfl (Nat.le_of_ble_eq_true rfl) gno ?_)
       refine RV.nil (KV.block_n (KV.then_n (KV.e4 15 16 18 19 ?_)))
       refine KV.sel [3, 0, 0, 0] [_, _, _, _] rfl ?_
       (first | exact KV.join (zS l A3 c3 M B3 d3 base _ _) ⟨rfl, rfl, rfl, rfl, trivial⟩ (fun _ h => ⟨CmOk.same hcl, h⟩) | exact KV.join (zS (l.set ix (xUp (l.getD ix rbK.d) k)) A3 c3 M B3 d3 base lim bd) ⟨rfl, rfl, rfl, rfl, trivial⟩ (fun _ h => ⟨CmOk.set0 hcl hixl (fun _ k => k) rfl rfl, by simp only [List.length_set]; exact h⟩) | exact KV.join (zS (l.set ix (xPt (l.getD ix rbK.d))) A3 c3 M B3 d3 base lim bd) ⟨rfl, rfl, rfl, rfl, trivial⟩ (fun _ h => ⟨CmOk.set hcl hixl (fun _ k => ⟨.inl rfl, k.2⟩) (Nat.zero_le _) (cl_sz hcl hixl).2, by simp only [List.length_set]; exact h⟩) | exact KV.join (zS (l.set ix (xCp (l.getD ix rbK.d) k)) A3 c3 M B3 d3 base lim bd) ⟨rfl, rfl, rfl, rfl, trivial⟩ (fun _ h => ⟨CmOk.set0 hcl hixl (fun _ k => k) rfl rfl, by simp only [List.length_set]; exact h⟩) | exact KV.join (⟨l, [], none, 0, M.take q, q, B3, d3, base, lim, bd⟩) ⟨rfl, rfl, rfl, rfl, trivial⟩ (fun _ h => ⟨CmOk.none hcl hql, h⟩))
      ·
       refine RV.a rfl rfl ?_
       refine RV.nil (KV.then_n (KV.e8 5 15 16 18 19 20 63 76 (CV.cond_f rfl (CV.seq (CV.region ?_)))))
       refine RV.op (OV.split gno (Step.eql rfl rfl) rfl (fun cc6 => ?_) (fun cc6 => ?_))
       ·
        refine RV.a rfl rfl ?_
        refine RV.nil (KV.then_n (KV.e8 5 15 16 18 19 20 63 87 (CV.cond_t rfl (CV.region ?_))))
        refine RV.s (Step.fieldAddr rfl (F35_0 _ _)) rfl (RV.s (Step.load Tryz.underlying22 rfl rfl (fun w h => h.cell 3 rfl rfl)) rfl (RV.m rfl rfl ?_))
        refine RV.s (Step.idx Tryz.underlying22 I45 (fun w h => h.os 0 rfl) rfl rfl (rfl) _ rfl (by omega)) rfl ?_
        refine RV.s (Step.fieldAddr rfl (F45_1 _ _)) rfl ?_
        refine RV.op (OV.storeE 0 (ix) ((xPt (l.getD ix rbK.d))) (j := 2) [_] I42 rfl rfl rfl rfl rfl rfl (by omega) rfl (Nat.le_of_ble_eq_true rfl) gno ?_)
        refine RV.nil (KV.block_n (KV.then_n (KV.e4 15 16 18 19 ?_)))
        refine KV.sel [3, 0, 0, 0] [_, _, _, _] rfl ?_
        (first | exact KV.join (zS l A3 c3 M B3 d3 base _ _) ⟨rfl, rfl, rfl, rfl, trivial⟩ (fun _ h => ⟨CmOk.same hcl, h⟩) | exact KV.join (zS (l.set ix (xUp (l.getD ix rbK.d) k)) A3 c3 M B3 d3 base lim bd) ⟨rfl, rfl, rfl, rfl, trivial⟩ (fun _ h => ⟨CmOk.set0 hcl hixl (fun _ k => k) rfl rfl, by simp only [List.length_set]; exact h⟩) | exact KV.join (zS (l.set ix (xPt (l.getD ix rbK.d))) A3 c3 M B3 d3 base lim bd) ⟨rfl, rfl, rfl, rfl, trivial⟩ (fun _ h => ⟨CmOk.set hcl hixl (fun _ k => ⟨.inl rfl, k.2⟩) (Nat.zero_le _) (cl_sz hcl hixl).2, by simp only [List.length_set]; exact h⟩) | exact KV.join (zS (l.set ix (xCp (l.getD ix rbK.d) k)) A3 c3 M B3 d3 base lim bd) ⟨rfl, rfl, rfl, rfl, trivial⟩ (fun _ h => ⟨CmOk.set0 hcl hixl (fun _ k => k) rfl rfl, by simp only [List.length_set]; exact h⟩) | exact KV.join (⟨l, [], none, 0, M.take q, q, B3, d3, base, lim, bd⟩) ⟨rfl, rfl, rfl, rfl, trivial⟩ (fun _ h => ⟨CmOk.none hcl hql, h⟩))
       ·
        refine RV.a rfl rfl ?_
        refine RV.nil (KV.then_n (KV.e8 5 15 16 18 19 20 63 87 (CV.cond_f rfl (CV.seq (CV.region ?_)))))
        refine RV.op (OV.split gno (Step.eql rfl rfl) rfl (fun cc7 => ?_) (fun cc7 => ?_))
        ·
         refine RV.a rfl rfl ?_
         refine RV.nil (KV.then_n (KV.e8 5 15 16 18 19 20 63 94 (CV.cond_t rfl ?_)))
         refine CV.stillTail 15 (by kernel_rfl) (by kernel_rfl) (fun _ h => h.drew) ?_
         refine SV.step gno (Step.fieldAddr rfl (F35_0 _ _)) rfl ?_
         refine SV.step gno (Step.load Tryz.underlying22 rfl rfl (fun w h => h.cell 3 rfl rfl)) rfl ?_
         refine SV.step gno (Step.move rfl) rfl ?_
         refine SV.step gno (Step.fieldAddr rfl (F35_0 _ _)) rfl ?_
         refine SV.step gno (Step.load Tryz.underlying22 rfl rfl (fun w h => h.cell 3 rfl rfl)) rfl ?_
         refine SV.step gno (Step.move rfl) rfl ?_
         refine SV.step gno (Step.idx Tryz.underlying22 I45 (fun w h => h.os 0 rfl) rfl rfl (rfl) _ rfl (by omega)) rfl ?_
         refine SV.step gno (Step.fieldAddr rfl (F45_0 _ _)) rfl ?_
         refine SV.step gno (Step.fieldAddr rfl (F41_0 _ _)) rfl ?_
         refine SV.step gno (Step.load Tryz.underlying2 rfl rfl (fun w h => (h.os 0 rfl).cell0 (by omega) rfl)) rfl ?_
         refine SV.step gno (Step.move rfl) rfl ?_
         refine SV.step gno (Step.convI Tryz.underlying3 Tryz.underlying24 rfl (rfl)) rfl ?_
         refine SV.step gno (Step.rem rfl rfl (by omega) (rfl)) rfl ?_
         refine SV.step gno (Step.convI Tryz.underlying24 Tryz.underlying2 rfl (rfl)) rfl ?_
         refine SV.step gno (Step.sub rfl rfl (rfl)) rfl ?_
         refine SV.nil ?_
         show KV _ (wpList _ _ _ _) _ _
         refine RV.s (Step.idx Tryz.underlying22 I45 (fun w h => h.os 0 rfl) rfl rfl (rfl) _ rfl (by omega)) rfl ?_
         refine RV.s (Step.fieldAddr rfl (F45_0 _ _)) rfl (RV.s (Step.fieldAddr rfl (F41_0 _ _)) rfl ?_)
         refine RV.op (OV.storeE 0 (ix) ((xCp (l.getD ix rbK.d) k)) (j := 0) [_] I2 rfl rfl rfl rfl rfl rfl (by omega) rfl (Nat.le_of_ble_eq_true rfl) gno ?_)
         refine RV.nil (KV.block_n (KV.then_n (KV.e4 15 16 18 19 ?_)))
         refine KV.sel [3, 0, 0, 0] [_, _, _, _] rfl ?_
         (first | exact KV.join (zS l A3 c3 M B3 d3 base _ _) ⟨rfl, rfl, rfl, rfl, trivial⟩ (fun _ h => ⟨CmOk.same hcl, h⟩) | exact KV.join (zS (l.set ix (xUp (l.getD ix rbK.d) k)) A3 c3 M B3 d3 base lim bd) ⟨rfl, rfl, rfl, rfl, trivial⟩ (fun _ h => ⟨CmOk.set0 hcl hixl (fun _ k => k) rfl rfl, by simp only [List.length_set]; exact h⟩) | exact KV.join (zS (l.set ix (xPt (l.getD ix rbK.d))) A3 c3 M B3 d3 base lim bd) ⟨rfl, rfl, rfl, rfl, trivial⟩ (fun _ h => ⟨CmOk.set hcl hixl (fun _ k => ⟨.inl rfl, k.2⟩) (Nat.zero_le _) (cl_sz hcl hixl).2, by simp only [List.length_set]; exact h⟩) | exact KV.join (zS (l.set ix (xCp (l.getD ix rbK.d) k)) A3 c3 M B3 d3 base lim bd) ⟨rfl, rfl, rfl, rfl, trivial⟩ (fun _ h => ⟨CmOk.set0 hcl hixl (fun _ k => k) rfl rfl, by simp only [List.length_set]; exact h⟩) | exact KV.join (⟨l, [], none, 0, M.take q, q, B3, d3, base, lim, bd⟩) ⟨rfl, rfl, rfl, rfl, trivial⟩ (fun _ h => ⟨CmOk.none hcl hql, h⟩))
        ·
         refine RV.a rfl rfl ?_
         refine RV.nil (KV.then_n (KV.e8 5 15 16 18 19 20 63 94 (CV.cond_f rfl (CV.seq (CV.region ?_)))))
         refine RV.op (OV.split gno (Step.eql rfl rfl) rfl (fun cc8 => ?_) (fun cc8 => ?_))
         ·
          refine RV.a rfl rfl ?_
          refine RV.nil (KV.then_n (KV.e6 5 15 16 18 19 114 (CV.cond_t rfl ?_)))
          refine KV.have (fun _ h => h.osCap 2 rfl) fun hcap => ?_
          refine CV.anyC (Hp I w [Blk b5_6 (.cells #[.slice A3 l.length c3, .slice B3 M.length d3, .int .i64 base, .int .i64 lim, .int .u64 bd] 35 (0, 0))]) 9 (by kernel_rfl) (fun _ h => h.drew) 13 rfl ?_
          refine AC.u 0 (bl 13 1) gno (Step.fieldAddr rfl (F35_1 _ _)) rfl (fun _ h => h.sel [3] rfl) ?_
          refine AC.u 1 (bl 13 3) gno (Step.load Tryz.underlying23 rfl rfl (fun w h => h.cell 0 rfl rfl)) rfl (fun _ h => h.sel [3] rfl) ?_
          refine AC.u 2 (bl 13 7) gno (Step.fieldAddr rfl (F35_1 _ _)) rfl (fun _ h => h.sel [3] rfl) ?_
          refine AC.u 3 (bl 13 15) gno (Step.load Tryz.underlying23 rfl rfl (fun w h => h.cell 0 rfl rfl)) rfl (fun _ h => h.sel [3] rfl) ?_
          refine AC.takeT 4 (bl 13 31) rfl (by kernel_rfl) (by kernel_rfl) (by kernel_rfl) (by kernel_rfl) (fun _ _ _ h => h) gno (Step.lenSl Tryz.underlying23 rfl) rfl (fun _ h => h.sel [3] rfl) (by kernel_rfl) ?_
          refine AC.takeT 5 (bl 13 63) rfl (by kernel_rfl) (by kernel_rfl) (by kernel_rfl) (by kernel_rfl) (fun _ _ _ h => h) gno (Step.move rfl) rfl (fun _ h => h.sel [3] rfl) (by kernel_rfl) ?_
          refine AC.all [6, 9] (by kernel_rfl) (by decide) ?_
          refine ⟨⟨_, rfl, ?_⟩, ⟨⟨_, rfl, ?_⟩, trivial⟩⟩
          ·
           refine OV.callP Tryz.func14 B14 N14 rfl (mod_fn _ 2 (by omega) (by omega)) gno rfl ?_
           refine AC.next (bl 13 127) (by kernel_rfl) (.inr (fun _ h => h.sel [3] rfl)) ?_
           refine AC.takeT 7 (bl 13 255) rfl (by kernel_rfl) (by kernel_rfl) (by kernel_rfl) (by kernel_rfl) (fun _ _ _ h => h) gno (Step.min2 rfl rfl) rfl (fun _ h => h.sel [3] rfl) (by kernel_rfl) ?_
           have hm2 := modM_lt k (n := 2) (by omega)
           obtain ⟨q, hq, hql⟩ : ∃ q : Nat, min (M.length : Int) (modM k 2) = q ∧ q ≤ M.length := ⟨(min (M.length : Int) (modM k 2)).toNat, by omega, by omega⟩
           rw [hq]
           refine AC.takeT 8 (bl 13 511) rfl (by kernel_rfl) (by kernel_rfl) (by kernel_rfl) (by kernel_rfl) (fun _ _ _ h => h) gno (Step.sliceHi Tryz.underlying23 I195 rfl rfl (q) (rfl) (by have := hcap.1; omega)) rfl (fun _ h => h.sel [3] rfl) (by kernel_rfl) ?_
           refine AC.all [9] (by kernel_rfl) (by decide) ?_
           refine ⟨⟨_, rfl, ?_⟩, trivial⟩
           ·
            refine OV.step gno (Step.fieldAddr rfl (F35_0 _ _)) rfl ?_
            refine AC.next (bl 13 1023) (by kernel_rfl) (.inl (by kernel_rfl)) ?_
            refine AC.all [10] (by kernel_rfl) (by decide) ?_
            refine ⟨⟨_, rfl, ?_⟩, trivial⟩
            ·
             refine OV.store 3 [_] #[_, _, _, _, _] I22 rfl rfl rfl rfl rfl (Nat.le_of_ble_eq_true rfl) (by simp [Value.oneCell']) rfl gno ?_
             refine AC.next (bl 13 2047) (by kernel_rfl) (.inl (by kernel_rfl)) ?_
             refine AC.all [11] (by kernel_rfl) (by decide) ?_
             refine ⟨⟨_, rfl, ?_⟩, trivial⟩
             ·
              refine OV.step gno (Step.fieldAddr rfl (F35_1 _ _)) rfl ?_
              refine AC.next (bl 13 4095) (by kernel_rfl) (.inl (by kernel_rfl)) ?_
              refine AC.all [12] (by kernel_rfl) (by decide) ?_
              refine ⟨⟨_, rfl, ?_⟩, trivial⟩
              ·
               refine OV.store 3 [_] #[_, _, _, _, _] I23 rfl rfl rfl rfl rfl (Nat.le_of_ble_eq_true rfl) (by simp [Value.oneCell']) rfl gno ?_
               refine AC.next (bl 13 8191) (by kernel_rfl) (.inl (by kernel_rfl)) ?_
               refine AC.done (by kernel_rfl) ?_
               refine KV.block_n (KV.then_n (KV.e4 15 16 18 19 ?_))
               refine KV.sel [3, 0, 0, 0] [_, _, _, _] rfl ?_
               (first | exact KV.join (zS l A3 c3 M B3 d3 base _ _) ⟨rfl, rfl, rfl, rfl, trivial⟩ (fun _ h => ⟨CmOk.same hcl, h⟩) | exact KV.join (zS (l.set ix (xUp (l.getD ix rbK.d) k)) A3 c3 M B3 d3 base lim bd) ⟨rfl, rfl, rfl, rfl, trivial⟩ (fun _ h => ⟨CmOk.set0 hcl hixl (fun _ k => k) rfl rfl, by simp only [List.length_set]; exact h⟩) | exact KV.join (zS (l.set ix (xPt (l.getD ix rbK.d))) A3 c3 M B3 d3 base lim bd) ⟨rfl, rfl, rfl, rfl, trivial⟩ (fun _ h => ⟨CmOk.set hcl hixl (fun _ k => ⟨.inl rfl, k.2⟩) (Nat.zero_le _) (cl_sz hcl hixl).2, by simp only [List.length_set]; exact h⟩) | exact KV.join (zS (l.set ix (xCp (l.getD ix rbK.d) k)) A3 c3 M B3 d3 base lim bd) ⟨rfl, rfl, rfl, rfl, trivial⟩ (fun _ h => ⟨CmOk.set0 hcl hixl (fun _ k => k) rfl rfl, by simp only [List.length_set]; exact h⟩) | exact KV.join (⟨l, [], none, 0, M.take q, q, B3, d3, base, lim, bd⟩) ⟨rfl, rfl, rfl, rfl, trivial⟩ (fun _ h => ⟨CmOk.none hcl hql, h⟩))
          ·
           refine OV.step gno (Step.fieldAddr rfl (F35_0 _ _)) rfl ?_
           refine AC.next (bl 13 575) (by kernel_rfl) (.inl (by kernel_rfl)) ?_
           refine AC.all [6] (by kernel_rfl) (by decide) ?_
           refine ⟨⟨_, rfl, ?_⟩, trivial⟩
           ·
            refine OV.callP Tryz.func14 B14 N14 rfl (mod_fn _ 2 (by omega) (by omega)) gno rfl ?_
            refine AC.next (bl 13 639) (by kernel_rfl) (.inl (by kernel_rfl)) ?_
            refine AC.takeT 7 (bl 13 767) rfl (by kernel_rfl) (by kernel_rfl) (by kernel_rfl) (by kernel_rfl) (fun _ _ _ h => h) gno (Step.min2 rfl rfl) rfl (fun _ h => h.sel [3] rfl) (by kernel_rfl) ?_
            have hm2 := modM_lt k (n := 2) (by omega)
            obtain ⟨q, hq, hql⟩ : ∃ q : Nat, min (M.length : Int) (modM k 2) = q ∧ q ≤ M.length := ⟨(min (M.length : Int) (modM k 2)).toNat, by omega, by omega⟩
            rw [hq]
            refine AC.takeT 8 (bl 13 1023) rfl (by kernel_rfl) (by kernel_rfl) (by kernel_rfl) (by kernel_rfl) (fun _ _ _ h => h) gno (Step.sliceHi Tryz.underlying23 I195 rfl rfl (q) (rfl) (by have := hcap.1; omega)) rfl (fun _ h => h.sel [3] rfl) (by kernel_rfl) ?_
            refine AC.all [10] (by kernel_rfl) (by decide) ?_
            refine ⟨⟨_, rfl, ?_⟩, trivial⟩
            ·
             refine OV.store 3 [_] #[_, _, _, _, _] I22 rfl rfl rfl rfl rfl (Nat.le_of_ble_eq_true rfl) (by simp [Value.oneCell']) rfl gno ?_
             refine AC.next (bl 13 2047) (by kernel_rfl) (.inl (by kernel_rfl)) ?_
             refine AC.all [11] (by kernel_rfl) (by decide) ?_
             refine ⟨⟨_, rfl, ?_⟩, trivial⟩
             ·
              refine OV.step gno (Step.fieldAddr rfl (F35_1 _ _)) rfl ?_
              refine AC.next (bl 13 4095) (by kernel_rfl) (.inl (by kernel_rfl)) ?_
              refine AC.all [12] (by kernel_rfl) (by decide) ?_
              refine ⟨⟨_, rfl, ?_⟩, trivial⟩
              ·
               refine OV.store 3 [_] #[_, _, _, _, _] I23 rfl rfl rfl rfl rfl (Nat.le_of_ble_eq_true rfl) (by simp [Value.oneCell']) rfl gno ?_
               refine AC.next (bl 13 8191) (by kernel_rfl) (.inl (by kernel_rfl)) ?_
               refine AC.done (by kernel_rfl) ?_
               refine KV.block_n (KV.then_n (KV.e4 15 16 18 19 ?_))
               refine KV.sel [3, 0, 0, 0] [_, _, _, _] rfl ?_
               (first | exact KV.join (zS l A3 c3 M B3 d3 base _ _) ⟨rfl, rfl, rfl, rfl, trivial⟩ (fun _ h => ⟨CmOk.same hcl, h⟩) | exact KV.join (zS (l.set ix (xUp (l.getD ix rbK.d) k)) A3 c3 M B3 d3 base lim bd) ⟨rfl, rfl, rfl, rfl, trivial⟩ (fun _ h => ⟨CmOk.set0 hcl hixl (fun _ k => k) rfl rfl, by simp only [List.length_set]; exact h⟩) | exact KV.join (zS (l.set ix (xPt (l.getD ix rbK.d))) A3 c3 M B3 d3 base lim bd) ⟨rfl, rfl, rfl, rfl, trivial⟩ (fun _ h => ⟨CmOk.set hcl hixl (fun _ k => ⟨.inl rfl, k.2⟩) (Nat.zero_le _) (cl_sz hcl hixl).2, by simp only [List.length_set]; exact h⟩) | exact KV.join (zS (l.set ix (xCp (l.getD ix rbK.d) k)) A3 c3 M B3 d3 base lim bd) ⟨rfl, rfl, rfl, rfl, trivial⟩ (fun _ h => ⟨CmOk.set0 hcl hixl (fun _ k => k) rfl rfl, by simp only [List.length_set]; exact h⟩) | exact KV.join (⟨l, [], none, 0, M.take q, q, B3, d3, base, lim, bd⟩) ⟨rfl, rfl, rfl, rfl, trivial⟩ (fun _ h => ⟨CmOk.none hcl hql, h⟩))
         ·
          refine RV.a rfl rfl ?_
          refine RV.nil (KV.then_n (KV.e6 5 15 16 18 19 114 (CV.cond_f rfl (CV.skip (KV.block_n ?_)))))
          refine KV.then_n (KV.e4 15 16 18 19 ?_)
          refine KV.sel [3, 0, 0, 0] [_, _, _, _] rfl ?_
          (first | exact KV.join (zS l A3 c3 M B3 d3 base _ _) ⟨rfl, rfl, rfl, rfl, trivial⟩ (fun _ h => ⟨CmOk.same hcl, h⟩) | exact KV.join (zS (l.set ix (xUp (l.getD ix rbK.d) k)) A3 c3 M B3 d3 base lim bd) ⟨rfl, rfl, rfl, rfl, trivial⟩ (fun _ h => ⟨CmOk.set0 hcl hixl (fun _ k => k) rfl rfl, by simp only [List.length_set]; exact h⟩) | exact KV.join (zS (l.set ix (xPt (l.getD ix rbK.d))) A3 c3 M B3 d3 base lim bd) ⟨rfl, rfl, rfl, rfl, trivial⟩ (fun _ h => ⟨CmOk.set hcl hixl (fun _ k => ⟨.inl rfl, k.2⟩) (Nat.zero_le _) (cl_sz hcl hixl).2, by simp only [List.length_set]; exact h⟩) | exact KV.join (zS (l.set ix (xCp (l.getD ix rbK.d) k)) A3 c3 M B3 d3 base lim bd) ⟨rfl, rfl, rfl, rfl, trivial⟩ (fun _ h => ⟨CmOk.set0 hcl hixl (fun _ k => k) rfl rfl, by simp only [List.length_set]; exact h⟩) | exact KV.join (⟨l, [], none, 0, M.take q, q, B3, d3, base, lim, bd⟩) ⟨rfl, rfl, rfl, rfl, trivial⟩ (fun _ h => ⟨CmOk.none hcl hql, h⟩))
   ·
    intro z
    refine KV.have (fun _ h => h.1) fun hz => ?_
    refine KV.heap (fun _ h => h.2) ?_
    refine CV.seq (CV.region ?_)
    refine RV.s (Step.fieldAddr rfl (F35_0 _ _)) rfl (RV.s (Step.load Tryz.underlying22 rfl rfl (fun w h => h.cell 0 rfl rfl)) rfl (RV.s (Step.fieldAddr rfl (F35_1 _ _)) rfl (RV.s (Step.load Tryz.underlying23 rfl rfl (fun w h => h.cell 0 rfl rfl)) rfl (RV.s (Step.fieldAddr rfl (F35_2 _ _)) rfl (RV.s (Step.load Tryz.underlying2 rfl rfl (fun w h => h.cell 0 rfl rfl)) rfl (RV.s (Step.fieldAddr rfl (F35_3 _ _)) rfl (RV.s (Step.load Tryz.underlying2 rfl rfl (fun w h => h.cell 0 rfl rfl)) rfl ?_)))))))
    refine RV.s (Step.fieldAddr rfl (F35_4 _ _)) rfl (RV.s (Step.load Tryz.underlying24 rfl rfl (fun w h => h.cell 0 rfl rfl)) rfl ?_)
    refine RV.op (OV.call [] (F := [_, _, _, _]) Tryz.func11 B11 N11 rfl rfl (fun w h => newThE_fn (hz.rd _ (h.os 1 rfl) (fun i hi => h.bigOS (G := fun (r : RB) w => r.rs w) rbK.d (k := 2) rfl (m := i) hi fun _ _ hs => rF.rs hs)).1 rfl (by have := hz.n; omega) (hz.rd _ (h.os 1 rfl) (fun i hi => h.bigOS (G := fun (r : RB) w => r.rs w) rbK.d (k := 2) rfl (m := i) hi fun _ _ hs => rF.rs hs)).2 hz.sz (hz.rm _ (h.os 3 rfl)) hz.m (by have := hz.m2; omega) z.base z.lim z.bud) (fun _ hb => hb.elim) gno rfl (fun v L' hp => ?_))
    obtain ⟨⟨p3, rfl, hp3⟩, rfl⟩ := hp
    simp only [List.append_nil]
    refine RV.m rfl rfl (RV.s (Step.extract0 rfl rfl) rfl (RV.s (Step.extract0 rfl rfl) rfl (RV.a rfl rfl (RV.a rfl rfl ?_))))
    refine RV.nil (KV.then_n (KV.e6 15 16 18 19 21 22 (CV.seq (CV.region ?_))))
    refine RV.s (Step.fieldAddr rfl (F35_0 _ _)) rfl (RV.s (Step.load Tryz.underlying22 rfl rfl (fun w h => h.cell 0 rfl rfl)) rfl (RV.s (Step.fieldAddr rfl (F35_1 _ _)) rfl (RV.s (Step.load Tryz.underlying23 rfl rfl (fun w h => h.cell 0 rfl rfl)) rfl (RV.s (Step.fieldAddr rfl (F35_2 _ _)) rfl (RV.s (Step.load Tryz.underlying2 rfl rfl (fun w h => h.cell 0 rfl rfl)) rfl (RV.s (Step.fieldAddr rfl (F35_3 _ _)) rfl (RV.s (Step.load Tryz.underlying2 rfl rfl (fun w h => h.cell 0 rfl rfl)) rfl ?_)))))))
    refine RV.s (Step.fieldAddr rfl (F35_4 _ _)) rfl (RV.s (Step.load Tryz.underlying24 rfl rfl (fun w h => h.cell 0 rfl rfl)) rfl ?_)
    refine RV.op (OV.call [] (F := [_, _, _, _]) Tryz.func12 B12 N12 rfl rfl (fun w h => newThRE_fn (hz.rd _ (h.os 1 rfl) (fun i hi => h.bigOS (G := fun (r : RB) w => r.rs w) rbK.d (k := 2) rfl (m := i) hi fun _ _ hs => rF.rs hs)).1 rfl (by have := hz.n; omega) (hz.rd _ (h.os 1 rfl) (fun i hi => h.bigOS (G := fun (r : RB) w => r.rs w) rbK.d (k := 2) rfl (m := i) hi fun _ _ hs => rF.rs hs)).2 hz.sz (hz.rm _ (h.os 3 rfl)) hz.m (by have := hz.m2; omega) z.base z.lim z.bud) (fun _ hb => hb.elim) gno rfl (fun v L' hp => ?_))
    obtain ⟨⟨p4, rfl, hp4⟩, rfl⟩ := hp
    simp only [List.append_nil]
    refine RV.m rfl rfl (RV.s (Step.extract0 rfl rfl) rfl (RV.s (Step.extract0 rfl rfl) rfl (RV.a rfl rfl (RV.a rfl rfl ?_))))
    refine RV.nil (KV.then_n (KV.e6 15 16 18 21 22 24 (CV.seq (CV.region ?_))))
    refine RV.m rfl rfl (RV.m rfl rfl ?_)
    refine RV.op (OV.split gno (Step.eql rfl rfl) rfl (fun g2 => ?_) (fun g2 => ?_))
    ·
     refine RV.m rfl rfl (RV.gw rfl (Step.move rfl) rfl (RV.gw rfl (Step.move rfl) rfl ?_))
     refine RV.op (OV.split (gyes rfl) (Step.eql rfl rfl) rfl (fun g6 => ?_) (fun g6 => ?_))
     ·
      refine RV.s (Step.pick_t rfl rfl) rfl (RV.m rfl rfl (RV.gw rfl (Step.move rfl) rfl (RV.gw rfl (Step.eqlP Tryz.underlying27 rfl rfl) rfl (RV.gw rfl (Step.move rfl) rfl (RV.gw rfl (Step.neq rfl rfl) rfl ?_)))))
      refine RV.op (OV.split (gyes rfl) (Step.eqlBool Tryz.underlying4 rfl rfl) rfl (fun g13 => ?_) (fun g13 => ?_))
      ·
       refine RV.s (Step.pick_t rfl rfl) rfl (RV.m rfl rfl (RV.gw rfl (Step.move rfl) rfl (RV.gw rfl (Step.eqlP Tryz.underlying27 rfl rfl) rfl (RV.gw rfl (Step.move rfl) rfl (RV.gw rfl (Step.neq rfl rfl) rfl ?_)))))
       refine RV.op (OV.split (gyes rfl) (Step.eqlBool Tryz.underlying4 rfl rfl) rfl (fun g20 => ?_) (fun g20 => ?_))
       ·
        refine RV.s (Step.pick_t rfl rfl) rfl (RV.m rfl rfl ?_)
        refine RV.op (OV.call [] (F := [_, _, _, _]) Tryz.func10 B10 N10 rfl rfl (fun w h => awake_fn) (fun _ hb => hb.elim) (gyes rfl) rfl (fun v L' hp => ?_))
        obtain ⟨rfl, rfl⟩ := hp
        simp only [List.append_nil]
        refine RV.s (Step.pick_t rfl rfl) rfl (RV.a rfl rfl ?_)
        refine RV.nil (KV.then_n (KV.e1 14 (CV.ret ?_)))
        refine KV.sel [] [] rfl ?_
        exact KV.ret1 rfl rfl _ (fun _ h => h) ⟨rfl, rfl⟩
       ·
        exact absurd (er_eq hp3) g20
      ·
       exact absurd (er_eq hp1) g13
     ·
      exact absurd rfl g6
    ·
     exact absurd rfl g2
end Go.Proofs.YtdfkpdcpegcieaaGreatDoor
