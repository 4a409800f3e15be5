/-
 Walks, part 19.
-/
import Derived.Test.YtdfkpdcpegcieaaGreatDoorTab19
import Derived.Test.YtdfkpdcpegcieaaGreatDoorW18
import Derived.Test.YtdfkpdcpegcieaaGreatDoorAgC
set_option linter.unusedSimpArgs false
set_option linter.unusedVariables false
namespace Go.Proofs.YtdfkpdcpegcieaaGreatDoor
open Go.Sv Go.Perf Go.Ctl
/-- Pointers. -/
def ptrK : Enc (Option Addr) where
 f p := [.pointer p]
 sz := 1
 d := none
 len _ := rfl
 pos := by decide
 one r v hv := by simp at hv; subst hv; rfl
/-- What a call leaves behind is not looked at. -/
theorem Fx.drop {P : Program} {f : FuncId} {vs : List Value} {w : World} {Own : List Assn} {ro : Ids} {post : Value → List Assn → Prop} (h : Fx P f vs w Own ro post) : Fx P f vs w Own ro (fun v L => (∃ L0, post v L0) ∧ L = []) :=
 fun I hI hr => (h I hI hr).mono fun _ _ ⟨v, L', h1, h2, h3⟩ => ⟨v, [], h1, ⟨⟨L', h2⟩, rfl⟩, h3.sel [] rfl⟩
theorem newRE_fn {A : Option Addr} {n c : Nat} {ys : List Pt} {w : World} (hr : RS w ptK A ys) (hn : n = ys.length) (hl : ys.length ≤ 1000000) (u d s : Int) : Fx Tryz.prog 40 [.slice A n c, .agg #[.int .i64 u, .int .i64 d, .int .i64 s]] w [] no (fun v L => (∃ p, v = .tuple #[.pointer p, .int .i64 (newE ys u d s)]) ∧ L = []) :=
 (Fx.drop (newR_fn hr hn hl u d s)).mono fun v L ⟨⟨L0, h⟩, hL⟩ => by
  refine ⟨?_, hL⟩
  by_cases hE : newE ys u d s = 0
  ·
   obtain ⟨b, _, _, rfl, _⟩ := h.1 hE
   exact ⟨_, by rw [hE]⟩
  ·
   obtain ⟨rfl, _⟩ := h.2 hE
   exact ⟨_, rfl⟩
theorem zoneRE_fn {A : Option Addr} {n c : Nat} {tr : List Trp} {w : World} (hr : RS w trK A tr) (hn : n = tr.length) (hl : tr.length ≤ 1000000) : Fx Tryz.prog 41 [.slice A n c, .int .i64 16] w [] no (fun v L => (∃ p, v = .tuple #[.pointer p, .int .i64 (chkT tr)]) ∧ L = []) :=
 (zoneR_fn hr hn hl 16 (by decide) (by decide)).mono fun v L ⟨h, hL⟩ => by
  refine ⟨?_, hL⟩
  by_cases hE : chkT tr = 0
  ·
   obtain ⟨b, rfl⟩ := h.1 hE
   exact ⟨_, by rw [hE]⟩
  ·
   obtain rfl := h.2 hE
   exact ⟨_, rfl⟩
theorem sustRE_fn (x : HD) (base lim : Int) {w : World} : Fx Tryz.prog 42 [.agg #[.int .i64 x.cap, .int .i64 x.amb], .int .i64 base, .int .i64 lim] w [] no (fun v L => (∃ q e, v = .tuple #[.int .i64 q, .int .i64 e] ∧ (e = 0 ↔ susE x base lim)) ∧ L = []) :=
 (sustR_fn x base lim).mono fun v L ⟨h, hL⟩ => by
  refine ⟨?_, hL⟩
  by_cases hE : susE x base lim
  ·
   obtain ⟨q, rfl⟩ := h.1 hE
   exact ⟨q, 0, rfl, fun _ => hE, fun _ => rfl⟩
  ·
   obtain rfl := h.2 hE
   exact ⟨0, 1, rfl, fun k => absurd k (by decide), fun k => absurd k hE⟩
/-- Blocks that raw domains lie in. -/
def roB (A : Option Addr) (l : List RB) : Ids := fun x => (l ≠ [] ∧ x = bk A) ∨ ∃ i, i < l.length ∧ (((l.getD i rbK.d).ys ≠ [] ∧ x = bk (l.getD i rbK.d).A) ∨ ((l.getD i rbK.d).tr ≠ [] ∧ x = bk (l.getD i rbK.d).B))
theorem RS.blt {α : Type} {K : Enc α} {w : World} {A : Option Addr} {ys : List α} (h : RS w K A ys) (hn : ys ≠ []) : bk A < w.heap.size := by
 have hp : 0 < ys.length := List.length_pos_iff.2 hn
 have h0 : (K.f (ys.getD 0 K.d))[0]? = some ((K.f (ys.getD 0 K.d))[0]'(by rw [K.len]; exact K.pos)) := List.getElem?_eq_getElem _
 exact World.block_lt_of_cell? w _ (h.cell0 hp h0)
theorem roB_ok {A : Option Addr} {l : List RB} {I : Ids} {w : World} {F : List Assn} (hI : ∀ b, ¬ I b) (hr : RS w rbK A l) (hp0 : ∀ i, i < l.length → (l.getD i rbK.d).rs w) (b : Nat) (hb : roB A l b) : RoOk I w F b := by
 refine .inl ⟨hI b, ?_⟩
 rcases hb with ⟨h1, rfl⟩ | ⟨i, hi, ⟨h1, rfl⟩ | ⟨h1, rfl⟩⟩
 ·
  exact RS.blt hr h1
 ·
  exact RS.blt (hp0 i hi).1 h1
 ·
  exact RS.blt (hp0 i hi).2 h1
structure TRg where
 g : List (Option Addr)
 gA : Option Addr
 gc : Nat
 z : List (Option Addr)
 zA : Option Addr
 zc : Nat
 t : List Int
 tA : Option Addr
 tc : Nat

set_option maxRecDepth 100000 in
set_option maxHeartbeats 4000000 in
theorem restartRef_fn (b : Nat) {A : Option Addr} {c : Nat} {l : List RB} {base lim bud : Int} {hpt : Option Addr} {lA pA : Option Addr} {ln lc pn pc : Nat} {w : World} (hr : RS w rbK A l) (hl8 : l.length ≤ 8) (hp0 : ∀ i, i < l.length → (l.getD i rbK.d).rs w) (hsz : ∀ i, i < l.length → (l.getD i rbK.d).ys.length ≤ 1000000 ∧ (l.getD i rbK.d).tr.length ≤ 1000000) : Fx Tryz.prog 44 [.pointer (some ⟨b, 0, none⟩)] w [Blk b (.cells #[.slice A l.length c, .int .i64 base, .int .i64 lim, .int .u64 bud, .pointer hpt, .slice none 0 0, .slice none 0 0, .slice none 0 0, .slice lA ln lc, .slice pA pn pc] 117 (0, 0))] (roB A l) (fun v L => L = []) := by
 refine Sv.Fx.body Tryz.func44 rfl T44 rfl ?_
 intro I hro hI
 refine KV.e1 0 (CV.seq (CV.region ?_))
 refine RV.m rfl rfl (RV.m rfl rfl (RV.m rfl rfl (RV.s (Step.nilCheck rfl) rfl (RV.s (Step.fieldAddr rfl (F117_5 _ _)) rfl ?_))))
 refine RV.op (OV.store 0 [_] #[_, _, _, _, _, _, _, _, _, _] I114 rfl rfl rfl rfl rfl (Nat.le_of_ble_eq_true rfl) (by simp [Value.oneCell']) rfl gno ?_)
 refine RV.s (Step.nilCheck rfl) rfl (RV.s (Step.fieldAddr rfl (F117_6 _ _)) rfl ?_)
 refine RV.op (OV.store 0 [_] #[_, _, _, _, _, _, _, _, _, _] I115 rfl rfl rfl rfl rfl (Nat.le_of_ble_eq_true rfl) (by simp [Value.oneCell']) rfl gno ?_)
 refine RV.s (Step.nilCheck rfl) rfl (RV.s (Step.fieldAddr rfl (F117_7 _ _)) rfl ?_)
 refine RV.op (OV.store 0 [_] #[_, _, _, _, _, _, _, _, _, _] I48 rfl rfl rfl rfl rfl (Nat.le_of_ble_eq_true rfl) (by simp [Value.oneCell']) rfl gno ?_)
 refine RV.nil (KV.then_n (KV.e1 0 (CV.seq ?_)))
 refine KV.heap (fun w h => ((h.nilOS (e := 118) (K := ptrK)).nilOS (e := 121) (K := ptrK)).nilOS (e := 3) (K := intK .i64)) ?_
 refine CV.region ?_
 refine RV.a rfl rfl ?_
 refine RV.nil (KV.then_n (KV.e2 0 2 (CV.block ?_)))
 refine KV.sel [0, 0, 0, 0] [_, _, _, _] rfl ?_
 refine CV.loop2 (fun (i : Nat) (z : TRg) => (i ≤ l.length ∧ z.g.length = i) ∧ z.z.length = i ∧ z.t.length = i) (fun (i : Nat) (z : TRg) => l.length - i) (fun (i : Nat) (z : TRg) => [(0, .pointer (some ⟨b, 0, none⟩)), (2, .int .i64 i)]) (fun (i : Nat) (z : TRg) => Hp I w [Blk b (.cells #[.slice A l.length c, .int .i64 base, .int .i64 lim, .int .u64 bud, .pointer hpt, .slice z.gA z.g.length z.gc, .slice z.zA z.z.length z.zc, .slice z.tA z.t.length z.tc, .slice lA ln lc, .slice pA pn pc] 117 (0, 0)), OS 118 ptrK z.gA z.gc z.g, OS 121 ptrK z.zA z.zc z.z, OS 3 (intK .i64) z.tA z.tc z.t]) (0) (⟨[], none, 0, [], none, 0, [], none, 0⟩) ⟨⟨Nat.zero_le _, rfl⟩, rfl, rfl⟩ ⟨rfl, rfl, trivial⟩ (fun _ h => h) ?_
 intro i z hinv
 refine CV.seq (CV.seq (CV.region ?_))
 refine RV.m rfl rfl (RV.m rfl rfl (RV.s (Step.nilCheck rfl) rfl (RV.s (Step.fieldAddr rfl (F117_0 _ _)) rfl (RV.s (Step.load Tryz.underlying22 rfl rfl (fun w h => h.cell 0 rfl rfl)) rfl (RV.s (Step.lenSl Tryz.underlying22 rfl) rfl ?_)))))
 refine RV.op (OV.split gno (Step.lss rfl rfl) rfl (fun cc1 => ?_) (fun cc1 => ?_))
 ·
  refine RV.nil (KV.then_n (KV.e3 0 2 23 (CV.cond_t rfl (CV.skip (KV.then_n ?_)))))
  refine KV.e2 0 2 (CV.seq (CV.block (CV.seq (CV.region ?_))))
  refine RV.m rfl rfl (RV.s (Step.nilCheck rfl) rfl (RV.s (Step.fieldAddr rfl (F117_0 _ _)) rfl (RV.s (Step.load Tryz.underlying22 rfl rfl (fun w h => h.cell 0 rfl rfl)) rfl (RV.m rfl rfl ?_))))
  refine RV.s (Step.idx Tryz.underlying22 I45 (fun w h => h.rs hr (fun hn => hro _ (.inl ⟨hn, rfl⟩))) rfl rfl (rfl) _ rfl (by omega)) rfl ?_
  refine RV.s (Step.loadN _ Tryz.underlying45 rfl I45 rfl rfl (fun w h => (h.rs hr (fun hn => hro _ (.inl ⟨hn, rfl⟩))).cells (by omega))) rfl ?_
  refine RV.op (OV.alloc #[.int .i64 0, .int .i64 0, .slice none 0 0, .int .i64 0, .int .i64 0, .int .i64 0, .slice none 0 0] I45 rfl gno rfl (fun b4_7 => ?_))
  refine RV.op (OV.store 4 [_, _, _, _, _, _, _] #[_, _, _, _, _, _, _] I45 rfl rfl rfl rfl rfl (Nat.le_of_ble_eq_true rfl) (by simp [Value.oneCell']) rfl gno ?_)
  refine RV.nil (KV.then_n (KV.e3 0 2 3 (CV.seq (CV.region ?_))))
  refine RV.s (Step.fieldAddr rfl (F45_1 _ _)) rfl ?_
  (first | refine RV.op (OV.step gno (Step.load Tryz.underlying42 rfl rfl (fun w h => h.cell 0 rfl rfl)) rfl ?_) | refine RV.op (OV.step gno (Step.load Tryz.underlying42 rfl rfl (fun w h => h.cell 4 rfl rfl)) rfl ?_))
  refine RV.s (Step.fieldAddr rfl (F45_2 _ _)) rfl (RV.s (Step.loadN _ Tryz.underlying39 rfl I39 rfl rfl (fun w h => h.cellsO 4 3 [.int .i64 (l.getD i rbK.d).up, .int .i64 (l.getD i rbK.d).dn, .int .i64 (l.getD i rbK.d).sm] rfl rfl)) rfl ?_)
  refine RV.op (OV.call [] (F := [_, _, _, _, _]) Tryz.func40 B40 N40 rfl rfl (fun w h => newRE_fn (h.rs (hp0 i (by omega)).1 (fun hn => hro _ (.inr ⟨i, by omega, .inl ⟨hn, rfl⟩⟩))) rfl (hsz i (by omega)).1 (l.getD i rbK.d).up (l.getD i rbK.d).dn (l.getD i rbK.d).sm) (fun _ hb => hb.elim) gno rfl (fun v L' hp => ?_))
  obtain ⟨⟨gp, rfl⟩, rfl⟩ := hp
  simp only [List.append_nil]
  refine RV.m rfl rfl (RV.s (Step.extract0 rfl rfl) rfl (RV.s (Step.extract0 rfl rfl) rfl (RV.a rfl rfl (RV.a rfl rfl ?_))))
  refine RV.nil (KV.then_n (KV.e4 0 2 3 4 (CV.seq (CV.region ?_))))
  refine RV.s (Step.fieldAddr rfl (F45_3 _ _)) rfl ?_
  (first | refine RV.op (OV.step gno (Step.load Tryz.underlying43 rfl rfl (fun w h => h.cell 0 rfl rfl)) rfl ?_) | refine RV.op (OV.step gno (Step.load Tryz.underlying43 rfl rfl (fun w h => h.cell 4 rfl rfl)) rfl ?_))
  refine RV.op (OV.call [] (F := [_, _, _, _, _]) Tryz.func41 B41 N41 rfl rfl (fun w h => zoneRE_fn (h.rs (hp0 i (by omega)).2 (fun hn => hro _ (.inr ⟨i, by omega, .inr ⟨hn, rfl⟩⟩))) rfl (hsz i (by omega)).2) (fun _ hb => hb.elim) gno rfl (fun v L' hp => ?_))
  obtain ⟨⟨zp, rfl⟩, rfl⟩ := hp
  simp only [List.append_nil]
  refine RV.m rfl rfl (RV.s (Step.extract0 rfl rfl) rfl (RV.s (Step.extract0 rfl rfl) rfl (RV.a rfl rfl (RV.a rfl rfl ?_))))
  refine RV.nil (KV.then_n (KV.e5 0 2 3 4 6 ?_))
  have hy := (hsz i (by omega)).1
  have hg1 := hinv.1.2
  have hg2 := hinv.2.1
  have hg3 := hinv.2.2
  refine CV.anyC (Hp I w [Blk b (.cells #[.slice A l.length c, .int .i64 base, .int .i64 lim, .int .u64 bud, .pointer hpt, .slice z.gA z.g.length z.gc, .slice z.zA z.z.length z.zc, .slice z.tA z.t.length z.tc, .slice lA ln lc, .slice pA pn pc] 117 (0, 0)), Blk b4_7 (.cells #[.int .i64 (l.getD i rbK.d).h.cap, .int .i64 (l.getD i rbK.d).h.amb, .slice (l.getD i rbK.d).A (l.getD i rbK.d).ys.length (l.getD i rbK.d).c, .int .i64 (l.getD i rbK.d).up, .int .i64 (l.getD i rbK.d).dn, .int .i64 (l.getD i rbK.d).sm, .slice (l.getD i rbK.d).B (l.getD i rbK.d).tr.length (l.getD i rbK.d).e] 45 (0, 0))]) 27 (by kernel_rfl) (fun _ h => h.drew) 36 rfl ?_
  refine AC.cutAt (α := TRg) (bl 36 134217727) 9 (fun z2 => [(0, .pointer (some ⟨b, 0, none⟩)), (2, .int .i64 i), (47, .pointer (some ⟨b, 0, none⟩)), (48, .pointer (some ⟨b, 0, none⟩)), (49, .pointer (some ⟨b, 0, none⟩)), (56, .slice z2.gA (z.g ++ [gp]).length z2.gc), (63, .slice z2.zA (z.z ++ [zp]).length z2.zc), (73, .slice z2.tA (z.t ++ [((l.getD i rbK.d).ys.length : Int) - 1]).length z2.tc)]) (fun z2 => Hp I w [Blk b (.cells #[.slice A l.length c, .int .i64 base, .int .i64 lim, .int .u64 bud, .pointer hpt, .slice z.gA z.g.length z.gc, .slice z.zA z.z.length z.zc, .slice z.tA z.t.length z.tc, .slice lA ln lc, .slice pA pn pc] 117 (0, 0)), OS 118 ptrK z2.gA z2.gc (z.g ++ [gp]), OS 121 ptrK z2.zA z2.zc (z.z ++ [zp]), OS 3 (intK .i64) z2.tA z2.tc (z.t ++ [((l.getD i rbK.d).ys.length : Int) - 1])]) (fun z2 => ?_) (fun tail => ?_)
  ·
   skip
   refine AC.all [27] (by kernel_rfl) (by decide) ?_
   refine ⟨⟨_, rfl, ?_⟩, trivial⟩
   ·
    refine OV.step gno (Step.nilCheck rfl) rfl ?_
    refine AC.next (bl 36 268435455) (by kernel_rfl) (.inl (by kernel_rfl)) ?_
    refine AC.all [28] (by kernel_rfl) (by decide) ?_
    refine ⟨⟨_, rfl, ?_⟩, trivial⟩
    ·
     refine OV.step gno (Step.fieldAddr rfl (F117_5 _ _)) rfl ?_
     refine AC.next (bl 36 536870911) (by kernel_rfl) (.inl (by kernel_rfl)) ?_
     refine AC.all [29] (by kernel_rfl) (by decide) ?_
     refine ⟨⟨_, rfl, ?_⟩, trivial⟩
     ·
      refine OV.store 0 [_] #[_, _, _, _, _, _, _, _, _, _] I114 rfl rfl rfl rfl rfl (Nat.le_of_ble_eq_true rfl) (by simp [Value.oneCell']) rfl gno ?_
      refine AC.next (bl 36 1073741823) (by kernel_rfl) (.inl (by kernel_rfl)) ?_
      refine AC.all [30] (by kernel_rfl) (by decide) ?_
      refine ⟨⟨_, rfl, ?_⟩, trivial⟩
      ·
       refine OV.step gno (Step.nilCheck rfl) rfl ?_
       refine AC.next (bl 36 2147483647) (by kernel_rfl) (.inl (by kernel_rfl)) ?_
       refine AC.all [31] (by kernel_rfl) (by decide) ?_
       refine ⟨⟨_, rfl, ?_⟩, trivial⟩
       ·
        refine OV.step gno (Step.fieldAddr rfl (F117_6 _ _)) rfl ?_
        refine AC.next (bl 36 4294967295) (by kernel_rfl) (.inl (by kernel_rfl)) ?_
        refine AC.all [32] (by kernel_rfl) (by decide) ?_
        refine ⟨⟨_, rfl, ?_⟩, trivial⟩
        ·
         refine OV.store 0 [_] #[_, _, _, _, _, _, _, _, _, _] I115 rfl rfl rfl rfl rfl (Nat.le_of_ble_eq_true rfl) (by simp [Value.oneCell']) rfl gno ?_
         refine AC.next (bl 36 8589934591) (by kernel_rfl) (.inl (by kernel_rfl)) ?_
         refine AC.all [33] (by kernel_rfl) (by decide) ?_
         refine ⟨⟨_, rfl, ?_⟩, trivial⟩
         ·
          refine OV.step gno (Step.nilCheck rfl) rfl ?_
          refine AC.next (bl 36 17179869183) (by kernel_rfl) (.inl (by kernel_rfl)) ?_
          refine AC.all [34] (by kernel_rfl) (by decide) ?_
          refine ⟨⟨_, rfl, ?_⟩, trivial⟩
          ·
           refine OV.step gno (Step.fieldAddr rfl (F117_7 _ _)) rfl ?_
           refine AC.next (bl 36 34359738367) (by kernel_rfl) (.inl (by kernel_rfl)) ?_
           refine AC.all [35] (by kernel_rfl) (by decide) ?_
           refine ⟨⟨_, rfl, ?_⟩, trivial⟩
           ·
            refine OV.store 0 [_] #[_, _, _, _, _, _, _, _, _, _] I48 rfl rfl rfl rfl rfl (Nat.le_of_ble_eq_true rfl) (by simp [Value.oneCell']) rfl gno ?_
            refine AC.next (bl 36 68719476735) (by kernel_rfl) (.inl (by kernel_rfl)) ?_
            refine AC.done (by kernel_rfl) ?_
            refine KV.block_n (KV.then_n (KV.e2 0 2 (CV.region ?_)))
            refine RV.m rfl rfl ?_
            (first | refine RV.op (OV.step gno (Step.add rfl rfl (wI64 (by omega) (by omega))) rfl ?_) | refine RV.op (OV.step gno (Step.add rfl rfl rfl) rfl ?_))
            refine RV.a rfl rfl ?_
            refine RV.nil (KV.then_n (KV.e2 0 2 ?_))
            refine KV.sel [0, 0, 0, 0] [_, _, _, _] rfl ?_
            exact KV.loop2 (x := i) (y := z) (i + 1) (⟨z.g ++ [gp], z2.gA, z2.gc, z.z ++ [zp], z2.zA, z2.zc, z.t ++ [_], z2.tA, z2.tc⟩) ⟨⟨by omega, by rw [List.length_append, hinv.1.2]; rfl⟩, by rw [List.length_append, hinv.2.1]; rfl, by rw [List.length_append, hinv.2.2]; rfl⟩ (by omega) ⟨rfl, rfl, trivial⟩ (fun _ h => h)
  ·
   skip
   refine AC.u 0 (bl 36 1) gno (Step.move rfl) rfl (fun _ h => h.sel [0, 3] rfl) ?_
   refine AC.takeT 1 (bl 36 3) rfl (by kernel_rfl) (by kernel_rfl) (by kernel_rfl) (by kernel_rfl) (fun _ _ _ h => h) gno (Step.move rfl) rfl (fun _ h => h.sel [0, 3] rfl) (by kernel_rfl) ?_
   refine AC.takeT 2 (bl 36 7) rfl (by kernel_rfl) (by kernel_rfl) (by kernel_rfl) (by kernel_rfl) (fun _ _ _ h => h) gno (Step.move rfl) rfl (fun _ h => h.sel [0, 3] rfl) (by kernel_rfl) ?_
   refine AC.u 3 (bl 36 15) gno (Step.move rfl) rfl (fun _ h => h.sel [0, 3] rfl) ?_
   refine AC.u 4 (bl 36 31) gno (Step.nilCheck rfl) rfl (fun _ h => h.sel [0, 3] rfl) ?_
   refine AC.u 5 (bl 36 63) gno (Step.fieldAddr rfl (F117_5 _ _)) rfl (fun _ h => h.sel [0, 3] rfl) ?_
   refine AC.u 6 (bl 36 127) gno (Step.load Tryz.underlying114 rfl rfl (fun w h => h.cell 0 rfl rfl)) rfl (fun _ h => h.sel [0, 3] rfl) ?_
   refine AC.u 7 (bl 36 255) gno (Step.move rfl) rfl (fun _ h => h.sel [0, 3] rfl) ?_
   refine AC.u 10 (bl 36 1279) gno (Step.move rfl) rfl (fun _ h => h.sel [0, 3] rfl) ?_
   refine AC.u 11 (bl 36 3327) gno (Step.nilCheck rfl) rfl (fun _ h => h.sel [0, 3] rfl) ?_
   refine AC.u 12 (bl 36 7423) gno (Step.fieldAddr rfl (F117_6 _ _)) rfl (fun _ h => h.sel [0, 3] rfl) ?_
   refine AC.u 13 (bl 36 15615) gno (Step.load Tryz.underlying115 rfl rfl (fun w h => h.cell 0 rfl rfl)) rfl (fun _ h => h.sel [0, 3] rfl) ?_
   refine AC.u 14 (bl 36 31999) gno (Step.move rfl) rfl (fun _ h => h.sel [0, 3] rfl) ?_
   refine AC.u 17 (bl 36 163071) gno (Step.move rfl) rfl (fun _ h => h.sel [0, 3] rfl) ?_
   refine AC.u 18 (bl 36 425215) gno (Step.nilCheck rfl) rfl (fun _ h => h.sel [0, 3] rfl) ?_
   refine AC.u 19 (bl 36 949503) gno (Step.fieldAddr rfl (F117_7 _ _)) rfl (fun _ h => h.sel [0, 3] rfl) ?_
   refine AC.u 20 (bl 36 1998079) gno (Step.load Tryz.underlying48 rfl rfl (fun w h => h.cell 0 rfl rfl)) rfl (fun _ h => h.sel [0, 3] rfl) ?_
   refine AC.u 21 (bl 36 4095231) gno (Step.fieldAddr rfl (F45_1 _ _)) rfl (fun _ h => h.sel [0, 3] rfl) ?_
   refine AC.u 22 (bl 36 8289535) gno (Step.load Tryz.underlying42 rfl rfl (fun w h => h.cell 1 rfl rfl)) rfl (fun _ h => h.sel [0, 3] rfl) ?_
   refine AC.u 23 (bl 36 16678143) gno (Step.lenSl Tryz.underlying42 rfl) rfl (fun _ h => h.sel [0, 3] rfl) ?_
   (first | refine AC.take 24 (bl 36 33455359) rfl (by kernel_rfl) (by kernel_rfl) (by kernel_rfl) (by kernel_rfl) (by kernel_rfl) (by kernel_rfl) (by kernel_rfl) (fun _ _ _ h => h) gno (Step.sub rfl rfl (wI64 (by omega) (by omega))) rfl (fun _ h => h.sel [0, 3] rfl) (by kernel_rfl) ?_ | refine AC.take 24 (bl 36 33455359) rfl (by kernel_rfl) (by kernel_rfl) (by kernel_rfl) (by kernel_rfl) (by kernel_rfl) (by kernel_rfl) (by kernel_rfl) (fun _ _ _ h => h) gno (Step.sub rfl rfl rfl) rfl (fun _ h => h.sel [0, 3] rfl) (by kernel_rfl) ?_)
   refine AC.all [8, 15, 25] (by kernel_rfl) (by decide) ?_
   refine ⟨⟨_, rfl, ?_⟩, ⟨⟨_, rfl, ?_⟩, ⟨⟨_, rfl, ?_⟩, trivial⟩⟩⟩
   ·
    refine OV.buildSlice (K := ptrK) ([gp]) rfl (Bs114_1_0 _) rfl rfl (by omega) gno rfl (fun b7_8 => ?_)
    refine AC.next (bl 36 33455615) (by kernel_rfl) (.inr (fun _ h => h.sel [0, 3] rfl)) ?_
    refine AC.all [9, 15, 25] (by kernel_rfl) (by decide) ?_
    refine ⟨⟨_, rfl, ?_⟩, ⟨⟨_, rfl, ?_⟩, ⟨⟨_, rfl, ?_⟩, trivial⟩⟩⟩
    ·
     refine OV.append 1 Tryz.underlying114 I118 rfl rfl rfl rfl rfl rfl (fun w h => h.os 5 rfl) (by simp; omega) (by simp; omega) gno rfl (fun GA2 gc2 => ?_)
     refine AC.next (bl 36 33456127) (by kernel_rfl) (.inr (fun _ h => h.sel [0, 3] rfl)) ?_
     refine AC.all [15, 25] (by kernel_rfl) (by decide) ?_
     refine ⟨⟨_, rfl, ?_⟩, ⟨⟨_, rfl, ?_⟩, trivial⟩⟩
     ·
      refine OV.buildSlice (K := ptrK) ([zp]) rfl (Bs115_1_0 _) rfl rfl (by omega) gno rfl (fun b7_15 => ?_)
      refine AC.next (bl 36 33488895) (by kernel_rfl) (.inr (fun _ h => h.sel [0, 3] rfl)) ?_
      refine AC.all [16, 25] (by kernel_rfl) (by decide) ?_
      refine ⟨⟨_, rfl, ?_⟩, ⟨⟨_, rfl, ?_⟩, trivial⟩⟩
      ·
       refine OV.append 2 Tryz.underlying115 I121 rfl rfl rfl rfl rfl rfl (fun w h => h.os 6 rfl) (by simp; omega) (by simp; omega) gno rfl (fun ZA2 zc2 => ?_)
       refine AC.next (bl 36 33554431) (by kernel_rfl) (.inr (fun _ h => h.sel [0, 3] rfl)) ?_
       refine AC.all [25] (by kernel_rfl) (by decide) ?_
       refine ⟨⟨_, rfl, ?_⟩, trivial⟩
       ·
        refine OV.buildSlice (K := (intK .i64)) ([((l.getD i rbK.d).ys.length : Int) - 1]) rfl (Bs48_1_0 _) rfl rfl (by omega) gno rfl (fun b7_25 => ?_)
        refine AC.next (bl 36 67108863) (by kernel_rfl) (.inr (fun _ h => h.sel [0, 3] rfl)) ?_
        refine AC.all [26] (by kernel_rfl) (by decide) ?_
        refine ⟨⟨_, rfl, ?_⟩, trivial⟩
        ·
         refine OV.append 3 Tryz.underlying48 I3 rfl rfl rfl rfl rfl rfl (fun w h => h.os 7 rfl) (by simp; omega) (by simp; omega) gno rfl (fun TA2 tc2 => ?_)
         refine AC.next (bl 36 134217727) (by kernel_rfl) (.inr (fun _ h => h.sel [0, 3] rfl)) ?_
         exact AC.to (tail ⟨[], GA2, gc2, [], ZA2, zc2, [], TA2, tc2⟩) ⟨rfl, rfl, rfl, rfl, rfl, rfl, rfl, rfl, trivial⟩ (fun _ h => h.sel [0, 0, 0, 0] rfl)
      ·
       refine OV.buildSlice (K := (intK .i64)) ([((l.getD i rbK.d).ys.length : Int) - 1]) rfl (Bs48_1_0 _) rfl rfl (by omega) gno rfl (fun b7_25 => ?_)
       refine AC.next (bl 36 67043327) (by kernel_rfl) (.inr (fun _ h => h.sel [0, 3] rfl)) ?_
       refine AC.all [16] (by kernel_rfl) (by decide) ?_
       refine ⟨⟨_, rfl, ?_⟩, trivial⟩
       ·
        refine OV.append 2 Tryz.underlying115 I121 rfl rfl rfl rfl rfl rfl (fun w h => h.os 6 rfl) (by simp; omega) (by simp; omega) gno rfl (fun ZA2 zc2 => ?_)
        refine AC.next (bl 36 67108863) (by kernel_rfl) (.inr (fun _ h => h.sel [0, 3] rfl)) ?_
        refine AC.all [26] (by kernel_rfl) (by decide) ?_
        refine ⟨⟨_, rfl, ?_⟩, trivial⟩
        ·
         refine OV.append 3 Tryz.underlying48 I3 rfl rfl rfl rfl rfl rfl (fun w h => h.os 7 rfl) (by simp; omega) (by simp; omega) gno rfl (fun TA2 tc2 => ?_)
         refine AC.next (bl 36 134217727) (by kernel_rfl) (.inr (fun _ h => h.sel [0, 3] rfl)) ?_
         exact AC.to (tail ⟨[], GA2, gc2, [], ZA2, zc2, [], TA2, tc2⟩) ⟨rfl, rfl, rfl, rfl, rfl, rfl, rfl, rfl, trivial⟩ (fun _ h => h.sel [0, 0, 0, 0] rfl)
     ·
      refine OV.buildSlice (K := (intK .i64)) ([((l.getD i rbK.d).ys.length : Int) - 1]) rfl (Bs48_1_0 _) rfl rfl (by omega) gno rfl (fun b7_25 => ?_)
      refine AC.next (bl 36 67010559) (by kernel_rfl) (.inr (fun _ h => h.sel [0, 3] rfl)) ?_
      refine AC.all [15] (by kernel_rfl) (by decide) ?_
      refine ⟨⟨_, rfl, ?_⟩, trivial⟩
      ·
       refine OV.buildSlice (K := ptrK) ([zp]) rfl (Bs115_1_0 _) rfl rfl (by omega) gno rfl (fun b7_15 => ?_)
       refine AC.next (bl 36 67043327) (by kernel_rfl) (.inr (fun _ h => h.sel [0, 3] rfl)) ?_
       refine AC.all [16] (by kernel_rfl) (by decide) ?_
       refine ⟨⟨_, rfl, ?_⟩, trivial⟩
       ·
        refine OV.append 2 Tryz.underlying115 I121 rfl rfl rfl rfl rfl rfl (fun w h => h.os 7 rfl) (by simp; omega) (by simp; omega) gno rfl (fun ZA2 zc2 => ?_)
        refine AC.next (bl 36 67108863) (by kernel_rfl) (.inr (fun _ h => h.sel [0, 3] rfl)) ?_
        refine AC.all [26] (by kernel_rfl) (by decide) ?_
        refine ⟨⟨_, rfl, ?_⟩, trivial⟩
        ·
         refine OV.append 3 Tryz.underlying48 I3 rfl rfl rfl rfl rfl rfl (fun w h => h.os 6 rfl) (by simp; omega) (by simp; omega) gno rfl (fun TA2 tc2 => ?_)
         refine AC.next (bl 36 134217727) (by kernel_rfl) (.inr (fun _ h => h.sel [0, 3] rfl)) ?_
         exact AC.to (tail ⟨[], GA2, gc2, [], ZA2, zc2, [], TA2, tc2⟩) ⟨rfl, rfl, rfl, rfl, rfl, rfl, rfl, rfl, trivial⟩ (fun _ h => h.sel [0, 0, 0, 0] rfl)
    ·
     refine OV.buildSlice (K := ptrK) ([zp]) rfl (Bs115_1_0 _) rfl rfl (by omega) gno rfl (fun b7_15 => ?_)
     refine AC.next (bl 36 33488383) (by kernel_rfl) (.inr (fun _ h => h.sel [0, 3] rfl)) ?_
     refine AC.all [9, 25] (by kernel_rfl) (by decide) ?_
     refine ⟨⟨_, rfl, ?_⟩, ⟨⟨_, rfl, ?_⟩, trivial⟩⟩
     ·
      refine OV.append 1 Tryz.underlying114 I118 rfl rfl rfl rfl rfl rfl (fun w h => h.os 5 rfl) (by simp; omega) (by simp; omega) gno rfl (fun GA2 gc2 => ?_)
      refine AC.next (bl 36 33488895) (by kernel_rfl) (.inr (fun _ h => h.sel [0, 3] rfl)) ?_
      refine AC.all [16, 25] (by kernel_rfl) (by decide) ?_
      refine ⟨⟨_, rfl, ?_⟩, ⟨⟨_, rfl, ?_⟩, trivial⟩⟩
      ·
       refine OV.append 2 Tryz.underlying115 I121 rfl rfl rfl rfl rfl rfl (fun w h => h.os 6 rfl) (by simp; omega) (by simp; omega) gno rfl (fun ZA2 zc2 => ?_)
       refine AC.next (bl 36 33554431) (by kernel_rfl) (.inr (fun _ h => h.sel [0, 3] rfl)) ?_
       refine AC.all [25] (by kernel_rfl) (by decide) ?_
       refine ⟨⟨_, rfl, ?_⟩, trivial⟩
       ·
        refine OV.buildSlice (K := (intK .i64)) ([((l.getD i rbK.d).ys.length : Int) - 1]) rfl (Bs48_1_0 _) rfl rfl (by omega) gno rfl (fun b7_25 => ?_)
        refine AC.next (bl 36 67108863) (by kernel_rfl) (.inr (fun _ h => h.sel [0, 3] rfl)) ?_
        refine AC.all [26] (by kernel_rfl) (by decide) ?_
        refine ⟨⟨_, rfl, ?_⟩, trivial⟩
        ·
         refine OV.append 3 Tryz.underlying48 I3 rfl rfl rfl rfl rfl rfl (fun w h => h.os 7 rfl) (by simp; omega) (by simp; omega) gno rfl (fun TA2 tc2 => ?_)
         refine AC.next (bl 36 134217727) (by kernel_rfl) (.inr (fun _ h => h.sel [0, 3] rfl)) ?_
         exact AC.to (tail ⟨[], GA2, gc2, [], ZA2, zc2, [], TA2, tc2⟩) ⟨rfl, rfl, rfl, rfl, rfl, rfl, rfl, rfl, trivial⟩ (fun _ h => h.sel [0, 0, 0, 0] rfl)
      ·
       refine OV.buildSlice (K := (intK .i64)) ([((l.getD i rbK.d).ys.length : Int) - 1]) rfl (Bs48_1_0 _) rfl rfl (by omega) gno rfl (fun b7_25 => ?_)
       refine AC.next (bl 36 67043327) (by kernel_rfl) (.inr (fun _ h => h.sel [0, 3] rfl)) ?_
       refine AC.all [16] (by kernel_rfl) (by decide) ?_
       refine ⟨⟨_, rfl, ?_⟩, trivial⟩
       ·
        refine OV.append 2 Tryz.underlying115 I121 rfl rfl rfl rfl rfl rfl (fun w h => h.os 6 rfl) (by simp; omega) (by simp; omega) gno rfl (fun ZA2 zc2 => ?_)
        refine AC.next (bl 36 67108863) (by kernel_rfl) (.inr (fun _ h => h.sel [0, 3] rfl)) ?_
        refine AC.all [26] (by kernel_rfl) (by decide) ?_
        refine ⟨⟨_, rfl, ?_⟩, trivial⟩
        ·
         refine OV.append 3 Tryz.underlying48 I3 rfl rfl rfl rfl rfl rfl (fun w h => h.os 7 rfl) (by simp; omega) (by simp; omega) gno rfl (fun TA2 tc2 => ?_)
         refine AC.next (bl 36 134217727) (by kernel_rfl) (.inr (fun _ h => h.sel [0, 3] rfl)) ?_
         exact AC.to (tail ⟨[], GA2, gc2, [], ZA2, zc2, [], TA2, tc2⟩) ⟨rfl, rfl, rfl, rfl, rfl, rfl, rfl, rfl, trivial⟩ (fun _ h => h.sel [0, 0, 0, 0] rfl)
     ·
      refine OV.buildSlice (K := (intK .i64)) ([((l.getD i rbK.d).ys.length : Int) - 1]) rfl (Bs48_1_0 _) rfl rfl (by omega) gno rfl (fun b7_25 => ?_)
      refine AC.next (bl 36 67042815) (by kernel_rfl) (.inr (fun _ h => h.sel [0, 3] rfl)) ?_
      refine AC.all [9] (by kernel_rfl) (by decide) ?_
      refine ⟨⟨_, rfl, ?_⟩, trivial⟩
      ·
       refine OV.append 1 Tryz.underlying114 I118 rfl rfl rfl rfl rfl rfl (fun w h => h.os 5 rfl) (by simp; omega) (by simp; omega) gno rfl (fun GA2 gc2 => ?_)
       refine AC.next (bl 36 67043327) (by kernel_rfl) (.inr (fun _ h => h.sel [0, 3] rfl)) ?_
       refine AC.all [16] (by kernel_rfl) (by decide) ?_
       refine ⟨⟨_, rfl, ?_⟩, trivial⟩
       ·
        refine OV.append 2 Tryz.underlying115 I121 rfl rfl rfl rfl rfl rfl (fun w h => h.os 6 rfl) (by simp; omega) (by simp; omega) gno rfl (fun ZA2 zc2 => ?_)
        refine AC.next (bl 36 67108863) (by kernel_rfl) (.inr (fun _ h => h.sel [0, 3] rfl)) ?_
        refine AC.all [26] (by kernel_rfl) (by decide) ?_
        refine ⟨⟨_, rfl, ?_⟩, trivial⟩
        ·
         refine OV.append 3 Tryz.underlying48 I3 rfl rfl rfl rfl rfl rfl (fun w h => h.os 7 rfl) (by simp; omega) (by simp; omega) gno rfl (fun TA2 tc2 => ?_)
         refine AC.next (bl 36 134217727) (by kernel_rfl) (.inr (fun _ h => h.sel [0, 3] rfl)) ?_
         exact AC.to (tail ⟨[], GA2, gc2, [], ZA2, zc2, [], TA2, tc2⟩) ⟨rfl, rfl, rfl, rfl, rfl, rfl, rfl, rfl, trivial⟩ (fun _ h => h.sel [0, 0, 0, 0] rfl)
    ·
     refine OV.buildSlice (K := (intK .i64)) ([((l.getD i rbK.d).ys.length : Int) - 1]) rfl (Bs48_1_0 _) rfl rfl (by omega) gno rfl (fun b7_25 => ?_)
     refine AC.next (bl 36 67010047) (by kernel_rfl) (.inr (fun _ h => h.sel [0, 3] rfl)) ?_
     refine AC.all [9, 15] (by kernel_rfl) (by decide) ?_
     refine ⟨⟨_, rfl, ?_⟩, ⟨⟨_, rfl, ?_⟩, trivial⟩⟩
     ·
      refine OV.append 1 Tryz.underlying114 I118 rfl rfl rfl rfl rfl rfl (fun w h => h.os 5 rfl) (by simp; omega) (by simp; omega) gno rfl (fun GA2 gc2 => ?_)
      refine AC.next (bl 36 67010559) (by kernel_rfl) (.inr (fun _ h => h.sel [0, 3] rfl)) ?_
      refine AC.all [15] (by kernel_rfl) (by decide) ?_
      refine ⟨⟨_, rfl, ?_⟩, trivial⟩
      ·
       refine OV.buildSlice (K := ptrK) ([zp]) rfl (Bs115_1_0 _) rfl rfl (by omega) gno rfl (fun b7_15 => ?_)
       refine AC.next (bl 36 67043327) (by kernel_rfl) (.inr (fun _ h => h.sel [0, 3] rfl)) ?_
       refine AC.all [16] (by kernel_rfl) (by decide) ?_
       refine ⟨⟨_, rfl, ?_⟩, trivial⟩
       ·
        refine OV.append 2 Tryz.underlying115 I121 rfl rfl rfl rfl rfl rfl (fun w h => h.os 7 rfl) (by simp; omega) (by simp; omega) gno rfl (fun ZA2 zc2 => ?_)
        refine AC.next (bl 36 67108863) (by kernel_rfl) (.inr (fun _ h => h.sel [0, 3] rfl)) ?_
        refine AC.all [26] (by kernel_rfl) (by decide) ?_
        refine ⟨⟨_, rfl, ?_⟩, trivial⟩
        ·
         refine OV.append 3 Tryz.underlying48 I3 rfl rfl rfl rfl rfl rfl (fun w h => h.os 6 rfl) (by simp; omega) (by simp; omega) gno rfl (fun TA2 tc2 => ?_)
         refine AC.next (bl 36 134217727) (by kernel_rfl) (.inr (fun _ h => h.sel [0, 3] rfl)) ?_
         exact AC.to (tail ⟨[], GA2, gc2, [], ZA2, zc2, [], TA2, tc2⟩) ⟨rfl, rfl, rfl, rfl, rfl, rfl, rfl, rfl, trivial⟩ (fun _ h => h.sel [0, 0, 0, 0] rfl)
     ·
      refine OV.buildSlice (K := ptrK) ([zp]) rfl (Bs115_1_0 _) rfl rfl (by omega) gno rfl (fun b7_15 => ?_)
      refine AC.next (bl 36 67042815) (by kernel_rfl) (.inr (fun _ h => h.sel [0, 3] rfl)) ?_
      refine AC.all [9] (by kernel_rfl) (by decide) ?_
      refine ⟨⟨_, rfl, ?_⟩, trivial⟩
      ·
       refine OV.append 1 Tryz.underlying114 I118 rfl rfl rfl rfl rfl rfl (fun w h => h.os 5 rfl) (by simp; omega) (by simp; omega) gno rfl (fun GA2 gc2 => ?_)
       refine AC.next (bl 36 67043327) (by kernel_rfl) (.inr (fun _ h => h.sel [0, 3] rfl)) ?_
       refine AC.all [16] (by kernel_rfl) (by decide) ?_
       refine ⟨⟨_, rfl, ?_⟩, trivial⟩
       ·
        refine OV.append 2 Tryz.underlying115 I121 rfl rfl rfl rfl rfl rfl (fun w h => h.os 7 rfl) (by simp; omega) (by simp; omega) gno rfl (fun ZA2 zc2 => ?_)
        refine AC.next (bl 36 67108863) (by kernel_rfl) (.inr (fun _ h => h.sel [0, 3] rfl)) ?_
        refine AC.all [26] (by kernel_rfl) (by decide) ?_
        refine ⟨⟨_, rfl, ?_⟩, trivial⟩
        ·
         refine OV.append 3 Tryz.underlying48 I3 rfl rfl rfl rfl rfl rfl (fun w h => h.os 6 rfl) (by simp; omega) (by simp; omega) gno rfl (fun TA2 tc2 => ?_)
         refine AC.next (bl 36 134217727) (by kernel_rfl) (.inr (fun _ h => h.sel [0, 3] rfl)) ?_
         exact AC.to (tail ⟨[], GA2, gc2, [], ZA2, zc2, [], TA2, tc2⟩) ⟨rfl, rfl, rfl, rfl, rfl, rfl, rfl, rfl, trivial⟩ (fun _ h => h.sel [0, 0, 0, 0] rfl)
   ·
    refine OV.buildSlice (K := ptrK) ([zp]) rfl (Bs115_1_0 _) rfl rfl (by omega) gno rfl (fun b7_15 => ?_)
    refine AC.next (bl 36 33488127) (by kernel_rfl) (.inr (fun _ h => h.sel [0, 3] rfl)) ?_
    refine AC.all [8, 25] (by kernel_rfl) (by decide) ?_
    refine ⟨⟨_, rfl, ?_⟩, ⟨⟨_, rfl, ?_⟩, trivial⟩⟩
    ·
     refine OV.buildSlice (K := ptrK) ([gp]) rfl (Bs114_1_0 _) rfl rfl (by omega) gno rfl (fun b7_8 => ?_)
     refine AC.next (bl 36 33488383) (by kernel_rfl) (.inr (fun _ h => h.sel [0, 3] rfl)) ?_
     refine AC.all [9, 25] (by kernel_rfl) (by decide) ?_
     refine ⟨⟨_, rfl, ?_⟩, ⟨⟨_, rfl, ?_⟩, trivial⟩⟩
     ·
      refine OV.append 1 Tryz.underlying114 I118 rfl rfl rfl rfl rfl rfl (fun w h => h.os 6 rfl) (by simp; omega) (by simp; omega) gno rfl (fun GA2 gc2 => ?_)
      refine AC.next (bl 36 33488895) (by kernel_rfl) (.inr (fun _ h => h.sel [0, 3] rfl)) ?_
      refine AC.all [16, 25] (by kernel_rfl) (by decide) ?_
      refine ⟨⟨_, rfl, ?_⟩, ⟨⟨_, rfl, ?_⟩, trivial⟩⟩
      ·
       refine OV.append 2 Tryz.underlying115 I121 rfl rfl rfl rfl rfl rfl (fun w h => h.os 5 rfl) (by simp; omega) (by simp; omega) gno rfl (fun ZA2 zc2 => ?_)
       refine AC.next (bl 36 33554431) (by kernel_rfl) (.inr (fun _ h => h.sel [0, 3] rfl)) ?_
       refine AC.all [25] (by kernel_rfl) (by decide) ?_
       refine ⟨⟨_, rfl, ?_⟩, trivial⟩
       ·
        refine OV.buildSlice (K := (intK .i64)) ([((l.getD i rbK.d).ys.length : Int) - 1]) rfl (Bs48_1_0 _) rfl rfl (by omega) gno rfl (fun b7_25 => ?_)
        refine AC.next (bl 36 67108863) (by kernel_rfl) (.inr (fun _ h => h.sel [0, 3] rfl)) ?_
        refine AC.all [26] (by kernel_rfl) (by decide) ?_
        refine ⟨⟨_, rfl, ?_⟩, trivial⟩
        ·
         refine OV.append 3 Tryz.underlying48 I3 rfl rfl rfl rfl rfl rfl (fun w h => h.os 7 rfl) (by simp; omega) (by simp; omega) gno rfl (fun TA2 tc2 => ?_)
         refine AC.next (bl 36 134217727) (by kernel_rfl) (.inr (fun _ h => h.sel [0, 3] rfl)) ?_
         exact AC.to (tail ⟨[], GA2, gc2, [], ZA2, zc2, [], TA2, tc2⟩) ⟨rfl, rfl, rfl, rfl, rfl, rfl, rfl, rfl, trivial⟩ (fun _ h => h.sel [0, 0, 0, 0] rfl)
      ·
       refine OV.buildSlice (K := (intK .i64)) ([((l.getD i rbK.d).ys.length : Int) - 1]) rfl (Bs48_1_0 _) rfl rfl (by omega) gno rfl (fun b7_25 => ?_)
       refine AC.next (bl 36 67043327) (by kernel_rfl) (.inr (fun _ h => h.sel [0, 3] rfl)) ?_
       refine AC.all [16] (by kernel_rfl) (by decide) ?_
       refine ⟨⟨_, rfl, ?_⟩, trivial⟩
       ·
        refine OV.append 2 Tryz.underlying115 I121 rfl rfl rfl rfl rfl rfl (fun w h => h.os 5 rfl) (by simp; omega) (by simp; omega) gno rfl (fun ZA2 zc2 => ?_)
        refine AC.next (bl 36 67108863) (by kernel_rfl) (.inr (fun _ h => h.sel [0, 3] rfl)) ?_
        refine AC.all [26] (by kernel_rfl) (by decide) ?_
        refine ⟨⟨_, rfl, ?_⟩, trivial⟩
        ·
         refine OV.append 3 Tryz.underlying48 I3 rfl rfl rfl rfl rfl rfl (fun w h => h.os 7 rfl) (by simp; omega) (by simp; omega) gno rfl (fun TA2 tc2 => ?_)
         refine AC.next (bl 36 134217727) (by kernel_rfl) (.inr (fun _ h => h.sel [0, 3] rfl)) ?_
         exact AC.to (tail ⟨[], GA2, gc2, [], ZA2, zc2, [], TA2, tc2⟩) ⟨rfl, rfl, rfl, rfl, rfl, rfl, rfl, rfl, trivial⟩ (fun _ h => h.sel [0, 0, 0, 0] rfl)
     ·
      refine OV.buildSlice (K := (intK .i64)) ([((l.getD i rbK.d).ys.length : Int) - 1]) rfl (Bs48_1_0 _) rfl rfl (by omega) gno rfl (fun b7_25 => ?_)
      refine AC.next (bl 36 67042815) (by kernel_rfl) (.inr (fun _ h => h.sel [0, 3] rfl)) ?_
      refine AC.all [9] (by kernel_rfl) (by decide) ?_
      refine ⟨⟨_, rfl, ?_⟩, trivial⟩
      ·
       refine OV.append 1 Tryz.underlying114 I118 rfl rfl rfl rfl rfl rfl (fun w h => h.os 6 rfl) (by simp; omega) (by simp; omega) gno rfl (fun GA2 gc2 => ?_)
       refine AC.next (bl 36 67043327) (by kernel_rfl) (.inr (fun _ h => h.sel [0, 3] rfl)) ?_
       refine AC.all [16] (by kernel_rfl) (by decide) ?_
       refine ⟨⟨_, rfl, ?_⟩, trivial⟩
       ·
        refine OV.append 2 Tryz.underlying115 I121 rfl rfl rfl rfl rfl rfl (fun w h => h.os 5 rfl) (by simp; omega) (by simp; omega) gno rfl (fun ZA2 zc2 => ?_)
        refine AC.next (bl 36 67108863) (by kernel_rfl) (.inr (fun _ h => h.sel [0, 3] rfl)) ?_
        refine AC.all [26] (by kernel_rfl) (by decide) ?_
        refine ⟨⟨_, rfl, ?_⟩, trivial⟩
        ·
         refine OV.append 3 Tryz.underlying48 I3 rfl rfl rfl rfl rfl rfl (fun w h => h.os 7 rfl) (by simp; omega) (by simp; omega) gno rfl (fun TA2 tc2 => ?_)
         refine AC.next (bl 36 134217727) (by kernel_rfl) (.inr (fun _ h => h.sel [0, 3] rfl)) ?_
         exact AC.to (tail ⟨[], GA2, gc2, [], ZA2, zc2, [], TA2, tc2⟩) ⟨rfl, rfl, rfl, rfl, rfl, rfl, rfl, rfl, trivial⟩ (fun _ h => h.sel [0, 0, 0, 0] rfl)
    ·
     refine OV.buildSlice (K := (intK .i64)) ([((l.getD i rbK.d).ys.length : Int) - 1]) rfl (Bs48_1_0 _) rfl rfl (by omega) gno rfl (fun b7_25 => ?_)
     refine AC.next (bl 36 67042559) (by kernel_rfl) (.inr (fun _ h => h.sel [0, 3] rfl)) ?_
     refine AC.all [8] (by kernel_rfl) (by decide) ?_
     refine ⟨⟨_, rfl, ?_⟩, trivial⟩
     ·
      refine OV.buildSlice (K := ptrK) ([gp]) rfl (Bs114_1_0 _) rfl rfl (by omega) gno rfl (fun b7_8 => ?_)
      refine AC.next (bl 36 67042815) (by kernel_rfl) (.inr (fun _ h => h.sel [0, 3] rfl)) ?_
      refine AC.all [9] (by kernel_rfl) (by decide) ?_
      refine ⟨⟨_, rfl, ?_⟩, trivial⟩
      ·
       refine OV.append 1 Tryz.underlying114 I118 rfl rfl rfl rfl rfl rfl (fun w h => h.os 7 rfl) (by simp; omega) (by simp; omega) gno rfl (fun GA2 gc2 => ?_)
       refine AC.next (bl 36 67043327) (by kernel_rfl) (.inr (fun _ h => h.sel [0, 3] rfl)) ?_
       refine AC.all [16] (by kernel_rfl) (by decide) ?_
       refine ⟨⟨_, rfl, ?_⟩, trivial⟩
       ·
        refine OV.append 2 Tryz.underlying115 I121 rfl rfl rfl rfl rfl rfl (fun w h => h.os 5 rfl) (by simp; omega) (by simp; omega) gno rfl (fun ZA2 zc2 => ?_)
        refine AC.next (bl 36 67108863) (by kernel_rfl) (.inr (fun _ h => h.sel [0, 3] rfl)) ?_
        refine AC.all [26] (by kernel_rfl) (by decide) ?_
        refine ⟨⟨_, rfl, ?_⟩, trivial⟩
        ·
         refine OV.append 3 Tryz.underlying48 I3 rfl rfl rfl rfl rfl rfl (fun w h => h.os 6 rfl) (by simp; omega) (by simp; omega) gno rfl (fun TA2 tc2 => ?_)
         refine AC.next (bl 36 134217727) (by kernel_rfl) (.inr (fun _ h => h.sel [0, 3] rfl)) ?_
         exact AC.to (tail ⟨[], GA2, gc2, [], ZA2, zc2, [], TA2, tc2⟩) ⟨rfl, rfl, rfl, rfl, rfl, rfl, rfl, rfl, trivial⟩ (fun _ h => h.sel [0, 0, 0, 0] rfl)
   ·
    refine OV.buildSlice (K := (intK .i64)) ([((l.getD i rbK.d).ys.length : Int) - 1]) rfl (Bs48_1_0 _) rfl rfl (by omega) gno rfl (fun b7_25 => ?_)
    refine AC.next (bl 36 67009791) (by kernel_rfl) (.inr (fun _ h => h.sel [0, 3] rfl)) ?_
    refine AC.all [8, 15] (by kernel_rfl) (by decide) ?_
    refine ⟨⟨_, rfl, ?_⟩, ⟨⟨_, rfl, ?_⟩, trivial⟩⟩
    ·
     refine OV.buildSlice (K := ptrK) ([gp]) rfl (Bs114_1_0 _) rfl rfl (by omega) gno rfl (fun b7_8 => ?_)
     refine AC.next (bl 36 67010047) (by kernel_rfl) (.inr (fun _ h => h.sel [0, 3] rfl)) ?_
     refine AC.all [9, 15] (by kernel_rfl) (by decide) ?_
     refine ⟨⟨_, rfl, ?_⟩, ⟨⟨_, rfl, ?_⟩, trivial⟩⟩
     ·
      refine OV.append 1 Tryz.underlying114 I118 rfl rfl rfl rfl rfl rfl (fun w h => h.os 6 rfl) (by simp; omega) (by simp; omega) gno rfl (fun GA2 gc2 => ?_)
      refine AC.next (bl 36 67010559) (by kernel_rfl) (.inr (fun _ h => h.sel [0, 3] rfl)) ?_
      refine AC.all [15] (by kernel_rfl) (by decide) ?_
      refine ⟨⟨_, rfl, ?_⟩, trivial⟩
      ·
       refine OV.buildSlice (K := ptrK) ([zp]) rfl (Bs115_1_0 _) rfl rfl (by omega) gno rfl (fun b7_15 => ?_)
       refine AC.next (bl 36 67043327) (by kernel_rfl) (.inr (fun _ h => h.sel [0, 3] rfl)) ?_
       refine AC.all [16] (by kernel_rfl) (by decide) ?_
       refine ⟨⟨_, rfl, ?_⟩, trivial⟩
       ·
        refine OV.append 2 Tryz.underlying115 I121 rfl rfl rfl rfl rfl rfl (fun w h => h.os 7 rfl) (by simp; omega) (by simp; omega) gno rfl (fun ZA2 zc2 => ?_)
        refine AC.next (bl 36 67108863) (by kernel_rfl) (.inr (fun _ h => h.sel [0, 3] rfl)) ?_
        refine AC.all [26] (by kernel_rfl) (by decide) ?_
        refine ⟨⟨_, rfl, ?_⟩, trivial⟩
        ·
         refine OV.append 3 Tryz.underlying48 I3 rfl rfl rfl rfl rfl rfl (fun w h => h.os 5 rfl) (by simp; omega) (by simp; omega) gno rfl (fun TA2 tc2 => ?_)
         refine AC.next (bl 36 134217727) (by kernel_rfl) (.inr (fun _ h => h.sel [0, 3] rfl)) ?_
         exact AC.to (tail ⟨[], GA2, gc2, [], ZA2, zc2, [], TA2, tc2⟩) ⟨rfl, rfl, rfl, rfl, rfl, rfl, rfl, rfl, trivial⟩ (fun _ h => h.sel [0, 0, 0, 0] rfl)
     ·
      refine OV.buildSlice (K := ptrK) ([zp]) rfl (Bs115_1_0 _) rfl rfl (by omega) gno rfl (fun b7_15 => ?_)
      refine AC.next (bl 36 67042815) (by kernel_rfl) (.inr (fun _ h => h.sel [0, 3] rfl)) ?_
      refine AC.all [9] (by kernel_rfl) (by decide) ?_
      refine ⟨⟨_, rfl, ?_⟩, trivial⟩
      ·
       refine OV.append 1 Tryz.underlying114 I118 rfl rfl rfl rfl rfl rfl (fun w h => h.os 6 rfl) (by simp; omega) (by simp; omega) gno rfl (fun GA2 gc2 => ?_)
       refine AC.next (bl 36 67043327) (by kernel_rfl) (.inr (fun _ h => h.sel [0, 3] rfl)) ?_
       refine AC.all [16] (by kernel_rfl) (by decide) ?_
       refine ⟨⟨_, rfl, ?_⟩, trivial⟩
       ·
        refine OV.append 2 Tryz.underlying115 I121 rfl rfl rfl rfl rfl rfl (fun w h => h.os 7 rfl) (by simp; omega) (by simp; omega) gno rfl (fun ZA2 zc2 => ?_)
        refine AC.next (bl 36 67108863) (by kernel_rfl) (.inr (fun _ h => h.sel [0, 3] rfl)) ?_
        refine AC.all [26] (by kernel_rfl) (by decide) ?_
        refine ⟨⟨_, rfl, ?_⟩, trivial⟩
        ·
         refine OV.append 3 Tryz.underlying48 I3 rfl rfl rfl rfl rfl rfl (fun w h => h.os 5 rfl) (by simp; omega) (by simp; omega) gno rfl (fun TA2 tc2 => ?_)
         refine AC.next (bl 36 134217727) (by kernel_rfl) (.inr (fun _ h => h.sel [0, 3] rfl)) ?_
         exact AC.to (tail ⟨[], GA2, gc2, [], ZA2, zc2, [], TA2, tc2⟩) ⟨rfl, rfl, rfl, rfl, rfl, rfl, rfl, rfl, trivial⟩ (fun _ h => h.sel [0, 0, 0, 0] rfl)
    ·
     refine OV.buildSlice (K := ptrK) ([zp]) rfl (Bs115_1_0 _) rfl rfl (by omega) gno rfl (fun b7_15 => ?_)
     refine AC.next (bl 36 67042559) (by kernel_rfl) (.inr (fun _ h => h.sel [0, 3] rfl)) ?_
     refine AC.all [8] (by kernel_rfl) (by decide) ?_
     refine ⟨⟨_, rfl, ?_⟩, trivial⟩
     ·
      refine OV.buildSlice (K := ptrK) ([gp]) rfl (Bs114_1_0 _) rfl rfl (by omega) gno rfl (fun b7_8 => ?_)
      refine AC.next (bl 36 67042815) (by kernel_rfl) (.inr (fun _ h => h.sel [0, 3] rfl)) ?_
      refine AC.all [9] (by kernel_rfl) (by decide) ?_
      refine ⟨⟨_, rfl, ?_⟩, trivial⟩
      ·
       refine OV.append 1 Tryz.underlying114 I118 rfl rfl rfl rfl rfl rfl (fun w h => h.os 7 rfl) (by simp; omega) (by simp; omega) gno rfl (fun GA2 gc2 => ?_)
       refine AC.next (bl 36 67043327) (by kernel_rfl) (.inr (fun _ h => h.sel [0, 3] rfl)) ?_
       refine AC.all [16] (by kernel_rfl) (by decide) ?_
       refine ⟨⟨_, rfl, ?_⟩, trivial⟩
       ·
        refine OV.append 2 Tryz.underlying115 I121 rfl rfl rfl rfl rfl rfl (fun w h => h.os 6 rfl) (by simp; omega) (by simp; omega) gno rfl (fun ZA2 zc2 => ?_)
        refine AC.next (bl 36 67108863) (by kernel_rfl) (.inr (fun _ h => h.sel [0, 3] rfl)) ?_
        refine AC.all [26] (by kernel_rfl) (by decide) ?_
        refine ⟨⟨_, rfl, ?_⟩, trivial⟩
        ·
         refine OV.append 3 Tryz.underlying48 I3 rfl rfl rfl rfl rfl rfl (fun w h => h.os 5 rfl) (by simp; omega) (by simp; omega) gno rfl (fun TA2 tc2 => ?_)
         refine AC.next (bl 36 134217727) (by kernel_rfl) (.inr (fun _ h => h.sel [0, 3] rfl)) ?_
         exact AC.to (tail ⟨[], GA2, gc2, [], ZA2, zc2, [], TA2, tc2⟩) ⟨rfl, rfl, rfl, rfl, rfl, rfl, rfl, rfl, trivial⟩ (fun _ h => h.sel [0, 0, 0, 0] rfl)
 ·
  refine RV.nil (KV.then_n (KV.e3 0 2 23 (CV.cond_f rfl (CV.exit (KV.then_exit ?_)))))
  refine KV.then_exit (KV.block_hit ?_)
  refine KV.sel [] [] rfl ?_
  exact KV.ret0 rfl [] (fun _ h => h) rfl

set_option maxRecDepth 100000 in
set_option maxHeartbeats 4000000 in
theorem newThermalRef_fn {A : Option Addr} {n c : Nat} {l : List RB} {w : World} (hr : RS w rbK A l) (hn : n = l.length) (hl : l.length ≤ 1000000) (hp0 : ∀ i, i < l.length → (l.getD i rbK.d).rs w) (hsz : ∀ i, i < l.length → (l.getD i rbK.d).ys.length ≤ 1000000 ∧ (l.getD i rbK.d).tr.length ≤ 1000000) {B : Option Addr} {m d : Nat} {M : List HL} (hr2 : RS w hlK B M) (hm : m = M.length) (hl2 : M.length ≤ 1000000) (base lim bud : Int) : Fx Tryz.prog 12 [.slice A n c, .slice B m d, .int .i64 base, .int .i64 lim, .int .u64 bud] w [] no (fun v L => ((NewOk (l.map RB.bd) M base lim bud → ∃ b, v = .tuple #[.pointer (some ⟨b, 0, none⟩), .int .i64 0]) ∧ (¬ NewOk (l.map RB.bd) M base lim bud → v = .tuple #[.pointer none, .int .i64 1])) ∧ L = []) := by
 subst hn
 subst hm
 refine Sv.Fx.body Tryz.func12 rfl T12 rfl ?_
 intro I hro hI
 refine KV.e5 0 1 2 3 4 (CV.seq (CV.region ?_))
 refine RV.a rfl rfl (RV.a rfl rfl ?_)
 refine RV.nil (KV.then_n (KV.e5 0 1 2 3 4 ?_))
 refine CV.join (α := Unit) (fun _ => [(0, .slice A l.length c), (1, .slice B M.length d), (2, .int .i64 base), (3, .int .i64 lim), (4, .int .u64 bud)]) (fun _ => (fun w9 => (l.length ≤ 8 ∧ bud ≤ 4294967296 ∧ (l.length = 0 → M.length = 0)) ∧ Hp I w [] w9)) ?_ ?_
 ·
  skip
  refine CV.seq (CV.region ?_)
  refine RV.m rfl rfl (RV.s (Step.lenSl Tryz.underlying22 rfl) rfl ?_)
  refine RV.op (OV.split gno (Step.gtr rfl rfl) rfl (fun cc1 => ?_) (fun cc1 => ?_))
  ·
   refine RV.m rfl rfl (RV.k rfl rfl (RV.k rfl rfl (RV.s (Step.pick_t rfl rfl) rfl (RV.m rfl rfl (RV.k rfl rfl (RV.k rfl rfl (RV.k rfl rfl ?_)))))))
   refine RV.k rfl rfl ?_
   refine RV.op (OV.skipU rfl rfl ?_)
   refine RV.op (OV.skipU rfl rfl ?_)
   refine RV.op (OV.skipU rfl rfl ?_)
   refine RV.k rfl rfl (RV.s (Step.pick_t rfl rfl) rfl ?_)
   refine RV.nil (KV.then_n (KV.e6 0 1 2 3 4 40 (CV.cond_t rfl (CV.seq (CV.region ?_)))))
   refine RV.a rfl rfl (RV.a rfl rfl ?_)
   refine RV.nil (KV.then_n (KV.e2 10 11 (CV.ret (KV.then_ret ?_))))
   refine KV.sel [] [] rfl ?_
   exact KV.ret2 rfl rfl rfl _ (fun _ h => h) ⟨⟨fun k => absurd k (fun k => by have h1 := k.n; have h2 := k.b; have h3 := k.z; rw [List.length_map] at h1 h3; omega), fun _ => rfl⟩, rfl⟩
  ·
   refine RV.m rfl rfl (RV.gw rfl (Step.move rfl) rfl ?_)
   refine RV.op (OV.split (gyes rfl) (Step.gtr rfl rfl) rfl (fun cc2 => ?_) (fun cc2 => ?_))
   ·
    refine RV.s (Step.pick_f rfl rfl) rfl (RV.m rfl rfl (RV.k rfl rfl (RV.k rfl rfl (RV.k rfl rfl (RV.k rfl rfl ?_)))))
    refine RV.op (OV.skipU rfl rfl ?_)
    refine RV.op (OV.skipU rfl rfl ?_)
    refine RV.op (OV.skipU rfl rfl ?_)
    refine RV.k rfl rfl (RV.s (Step.pick_t rfl rfl) rfl ?_)
    refine RV.nil (KV.then_n (KV.e6 0 1 2 3 4 40 (CV.cond_t rfl (CV.seq (CV.region ?_)))))
    refine RV.a rfl rfl (RV.a rfl rfl ?_)
    refine RV.nil (KV.then_n (KV.e2 10 11 (CV.ret (KV.then_ret ?_))))
    refine KV.sel [] [] rfl ?_
    exact KV.ret2 rfl rfl rfl _ (fun _ h => h) ⟨⟨fun k => absurd k (fun k => by have h1 := k.n; have h2 := k.b; have h3 := k.z; rw [List.length_map] at h1 h3; omega), fun _ => rfl⟩, rfl⟩
   ·
    refine RV.s (Step.pick_f rfl rfl) rfl (RV.m rfl rfl (RV.gw rfl (Step.move rfl) rfl (RV.gw rfl (Step.lenSl Tryz.underlying22 rfl) rfl ?_)))
    refine RV.op (OV.split (gyes rfl) (Step.eql rfl rfl) rfl (fun cc3 => ?_) (fun cc3 => ?_))
    ·
     refine RV.gw rfl (Step.move rfl) rfl (RV.gw rfl (Step.move rfl) rfl (RV.gw rfl (Step.lenSl Tryz.underlying23 rfl) rfl ?_))
     refine RV.op (OV.split (gyes rfl) (Step.gtr rfl rfl) rfl (fun cc4 => ?_) (fun cc4 => ?_))
     ·
      refine RV.gw rfl (Step.pick_t rfl rfl) rfl (RV.s (Step.pick_f rfl rfl) rfl ?_)
      refine RV.nil (KV.then_n (KV.e6 0 1 2 3 4 40 (CV.cond_t rfl (CV.seq (CV.region ?_)))))
      refine RV.a rfl rfl (RV.a rfl rfl ?_)
      refine RV.nil (KV.then_n (KV.e2 10 11 (CV.ret (KV.then_ret ?_))))
      refine KV.sel [] [] rfl ?_
      exact KV.ret2 rfl rfl rfl _ (fun _ h => h) ⟨⟨fun k => absurd k (fun k => by have h1 := k.n; have h2 := k.b; have h3 := k.z; rw [List.length_map] at h1 h3; omega), fun _ => rfl⟩, rfl⟩
     ·
      refine RV.gw rfl (Step.pick_t rfl rfl) rfl (RV.s (Step.pick_f rfl rfl) rfl ?_)
      refine RV.nil (KV.then_n (KV.e6 0 1 2 3 4 40 (CV.cond_f rfl (CV.skip (KV.then_n ?_)))))
      refine KV.e5 0 1 2 3 4 ?_
      refine KV.sel [] [] rfl ?_
      exact KV.join () ⟨rfl, rfl, rfl, rfl, rfl, trivial⟩ (fun _ h => ⟨⟨by omega, by omega, by omega⟩, h⟩)
    ·
     refine RV.gw rfl (Step.move rfl) rfl (RV.k rfl rfl (RV.k rfl rfl (RV.k rfl rfl (RV.gw rfl (Step.pick_f rfl rfl) rfl (RV.s (Step.pick_f rfl rfl) rfl ?_)))))
     refine RV.nil (KV.then_n (KV.e6 0 1 2 3 4 40 (CV.cond_f rfl (CV.skip (KV.then_n ?_)))))
     refine KV.e5 0 1 2 3 4 ?_
     refine KV.sel [] [] rfl ?_
     exact KV.join () ⟨rfl, rfl, rfl, rfl, rfl, trivial⟩ (fun _ h => ⟨⟨by omega, by omega, by omega⟩, h⟩)
 ·
  intro _
  refine KV.have (fun _ h => h.1) fun hj1 => ?_
  refine KV.heap (fun _ h => h.2) ?_
  obtain ⟨hj1, hj2, hj3⟩ := hj1
  refine CV.seq ?_
  refine CV.any (Hp I w []) (by kernel_rfl) (fun _ h => h.drew) 13 rfl ?_
  refine AV.u 0 (bl 13 1) rfl gno (Step.move rfl) rfl (fun _ h => h.sel [] rfl) ?_
  refine AV.u 1 (bl 13 3) rfl gno (Step.move rfl) rfl (fun _ h => h.sel [] rfl) ?_
  refine AV.u 2 (bl 13 7) rfl gno (Step.move rfl) rfl (fun _ h => h.sel [] rfl) ?_
  refine AV.u 3 (bl 13 15) rfl gno (Step.move rfl) rfl (fun _ h => h.sel [] rfl) ?_
  refine AV.u 4 (bl 13 31) rfl gno (Step.move rfl) rfl (fun _ h => h.sel [] rfl) ?_
  refine AV.u 5 (bl 13 63) rfl gno (Step.lenSl Tryz.underlying22 rfl) rfl (fun _ h => h.sel [] rfl) ?_
  refine AV.u 7 (bl 13 191) rfl gno (Step.move rfl) rfl (fun _ h => h.sel [] rfl) ?_
  refine AV.u 8 (bl 13 447) rfl gno (Step.lenSl Tryz.underlying22 rfl) rfl (fun _ h => h.sel [] rfl) ?_
  refine AV.all [6, 9] (by kernel_rfl) (by decide) ?_
  refine ⟨⟨_, rfl, ?_⟩, ⟨⟨_, rfl, ?_⟩, trivial⟩⟩
  ·
   refine OV.make (K := (intK .i64)) (l.length) (l.length) (0) Tryz.underlying48 I3 rfl rfl rfl rfl rfl (by omega) (by omega) (by omega) gno rfl (fun b3_6 => ?_)
   refine AV.next (bl 13 511) (by kernel_rfl) (fun _ h => h.sel [] rfl) ?_
   refine AV.all [9] (by kernel_rfl) (by decide) ?_
   refine ⟨⟨_, rfl, ?_⟩, trivial⟩
   ·
    refine OV.make (K := (intK .i64)) (l.length) (l.length) (0) Tryz.underlying56 I2 rfl rfl rfl rfl rfl (by omega) (by omega) (by omega) gno rfl (fun b3_9 => ?_)
    refine AV.next (bl 13 1023) (by kernel_rfl) (fun _ h => h.sel [] rfl) ?_
    refine AV.u 10 (bl 13 2047) rfl gno (Step.build rfl (Bd117_0_1_2_3_8_9 _ _ _ _ _ _ _ _ _ _ _ _)) rfl (fun _ h => h.sel [] rfl) ?_
    refine AV.all [11] (by kernel_rfl) (by decide) ?_
    refine ⟨⟨_, rfl, ?_⟩, trivial⟩
    ·
     refine OV.box (t := 117) #[_, _, _, _, _, _, _, _, _, _] rfl rfl gno rfl (fun b3_11 => ?_)
     refine AV.next (bl 13 4095) (by kernel_rfl) (fun _ h => h.sel [] rfl) ?_
     refine AV.u 12 (bl 13 8191) rfl gno (Step.assign rfl) rfl (fun _ h => h.sel [] rfl) ?_
     refine AV.done (by kernel_rfl) ?_
     refine KV.then_n (KV.e5 0 1 2 3 12 (CV.seq (CV.region ?_)))
     refine RV.a rfl rfl ?_
     refine RV.nil (KV.then_n (KV.e6 0 1 2 3 12 13 (CV.seq (CV.seq ?_))))
     refine KV.heap (fun w h => h.nilOS (e := 41) (K := hdK)) ?_
     refine CV.region ?_
     refine RV.a rfl rfl ?_
     refine RV.nil (KV.then_n (KV.e7 0 1 2 3 12 13 14 (CV.block ?_)))
     refine KV.sel [2, 2] [_, _] rfl ?_
     refine CV.loop2 (fun (i : Nat) (z : Option Addr × Nat) => i ≤ l.length ∧ ∀ k, k < i → okB base lim (l.getD k rbK.d).bd) (fun (i : Nat) (z : Option Addr × Nat) => l.length - i) (fun (i : Nat) (z : Option Addr × Nat) => [(0, .slice A l.length c), (1, .slice B M.length d), (2, .int .i64 base), (3, .int .i64 lim), (12, .pointer (some ⟨b3_11, 0, none⟩)), (13, .slice z.1 (hdL l i).length z.2), (14, .int .i64 i)]) (fun (i : Nat) (z : Option Addr × Nat) => Hp I w [Blk b3_11 (.cells #[.slice A l.length c, .int .i64 base, .int .i64 lim, .int .u64 bud, .pointer none, .slice none 0 0, .slice none 0 0, .slice none 0 0, .slice b3_6 l.length l.length, .slice b3_9 l.length l.length] 117 (0, 0)), OS 41 hdK z.1 z.2 (hdL l i)]) (0) ((none, 0)) ⟨Nat.zero_le _, fun k hk => by omega⟩ ⟨rfl, rfl, rfl, rfl, rfl, rfl, rfl, trivial⟩ (fun _ h => h) ?_
     intro i z hinv
     refine CV.seq (CV.seq (CV.region ?_))
     refine RV.m rfl rfl (RV.m rfl rfl (RV.s (Step.lenSl Tryz.underlying22 rfl) rfl ?_))
     refine RV.op (OV.split gno (Step.lss rfl rfl) rfl (fun cc5 => ?_) (fun cc5 => ?_))
     ·
      refine RV.nil (KV.then_n (KV.e8 0 1 2 3 12 13 14 56 (CV.cond_t rfl (CV.skip (KV.then_n ?_)))))
      refine KV.e7 0 1 2 3 12 13 14 (CV.seq (CV.block (CV.seq (CV.region ?_))))
      refine RV.m rfl rfl (RV.m rfl rfl ?_)
      refine RV.s (Step.idx Tryz.underlying22 I45 (fun w h => h.rs hr (fun _ => hI _)) rfl rfl (rfl) _ rfl (by omega)) rfl ?_
      refine RV.s (Step.loadN _ Tryz.underlying45 rfl I45 rfl rfl (fun w h => (h.rs hr (fun _ => hI _)).cells (by omega))) rfl ?_
      refine RV.op (OV.alloc #[.int .i64 0, .int .i64 0, .slice none 0 0, .int .i64 0, .int .i64 0, .int .i64 0, .slice none 0 0] I45 rfl gno rfl (fun b8_4 => ?_))
      refine RV.op (OV.store 2 [_, _, _, _, _, _, _] #[_, _, _, _, _, _, _] I45 rfl rfl rfl rfl rfl (Nat.le_of_ble_eq_true rfl) (by simp [Value.oneCell']) rfl gno ?_)
      refine RV.nil (KV.then_n (KV.e8 0 1 2 3 12 13 14 15 (CV.seq (CV.region ?_))))
      refine RV.s (Step.fieldAddr rfl (F45_1 _ _)) rfl ?_
      (first | refine RV.op (OV.step gno (Step.load Tryz.underlying42 rfl rfl (fun w h => h.cell 0 rfl rfl)) rfl ?_) | refine RV.op (OV.step gno (Step.load Tryz.underlying42 rfl rfl (fun w h => h.cell 2 rfl rfl)) rfl ?_) | refine RV.op (OV.step gno (Step.load Tryz.underlying42 rfl rfl (fun w h => (h.rs hr (fun _ => hI _)).cell (by omega) rfl)) rfl ?_) | refine RV.op (OV.step gno (Step.load Tryz.underlying42 rfl rfl (fun w h => (h.rs hr (fun _ => hI _)).cell0 (by omega) rfl)) rfl ?_))
      refine RV.s (Step.fieldAddr rfl (F45_2 _ _)) rfl (RV.s (Step.loadN _ Tryz.underlying39 rfl I39 rfl rfl (fun w h => h.cellsO 2 3 [.int .i64 (l.getD i rbK.d).up, .int .i64 (l.getD i rbK.d).dn, .int .i64 (l.getD i rbK.d).sm] rfl rfl)) rfl ?_)
      refine RV.op (OV.call [] (F := [_, _, _]) Tryz.func40 B40 N40 rfl rfl (fun w h => newRE_fn (h.rs (hp0 i (by omega)).1 (fun _ => hI _)) rfl (hsz i (by omega)).1 (l.getD i rbK.d).up (l.getD i rbK.d).dn (l.getD i rbK.d).sm) (fun _ hb => hb.elim) gno rfl (fun v L' hp => ?_))
      obtain ⟨⟨gp, rfl⟩, rfl⟩ := hp
      simp only [List.append_nil]
      refine RV.m rfl rfl (RV.s (Step.extract0 rfl rfl) rfl (RV.s (Step.extract0 rfl rfl) rfl (RV.a rfl rfl (RV.a rfl rfl ?_))))
      refine RV.nil (KV.then_n (KV.e9 0 1 2 3 12 13 14 15 17 (CV.seq (CV.region ?_))))
      refine RV.s (Step.fieldAddr rfl (F45_3 _ _)) rfl ?_
      (first | refine RV.op (OV.step gno (Step.load Tryz.underlying43 rfl rfl (fun w h => h.cell 0 rfl rfl)) rfl ?_) | refine RV.op (OV.step gno (Step.load Tryz.underlying43 rfl rfl (fun w h => h.cell 2 rfl rfl)) rfl ?_) | refine RV.op (OV.step gno (Step.load Tryz.underlying43 rfl rfl (fun w h => (h.rs hr (fun _ => hI _)).cell (by omega) rfl)) rfl ?_) | refine RV.op (OV.step gno (Step.load Tryz.underlying43 rfl rfl (fun w h => (h.rs hr (fun _ => hI _)).cell0 (by omega) rfl)) rfl ?_))
      refine RV.op (OV.call [] (F := [_, _, _]) Tryz.func41 B41 N41 rfl rfl (fun w h => zoneRE_fn (h.rs (hp0 i (by omega)).2 (fun _ => hI _)) rfl (hsz i (by omega)).2) (fun _ hb => hb.elim) gno rfl (fun v L' hp => ?_))
      obtain ⟨⟨zp, rfl⟩, rfl⟩ := hp
      simp only [List.append_nil]
      refine RV.m rfl rfl (RV.s (Step.extract0 rfl rfl) rfl (RV.s (Step.extract0 rfl rfl) rfl (RV.a rfl rfl (RV.a rfl rfl ?_))))
      refine RV.nil (KV.then_n (KV.e10 0 1 2 3 12 13 14 15 17 19 (CV.seq (CV.region ?_))))
      refine RV.s (Step.fieldAddr rfl (F45_0 _ _)) rfl (RV.s (Step.loadN _ Tryz.underlying41 rfl I41 rfl rfl (fun w h => h.cellsO 2 0 [.int .i64 (l.getD i rbK.d).h.cap, .int .i64 (l.getD i rbK.d).h.amb] rfl rfl)) rfl (RV.m rfl rfl (RV.m rfl rfl ?_)))
      refine RV.op (OV.call [] (F := [_, _, _]) Tryz.func42 B42 N42 rfl rfl (fun w h => sustRE_fn (l.getD i rbK.d).h base lim) (fun _ hb => hb.elim) gno rfl (fun v L' hp => ?_))
      obtain ⟨⟨q, e, rfl, he⟩, rfl⟩ := hp
      simp only [List.append_nil]
      refine RV.m rfl rfl (RV.s (Step.extract0 rfl rfl) rfl (RV.s (Step.extract0 rfl rfl) rfl (RV.a rfl rfl (RV.a rfl rfl ?_))))
      refine RV.nil (KV.then_n (KV.e11 0 1 2 3 12 13 14 15 17 19 21 (CV.seq (CV.seq (CV.region ?_)))))
      refine RV.m rfl rfl ?_
      refine RV.op (OV.split gno (Step.neq rfl rfl) rfl (fun h1 => ?_) (fun h1 => ?_))
      ·
       refine RV.m rfl rfl (RV.k rfl rfl (RV.k rfl rfl (RV.s (Step.pick_t rfl rfl) rfl (RV.m rfl rfl (RV.k rfl rfl (RV.k rfl rfl (RV.s (Step.pick_t rfl rfl) rfl ?_)))))))
       refine RV.nil (KV.then_n (KV.e9 0 1 2 3 12 13 14 15 94 (CV.cond_t rfl (CV.seq (CV.region ?_)))))
       refine RV.a rfl rfl (RV.a rfl rfl ?_)
       refine RV.nil (KV.then_n (KV.e2 10 11 (CV.ret (KV.then_ret (KV.block_ret ?_)))))
       refine KV.then_ret (KV.then_ret (KV.block_ret (KV.then_ret ?_)))
       refine KV.sel [] [] rfl ?_
       exact KV.ret2 rfl rfl rfl _ (fun _ h => h) ⟨⟨fun k => absurd k (fun k => by have hd := k.d i (by rw [List.length_map]; omega); rw [bd_at l (by omega)] at hd; first | exact h1 hd.2.1 | exact h2 hd.2.2 | exact h3 (he.2 hd.1)), fun _ => rfl⟩, rfl⟩
      ·
       refine RV.m rfl rfl (RV.gw rfl (Step.move rfl) rfl ?_)
       refine RV.op (OV.split (gyes rfl) (Step.neq rfl rfl) rfl (fun h2 => ?_) (fun h2 => ?_))
       ·
        refine RV.s (Step.pick_f rfl rfl) rfl (RV.m rfl rfl (RV.k rfl rfl (RV.k rfl rfl (RV.s (Step.pick_t rfl rfl) rfl ?_))))
        refine RV.nil (KV.then_n (KV.e9 0 1 2 3 12 13 14 15 94 (CV.cond_t rfl (CV.seq (CV.region ?_)))))
        refine RV.a rfl rfl (RV.a rfl rfl ?_)
        refine RV.nil (KV.then_n (KV.e2 10 11 (CV.ret (KV.then_ret (KV.block_ret ?_)))))
        refine KV.then_ret (KV.then_ret (KV.block_ret (KV.then_ret ?_)))
        refine KV.sel [] [] rfl ?_
        exact KV.ret2 rfl rfl rfl _ (fun _ h => h) ⟨⟨fun k => absurd k (fun k => by have hd := k.d i (by rw [List.length_map]; omega); rw [bd_at l (by omega)] at hd; first | exact h1 hd.2.1 | exact h2 hd.2.2 | exact h3 (he.2 hd.1)), fun _ => rfl⟩, rfl⟩
       ·
        refine RV.s (Step.pick_f rfl rfl) rfl (RV.m rfl rfl (RV.gw rfl (Step.move rfl) rfl ?_))
        refine RV.op (OV.split (gyes rfl) (Step.neq rfl rfl) rfl (fun h3 => ?_) (fun h3 => ?_))
        ·
         refine RV.s (Step.pick_f rfl rfl) rfl ?_
         refine RV.nil (KV.then_n (KV.e9 0 1 2 3 12 13 14 15 94 (CV.cond_t rfl (CV.seq (CV.region ?_)))))
         refine RV.a rfl rfl (RV.a rfl rfl ?_)
         refine RV.nil (KV.then_n (KV.e2 10 11 (CV.ret (KV.then_ret (KV.block_ret ?_)))))
         refine KV.then_ret (KV.then_ret (KV.block_ret (KV.then_ret ?_)))
         refine KV.sel [] [] rfl ?_
         exact KV.ret2 rfl rfl rfl _ (fun _ h => h) ⟨⟨fun k => absurd k (fun k => by have hd := k.d i (by rw [List.length_map]; omega); rw [bd_at l (by omega)] at hd; first | exact h1 hd.2.1 | exact h2 hd.2.2 | exact h3 (he.2 hd.1)), fun _ => rfl⟩, rfl⟩
        ·
         refine RV.s (Step.pick_f rfl rfl) rfl ?_
         refine RV.nil (KV.then_n (KV.e9 0 1 2 3 12 13 14 15 94 (CV.cond_f rfl (CV.skip (KV.then_n ?_)))))
         refine KV.e8 0 1 2 3 12 13 14 15 (CV.region ?_)
         refine RV.m rfl rfl (RV.s (Step.fieldAddr rfl (F45_0 _ _)) rfl (RV.s (Step.loadN _ Tryz.underlying41 rfl I41 rfl rfl (fun w h => h.cellsO 2 0 [.int .i64 (l.getD i rbK.d).h.cap, .int .i64 (l.getD i rbK.d).h.amb] rfl rfl)) rfl ?_))
         refine RV.op (OV.buildSlice (K := hdK) ([(l.getD i rbK.d).h]) rfl (Bs104_1_0 _ _) rfl rfl (by omega) gno rfl (fun b14_3 => ?_))
         refine RV.op (OV.append 1 Tryz.underlying104 I41 rfl rfl rfl rfl rfl rfl (fun w h => h.os 3 rfl) (by have := hdL_len l (i := i) (by omega); simp only [List.length_cons, List.length_nil]; omega) (by have := hdL_len l (i := i) (by omega); simp only [List.length_cons, List.length_nil]; omega) gno rfl (fun hA2 hc2 => ?_))
         refine RV.a rfl rfl ?_
         refine RV.nil (KV.block_n (KV.then_n (KV.e7 0 1 2 3 12 13 14 (CV.region ?_))))
         refine RV.m rfl rfl ?_
         (first | refine RV.op (OV.step gno (Step.add rfl rfl (wI64 (by omega) (by omega))) rfl ?_) | refine RV.op (OV.step gno (Step.add rfl rfl rfl) rfl ?_))
         refine RV.a rfl rfl ?_
         refine RV.nil (KV.then_n (KV.e7 0 1 2 3 12 13 14 ?_))
         refine KV.sel [0, 0] [_, _] rfl ?_
         exact KV.loop2 (x := i) (y := z) (i + 1) ((hA2, hc2)) ⟨by omega, fun k hk => by by_cases e : k = i; (subst e; exact ⟨he.1 (Decidable.not_not.1 h3), Decidable.not_not.1 h1, Decidable.not_not.1 h2⟩); exact hinv.2 k (by omega)⟩ (by omega) ⟨rfl, rfl, rfl, rfl, rfl, (show some (Value.slice _ _ _) = some (Value.slice _ _ _) by rw [hdL_succ l (by omega)]), rfl, trivial⟩ (fun _ h => by rw [hdL_succ l (by omega)]; exact h)
     ·
      refine RV.nil (KV.then_n (KV.e8 0 1 2 3 12 13 14 56 (CV.cond_f rfl (CV.exit (KV.then_exit ?_)))))
      refine KV.then_exit (KV.block_hit (KV.then_n (KV.e5 0 1 2 12 13 (CV.seq (CV.seq ?_)))))
      obtain rfl : i = l.length := by omega
      rw [hdL_end]
      refine CV.region ?_
      refine RV.m rfl rfl (RV.s (Step.lenSl Tryz.underlying22 rfl) rfl ?_)
      refine RV.op (OV.split gno (Step.gtr rfl rfl) rfl (fun cc6 => ?_) (fun cc6 => ?_))
      ·
       refine RV.nil (KV.then_n (KV.e5 1 2 12 13 102 (CV.cond_t rfl (CV.seq (CV.region ?_)))))
       refine RV.m rfl rfl (RV.m rfl rfl (RV.m rfl rfl ?_))
       refine RV.op (OV.call [] (F := [_, _]) Tryz.func43 B43 N43 rfl rfl (fun w h => heatNewR_fn (h.os 1 rfl) rfl (by simp; omega) (h.rs hr2 (fun _ => hI _)) rfl hl2 base) (fun _ hb => hb.elim) gno rfl (fun v L' hp => ?_))
       obtain ⟨hp, rfl⟩ := hp
       simp only [List.append_nil]
       by_cases hv : Vld ((l.map RB.bd).map (·.h)) M base
       ·
        skip
        obtain ⟨hb_, rfl⟩ := hp.1 hv
        refine RV.m rfl rfl (RV.s (Step.extract0 rfl rfl) rfl (RV.s (Step.extract0 rfl rfl) rfl (RV.a rfl rfl (RV.a rfl rfl ?_))))
        refine RV.nil (KV.then_n (KV.e3 12 22 23 (CV.seq (CV.seq (CV.region ?_)))))
        refine RV.m rfl rfl (RV.s (Step.neq rfl rfl) rfl ?_)
        refine RV.nil (KV.then_n (KV.e3 12 22 111 (CV.cond_f rfl (CV.skip (KV.then_n ?_)))))
        refine KV.e2 12 22 (CV.region ?_)
        refine RV.m rfl rfl (RV.m rfl rfl (RV.s (Step.nilCheck rfl) rfl (RV.s (Step.fieldAddr rfl (F117_4 _ _)) rfl ?_)))
        refine RV.op (OV.store 0 [_] #[_, _, _, _, _, _, _, _, _, _] I113 rfl rfl rfl rfl rfl (Nat.le_of_ble_eq_true rfl) (by simp [Value.oneCell']) rfl gno ?_)
        refine RV.nil (KV.then_n (KV.e1 12 (CV.seq (CV.region ?_))))
        refine RV.m rfl rfl ?_
        refine RV.op (OV.call [0] (F := [_]) Tryz.func44 B44 N44 rfl rfl (fun w h => restartRef_fn b3_11 (h.rs hr (fun _ => hI _)) (by omega) (fun i hi => ⟨h.rs (hp0 i (by omega)).1 (fun _ => hI _), h.rs (hp0 i (by omega)).2 (fun _ => hI _)⟩) hsz) (roB_ok hI hr hp0) gno rfl (fun v L' hp => ?_))
        obtain rfl := hp
        simp only [List.append_nil]
        refine RV.nil (KV.then_n (KV.e1 12 (CV.seq (CV.region ?_))))
        refine RV.m rfl rfl (RV.a rfl rfl (RV.a rfl rfl ?_))
        refine RV.nil (KV.then_n (KV.e2 10 11 (CV.ret ?_)))
        refine KV.sel [] [] rfl ?_
        have hok : NewOk (l.map RB.bd) M base lim bud := ⟨by rw [List.length_map]; omega, by omega, fun hz => by rw [List.length_map] at hz; omega, fun i hi => by rw [List.length_map] at hi; rw [bd_at l hi]; exact hinv.2 i (by omega), fun hz => by rw [List.length_map] at hz; first | exact hv | (exfalso; omega)⟩
        exact KV.ret2 rfl rfl rfl _ (fun _ h => h) ⟨⟨fun _ => ⟨_, rfl⟩, fun k => absurd hok k⟩, rfl⟩
       ·
        skip
        obtain rfl := hp.2 hv
        refine RV.m rfl rfl (RV.s (Step.extract0 rfl rfl) rfl (RV.s (Step.extract0 rfl rfl) rfl (RV.a rfl rfl (RV.a rfl rfl ?_))))
        refine RV.nil (KV.then_n (KV.e3 12 22 23 (CV.seq (CV.seq (CV.region ?_)))))
        refine RV.m rfl rfl (RV.s (Step.neq rfl rfl) rfl ?_)
        refine RV.nil (KV.then_n (KV.e3 12 22 111 (CV.cond_t rfl (CV.seq (CV.region ?_)))))
        refine RV.a rfl rfl (RV.a rfl rfl ?_)
        refine RV.nil (KV.then_n (KV.e2 10 11 (CV.ret (KV.then_ret (KV.then_ret ?_)))))
        refine KV.sel [] [] rfl ?_
        exact KV.ret2 rfl rfl rfl _ (fun _ h => h) ⟨⟨fun k => absurd k (fun k => hv (k.v (by rw [List.length_map]; omega))), fun _ => rfl⟩, rfl⟩
      ·
       refine RV.nil (KV.then_n (KV.e5 1 2 12 13 102 (CV.cond_f rfl (CV.skip (KV.then_n ?_)))))
       refine KV.e1 12 (CV.seq (CV.region ?_))
       refine RV.m rfl rfl ?_
       refine RV.op (OV.call [0] (F := [_]) Tryz.func44 B44 N44 rfl rfl (fun w h => restartRef_fn b3_11 (h.rs hr (fun _ => hI _)) (by omega) (fun i hi => ⟨h.rs (hp0 i (by omega)).1 (fun _ => hI _), h.rs (hp0 i (by omega)).2 (fun _ => hI _)⟩) hsz) (roB_ok hI hr hp0) gno rfl (fun v L' hp => ?_))
       obtain rfl := hp
       simp only [List.append_nil]
       refine RV.nil (KV.then_n (KV.e1 12 (CV.seq (CV.region ?_))))
       refine RV.m rfl rfl (RV.a rfl rfl (RV.a rfl rfl ?_))
       refine RV.nil (KV.then_n (KV.e2 10 11 (CV.ret ?_)))
       refine KV.sel [] [] rfl ?_
       have hok : NewOk (l.map RB.bd) M base lim bud := ⟨by rw [List.length_map]; omega, by omega, fun hz => by rw [List.length_map] at hz; omega, fun i hi => by rw [List.length_map] at hi; rw [bd_at l hi]; exact hinv.2 i (by omega), fun hz => by rw [List.length_map] at hz; first | exact hv | (exfalso; omega)⟩
       exact KV.ret2 rfl rfl rfl _ (fun _ h => h) ⟨⟨fun _ => ⟨_, rfl⟩, fun k => absurd hok k⟩, rfl⟩
  ·
   refine OV.make (K := (intK .i64)) (l.length) (l.length) (0) Tryz.underlying56 I2 rfl rfl rfl rfl rfl (by omega) (by omega) (by omega) gno rfl (fun b3_9 => ?_)
   refine AV.next (bl 13 959) (by kernel_rfl) (fun _ h => h.sel [] rfl) ?_
   refine AV.all [6] (by kernel_rfl) (by decide) ?_
   refine ⟨⟨_, rfl, ?_⟩, trivial⟩
   ·
    refine OV.make (K := (intK .i64)) (l.length) (l.length) (0) Tryz.underlying48 I3 rfl rfl rfl rfl rfl (by omega) (by omega) (by omega) gno rfl (fun b3_6 => ?_)
    refine AV.next (bl 13 1023) (by kernel_rfl) (fun _ h => h.sel [] rfl) ?_
    refine AV.u 10 (bl 13 2047) rfl gno (Step.build rfl (Bd117_0_1_2_3_8_9 _ _ _ _ _ _ _ _ _ _ _ _)) rfl (fun _ h => h.sel [] rfl) ?_
    refine AV.all [11] (by kernel_rfl) (by decide) ?_
    refine ⟨⟨_, rfl, ?_⟩, trivial⟩
    ·
     refine OV.box (t := 117) #[_, _, _, _, _, _, _, _, _, _] rfl rfl gno rfl (fun b3_11 => ?_)
     refine AV.next (bl 13 4095) (by kernel_rfl) (fun _ h => h.sel [] rfl) ?_
     refine AV.u 12 (bl 13 8191) rfl gno (Step.assign rfl) rfl (fun _ h => h.sel [] rfl) ?_
     refine AV.done (by kernel_rfl) ?_
     refine KV.then_n (KV.e5 0 1 2 3 12 (CV.seq (CV.region ?_)))
     refine RV.a rfl rfl ?_
     refine RV.nil (KV.then_n (KV.e6 0 1 2 3 12 13 (CV.seq (CV.seq ?_))))
     refine KV.heap (fun w h => h.nilOS (e := 41) (K := hdK)) ?_
     refine CV.region ?_
     refine RV.a rfl rfl ?_
     refine RV.nil (KV.then_n (KV.e7 0 1 2 3 12 13 14 (CV.block ?_)))
     refine KV.sel [2, 2] [_, _] rfl ?_
     refine CV.loop2 (fun (i : Nat) (z : Option Addr × Nat) => i ≤ l.length ∧ ∀ k, k < i → okB base lim (l.getD k rbK.d).bd) (fun (i : Nat) (z : Option Addr × Nat) => l.length - i) (fun (i : Nat) (z : Option Addr × Nat) => [(0, .slice A l.length c), (1, .slice B M.length d), (2, .int .i64 base), (3, .int .i64 lim), (12, .pointer (some ⟨b3_11, 0, none⟩)), (13, .slice z.1 (hdL l i).length z.2), (14, .int .i64 i)]) (fun (i : Nat) (z : Option Addr × Nat) => Hp I w [Blk b3_11 (.cells #[.slice A l.length c, .int .i64 base, .int .i64 lim, .int .u64 bud, .pointer none, .slice none 0 0, .slice none 0 0, .slice none 0 0, .slice b3_6 l.length l.length, .slice b3_9 l.length l.length] 117 (0, 0)), OS 41 hdK z.1 z.2 (hdL l i)]) (0) ((none, 0)) ⟨Nat.zero_le _, fun k hk => by omega⟩ ⟨rfl, rfl, rfl, rfl, rfl, rfl, rfl, trivial⟩ (fun _ h => h) ?_
     intro i z hinv
     refine CV.seq (CV.seq (CV.region ?_))
     refine RV.m rfl rfl (RV.m rfl rfl (RV.s (Step.lenSl Tryz.underlying22 rfl) rfl ?_))
     refine RV.op (OV.split gno (Step.lss rfl rfl) rfl (fun cc7 => ?_) (fun cc7 => ?_))
     ·
      refine RV.nil (KV.then_n (KV.e8 0 1 2 3 12 13 14 56 (CV.cond_t rfl (CV.skip (KV.then_n ?_)))))
      refine KV.e7 0 1 2 3 12 13 14 (CV.seq (CV.block (CV.seq (CV.region ?_))))
      refine RV.m rfl rfl (RV.m rfl rfl ?_)
      refine RV.s (Step.idx Tryz.underlying22 I45 (fun w h => h.rs hr (fun _ => hI _)) rfl rfl (rfl) _ rfl (by omega)) rfl ?_
      refine RV.s (Step.loadN _ Tryz.underlying45 rfl I45 rfl rfl (fun w h => (h.rs hr (fun _ => hI _)).cells (by omega))) rfl ?_
      refine RV.op (OV.alloc #[.int .i64 0, .int .i64 0, .slice none 0 0, .int .i64 0, .int .i64 0, .int .i64 0, .slice none 0 0] I45 rfl gno rfl (fun b8_4 => ?_))
      refine RV.op (OV.store 2 [_, _, _, _, _, _, _] #[_, _, _, _, _, _, _] I45 rfl rfl rfl rfl rfl (Nat.le_of_ble_eq_true rfl) (by simp [Value.oneCell']) rfl gno ?_)
      refine RV.nil (KV.then_n (KV.e8 0 1 2 3 12 13 14 15 (CV.seq (CV.region ?_))))
      refine RV.s (Step.fieldAddr rfl (F45_1 _ _)) rfl ?_
      (first | refine RV.op (OV.step gno (Step.load Tryz.underlying42 rfl rfl (fun w h => h.cell 0 rfl rfl)) rfl ?_) | refine RV.op (OV.step gno (Step.load Tryz.underlying42 rfl rfl (fun w h => h.cell 2 rfl rfl)) rfl ?_) | refine RV.op (OV.step gno (Step.load Tryz.underlying42 rfl rfl (fun w h => (h.rs hr (fun _ => hI _)).cell (by omega) rfl)) rfl ?_) | refine RV.op (OV.step gno (Step.load Tryz.underlying42 rfl rfl (fun w h => (h.rs hr (fun _ => hI _)).cell0 (by omega) rfl)) rfl ?_))
      refine RV.s (Step.fieldAddr rfl (F45_2 _ _)) rfl (RV.s (Step.loadN _ Tryz.underlying39 rfl I39 rfl rfl (fun w h => h.cellsO 2 3 [.int .i64 (l.getD i rbK.d).up, .int .i64 (l.getD i rbK.d).dn, .int .i64 (l.getD i rbK.d).sm] rfl rfl)) rfl ?_)
      refine RV.op (OV.call [] (F := [_, _, _]) Tryz.func40 B40 N40 rfl rfl (fun w h => newRE_fn (h.rs (hp0 i (by omega)).1 (fun _ => hI _)) rfl (hsz i (by omega)).1 (l.getD i rbK.d).up (l.getD i rbK.d).dn (l.getD i rbK.d).sm) (fun _ hb => hb.elim) gno rfl (fun v L' hp => ?_))
      obtain ⟨⟨gp, rfl⟩, rfl⟩ := hp
      simp only [List.append_nil]
      refine RV.m rfl rfl (RV.s (Step.extract0 rfl rfl) rfl (RV.s (Step.extract0 rfl rfl) rfl (RV.a rfl rfl (RV.a rfl rfl ?_))))
      refine RV.nil (KV.then_n (KV.e9 0 1 2 3 12 13 14 15 17 (CV.seq (CV.region ?_))))
      refine RV.s (Step.fieldAddr rfl (F45_3 _ _)) rfl ?_
      (first | refine RV.op (OV.step gno (Step.load Tryz.underlying43 rfl rfl (fun w h => h.cell 0 rfl rfl)) rfl ?_) | refine RV.op (OV.step gno (Step.load Tryz.underlying43 rfl rfl (fun w h => h.cell 2 rfl rfl)) rfl ?_) | refine RV.op (OV.step gno (Step.load Tryz.underlying43 rfl rfl (fun w h => (h.rs hr (fun _ => hI _)).cell (by omega) rfl)) rfl ?_) | refine RV.op (OV.step gno (Step.load Tryz.underlying43 rfl rfl (fun w h => (h.rs hr (fun _ => hI _)).cell0 (by omega) rfl)) rfl ?_))
      refine RV.op (OV.call [] (F := [_, _, _]) Tryz.func41 B41 N41 rfl rfl (fun w h => zoneRE_fn (h.rs (hp0 i (by omega)).2 (fun _ => hI _)) rfl (hsz i (by omega)).2) (fun _ hb => hb.elim) gno rfl (fun v L' hp => ?_))
      obtain ⟨⟨zp, rfl⟩, rfl⟩ := hp
      simp only [List.append_nil]
      refine RV.m rfl rfl (RV.s (Step.extract0 rfl rfl) rfl (RV.s (Step.extract0 rfl rfl) rfl (RV.a rfl rfl (RV.a rfl rfl ?_))))
      refine RV.nil (KV.then_n (KV.e10 0 1 2 3 12 13 14 15 17 19 (CV.seq (CV.region ?_))))
      refine RV.s (Step.fieldAddr rfl (F45_0 _ _)) rfl (RV.s (Step.loadN _ Tryz.underlying41 rfl I41 rfl rfl (fun w h => h.cellsO 2 0 [.int .i64 (l.getD i rbK.d).h.cap, .int .i64 (l.getD i rbK.d).h.amb] rfl rfl)) rfl (RV.m rfl rfl (RV.m rfl rfl ?_)))
      refine RV.op (OV.call [] (F := [_, _, _]) Tryz.func42 B42 N42 rfl rfl (fun w h => sustRE_fn (l.getD i rbK.d).h base lim) (fun _ hb => hb.elim) gno rfl (fun v L' hp => ?_))
      obtain ⟨⟨q, e, rfl, he⟩, rfl⟩ := hp
      simp only [List.append_nil]
      refine RV.m rfl rfl (RV.s (Step.extract0 rfl rfl) rfl (RV.s (Step.extract0 rfl rfl) rfl (RV.a rfl rfl (RV.a rfl rfl ?_))))
      refine RV.nil (KV.then_n (KV.e11 0 1 2 3 12 13 14 15 17 19 21 (CV.seq (CV.seq (CV.region ?_)))))
      refine RV.m rfl rfl ?_
      refine RV.op (OV.split gno (Step.neq rfl rfl) rfl (fun h1 => ?_) (fun h1 => ?_))
      ·
       refine RV.m rfl rfl (RV.k rfl rfl (RV.k rfl rfl (RV.s (Step.pick_t rfl rfl) rfl (RV.m rfl rfl (RV.k rfl rfl (RV.k rfl rfl (RV.s (Step.pick_t rfl rfl) rfl ?_)))))))
       refine RV.nil (KV.then_n (KV.e9 0 1 2 3 12 13 14 15 94 (CV.cond_t rfl (CV.seq (CV.region ?_)))))
       refine RV.a rfl rfl (RV.a rfl rfl ?_)
       refine RV.nil (KV.then_n (KV.e2 10 11 (CV.ret (KV.then_ret (KV.block_ret ?_)))))
       refine KV.then_ret (KV.then_ret (KV.block_ret (KV.then_ret ?_)))
       refine KV.sel [] [] rfl ?_
       exact KV.ret2 rfl rfl rfl _ (fun _ h => h) ⟨⟨fun k => absurd k (fun k => by have hd := k.d i (by rw [List.length_map]; omega); rw [bd_at l (by omega)] at hd; first | exact h1 hd.2.1 | exact h2 hd.2.2 | exact h3 (he.2 hd.1)), fun _ => rfl⟩, rfl⟩
      ·
       refine RV.m rfl rfl (RV.gw rfl (Step.move rfl) rfl ?_)
       refine RV.op (OV.split (gyes rfl) (Step.neq rfl rfl) rfl (fun h2 => ?_) (fun h2 => ?_))
       ·
        refine RV.s (Step.pick_f rfl rfl) rfl (RV.m rfl rfl (RV.k rfl rfl (RV.k rfl rfl (RV.s (Step.pick_t rfl rfl) rfl ?_))))
        refine RV.nil (KV.then_n (KV.e9 0 1 2 3 12 13 14 15 94 (CV.cond_t rfl (CV.seq (CV.region ?_)))))
        refine RV.a rfl rfl (RV.a rfl rfl ?_)
        refine RV.nil (KV.then_n (KV.e2 10 11 (CV.ret (KV.then_ret (KV.block_ret ?_)))))
        refine KV.then_ret (KV.then_ret (KV.block_ret (KV.then_ret ?_)))
        refine KV.sel [] [] rfl ?_
        exact KV.ret2 rfl rfl rfl _ (fun _ h => h) ⟨⟨fun k => absurd k (fun k => by have hd := k.d i (by rw [List.length_map]; omega); rw [bd_at l (by omega)] at hd; first | exact h1 hd.2.1 | exact h2 hd.2.2 | exact h3 (he.2 hd.1)), fun _ => rfl⟩, rfl⟩
       ·
        refine RV.s (Step.pick_f rfl rfl) rfl (RV.m rfl rfl (RV.gw rfl (Step.move rfl) rfl ?_))
        refine RV.op (OV.split (gyes rfl) (Step.neq rfl rfl) rfl (fun h3 => ?_) (fun h3 => ?_))
        ·
         refine RV.s (Step.pick_f rfl rfl) rfl ?_
         refine RV.nil (KV.then_n (KV.e9 0 1 2 3 12 13 14 15 94 (CV.cond_t rfl (CV.seq (CV.region ?_)))))
         refine RV.a rfl rfl (RV.a rfl rfl ?_)
         refine RV.nil (KV.then_n (KV.e2 10 11 (CV.ret (KV.then_ret (KV.block_ret ?_)))))
         refine KV.then_ret (KV.then_ret (KV.block_ret (KV.then_ret ?_)))
         refine KV.sel [] [] rfl ?_
         exact KV.ret2 rfl rfl rfl _ (fun _ h => h) ⟨⟨fun k => absurd k (fun k => by have hd := k.d i (by rw [List.length_map]; omega); rw [bd_at l (by omega)] at hd; first | exact h1 hd.2.1 | exact h2 hd.2.2 | exact h3 (he.2 hd.1)), fun _ => rfl⟩, rfl⟩
        ·
         refine RV.s (Step.pick_f rfl rfl) rfl ?_
         refine RV.nil (KV.then_n (KV.e9 0 1 2 3 12 13 14 15 94 (CV.cond_f rfl (CV.skip (KV.then_n ?_)))))
         refine KV.e8 0 1 2 3 12 13 14 15 (CV.region ?_)
         refine RV.m rfl rfl (RV.s (Step.fieldAddr rfl (F45_0 _ _)) rfl (RV.s (Step.loadN _ Tryz.underlying41 rfl I41 rfl rfl (fun w h => h.cellsO 2 0 [.int .i64 (l.getD i rbK.d).h.cap, .int .i64 (l.getD i rbK.d).h.amb] rfl rfl)) rfl ?_))
         refine RV.op (OV.buildSlice (K := hdK) ([(l.getD i rbK.d).h]) rfl (Bs104_1_0 _ _) rfl rfl (by omega) gno rfl (fun b14_3 => ?_))
         refine RV.op (OV.append 1 Tryz.underlying104 I41 rfl rfl rfl rfl rfl rfl (fun w h => h.os 3 rfl) (by have := hdL_len l (i := i) (by omega); simp only [List.length_cons, List.length_nil]; omega) (by have := hdL_len l (i := i) (by omega); simp only [List.length_cons, List.length_nil]; omega) gno rfl (fun hA2 hc2 => ?_))
         refine RV.a rfl rfl ?_
         refine RV.nil (KV.block_n (KV.then_n (KV.e7 0 1 2 3 12 13 14 (CV.region ?_))))
         refine RV.m rfl rfl ?_
         (first | refine RV.op (OV.step gno (Step.add rfl rfl (wI64 (by omega) (by omega))) rfl ?_) | refine RV.op (OV.step gno (Step.add rfl rfl rfl) rfl ?_))
         refine RV.a rfl rfl ?_
         refine RV.nil (KV.then_n (KV.e7 0 1 2 3 12 13 14 ?_))
         refine KV.sel [0, 0] [_, _] rfl ?_
         exact KV.loop2 (x := i) (y := z) (i + 1) ((hA2, hc2)) ⟨by omega, fun k hk => by by_cases e : k = i; (subst e; exact ⟨he.1 (Decidable.not_not.1 h3), Decidable.not_not.1 h1, Decidable.not_not.1 h2⟩); exact hinv.2 k (by omega)⟩ (by omega) ⟨rfl, rfl, rfl, rfl, rfl, (show some (Value.slice _ _ _) = some (Value.slice _ _ _) by rw [hdL_succ l (by omega)]), rfl, trivial⟩ (fun _ h => by rw [hdL_succ l (by omega)]; exact h)
     ·
      refine RV.nil (KV.then_n (KV.e8 0 1 2 3 12 13 14 56 (CV.cond_f rfl (CV.exit (KV.then_exit ?_)))))
      refine KV.then_exit (KV.block_hit (KV.then_n (KV.e5 0 1 2 12 13 (CV.seq (CV.seq ?_)))))
      obtain rfl : i = l.length := by omega
      rw [hdL_end]
      refine CV.region ?_
      refine RV.m rfl rfl (RV.s (Step.lenSl Tryz.underlying22 rfl) rfl ?_)
      refine RV.op (OV.split gno (Step.gtr rfl rfl) rfl (fun cc8 => ?_) (fun cc8 => ?_))
      ·
       refine RV.nil (KV.then_n (KV.e5 1 2 12 13 102 (CV.cond_t rfl (CV.seq (CV.region ?_)))))
       refine RV.m rfl rfl (RV.m rfl rfl (RV.m rfl rfl ?_))
       refine RV.op (OV.call [] (F := [_, _]) Tryz.func43 B43 N43 rfl rfl (fun w h => heatNewR_fn (h.os 1 rfl) rfl (by simp; omega) (h.rs hr2 (fun _ => hI _)) rfl hl2 base) (fun _ hb => hb.elim) gno rfl (fun v L' hp => ?_))
       obtain ⟨hp, rfl⟩ := hp
       simp only [List.append_nil]
       by_cases hv : Vld ((l.map RB.bd).map (·.h)) M base
       ·
        skip
        obtain ⟨hb_, rfl⟩ := hp.1 hv
        refine RV.m rfl rfl (RV.s (Step.extract0 rfl rfl) rfl (RV.s (Step.extract0 rfl rfl) rfl (RV.a rfl rfl (RV.a rfl rfl ?_))))
        refine RV.nil (KV.then_n (KV.e3 12 22 23 (CV.seq (CV.seq (CV.region ?_)))))
        refine RV.m rfl rfl (RV.s (Step.neq rfl rfl) rfl ?_)
        refine RV.nil (KV.then_n (KV.e3 12 22 111 (CV.cond_f rfl (CV.skip (KV.then_n ?_)))))
        refine KV.e2 12 22 (CV.region ?_)
        refine RV.m rfl rfl (RV.m rfl rfl (RV.s (Step.nilCheck rfl) rfl (RV.s (Step.fieldAddr rfl (F117_4 _ _)) rfl ?_)))
        refine RV.op (OV.store 0 [_] #[_, _, _, _, _, _, _, _, _, _] I113 rfl rfl rfl rfl rfl (Nat.le_of_ble_eq_true rfl) (by simp [Value.oneCell']) rfl gno ?_)
        refine RV.nil (KV.then_n (KV.e1 12 (CV.seq (CV.region ?_))))
        refine RV.m rfl rfl ?_
        refine RV.op (OV.call [0] (F := [_]) Tryz.func44 B44 N44 rfl rfl (fun w h => restartRef_fn b3_11 (h.rs hr (fun _ => hI _)) (by omega) (fun i hi => ⟨h.rs (hp0 i (by omega)).1 (fun _ => hI _), h.rs (hp0 i (by omega)).2 (fun _ => hI _)⟩) hsz) (roB_ok hI hr hp0) gno rfl (fun v L' hp => ?_))
        obtain rfl := hp
        simp only [List.append_nil]
        refine RV.nil (KV.then_n (KV.e1 12 (CV.seq (CV.region ?_))))
        refine RV.m rfl rfl (RV.a rfl rfl (RV.a rfl rfl ?_))
        refine RV.nil (KV.then_n (KV.e2 10 11 (CV.ret ?_)))
        refine KV.sel [] [] rfl ?_
        have hok : NewOk (l.map RB.bd) M base lim bud := ⟨by rw [List.length_map]; omega, by omega, fun hz => by rw [List.length_map] at hz; omega, fun i hi => by rw [List.length_map] at hi; rw [bd_at l hi]; exact hinv.2 i (by omega), fun hz => by rw [List.length_map] at hz; first | exact hv | (exfalso; omega)⟩
        exact KV.ret2 rfl rfl rfl _ (fun _ h => h) ⟨⟨fun _ => ⟨_, rfl⟩, fun k => absurd hok k⟩, rfl⟩
       ·
        skip
        obtain rfl := hp.2 hv
        refine RV.m rfl rfl (RV.s (Step.extract0 rfl rfl) rfl (RV.s (Step.extract0 rfl rfl) rfl (RV.a rfl rfl (RV.a rfl rfl ?_))))
        refine RV.nil (KV.then_n (KV.e3 12 22 23 (CV.seq (CV.seq (CV.region ?_)))))
        refine RV.m rfl rfl (RV.s (Step.neq rfl rfl) rfl ?_)
        refine RV.nil (KV.then_n (KV.e3 12 22 111 (CV.cond_t rfl (CV.seq (CV.region ?_)))))
        refine RV.a rfl rfl (RV.a rfl rfl ?_)
        refine RV.nil (KV.then_n (KV.e2 10 11 (CV.ret (KV.then_ret (KV.then_ret ?_)))))
        refine KV.sel [] [] rfl ?_
        exact KV.ret2 rfl rfl rfl _ (fun _ h => h) ⟨⟨fun k => absurd k (fun k => hv (k.v (by rw [List.length_map]; omega))), fun _ => rfl⟩, rfl⟩
      ·
       refine RV.nil (KV.then_n (KV.e5 1 2 12 13 102 (CV.cond_f rfl (CV.skip (KV.then_n ?_)))))
       refine KV.e1 12 (CV.seq (CV.region ?_))
       refine RV.m rfl rfl ?_
       refine RV.op (OV.call [0] (F := [_]) Tryz.func44 B44 N44 rfl rfl (fun w h => restartRef_fn b3_11 (h.rs hr (fun _ => hI _)) (by omega) (fun i hi => ⟨h.rs (hp0 i (by omega)).1 (fun _ => hI _), h.rs (hp0 i (by omega)).2 (fun _ => hI _)⟩) hsz) (roB_ok hI hr hp0) gno rfl (fun v L' hp => ?_))
       obtain rfl := hp
       simp only [List.append_nil]
       refine RV.nil (KV.then_n (KV.e1 12 (CV.seq (CV.region ?_))))
       refine RV.m rfl rfl (RV.a rfl rfl (RV.a rfl rfl ?_))
       refine RV.nil (KV.then_n (KV.e2 10 11 (CV.ret ?_)))
       refine KV.sel [] [] rfl ?_
       have hok : NewOk (l.map RB.bd) M base lim bud := ⟨by rw [List.length_map]; omega, by omega, fun hz => by rw [List.length_map] at hz; omega, fun i hi => by rw [List.length_map] at hi; rw [bd_at l hi]; exact hinv.2 i (by omega), fun hz => by rw [List.length_map] at hz; first | exact hv | (exfalso; omega)⟩
       exact KV.ret2 rfl rfl rfl _ (fun _ h => h) ⟨⟨fun _ => ⟨_, rfl⟩, fun k => absurd hok k⟩, rfl⟩
end Go.Proofs.YtdfkpdcpegcieaaGreatDoor
