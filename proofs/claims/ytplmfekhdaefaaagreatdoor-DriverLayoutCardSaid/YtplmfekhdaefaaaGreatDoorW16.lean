/-
 Walks, part 16.
-/
import Derived.Test.YtplmfekhdaefaaaGreatDoorTabA
import Derived.Test.YtplmfekhdaefaaaGreatDoorW15
import Derived.Test.YtplmfekhdaefaaaGreatDoorDmB
set_option linter.unusedSimpArgs false
set_option linter.unusedVariables false
namespace Go.Proofs.YtplmfekhdaefaaaGreatDoor
open Go.Sv Go.Drv
set_option maxRecDepth 100000 in
set_option maxHeartbeats 16000000 in
theorem awake_fn {w : World} (hE : EvR w) : Fx Tryz.prog 8 [] w [] at4 (fun v L => v = .bool true ∧ L = []) := by
 refine Sv.Fx.body Tryz.func8 rfl T8 rfl ?_
 intro I hro hI
 refine KV.env [] trivial (CV.seq (CV.region ?_))
 refine RV.a rfl rfl ?_
 refine RV.nil (KV.then_n (KV.env [] trivial (CV.seq (CV.region ?_))))
 refine RV.op (OV.call [] (F := []) Tryz.func12 B12 N12 rfl rfl (fun w h => parse_fn awL (by decide) (EvR.keep h hE (hro 4 rfl))) (fun b hb => roAt4 hE hro b hb) gno rfl (fun v L' hp => ?_))
 obtain ⟨d, rfl, hdd, rfl⟩ := hp
 rw [aw_parse] at hdd
 rw [show (parseM awL).1 = 0 from congrArg Prod.fst aw_parse]
 have hds : d.ss.length = 2 := by rw [show d.ss = awD.ss from congrArg Dv.ss hdd]; rfl
 have hdt : d.hs.length = 2 := by have h1 : d.hs.map (·.t) = awD.ts := congrArg Dv.ts hdd; have h2 := congrArg List.length h1; rw [List.length_map] at h2; exact h2
 unfold dL
 refine RV.m rfl rfl (RV.s (Step.extract0 rfl rfl) rfl (RV.s (Step.extract0 rfl rfl) rfl ?_))
 refine RV.op (OV.alloc #[.string (Sv.bs []), .slice none 0 0, .slice none 0 0] I25 rfl gno rfl (fun x => ?_))
 refine RV.op (OV.store 3 [_, _, _] #[_, _, _] I25 rfl rfl rfl rfl rfl (Nat.le_of_ble_eq_true rfl) (by simp [Value.oneCell']) rfl gno ?_)
 refine RV.a rfl rfl ?_
 refine RV.nil (KV.then_n (KV.env [(1, _), (2, _)] ⟨rfl, rfl, trivial⟩ (CV.seq (CV.seq (CV.region ?_)))))
 refine RV.m rfl rfl ?_
 refine RV.op (OV.split gno (Step.neq rfl rfl) rfl (fun n1 => ?_) (fun n1 => ?_))
 ·
  exact absurd rfl n1
 ·
  refine RV.m rfl rfl (RV.gw rfl (Step.fieldAddr rfl (F25_1 _ _)) rfl (RV.gw rfl (Step.load Tryz.underlying22 rfl rfl (fun w h => h.cell 3 rfl rfl)) rfl (RV.gw rfl (Step.lenSl Tryz.underlying22 rfl) rfl ?_)))
  refine RV.op (OV.split (gyes rfl) (Step.neq rfl rfl) rfl (fun n2 => ?_) (fun n2 => ?_))
  ·
   omega
  ·
   refine RV.s (Step.pick_f rfl rfl) rfl (RV.m rfl rfl (RV.gw rfl (Step.fieldAddr rfl (F25_2 _ _)) rfl (RV.gw rfl (Step.load Tryz.underlying23 rfl rfl (fun w h => h.cell 3 rfl rfl)) rfl (RV.gw rfl (Step.lenSl Tryz.underlying23 rfl) rfl ?_))))
   refine RV.op (OV.split (gyes rfl) (Step.neq rfl rfl) rfl (fun n3 => ?_) (fun n3 => ?_))
   ·
    omega
   ·
    refine RV.s (Step.pick_f rfl rfl) rfl ?_
    refine RV.nil (KV.then_n (KV.env [(1, _), (29, _)] ⟨rfl, rfl, trivial⟩ (CV.cond_f rfl (CV.skip (KV.then_n ?_)))))
    refine KV.env [(1, _)] ⟨rfl, trivial⟩ (CV.seq (CV.region ?_))
    refine RV.s (Step.loadN _ Tryz.underlying25 rfl I25 rfl rfl (fun w h => h.cells 3 rfl)) rfl ?_
    refine RV.op (OV.call [] (F := [_, _, _, _]) Tryz.func17 B17 N17 rfl rfl (fun w h => new_fn d (DR.ofHp (k1 := 0) (k2 := 1) (k3 := 2) h rfl rfl rfl rfl)) (fun _ hb => hb.elim) gno rfl (fun v L' hp => ?_))
    rcases hp with ⟨_, q, d2, he2, rfl, rfl⟩ | ⟨hck, _, _⟩
    rotate_left
    ·
     exact absurd (by rw [hdd]; exact aw_chk) hck
    have hts : d2.hs.map (·.t) = awD.ts := by rw [show d2.hs.map (·.t) = d.hs.map (·.t) from congrArg Dv.ts he2]; exact congrArg Dv.ts hdd
    have hb2 : Bnd d2 := chk_bnd (by rw [he2, hdd]; exact aw_chk)
    have hl2 : d2.hs.length = 2 := by have h2 := congrArg List.length hts; rw [List.length_map] at h2; exact h2
    unfold instL
    refine RV.m rfl rfl (RV.s (Step.extract0 rfl rfl) rfl (RV.s (Step.extract0 rfl rfl) rfl (RV.a rfl rfl (RV.a rfl rfl ?_))))
    refine RV.nil (KV.then_n (KV.env [(3, _), (4, _)] ⟨rfl, rfl, trivial⟩ (CV.seq (CV.seq (CV.region ?_)))))
    refine RV.m rfl rfl ?_
    refine RV.op (OV.split gno (Step.neq rfl rfl) rfl (fun n4 => ?_) (fun n4 => ?_))
    ·
     exact absurd rfl n4
    ·
     refine RV.m rfl rfl (RV.gw rfl (Step.move rfl) rfl ?_)
     refine RV.op (OV.split (gyes rfl) (Step.eqlP Tryz.underlying49 rfl rfl) rfl (fun n5 => ?_) (fun n5 => ?_))
     ·
      cases n5
     ·
      refine RV.s (Step.pick_f rfl rfl) rfl ?_
      refine RV.nil (KV.then_n (KV.env [(3, _), (40, _)] ⟨rfl, rfl, trivial⟩ (CV.cond_f rfl (CV.skip (KV.then_n ?_)))))
      refine KV.env [(3, _)] ⟨rfl, trivial⟩ (CV.seq (CV.region ?_))
      refine RV.m rfl rfl ?_
      refine RV.op (OV.call [4, 4, 4, 4] (F := [_, _, _, _]) Tryz.func18 B18 N18 rfl rfl (fun w h => handle_fn d2 ⟨0, false, 0⟩ sStart hb2) (fun _ hb => hb.elim) gno rfl (fun v L' hp => ?_))
      obtain ⟨A1, c1, rfl, rfl⟩ := hp
      rw [hts, aw_h1]
      dsimp only
      unfold instL
      refine RV.m rfl rfl (RV.s (Step.extract0 rfl rfl) rfl (RV.s (Step.extract0 rfl rfl) rfl ?_))
      refine RV.op (OV.alloc #[.slice none 0 0, .bool false] I53 rfl gno rfl (fun y1 => ?_))
      refine RV.op (OV.store 9 [_, _] #[_, _] I53 rfl rfl rfl rfl rfl (Nat.le_of_ble_eq_true rfl) (by simp [Value.oneCell']) rfl gno ?_)
      refine RV.a rfl rfl ?_
      refine RV.nil (KV.then_n (KV.env [(3, _), (5, _), (6, _)] ⟨rfl, rfl, rfl, trivial⟩ (CV.seq (CV.region ?_))))
      refine RV.m rfl rfl ?_
      refine RV.op (OV.call [4, 4, 4, 4] (F := [_, _, _, _, _, _]) Tryz.func18 B18 N18 rfl rfl (fun w h => handle_fn d2 ⟨1, false, 0⟩ sIrq hb2) (fun _ hb => hb.elim) gno rfl (fun v L' hp => ?_))
      obtain ⟨A2, c2, rfl, rfl⟩ := hp
      rw [hts, aw_h2]
      dsimp only
      unfold instL
      refine RV.m rfl rfl (RV.s (Step.extract0 rfl rfl) rfl (RV.s (Step.extract0 rfl rfl) rfl ?_))
      refine RV.op (OV.alloc #[.slice none 0 0, .bool false] I53 rfl gno rfl (fun y2 => ?_))
      refine RV.op (OV.store 11 [_, _] #[_, _] I53 rfl rfl rfl rfl rfl (Nat.le_of_ble_eq_true rfl) (by simp [Value.oneCell']) rfl gno ?_)
      refine RV.a rfl rfl ?_
      refine RV.nil (KV.then_n (KV.env [(3, _), (5, _), (6, _), (7, _), (8, _)] ⟨rfl, rfl, rfl, rfl, rfl, trivial⟩ (CV.seq (CV.region ?_))))
      refine RV.m rfl rfl ?_
      refine RV.op (OV.call [] (F := [_, _, _, _, _, _, _, _, _, _, _, _]) Tryz.func19 B19 N19 rfl rfl (fun w h => waiting_fn (d := d2) (s := ⟨1, true, 1⟩) (h.blk 6 rfl)) (fun _ hb => hb.elim) gno rfl (fun v L' hp => ?_))
      obtain ⟨rfl, rfl⟩ := hp
      simp only [List.append_nil]
      refine RV.a rfl rfl ?_
      refine RV.nil (KV.then_n (KV.env [(3, _), (5, _), (6, _), (7, _), (8, _), (9, _)] ⟨rfl, rfl, rfl, rfl, rfl, rfl, trivial⟩ (CV.seq (CV.region ?_))))
      refine RV.m rfl rfl ?_
      refine RV.op (OV.call [6, 6, 6, 6] (F := [_, _, _, _, _, _, _, _]) Tryz.func20 B20 N20 rfl rfl (fun w h => reply_fn d2 ⟨1, true, 1⟩ 3 hb2 (fun _ => by rw [hl2]; decide)) (fun _ hb => hb.elim) gno rfl (fun v L' hp => ?_))
      obtain ⟨A3, c3, rfl, rfl⟩ := hp
      rw [hts, aw_h3]
      dsimp only
      unfold instL
      refine RV.m rfl rfl (RV.s (Step.extract0 rfl rfl) rfl (RV.s (Step.extract0 rfl rfl) rfl ?_))
      refine RV.op (OV.alloc #[.slice none 0 0, .bool false] I53 rfl gno rfl (fun y3 => ?_))
      refine RV.op (OV.store 13 [_, _] #[_, _] I53 rfl rfl rfl rfl rfl (Nat.le_of_ble_eq_true rfl) (by simp [Value.oneCell']) rfl gno ?_)
      refine RV.a rfl rfl ?_
      refine RV.nil (KV.then_n (KV.env [(3, _), (5, _), (6, _), (7, _), (8, _), (9, _), (10, _), (11, _)] ⟨rfl, rfl, rfl, rfl, rfl, rfl, rfl, rfl, trivial⟩ (CV.seq (CV.region ?_))))
      refine RV.m rfl rfl ?_
      refine RV.op (OV.split gno (Step.eql rfl rfl) rfl (fun e1 => ?_) (fun e1 => ?_))
      ·
       refine RV.m rfl rfl (RV.gw rfl (Step.move rfl) rfl ?_)
       refine RV.op (OV.split (gyes rfl) (Step.eql rfl rfl) rfl (fun e2 => ?_) (fun e2 => ?_))
       ·
        refine RV.s (Step.pick_t rfl rfl) rfl (RV.m rfl rfl (RV.gw rfl (Step.move rfl) rfl ?_))
        refine RV.op (OV.split (gyes rfl) (Step.eql rfl rfl) rfl (fun e3 => ?_) (fun e3 => ?_))
        ·
         refine RV.s (Step.pick_t rfl rfl) rfl (RV.m rfl rfl (RV.gw rfl (Step.move rfl) rfl (RV.s (Step.pick_t rfl rfl) rfl (RV.m rfl rfl (RV.gw rfl (Step.loadN _ Tryz.underlying53 rfl I53 rfl rfl (fun w h => h.cells 5 rfl)) rfl (RV.gw rfl (Step.build rfl (Bd59_0_1_2 _ _ _)) rfl ?_))))))
         refine RV.op (OV.buildSlice (K := roK) ([(⟨true, 4, 1⟩ : Ro)]) rfl (Bs46_1_0 _ _ _) rfl rfl (by omega) (gyes rfl) rfl (fun m1 => ?_))
         refine RV.gw rfl (Step.build rfl (Bd53_0 _ _ _)) rfl ?_
         refine RV.op (OV.call [] (F := [_, _, _, _, _, _, _, _, _, _, _, _, _, _, _]) Tryz.func21 B21 N21 rfl rfl (fun w h => same_fn (l := [⟨true, 4, 1⟩]) (m := [⟨true, 4, 1⟩]) (a := false) (b := false) (h.os 4 rfl) (h.os 14 rfl) (by decide) (by decide)) (fun _ hb => hb.elim) (gyes rfl) rfl (fun v L' hp => ?_))
         obtain ⟨rfl, rfl⟩ := hp
         rw [decide_eq_true (show ([⟨true, 4, 1⟩] : List Ro) = [⟨true, 4, 1⟩] ∧ false = false from ⟨rfl, rfl⟩)]
         simp only [List.append_nil]
         refine RV.s (Step.pick_t rfl rfl) rfl (RV.m rfl rfl (RV.gw rfl (Step.loadN _ Tryz.underlying53 rfl I53 rfl rfl (fun w h => h.cells 7 rfl)) rfl (RV.gw rfl (Step.build rfl (Bd59_1 _)) rfl ?_)))
         refine RV.op (OV.buildSlice (K := roK) ([(⟨false, 8, 0⟩ : Ro)]) rfl (Bs46_1_0 _ _ _) rfl rfl (by omega) (gyes rfl) rfl (fun m2 => ?_))
         refine RV.gw rfl (Step.build rfl (Bd53_0_1 _ _ _ _)) rfl ?_
         refine RV.op (OV.call [] (F := [_, _, _, _, _, _, _, _, _, _, _, _, _, _, _, _]) Tryz.func21 B21 N21 rfl rfl (fun w h => same_fn (l := [⟨false, 8, 0⟩]) (m := [⟨false, 8, 0⟩]) (a := true) (b := true) (h.os 6 rfl) (h.os 15 rfl) (by decide) (by decide)) (fun _ hb => hb.elim) (gyes rfl) rfl (fun v L' hp => ?_))
         obtain ⟨rfl, rfl⟩ := hp
         rw [decide_eq_true (show ([⟨false, 8, 0⟩] : List Ro) = [⟨false, 8, 0⟩] ∧ true = true from ⟨rfl, rfl⟩)]
         simp only [List.append_nil]
         refine RV.s (Step.pick_t rfl rfl) rfl (RV.m rfl rfl (RV.gw rfl (Step.loadN _ Tryz.underlying53 rfl I53 rfl rfl (fun w h => h.cells 13 rfl)) rfl (RV.gw rfl (Step.build rfl (Bd53_)) rfl ?_)))
         refine RV.op (OV.call [] (F := [_, _, _, _, _, _, _, _, _, _, _, _, _, _, _, _]) Tryz.func21 B21 N21 rfl rfl (fun w h => same_fn (l := []) (m := []) (a := false) (b := false) (h.os 12 rfl) (.inl rfl) (by decide) (by decide)) (fun _ hb => hb.elim) (gyes rfl) rfl (fun v L' hp => ?_))
         obtain ⟨rfl, rfl⟩ := hp
         rw [decide_eq_true (show ([] : List Ro) = [] ∧ false = false from ⟨rfl, rfl⟩)]
         simp only [List.append_nil]
         refine RV.s (Step.pick_t rfl rfl) rfl (RV.m rfl rfl (RV.gw rfl (Step.move rfl) rfl ?_))
         refine RV.op (OV.call [] (F := [_, _, _, _, _, _, _, _, _, _, _, _, _, _, _, _]) Tryz.func22 B22 N22 rfl rfl (fun w h => state_fn (d := d2) (s := ⟨0, false, 0⟩) (h.blk 8 rfl)) (fun _ hb => hb.elim) (gyes rfl) rfl (fun v L' hp => ?_))
         obtain ⟨rfl, rfl⟩ := hp
         simp only [List.append_nil]
         refine RV.op (OV.split (gyes rfl) (Step.eql rfl rfl) rfl (fun e4 => ?_) (fun e4 => ?_))
         ·
          refine RV.s (Step.pick_t rfl rfl) rfl (RV.a rfl rfl ?_)
          refine RV.nil (KV.then_n (KV.env [(0, _)] ⟨rfl, trivial⟩ (CV.ret ?_)))
          refine KV.sel [] [] rfl ?_
          exact KV.ret1 rfl rfl _ (fun _ h => h) ⟨rfl, rfl⟩
         ·
          exact absurd rfl e4
        ·
         exact absurd rfl e3
       ·
        exact absurd rfl e2
      ·
       exact absurd rfl e1
end Go.Proofs.YtplmfekhdaefaaaGreatDoor
