/-
 Walks, part 12.
-/
import Derived.Test.YtdfkpdcpegcieaaGreatDoorTabA
import Derived.Test.YtdfkpdcpegcieaaGreatDoorW11
set_option linter.unusedSimpArgs false
set_option linter.unusedVariables false
namespace Go.Proofs.YtdfkpdcpegcieaaGreatDoor
open Go.Sv Go.Perf Go.Ctl
set_option maxRecDepth 100000 in
set_option maxHeartbeats 4000000 in
theorem some38_fn {A : Option Addr} {n0 c : Nat} {D0 : List HD} {w : World} (hr : RS w hdK A D0) (hn0 : n0 = D0.length) (hl : D0.length ≤ 1000000) {B : Option Addr} {m d : Nat} {M0 : List HL} (hr2 : RS w hlK B M0) (hm : m = M0.length) (amb : Int) : Fx Tryz.prog 45 [.slice A n0 c, .slice B m d, .int .i64 amb] w [] no (fun v L => ∃ A c D B2 d2 M base, v = .agg #[.slice A D.length c, .slice B2 M.length d2, .int .i64 base] ∧ SmOk D M base ∧ L = [OS 41 hdK A c D, OS 195 hlK B2 d2 M]) := by
 subst hn0
 subst hm
 refine Sv.Fx.body Tryz.func45 rfl T45 rfl ?_
 intro I hro hI
 refine KV.e3 0 1 2 (CV.seq (CV.region ?_))
 refine RV.op (OV.alloc #[.slice none 0 0, .slice none 0 0, .int .i64 0] I127 rfl gno rfl (fun b0_0 => ?_))
 refine RV.nil (KV.then_n (KV.e4 0 1 2 6 (CV.seq (CV.region ?_))))
 refine RV.m rfl rfl (RV.s (Step.lenSl Tryz.underlying104 rfl) rfl (RV.s (Step.min2 rfl rfl) rfl (RV.s (Step.max2 rfl rfl) rfl ?_)))
 obtain ⟨n, hn⟩ : ∃ n : Nat, max 1 (min (D0.length : Int) 5) = n := ⟨(max 1 (min (D0.length : Int) 5)).toNat, by omega⟩
 rw [hn]
 have hn1 : 1 ≤ n ∧ n ≤ 5 := by omega
 refine RV.a rfl rfl ?_
 refine RV.nil (KV.then_n (KV.e5 0 1 2 6 7 (CV.seq (CV.region ?_))))
 refine RV.m rfl rfl (RV.s (Step.convI Tryz.underlying2 Tryz.underlying24 rfl (rfl)) rfl ?_)
 refine RV.s (Step.rem rfl rfl (by omega) (rfl)) rfl ?_
 have hw := wr_rem amb (n := 201) (by omega)
 (first | refine RV.op (OV.step gno (Step.convI Tryz.underlying24 Tryz.underlying2 rfl (wI64 (by omega) (by omega))) rfl ?_) | refine RV.op (OV.step gno (Step.convI Tryz.underlying24 Tryz.underlying2 rfl rfl) rfl ?_))
 (first | refine RV.op (OV.step gno (Step.sub rfl rfl (wI64 (by omega) (by omega))) rfl ?_) | refine RV.op (OV.step gno (Step.sub rfl rfl rfl) rfl ?_))
 obtain ⟨base, hbase⟩ : ∃ b : Int, (IntKind.u64.wrap amb).tmod 201 - 100 = b := ⟨_, rfl⟩
 rw [hbase]
 have hb12 : -100 ≤ base ∧ base ≤ 100 := by omega
 refine RV.m rfl rfl ?_
 refine RV.op (OV.make (K := hdK) (n) (n) (hd0) Tryz.underlying104 I41 rfl rfl rfl rfl rfl (by omega) (by omega) (by omega) gno rfl (fun b2_6 => ?_))
 refine RV.s (Step.build rfl (Bd127_2_0 _ _ _ _)) rfl ?_
 refine RV.op (OV.alloc #[.slice none 0 0, .slice none 0 0, .int .i64 0] I127 rfl gno rfl (fun b2_8 => ?_))
 refine RV.op (OV.store 2 [_, _, _] #[_, _, _] I127 rfl rfl rfl rfl rfl (Nat.le_of_ble_eq_true rfl) (by simp [Value.oneCell']) rfl gno ?_)
 refine RV.nil (KV.then_n (KV.e5 0 1 6 7 8 (CV.seq (CV.seq (CV.region ?_)))))
 refine RV.a rfl rfl ?_
 refine RV.nil (KV.then_n (KV.e6 0 1 6 7 8 9 (CV.block ?_)))
 refine KV.sel [0, 0, 0] [_, _, _] rfl ?_
 refine CV.loop2 (fun (i : Nat) (D : List HD) => i ≤ n ∧ smD n D i) (fun (i : Nat) (D : List HD) => n - i) (fun (i : Nat) (D : List HD) => [(0, .slice A D0.length c), (1, .slice B M0.length d), (6, .pointer (some ⟨b0_0, 0, none⟩)), (7, .int .i64 n), (8, .pointer (some ⟨b2_8, 0, none⟩)), (9, .int .i64 i)]) (fun (i : Nat) (D : List HD) => Hp I w [Blk b0_0 (.cells #[.slice none 0 0, .slice none 0 0, .int .i64 0] 127 (0, 0)), OS 41 hdK b2_6 n D, Blk b2_8 (.cells #[.slice b2_6 n n, .slice none 0 0, .int .i64 base] 127 (0, 0))]) (0) ((List.replicate n hd0)) ⟨Nat.zero_le _, List.length_replicate, fun k hk => by omega⟩ ⟨rfl, rfl, rfl, rfl, rfl, rfl, trivial⟩ (fun _ h => h) ?_
 intro i D hinv
 have hDl := hinv.2.1
 refine CV.seq (CV.seq (CV.region ?_))
 refine RV.m rfl rfl (RV.m rfl rfl ?_)
 refine RV.op (OV.split gno (Step.lss rfl rfl) rfl (fun cc1 => ?_) (fun cc1 => ?_))
 ·
  refine RV.nil (KV.then_n (KV.e7 0 1 6 7 8 9 29 (CV.cond_t rfl (CV.skip (KV.then_n ?_)))))
  refine KV.e6 0 1 6 7 8 9 (CV.seq (CV.block (CV.seq (CV.region ?_))))
  refine RV.s (Step.fieldAddr rfl (F127_0 _ _)) rfl (RV.s (Step.load Tryz.underlying104 rfl rfl (fun w h => h.cell 2 rfl rfl)) rfl (RV.m rfl rfl (RV.s (Step.build rfl (Bd41_0_1 _ _)) rfl ?_)))
  refine RV.op (OV.step gno (Step.idx Tryz.underlying104 I41 (fun w h => h.os 1 rfl) rfl rfl (by first | rfl | omega | (simp only [List.length_set]; omega)) _ rfl (by first | omega | (rw [List.length_set]; omega) | (simp only [List.length_set]; omega))) rfl ?_)
  refine RV.op (OV.storeE 1 (i) (⟨1, 1⟩) (j := 0) [_, _] I41 rfl rfl rfl rfl rfl rfl (by omega) rfl (Nat.le_of_ble_eq_true rfl) gno ?_)
  refine RV.nil (KV.then_n (KV.e6 0 1 6 7 8 9 (CV.seq (CV.region ?_))))
  refine RV.m rfl rfl (RV.m rfl rfl (RV.s (Step.lenSl Tryz.underlying104 rfl) rfl ?_))
  refine RV.op (OV.split gno (Step.lss rfl rfl) rfl (fun hlt => ?_) (fun hlt => ?_))
  ·
   refine RV.nil (KV.then_n (KV.e7 0 1 6 7 8 9 40 (CV.cond_t rfl (CV.seq ?_))))
   refine CV.stillTail 12 (by kernel_rfl) (by kernel_rfl) (fun _ h => h.drew) ?_
   refine SV.step gno (Step.fieldAddr rfl (F127_0 _ _)) rfl ?_
   refine SV.step gno (Step.load Tryz.underlying104 rfl rfl (fun w h => h.cell 2 rfl rfl)) rfl ?_
   refine SV.step gno (Step.move rfl) rfl ?_
   refine SV.step gno (Step.move rfl) rfl ?_
   refine SV.step gno (Step.move rfl) rfl ?_
   refine SV.step gno (Step.idx Tryz.underlying104 I41 (fun w h => h.rs hr (fun _ => hI _)) rfl rfl (by first | rfl | omega | (simp only [List.length_set]; omega)) _ rfl (by first | omega | (rw [List.length_set]; omega) | (simp only [List.length_set]; omega))) rfl ?_
   refine SV.step gno (Step.fieldAddr rfl (F41_1 _ _)) rfl ?_
   refine SV.step gno (Step.load Tryz.underlying2 rfl rfl (fun w h => (h.rs hr (fun _ => hI _)).cell (by omega) rfl)) rfl ?_
   refine SV.step gno (Step.convI Tryz.underlying2 Tryz.underlying24 rfl (rfl)) rfl ?_
   refine SV.step gno (Step.rem rfl rfl (by omega) (rfl)) rfl ?_
   have hw1 := wr_rem (D0.getD i hdK.d).amb (n := 6) (by omega)
   (first | refine SV.step gno (Step.convI Tryz.underlying24 Tryz.underlying2 rfl (wI64 (by omega) (by omega))) rfl ?_ | refine SV.step gno (Step.convI Tryz.underlying24 Tryz.underlying2 rfl rfl) rfl ?_)
   (first | refine SV.step gno (Step.add rfl rfl (wI64 (by omega) (by omega))) rfl ?_ | refine SV.step gno (Step.add rfl rfl rfl) rfl ?_)
   refine SV.nil ?_
   show KV _ (wpList _ _ _ _) _ _
   refine RV.op (OV.step gno (Step.idx Tryz.underlying104 I41 (fun w h => h.os 1 rfl) rfl rfl (by first | rfl | omega | (simp only [List.length_set]; omega)) _ rfl (by first | omega | (rw [List.length_set]; omega) | (simp only [List.length_set]; omega))) rfl ?_)
   refine RV.s (Step.fieldAddr rfl (F41_1 _ _)) rfl ?_
   refine RV.op (OV.storeE 1 (i) (⟨1, (1 + (IntKind.u64.wrap (D0.getD i hdK.d).amb).tmod 6)⟩) (j := 1) [_] I2 rfl rfl rfl rfl rfl rfl (by rw [List.length_set]; omega) (by rw [getD_set_self _ _ _ _ (by omega)]; rfl) (Nat.le_of_ble_eq_true rfl) gno ?_)
   refine RV.nil (KV.then_n (KV.e6 0 1 6 7 8 9 ?_))
   refine CV.stillTail 18 (by kernel_rfl) (by kernel_rfl) (fun _ h => h.drew) ?_
   refine SV.step gno (Step.fieldAddr rfl (F127_0 _ _)) rfl ?_
   refine SV.step gno (Step.load Tryz.underlying104 rfl rfl (fun w h => h.cell 2 rfl rfl)) rfl ?_
   refine SV.step gno (Step.move rfl) rfl ?_
   refine SV.step gno (Step.fieldAddr rfl (F127_0 _ _)) rfl ?_
   refine SV.step gno (Step.load Tryz.underlying104 rfl rfl (fun w h => h.cell 2 rfl rfl)) rfl ?_
   refine SV.step gno (Step.move rfl) rfl ?_
   refine SV.step gno (Step.idx Tryz.underlying104 I41 (fun w h => h.os 1 rfl) rfl rfl (by first | rfl | omega | (simp only [List.length_set]; omega)) _ rfl (by first | omega | (rw [List.length_set]; omega) | (simp only [List.length_set]; omega))) rfl ?_
   refine SV.step gno (Step.fieldAddr rfl (F41_1 _ _)) rfl ?_
   refine SV.step gno (Step.load Tryz.underlying2 rfl rfl (fun w h => (h.os 1 rfl).cellS (by rw [List.length_set]; omega) rfl)) rfl ?_
   refine SV.step gno (Step.move rfl) rfl ?_
   refine SV.step gno (Step.move rfl) rfl ?_
   refine SV.step gno (Step.idx Tryz.underlying104 I41 (fun w h => h.rs hr (fun _ => hI _)) rfl rfl (by first | rfl | omega | (simp only [List.length_set]; omega)) _ rfl (by first | omega | (rw [List.length_set]; omega) | (simp only [List.length_set]; omega))) rfl ?_
   refine SV.step gno (Step.fieldAddr rfl (F41_0 _ _)) rfl ?_
   refine SV.step gno (Step.load Tryz.underlying2 rfl rfl (fun w h => (h.rs hr (fun _ => hI _)).cell0 (by omega) rfl)) rfl ?_
   refine SV.step gno (Step.convI Tryz.underlying2 Tryz.underlying24 rfl (rfl)) rfl ?_
   refine SV.step gno (Step.rem rfl rfl (by omega) (rfl)) rfl ?_
   have hw2 := wr_rem (D0.getD i hdK.d).cap (n := 8) (by omega)
   (first | refine SV.step gno (Step.convI Tryz.underlying24 Tryz.underlying2 rfl (wI64 (by omega) (by omega))) rfl ?_ | refine SV.step gno (Step.convI Tryz.underlying24 Tryz.underlying2 rfl rfl) rfl ?_)
   refine SV.step gno (Step.add rfl rfl ((show IntKind.i64.wrap ((1 + (IntKind.u64.wrap (D0.getD i hdK.d).amb).tmod 6) + (IntKind.u64.wrap (D0.getD i hdK.d).cap).tmod 8) = ((1 + (IntKind.u64.wrap (D0.getD i hdK.d).amb).tmod 6) + (IntKind.u64.wrap (D0.getD i hdK.d).cap).tmod 8) from wI64 (by omega) (by omega)))) rfl ?_
   refine SV.nil ?_
   show KV _ (wpList _ _ _ _) _ _
   refine RV.op (OV.step gno (Step.idx Tryz.underlying104 I41 (fun w h => h.os 1 rfl) rfl rfl (by first | rfl | omega | (simp only [List.length_set]; omega)) _ rfl (by first | omega | (rw [List.length_set]; omega) | (simp only [List.length_set]; omega))) rfl ?_)
   refine RV.s (Step.fieldAddr rfl (F41_0 _ _)) rfl ?_
   refine RV.op (OV.storeE 1 (i) (⟨((1 + (IntKind.u64.wrap (D0.getD i hdK.d).amb).tmod 6) + (IntKind.u64.wrap (D0.getD i hdK.d).cap).tmod 8), (1 + (IntKind.u64.wrap (D0.getD i hdK.d).amb).tmod 6)⟩) (j := 0) [_] I2 rfl rfl rfl rfl rfl rfl (by simp only [List.length_set]; omega) (by rw [getD_set_self _ _ _ _ (by rw [List.length_set]; omega)]; rfl) (Nat.le_of_ble_eq_true rfl) gno ?_)
   refine RV.nil (KV.block_n (KV.then_n (KV.e6 0 1 6 7 8 9 (CV.region ?_))))
   refine RV.m rfl rfl ?_
   (first | refine RV.op (OV.step gno (Step.add rfl rfl (wI64 (by omega) (by omega))) rfl ?_) | refine RV.op (OV.step gno (Step.add rfl rfl rfl) rfl ?_))
   refine RV.a rfl rfl ?_
   refine RV.nil (KV.then_n (KV.e6 0 1 6 7 8 9 ?_))
   refine KV.sel [0, 0, 0] [_, _, _] rfl ?_
   (first | exact KV.loop2 (x := i) (y := D) (i + 1) ((D.set i ⟨1, 1⟩)) ⟨by omega, smD_set hinv.2 (by omega) (by decide) (by decide) (by decide) (by decide)⟩ (by omega) ⟨rfl, rfl, rfl, rfl, rfl, rfl, trivial⟩ (fun _ h => h) | exact KV.loop2 (x := i) (y := D) (i + 1) ((((D.set i ⟨1, 1⟩).set i ⟨1, (1 + (IntKind.u64.wrap (D0.getD i hdK.d).amb).tmod 6)⟩).set i ⟨((1 + (IntKind.u64.wrap (D0.getD i hdK.d).amb).tmod 6) + (IntKind.u64.wrap (D0.getD i hdK.d).cap).tmod 8), (1 + (IntKind.u64.wrap (D0.getD i hdK.d).amb).tmod 6)⟩)) ⟨by omega, by rw [List.set_set, List.set_set]; exact smD_set hinv.2 (by omega) (by dsimp only; omega) (by dsimp only; omega) (by dsimp only; omega) (by dsimp only; omega)⟩ (by omega) ⟨rfl, rfl, rfl, rfl, rfl, rfl, trivial⟩ (fun _ h => h))
  ·
   refine RV.nil (KV.then_n (KV.e7 0 1 6 7 8 9 40 (CV.cond_f rfl (CV.skip (KV.block_n ?_)))))
   refine KV.then_n (KV.e6 0 1 6 7 8 9 (CV.region ?_))
   refine RV.m rfl rfl ?_
   (first | refine RV.op (OV.step gno (Step.add rfl rfl (wI64 (by omega) (by omega))) rfl ?_) | refine RV.op (OV.step gno (Step.add rfl rfl rfl) rfl ?_))
   refine RV.a rfl rfl ?_
   refine RV.nil (KV.then_n (KV.e6 0 1 6 7 8 9 ?_))
   refine KV.sel [0, 0, 0] [_, _, _] rfl ?_
   (first | exact KV.loop2 (x := i) (y := D) (i + 1) ((D.set i ⟨1, 1⟩)) ⟨by omega, smD_set hinv.2 (by omega) (by decide) (by decide) (by decide) (by decide)⟩ (by omega) ⟨rfl, rfl, rfl, rfl, rfl, rfl, trivial⟩ (fun _ h => h) | exact KV.loop2 (x := i) (y := D) (i + 1) ((((D.set i ⟨1, 1⟩).set i ⟨1, (1 + (IntKind.u64.wrap (D0.getD i hdK.d).amb).tmod 6)⟩).set i ⟨((1 + (IntKind.u64.wrap (D0.getD i hdK.d).amb).tmod 6) + (IntKind.u64.wrap (D0.getD i hdK.d).cap).tmod 8), (1 + (IntKind.u64.wrap (D0.getD i hdK.d).amb).tmod 6)⟩)) ⟨by omega, by rw [List.set_set, List.set_set]; exact smD_set hinv.2 (by omega) (by dsimp only; omega) (by dsimp only; omega) (by dsimp only; omega) (by dsimp only; omega)⟩ (by omega) ⟨rfl, rfl, rfl, rfl, rfl, rfl, trivial⟩ (fun _ h => h))
 ·
  refine RV.nil (KV.then_n (KV.e7 0 1 6 7 8 9 29 (CV.cond_f rfl (CV.exit (KV.then_exit ?_)))))
  refine KV.then_exit (KV.block_hit (KV.then_n (KV.e4 1 6 7 8 (CV.seq (CV.seq ?_)))))
  have hin : i = n := by omega
  rw [hin] at hinv
  have hs0 := SmI.start hinv.2
  refine KV.heap (fun w h => h.nilOS (e := 195) (K := hlK)) ?_
  refine CV.region ?_
  refine RV.a rfl rfl ?_
  refine RV.nil (KV.then_n (KV.e5 1 6 7 8 10 (CV.block ?_)))
  refine KV.sel [0, 0, 0, 0] [_, _, _, _] rfl ?_
  refine CV.loop3 (fun (j : Nat) (E : List HD) (z : LKg) => (j ≤ 12 ∧ z.M.length ≤ j) ∧ SmI n E z.M) (fun (j : Nat) (E : List HD) (z : LKg) => 12 - j) (fun (j : Nat) (E : List HD) (z : LKg) => [(1, .slice B M0.length d), (6, .pointer (some ⟨b0_0, 0, none⟩)), (7, .int .i64 n), (8, .pointer (some ⟨b2_8, 0, none⟩)), (10, .int .i64 j)]) (fun (j : Nat) (E : List HD) (z : LKg) => Hp I w [Blk b0_0 (.cells #[.slice none 0 0, .slice none 0 0, .int .i64 0] 127 (0, 0)), OS 41 hdK b2_6 n E, Blk b2_8 (.cells #[.slice b2_6 n n, .slice z.B z.M.length z.d, .int .i64 base] 127 (0, 0)), OS 195 hlK z.B z.d z.M]) (0) (D) (⟨[], none, 0⟩) ⟨⟨by omega, Nat.zero_le _⟩, hs0⟩ ⟨rfl, rfl, rfl, rfl, rfl, trivial⟩ (fun _ h => h) ?_
  intro j E z hinv2
  have hEl := hinv2.2.len
  refine CV.seq (CV.seq (CV.region ?_))
  refine RV.m rfl rfl (RV.m rfl rfl (RV.s (Step.lenSl Tryz.underlying23 rfl) rfl ?_))
  refine RV.op (OV.split gno (Step.lss rfl rfl) rfl (fun cc2 => ?_) (fun cc2 => ?_))
  ·
   refine RV.m rfl rfl (RV.gw rfl (Step.move rfl) rfl ?_)
   refine RV.op (OV.split (gyes rfl) (Step.lss rfl rfl) rfl (fun cc3 => ?_) (fun cc3 => ?_))
   ·
    refine RV.s (Step.pick_t rfl rfl) rfl ?_
    refine RV.nil (KV.then_n (KV.e6 1 6 7 8 10 82 (CV.cond_t rfl (CV.skip (KV.then_n ?_)))))
    refine KV.e5 1 6 7 8 10 (CV.seq (CV.block ?_))
    refine CV.join4 (fun (a : Nat) (b : Nat) (gg : Int) (bl : Nat) => [(1, .slice B M0.length d), (6, .pointer (some ⟨b0_0, 0, none⟩)), (7, .int .i64 n), (8, .pointer (some ⟨b2_8, 0, none⟩)), (10, .int .i64 j), (11, .pointer (some ⟨bl, 0, none⟩))]) (fun (a : Nat) (b : Nat) (gg : Int) (bl : Nat) => (fun w9 => ((a < n ∧ b < n) ∧ 1 ≤ gg ∧ gg ≤ 5) ∧ Hp I w [Blk b0_0 (.cells #[.slice none 0 0, .slice none 0 0, .int .i64 0] 127 (0, 0)), OS 41 hdK b2_6 n E, Blk b2_8 (.cells #[.slice b2_6 n n, .slice z.B z.M.length z.d, .int .i64 base] 127 (0, 0)), OS 195 hlK z.B z.d z.M, Blk bl (.cells #[.int .i64 a, .int .i64 b, .int .i64 gg] 195 (0, 0))] w9)) ?_ ?_
    ·
     skip
     refine CV.any (Hp I w []) (by kernel_rfl) (fun _ h => h.drew) 26 rfl ?_
     refine AV.u 0 (bl 26 1) rfl gno (Step.move rfl) rfl (fun _ h => h.sel [] rfl) ?_
     refine AV.u 1 (bl 26 3) rfl gno (Step.move rfl) rfl (fun _ h => h.sel [] rfl) ?_
     refine AV.u 2 (bl 26 7) rfl gno (Step.idx Tryz.underlying23 I195 (fun w h => h.rs hr2 (fun _ => hI _)) rfl rfl (by first | rfl | omega | (simp only [List.length_set]; omega)) _ rfl (by first | omega | (rw [List.length_set]; omega) | (simp only [List.length_set]; omega))) rfl (fun _ h => h.sel [] rfl) ?_
     refine AV.u 3 (bl 26 15) rfl gno (Step.fieldAddr rfl (F195_0 _ _)) rfl (fun _ h => h.sel [] rfl) ?_
     refine AV.u 4 (bl 26 31) rfl gno (Step.load Tryz.underlying3 rfl rfl (fun w h => (h.rs hr2 (fun _ => hI _)).cell0 (by omega) rfl)) rfl (fun _ h => h.sel [] rfl) ?_
     refine AV.u 5 (bl 26 63) rfl gno (Step.move rfl) rfl (fun _ h => h.sel [] rfl) ?_
     refine AV.u 7 (bl 26 191) rfl gno (Step.move rfl) rfl (fun _ h => h.sel [] rfl) ?_
     refine AV.u 8 (bl 26 447) rfl gno (Step.move rfl) rfl (fun _ h => h.sel [] rfl) ?_
     refine AV.u 9 (bl 26 959) rfl gno (Step.idx Tryz.underlying23 I195 (fun w h => h.rs hr2 (fun _ => hI _)) rfl rfl (by first | rfl | omega | (simp only [List.length_set]; omega)) _ rfl (by first | omega | (rw [List.length_set]; omega) | (simp only [List.length_set]; omega))) rfl (fun _ h => h.sel [] rfl) ?_
     refine AV.u 10 (bl 26 1983) rfl gno (Step.fieldAddr rfl (F195_1 _ _)) rfl (fun _ h => h.sel [] rfl) ?_
     refine AV.u 11 (bl 26 4031) rfl gno (Step.load Tryz.underlying3 rfl rfl (fun w h => (h.rs hr2 (fun _ => hI _)).cell (by omega) rfl)) rfl (fun _ h => h.sel [] rfl) ?_
     refine AV.u 12 (bl 26 8127) rfl gno (Step.move rfl) rfl (fun _ h => h.sel [] rfl) ?_
     refine AV.u 14 (bl 26 24511) rfl gno (Step.move rfl) rfl (fun _ h => h.sel [] rfl) ?_
     refine AV.u 15 (bl 26 57279) rfl gno (Step.move rfl) rfl (fun _ h => h.sel [] rfl) ?_
     refine AV.u 16 (bl 26 122815) rfl gno (Step.idx Tryz.underlying23 I195 (fun w h => h.rs hr2 (fun _ => hI _)) rfl rfl (by first | rfl | omega | (simp only [List.length_set]; omega)) _ rfl (by first | omega | (rw [List.length_set]; omega) | (simp only [List.length_set]; omega))) rfl (fun _ h => h.sel [] rfl) ?_
     refine AV.u 17 (bl 26 253887) rfl gno (Step.fieldAddr rfl (F195_2 _ _)) rfl (fun _ h => h.sel [] rfl) ?_
     refine AV.u 18 (bl 26 516031) rfl gno (Step.load Tryz.underlying2 rfl rfl (fun w h => (h.rs hr2 (fun _ => hI _)).cell (by omega) rfl)) rfl (fun _ h => h.sel [] rfl) ?_
     refine AV.u 19 (bl 26 1040319) rfl gno (Step.convI Tryz.underlying2 Tryz.underlying24 rfl (rfl)) rfl (fun _ h => h.sel [] rfl) ?_
     refine AV.u 20 (bl 26 2088895) rfl gno (Step.rem rfl rfl (by omega) (rfl)) rfl (fun _ h => h.sel [] rfl) ?_
     have hw3 := wr_rem (M0.getD j hlK.d).g (n := 5) (by omega)
     (first | refine AV.take 21 (bl 26 4186047) rfl (by kernel_rfl) (by kernel_rfl) (by kernel_rfl) (fun _ _ _ h => h) gno (Step.convI Tryz.underlying24 Tryz.underlying2 rfl (wI64 (by omega) (by omega))) rfl (fun _ h => h.sel [] rfl) (by kernel_rfl) ?_ | refine AV.take 21 (bl 26 4186047) rfl (by kernel_rfl) (by kernel_rfl) (by kernel_rfl) (fun _ _ _ h => h) gno (Step.convI Tryz.underlying24 Tryz.underlying2 rfl rfl) rfl (fun _ h => h.sel [] rfl) (by kernel_rfl) ?_)
     (first | refine AV.take 22 (bl 26 8380351) rfl (by kernel_rfl) (by kernel_rfl) (by kernel_rfl) (fun _ _ _ h => h) gno (Step.add rfl rfl (wI64 (by omega) (by omega))) rfl (fun _ h => h.sel [] rfl) (by kernel_rfl) ?_ | refine AV.take 22 (bl 26 8380351) rfl (by kernel_rfl) (by kernel_rfl) (by kernel_rfl) (fun _ _ _ h => h) gno (Step.add rfl rfl rfl) rfl (fun _ h => h.sel [] rfl) (by kernel_rfl) ?_)
     refine AV.all [6, 24] (by kernel_rfl) (by decide) ?_
     refine ⟨⟨_, rfl, ?_⟩, ⟨⟨_, rfl, ?_⟩, trivial⟩⟩
     ·
      refine OV.callP Tryz.func14 B14 N14 rfl (mod_fn _ n (by omega) (by omega)) gno rfl ?_
      obtain ⟨k1, hk1, hk1l⟩ := modNat (M0.getD j hlK.d).a (n := n) (by omega)
      rw [hk1]
      refine AV.next (bl 26 8380415) (by kernel_rfl) (fun _ h => h.sel [] rfl) ?_
      refine AV.all [13, 24] (by kernel_rfl) (by decide) ?_
      refine ⟨⟨_, rfl, ?_⟩, ⟨⟨_, rfl, ?_⟩, trivial⟩⟩
      ·
       refine OV.callP Tryz.func14 B14 N14 rfl (mod_fn _ n (by omega) (by omega)) gno rfl ?_
       obtain ⟨k2, hk2, hk2l⟩ := modNat (M0.getD j hlK.d).b (n := n) (by omega)
       rw [hk2]
       refine AV.next (bl 26 8388607) (by kernel_rfl) (fun _ h => h.sel [] rfl) ?_
       refine AV.u 23 (bl 26 16777215) rfl gno (Step.build rfl (Bd195_0_1_2 _ _ _)) rfl (fun _ h => h.sel [] rfl) ?_
       refine AV.all [24] (by kernel_rfl) (by decide) ?_
       refine ⟨⟨_, rfl, ?_⟩, trivial⟩
       ·
        refine OV.alloc #[.int .i64 0, .int .i64 0, .int .i64 0] I195 rfl gno rfl (fun b13_24 => ?_)
        refine AV.next (bl 26 33554431) (by kernel_rfl) (fun _ h => h.sel [] rfl) ?_
        refine AV.all [25] (by kernel_rfl) (by decide) ?_
        refine ⟨⟨_, rfl, ?_⟩, trivial⟩
        ·
         refine OV.store 4 [_, _, _] #[_, _, _] I195 rfl rfl rfl rfl rfl (Nat.le_of_ble_eq_true rfl) (by simp [Value.oneCell']) rfl gno ?_
         refine AV.next (bl 26 67108863) (by kernel_rfl) (fun _ h => h.sel [] rfl) ?_
         refine AV.done (by kernel_rfl) ?_
         refine KV.then_n (KV.e6 1 6 7 8 10 11 ?_)
         refine KV.sel [0, 0, 0, 0, 0] [_, _, _, _, _] rfl ?_
         exact KV.join4 (k1) (k2) (_) (b13_24) ⟨rfl, rfl, rfl, rfl, rfl, rfl, trivial⟩ (fun _ h => ⟨⟨⟨hk1l, hk2l⟩, by omega, by omega⟩, h⟩)
      ·
       refine OV.alloc #[.int .i64 0, .int .i64 0, .int .i64 0] I195 rfl gno rfl (fun b13_24 => ?_)
       refine AV.next (bl 26 25157631) (by kernel_rfl) (fun _ h => h.sel [] rfl) ?_
       refine AV.all [13] (by kernel_rfl) (by decide) ?_
       refine ⟨⟨_, rfl, ?_⟩, trivial⟩
       ·
        refine OV.callP Tryz.func14 B14 N14 rfl (mod_fn _ n (by omega) (by omega)) gno rfl ?_
        obtain ⟨k2, hk2, hk2l⟩ := modNat (M0.getD j hlK.d).b (n := n) (by omega)
        rw [hk2]
        refine AV.next (bl 26 25165823) (by kernel_rfl) (fun _ h => h.sel [] rfl) ?_
        refine AV.u 23 (bl 26 33554431) rfl gno (Step.build rfl (Bd195_0_1_2 _ _ _)) rfl (fun _ h => h.sel [] rfl) ?_
        refine AV.all [25] (by kernel_rfl) (by decide) ?_
        refine ⟨⟨_, rfl, ?_⟩, trivial⟩
        ·
         refine OV.store 4 [_, _, _] #[_, _, _] I195 rfl rfl rfl rfl rfl (Nat.le_of_ble_eq_true rfl) (by simp [Value.oneCell']) rfl gno ?_
         refine AV.next (bl 26 67108863) (by kernel_rfl) (fun _ h => h.sel [] rfl) ?_
         refine AV.done (by kernel_rfl) ?_
         refine KV.then_n (KV.e6 1 6 7 8 10 11 ?_)
         refine KV.sel [0, 0, 0, 0, 0] [_, _, _, _, _] rfl ?_
         exact KV.join4 (k1) (k2) (_) (b13_24) ⟨rfl, rfl, rfl, rfl, rfl, rfl, trivial⟩ (fun _ h => ⟨⟨⟨hk1l, hk2l⟩, by omega, by omega⟩, h⟩)
     ·
      refine OV.alloc #[.int .i64 0, .int .i64 0, .int .i64 0] I195 rfl gno rfl (fun b13_24 => ?_)
      refine AV.next (bl 26 25157567) (by kernel_rfl) (fun _ h => h.sel [] rfl) ?_
      refine AV.all [6] (by kernel_rfl) (by decide) ?_
      refine ⟨⟨_, rfl, ?_⟩, trivial⟩
      ·
       refine OV.callP Tryz.func14 B14 N14 rfl (mod_fn _ n (by omega) (by omega)) gno rfl ?_
       obtain ⟨k1, hk1, hk1l⟩ := modNat (M0.getD j hlK.d).a (n := n) (by omega)
       rw [hk1]
       refine AV.next (bl 26 25157631) (by kernel_rfl) (fun _ h => h.sel [] rfl) ?_
       refine AV.all [13] (by kernel_rfl) (by decide) ?_
       refine ⟨⟨_, rfl, ?_⟩, trivial⟩
       ·
        refine OV.callP Tryz.func14 B14 N14 rfl (mod_fn _ n (by omega) (by omega)) gno rfl ?_
        obtain ⟨k2, hk2, hk2l⟩ := modNat (M0.getD j hlK.d).b (n := n) (by omega)
        rw [hk2]
        refine AV.next (bl 26 25165823) (by kernel_rfl) (fun _ h => h.sel [] rfl) ?_
        refine AV.u 23 (bl 26 33554431) rfl gno (Step.build rfl (Bd195_0_1_2 _ _ _)) rfl (fun _ h => h.sel [] rfl) ?_
        refine AV.all [25] (by kernel_rfl) (by decide) ?_
        refine ⟨⟨_, rfl, ?_⟩, trivial⟩
        ·
         refine OV.store 4 [_, _, _] #[_, _, _] I195 rfl rfl rfl rfl rfl (Nat.le_of_ble_eq_true rfl) (by simp [Value.oneCell']) rfl gno ?_
         refine AV.next (bl 26 67108863) (by kernel_rfl) (fun _ h => h.sel [] rfl) ?_
         refine AV.done (by kernel_rfl) ?_
         refine KV.then_n (KV.e6 1 6 7 8 10 11 ?_)
         refine KV.sel [0, 0, 0, 0, 0] [_, _, _, _, _] rfl ?_
         exact KV.join4 (k1) (k2) (_) (b13_24) ⟨rfl, rfl, rfl, rfl, rfl, rfl, trivial⟩ (fun _ h => ⟨⟨⟨hk1l, hk2l⟩, by omega, by omega⟩, h⟩)
    ·
     intro a b gg bl
     refine KV.have (fun _ h => h.1) fun hf9 => ?_
     refine KV.heap (fun _ h => h.2) ?_
     refine CV.seq (CV.region ?_)
     refine RV.s (Step.fieldAddr rfl (F195_0 _ _)) rfl ?_
     (first | refine RV.op (OV.step gno (Step.load Tryz.underlying3 rfl rfl (fun w h => h.cell 2 rfl rfl)) rfl ?_) | refine RV.op (OV.step gno (Step.load Tryz.underlying3 rfl rfl (fun w h => h.cell 4 rfl rfl)) rfl ?_))
     refine RV.s (Step.fieldAddr rfl (F195_1 _ _)) rfl ?_
     (first | refine RV.op (OV.step gno (Step.load Tryz.underlying3 rfl rfl (fun w h => h.cell 2 rfl rfl)) rfl ?_) | refine RV.op (OV.step gno (Step.load Tryz.underlying3 rfl rfl (fun w h => h.cell 4 rfl rfl)) rfl ?_))
     refine RV.s (Step.neq rfl rfl) rfl (RV.a rfl rfl ?_)
     refine RV.nil (KV.then_n (KV.e7 1 6 7 8 10 11 12 (CV.seq (CV.seq (CV.region ?_)))))
     refine RV.a rfl rfl ?_
     refine RV.nil (KV.then_n (KV.e8 1 6 7 8 10 11 12 13 (CV.block ?_)))
     refine KV.sel [0, 0, 0, 0, 0] [_, _, _, _, _] rfl ?_
     refine CV.loopI (fun (k : Nat) => k ≤ z.M.length) (fun (k : Nat) => z.M.length - k) (fun (k : Nat) => [(1, .slice B M0.length d), (6, .pointer (some ⟨b0_0, 0, none⟩)), (7, .int .i64 n), (8, .pointer (some ⟨b2_8, 0, none⟩)), (10, .int .i64 j), (11, .pointer (some ⟨bl, 0, none⟩)), (12, .bool (okL z.M ⟨a, b, gg⟩ k)), (13, .int .i64 k)]) (fun (k : Nat) => Hp I w [Blk b0_0 (.cells #[.slice none 0 0, .slice none 0 0, .int .i64 0] 127 (0, 0)), OS 41 hdK b2_6 n E, Blk b2_8 (.cells #[.slice b2_6 n n, .slice z.B z.M.length z.d, .int .i64 base] 127 (0, 0)), OS 195 hlK z.B z.d z.M, Blk bl (.cells #[.int .i64 a, .int .i64 b, .int .i64 gg] 195 (0, 0))]) (0) (Nat.zero_le _) ⟨rfl, rfl, rfl, rfl, rfl, rfl, (show some (Value.bool _) = some (Value.bool _) by rw [← okL_zero]), rfl, trivial⟩ (fun _ h => h) ?_
     intro k hinv3
     refine CV.seq (CV.seq (CV.region ?_))
     refine RV.m rfl rfl (RV.s (Step.fieldAddr rfl (F127_1 _ _)) rfl ?_)
     (first | refine RV.op (OV.step gno (Step.load Tryz.underlying23 rfl rfl (fun w h => h.cell 2 rfl rfl)) rfl ?_) | refine RV.op (OV.step gno (Step.load Tryz.underlying23 rfl rfl (fun w h => h.cell 4 rfl rfl)) rfl ?_))
     refine RV.s (Step.lenSl Tryz.underlying23 rfl) rfl ?_
     refine RV.op (OV.split gno (Step.lss rfl rfl) rfl (fun cc4 => ?_) (fun cc4 => ?_))
     ·
      refine RV.nil (KV.then_n (KV.e9 1 6 7 8 10 11 12 13 118 (CV.cond_t rfl (CV.skip (KV.then_n ?_)))))
      refine KV.e8 1 6 7 8 10 11 12 13 (CV.seq (CV.block (CV.seq (CV.region ?_))))
      refine RV.s (Step.fieldAddr rfl (F127_1 _ _)) rfl ?_
      (first | refine RV.op (OV.step gno (Step.load Tryz.underlying23 rfl rfl (fun w h => h.cell 2 rfl rfl)) rfl ?_) | refine RV.op (OV.step gno (Step.load Tryz.underlying23 rfl rfl (fun w h => h.cell 4 rfl rfl)) rfl ?_))
      refine RV.m rfl rfl ?_
      refine RV.op (OV.step gno (Step.idx Tryz.underlying23 I195 (fun w h => h.os 3 rfl) rfl rfl (by first | rfl | omega | (simp only [List.length_set]; omega)) _ rfl (by first | omega | (rw [List.length_set]; omega) | (simp only [List.length_set]; omega))) rfl ?_)
      refine RV.s (Step.loadN _ Tryz.underlying195 rfl I195 rfl rfl (fun w h => (h.os 3 rfl).cells (by omega))) rfl ?_
      refine RV.op (OV.alloc #[.int .i64 0, .int .i64 0, .int .i64 0] I195 rfl gno rfl (fun b18_5 => ?_))
      refine RV.op (OV.store 5 [_, _, _] #[_, _, _] I195 rfl rfl rfl rfl rfl (Nat.le_of_ble_eq_true rfl) (by simp [Value.oneCell']) rfl gno ?_)
      refine RV.nil (KV.then_n (KV.e9 1 6 7 8 10 11 12 13 14 (CV.region ?_)))
      refine RV.m rfl rfl (RV.m rfl rfl ?_)
      refine KV.cases 127 rfl (fun cc5 => ?_) (fun cc5 => ?_)
      ·
       have hok := cc5
       refine RV.gw rfl (Step.fieldAddr rfl (F195_0 _ _)) rfl ?_
       (first | refine RV.op (OV.step (gyes rfl) (Step.load Tryz.underlying3 rfl rfl (fun w h => h.cell 2 rfl rfl)) rfl ?_) | refine RV.op (OV.step (gyes rfl) (Step.load Tryz.underlying3 rfl rfl (fun w h => h.cell 4 rfl rfl)) rfl ?_) | refine RV.op (OV.step (gyes rfl) (Step.load Tryz.underlying3 rfl rfl (fun w h => h.cell 5 rfl rfl)) rfl ?_))
       refine RV.gw rfl (Step.fieldAddr rfl (F195_0 _ _)) rfl ?_
       (first | refine RV.op (OV.step (gyes rfl) (Step.load Tryz.underlying3 rfl rfl (fun w h => h.cell 2 rfl rfl)) rfl ?_) | refine RV.op (OV.step (gyes rfl) (Step.load Tryz.underlying3 rfl rfl (fun w h => h.cell 4 rfl rfl)) rfl ?_) | refine RV.op (OV.step (gyes rfl) (Step.load Tryz.underlying3 rfl rfl (fun w h => h.cell 5 rfl rfl)) rfl ?_))
       refine RV.op (OV.split (gyes rfl) (Step.eql rfl rfl) rfl (fun cc6 => ?_) (fun cc6 => ?_))
       ·
        refine RV.gw rfl (Step.move rfl) rfl (RV.gw rfl (Step.fieldAddr rfl (F195_1 _ _)) rfl ?_)
        (first | refine RV.op (OV.step (gyes rfl) (Step.load Tryz.underlying3 rfl rfl (fun w h => h.cell 2 rfl rfl)) rfl ?_) | refine RV.op (OV.step (gyes rfl) (Step.load Tryz.underlying3 rfl rfl (fun w h => h.cell 4 rfl rfl)) rfl ?_) | refine RV.op (OV.step (gyes rfl) (Step.load Tryz.underlying3 rfl rfl (fun w h => h.cell 5 rfl rfl)) rfl ?_))
        refine RV.gw rfl (Step.fieldAddr rfl (F195_1 _ _)) rfl ?_
        (first | refine RV.op (OV.step (gyes rfl) (Step.load Tryz.underlying3 rfl rfl (fun w h => h.cell 2 rfl rfl)) rfl ?_) | refine RV.op (OV.step (gyes rfl) (Step.load Tryz.underlying3 rfl rfl (fun w h => h.cell 4 rfl rfl)) rfl ?_) | refine RV.op (OV.step (gyes rfl) (Step.load Tryz.underlying3 rfl rfl (fun w h => h.cell 5 rfl rfl)) rfl ?_))
        refine RV.op (OV.split (gyes rfl) (Step.eql rfl rfl) rfl (fun cc7 => ?_) (fun cc7 => ?_))
        ·
         refine RV.gw rfl (Step.pick_t rfl rfl) rfl (RV.gw rfl (Step.move rfl) rfl (RV.k rfl rfl (RV.k rfl rfl (RV.k rfl rfl (RV.k rfl rfl (RV.k rfl rfl (RV.k rfl rfl ?_)))))))
         refine RV.op (OV.skipU rfl rfl ?_)
         refine RV.op (OV.skipU rfl rfl ?_)
         refine RV.op (OV.skipU rfl rfl ?_)
         refine RV.op (OV.skipU rfl rfl ?_)
         refine RV.op (OV.skipU rfl rfl ?_)
         refine RV.k rfl rfl (RV.gw rfl (Step.pick_t rfl rfl) rfl (RV.gw rfl (Step.not rfl) rfl (RV.s (Step.pick_t rfl rfl) rfl (RV.a rfl rfl ?_))))
         refine RV.nil (KV.block_n (KV.then_n (KV.e8 1 6 7 8 10 11 12 13 (CV.region ?_))))
         refine RV.m rfl rfl ?_
         (first | refine RV.op (OV.step gno (Step.add rfl rfl (wI64 (by omega) (by omega))) rfl ?_) | refine RV.op (OV.step gno (Step.add rfl rfl rfl) rfl ?_))
         refine RV.a rfl rfl ?_
         refine RV.nil (KV.then_n (KV.e8 1 6 7 8 10 11 12 13 ?_))
         refine KV.sel [0, 0, 0, 0, 0] [_, _, _, _, _] rfl ?_
         exact KV.loopI (z := k) (k + 1) (by omega) (by omega) ⟨rfl, rfl, rfl, rfl, rfl, rfl, (by first | exact congrArg (fun b => some (Value.bool b)) (okL_no hok) | exact congrArg (fun b => some (Value.bool b)) (okL_dup (by unfold pairEq; dsimp only; omega)) | exact congrArg (fun b => some (Value.bool b)) (okL_new hok (by unfold pairEq; dsimp only; omega))), rfl, trivial⟩ (fun _ h => h)
        ·
         refine RV.gw rfl (Step.pick_t rfl rfl) rfl (RV.gw rfl (Step.move rfl) rfl (RV.gw rfl (Step.fieldAddr rfl (F195_0 _ _)) rfl ?_))
         (first | refine RV.op (OV.step (gyes rfl) (Step.load Tryz.underlying3 rfl rfl (fun w h => h.cell 2 rfl rfl)) rfl ?_) | refine RV.op (OV.step (gyes rfl) (Step.load Tryz.underlying3 rfl rfl (fun w h => h.cell 4 rfl rfl)) rfl ?_) | refine RV.op (OV.step (gyes rfl) (Step.load Tryz.underlying3 rfl rfl (fun w h => h.cell 5 rfl rfl)) rfl ?_))
         refine RV.gw rfl (Step.fieldAddr rfl (F195_1 _ _)) rfl ?_
         (first | refine RV.op (OV.step (gyes rfl) (Step.load Tryz.underlying3 rfl rfl (fun w h => h.cell 2 rfl rfl)) rfl ?_) | refine RV.op (OV.step (gyes rfl) (Step.load Tryz.underlying3 rfl rfl (fun w h => h.cell 4 rfl rfl)) rfl ?_) | refine RV.op (OV.step (gyes rfl) (Step.load Tryz.underlying3 rfl rfl (fun w h => h.cell 5 rfl rfl)) rfl ?_))
         refine RV.op (OV.split (gyes rfl) (Step.eql rfl rfl) rfl (fun cc8 => ?_) (fun cc8 => ?_))
         ·
          refine RV.gw rfl (Step.move rfl) rfl (RV.gw rfl (Step.fieldAddr rfl (F195_1 _ _)) rfl ?_)
          (first | refine RV.op (OV.step (gyes rfl) (Step.load Tryz.underlying3 rfl rfl (fun w h => h.cell 2 rfl rfl)) rfl ?_) | refine RV.op (OV.step (gyes rfl) (Step.load Tryz.underlying3 rfl rfl (fun w h => h.cell 4 rfl rfl)) rfl ?_) | refine RV.op (OV.step (gyes rfl) (Step.load Tryz.underlying3 rfl rfl (fun w h => h.cell 5 rfl rfl)) rfl ?_))
          refine RV.gw rfl (Step.fieldAddr rfl (F195_0 _ _)) rfl ?_
          (first | refine RV.op (OV.step (gyes rfl) (Step.load Tryz.underlying3 rfl rfl (fun w h => h.cell 2 rfl rfl)) rfl ?_) | refine RV.op (OV.step (gyes rfl) (Step.load Tryz.underlying3 rfl rfl (fun w h => h.cell 4 rfl rfl)) rfl ?_) | refine RV.op (OV.step (gyes rfl) (Step.load Tryz.underlying3 rfl rfl (fun w h => h.cell 5 rfl rfl)) rfl ?_))
          refine RV.op (OV.split (gyes rfl) (Step.eql rfl rfl) rfl (fun cc9 => ?_) (fun cc9 => ?_))
          ·
           refine RV.gw rfl (Step.pick_t rfl rfl) rfl (RV.gw rfl (Step.pick_f rfl rfl) rfl (RV.gw rfl (Step.not rfl) rfl (RV.s (Step.pick_t rfl rfl) rfl (RV.a rfl rfl ?_))))
           refine RV.nil (KV.block_n (KV.then_n (KV.e8 1 6 7 8 10 11 12 13 (CV.region ?_))))
           refine RV.m rfl rfl ?_
           (first | refine RV.op (OV.step gno (Step.add rfl rfl (wI64 (by omega) (by omega))) rfl ?_) | refine RV.op (OV.step gno (Step.add rfl rfl rfl) rfl ?_))
           refine RV.a rfl rfl ?_
           refine RV.nil (KV.then_n (KV.e8 1 6 7 8 10 11 12 13 ?_))
           refine KV.sel [0, 0, 0, 0, 0] [_, _, _, _, _] rfl ?_
           exact KV.loopI (z := k) (k + 1) (by omega) (by omega) ⟨rfl, rfl, rfl, rfl, rfl, rfl, (by first | exact congrArg (fun b => some (Value.bool b)) (okL_no hok) | exact congrArg (fun b => some (Value.bool b)) (okL_dup (by unfold pairEq; dsimp only; omega)) | exact congrArg (fun b => some (Value.bool b)) (okL_new hok (by unfold pairEq; dsimp only; omega))), rfl, trivial⟩ (fun _ h => h)
          ·
           refine RV.gw rfl (Step.pick_t rfl rfl) rfl (RV.gw rfl (Step.pick_f rfl rfl) rfl (RV.gw rfl (Step.not rfl) rfl (RV.s (Step.pick_t rfl rfl) rfl (RV.a rfl rfl ?_))))
           refine RV.nil (KV.block_n (KV.then_n (KV.e8 1 6 7 8 10 11 12 13 (CV.region ?_))))
           refine RV.m rfl rfl ?_
           (first | refine RV.op (OV.step gno (Step.add rfl rfl (wI64 (by omega) (by omega))) rfl ?_) | refine RV.op (OV.step gno (Step.add rfl rfl rfl) rfl ?_))
           refine RV.a rfl rfl ?_
           refine RV.nil (KV.then_n (KV.e8 1 6 7 8 10 11 12 13 ?_))
           refine KV.sel [0, 0, 0, 0, 0] [_, _, _, _, _] rfl ?_
           exact KV.loopI (z := k) (k + 1) (by omega) (by omega) ⟨rfl, rfl, rfl, rfl, rfl, rfl, (by first | exact congrArg (fun b => some (Value.bool b)) (okL_no hok) | exact congrArg (fun b => some (Value.bool b)) (okL_dup (by unfold pairEq; dsimp only; omega)) | exact congrArg (fun b => some (Value.bool b)) (okL_new hok (by unfold pairEq; dsimp only; omega))), rfl, trivial⟩ (fun _ h => h)
         ·
          refine RV.gw rfl (Step.move rfl) rfl (RV.k rfl rfl (RV.k rfl rfl (RV.k rfl rfl (RV.k rfl rfl (RV.k rfl rfl (RV.gw rfl (Step.pick_f rfl rfl) rfl (RV.gw rfl (Step.pick_f rfl rfl) rfl ?_)))))))
          refine RV.gw rfl (Step.not rfl) rfl (RV.s (Step.pick_t rfl rfl) rfl (RV.a rfl rfl ?_))
          refine RV.nil (KV.block_n (KV.then_n (KV.e8 1 6 7 8 10 11 12 13 (CV.region ?_))))
          refine RV.m rfl rfl ?_
          (first | refine RV.op (OV.step gno (Step.add rfl rfl (wI64 (by omega) (by omega))) rfl ?_) | refine RV.op (OV.step gno (Step.add rfl rfl rfl) rfl ?_))
          refine RV.a rfl rfl ?_
          refine RV.nil (KV.then_n (KV.e8 1 6 7 8 10 11 12 13 ?_))
          refine KV.sel [0, 0, 0, 0, 0] [_, _, _, _, _] rfl ?_
          exact KV.loopI (z := k) (k + 1) (by omega) (by omega) ⟨rfl, rfl, rfl, rfl, rfl, rfl, (by first | exact congrArg (fun b => some (Value.bool b)) (okL_no hok) | exact congrArg (fun b => some (Value.bool b)) (okL_dup (by unfold pairEq; dsimp only; omega)) | exact congrArg (fun b => some (Value.bool b)) (okL_new hok (by unfold pairEq; dsimp only; omega))), rfl, trivial⟩ (fun _ h => h)
       ·
        refine RV.gw rfl (Step.move rfl) rfl (RV.k rfl rfl (RV.k rfl rfl (RV.k rfl rfl (RV.k rfl rfl (RV.k rfl rfl (RV.gw rfl (Step.pick_f rfl rfl) rfl (RV.gw rfl (Step.move rfl) rfl ?_)))))))
        refine RV.gw rfl (Step.fieldAddr rfl (F195_0 _ _)) rfl ?_
        (first | refine RV.op (OV.step (gyes rfl) (Step.load Tryz.underlying3 rfl rfl (fun w h => h.cell 2 rfl rfl)) rfl ?_) | refine RV.op (OV.step (gyes rfl) (Step.load Tryz.underlying3 rfl rfl (fun w h => h.cell 4 rfl rfl)) rfl ?_) | refine RV.op (OV.step (gyes rfl) (Step.load Tryz.underlying3 rfl rfl (fun w h => h.cell 5 rfl rfl)) rfl ?_))
        refine RV.gw rfl (Step.fieldAddr rfl (F195_1 _ _)) rfl ?_
        (first | refine RV.op (OV.step (gyes rfl) (Step.load Tryz.underlying3 rfl rfl (fun w h => h.cell 2 rfl rfl)) rfl ?_) | refine RV.op (OV.step (gyes rfl) (Step.load Tryz.underlying3 rfl rfl (fun w h => h.cell 4 rfl rfl)) rfl ?_) | refine RV.op (OV.step (gyes rfl) (Step.load Tryz.underlying3 rfl rfl (fun w h => h.cell 5 rfl rfl)) rfl ?_))
        refine RV.op (OV.split (gyes rfl) (Step.eql rfl rfl) rfl (fun cc10 => ?_) (fun cc10 => ?_))
        ·
         refine RV.gw rfl (Step.move rfl) rfl (RV.gw rfl (Step.fieldAddr rfl (F195_1 _ _)) rfl ?_)
         (first | refine RV.op (OV.step (gyes rfl) (Step.load Tryz.underlying3 rfl rfl (fun w h => h.cell 2 rfl rfl)) rfl ?_) | refine RV.op (OV.step (gyes rfl) (Step.load Tryz.underlying3 rfl rfl (fun w h => h.cell 4 rfl rfl)) rfl ?_) | refine RV.op (OV.step (gyes rfl) (Step.load Tryz.underlying3 rfl rfl (fun w h => h.cell 5 rfl rfl)) rfl ?_))
         refine RV.gw rfl (Step.fieldAddr rfl (F195_0 _ _)) rfl ?_
         (first | refine RV.op (OV.step (gyes rfl) (Step.load Tryz.underlying3 rfl rfl (fun w h => h.cell 2 rfl rfl)) rfl ?_) | refine RV.op (OV.step (gyes rfl) (Step.load Tryz.underlying3 rfl rfl (fun w h => h.cell 4 rfl rfl)) rfl ?_) | refine RV.op (OV.step (gyes rfl) (Step.load Tryz.underlying3 rfl rfl (fun w h => h.cell 5 rfl rfl)) rfl ?_))
         refine RV.op (OV.split (gyes rfl) (Step.eql rfl rfl) rfl (fun cc11 => ?_) (fun cc11 => ?_))
         ·
          refine RV.gw rfl (Step.pick_t rfl rfl) rfl (RV.gw rfl (Step.pick_f rfl rfl) rfl (RV.gw rfl (Step.not rfl) rfl (RV.s (Step.pick_t rfl rfl) rfl (RV.a rfl rfl ?_))))
          refine RV.nil (KV.block_n (KV.then_n (KV.e8 1 6 7 8 10 11 12 13 (CV.region ?_))))
          refine RV.m rfl rfl ?_
          (first | refine RV.op (OV.step gno (Step.add rfl rfl (wI64 (by omega) (by omega))) rfl ?_) | refine RV.op (OV.step gno (Step.add rfl rfl rfl) rfl ?_))
          refine RV.a rfl rfl ?_
          refine RV.nil (KV.then_n (KV.e8 1 6 7 8 10 11 12 13 ?_))
          refine KV.sel [0, 0, 0, 0, 0] [_, _, _, _, _] rfl ?_
          exact KV.loopI (z := k) (k + 1) (by omega) (by omega) ⟨rfl, rfl, rfl, rfl, rfl, rfl, (by first | exact congrArg (fun b => some (Value.bool b)) (okL_no hok) | exact congrArg (fun b => some (Value.bool b)) (okL_dup (by unfold pairEq; dsimp only; omega)) | exact congrArg (fun b => some (Value.bool b)) (okL_new hok (by unfold pairEq; dsimp only; omega))), rfl, trivial⟩ (fun _ h => h)
         ·
          refine RV.gw rfl (Step.pick_t rfl rfl) rfl (RV.gw rfl (Step.pick_f rfl rfl) rfl (RV.gw rfl (Step.not rfl) rfl (RV.s (Step.pick_t rfl rfl) rfl (RV.a rfl rfl ?_))))
          refine RV.nil (KV.block_n (KV.then_n (KV.e8 1 6 7 8 10 11 12 13 (CV.region ?_))))
          refine RV.m rfl rfl ?_
          (first | refine RV.op (OV.step gno (Step.add rfl rfl (wI64 (by omega) (by omega))) rfl ?_) | refine RV.op (OV.step gno (Step.add rfl rfl rfl) rfl ?_))
          refine RV.a rfl rfl ?_
          refine RV.nil (KV.then_n (KV.e8 1 6 7 8 10 11 12 13 ?_))
          refine KV.sel [0, 0, 0, 0, 0] [_, _, _, _, _] rfl ?_
          exact KV.loopI (z := k) (k + 1) (by omega) (by omega) ⟨rfl, rfl, rfl, rfl, rfl, rfl, (by first | exact congrArg (fun b => some (Value.bool b)) (okL_no hok) | exact congrArg (fun b => some (Value.bool b)) (okL_dup (by unfold pairEq; dsimp only; omega)) | exact congrArg (fun b => some (Value.bool b)) (okL_new hok (by unfold pairEq; dsimp only; omega))), rfl, trivial⟩ (fun _ h => h)
        ·
         refine RV.gw rfl (Step.move rfl) rfl (RV.k rfl rfl (RV.k rfl rfl (RV.k rfl rfl (RV.k rfl rfl (RV.k rfl rfl (RV.gw rfl (Step.pick_f rfl rfl) rfl (RV.gw rfl (Step.pick_f rfl rfl) rfl ?_)))))))
         refine RV.gw rfl (Step.not rfl) rfl (RV.s (Step.pick_t rfl rfl) rfl (RV.a rfl rfl ?_))
         refine RV.nil (KV.block_n (KV.then_n (KV.e8 1 6 7 8 10 11 12 13 (CV.region ?_))))
         refine RV.m rfl rfl ?_
         (first | refine RV.op (OV.step gno (Step.add rfl rfl (wI64 (by omega) (by omega))) rfl ?_) | refine RV.op (OV.step gno (Step.add rfl rfl rfl) rfl ?_))
         refine RV.a rfl rfl ?_
         refine RV.nil (KV.then_n (KV.e8 1 6 7 8 10 11 12 13 ?_))
         refine KV.sel [0, 0, 0, 0, 0] [_, _, _, _, _] rfl ?_
         exact KV.loopI (z := k) (k + 1) (by omega) (by omega) ⟨rfl, rfl, rfl, rfl, rfl, rfl, (by first | exact congrArg (fun b => some (Value.bool b)) (okL_no hok) | exact congrArg (fun b => some (Value.bool b)) (okL_dup (by unfold pairEq; dsimp only; omega)) | exact congrArg (fun b => some (Value.bool b)) (okL_new hok (by unfold pairEq; dsimp only; omega))), rfl, trivial⟩ (fun _ h => h)
      ·
       have hok := cc5
       refine RV.k rfl rfl (RV.k rfl rfl (RV.k rfl rfl (RV.k rfl rfl (RV.k rfl rfl (RV.k rfl rfl ?_)))))
       refine RV.op (OV.skipU rfl rfl ?_)
       refine RV.op (OV.skipU rfl rfl ?_)
       refine RV.op (OV.skipU rfl rfl ?_)
       refine RV.op (OV.skipU rfl rfl ?_)
       refine RV.op (OV.skipU rfl rfl ?_)
       refine RV.k rfl rfl (RV.k rfl rfl ?_)
       refine RV.op (OV.skipU rfl rfl ?_)
       refine RV.op (OV.skipU rfl rfl ?_)
       refine RV.op (OV.skipU rfl rfl ?_)
       refine RV.op (OV.skipU rfl rfl ?_)
       refine RV.op (OV.skipU rfl rfl ?_)
       refine RV.op (OV.skipU rfl rfl ?_)
       refine RV.op (OV.skipU rfl rfl ?_)
       refine RV.op (OV.skipU rfl rfl ?_)
       refine RV.op (OV.skipU rfl rfl ?_)
       refine RV.op (OV.skipU rfl rfl ?_)
       refine RV.op (OV.skipU rfl rfl ?_)
       refine RV.op (OV.skipU rfl rfl ?_)
       refine RV.k rfl rfl (RV.k rfl rfl (RV.s (Step.pick_f rfl rfl) rfl (RV.a rfl rfl ?_)))
       refine RV.nil (KV.block_n (KV.then_n (KV.e8 1 6 7 8 10 11 12 13 (CV.region ?_))))
       refine RV.m rfl rfl ?_
       (first | refine RV.op (OV.step gno (Step.add rfl rfl (wI64 (by omega) (by omega))) rfl ?_) | refine RV.op (OV.step gno (Step.add rfl rfl rfl) rfl ?_))
       refine RV.a rfl rfl ?_
       refine RV.nil (KV.then_n (KV.e8 1 6 7 8 10 11 12 13 ?_))
       refine KV.sel [0, 0, 0, 0, 0] [_, _, _, _, _] rfl ?_
       exact KV.loopI (z := k) (k + 1) (by omega) (by omega) ⟨rfl, rfl, rfl, rfl, rfl, rfl, (by first | exact congrArg (fun b => some (Value.bool b)) (okL_no hok) | exact congrArg (fun b => some (Value.bool b)) (okL_dup (by unfold pairEq; dsimp only; omega)) | exact congrArg (fun b => some (Value.bool b)) (okL_new hok (by unfold pairEq; dsimp only; omega))), rfl, trivial⟩ (fun _ h => h)
     ·
      refine RV.nil (KV.then_n (KV.e9 1 6 7 8 10 11 12 13 118 (CV.cond_f rfl (CV.exit (KV.then_exit ?_)))))
      refine KV.then_exit (KV.block_hit (KV.then_n (KV.e7 1 6 7 8 10 11 12 (CV.seq ?_))))
      have hkl : k = z.M.length := by omega
      refine CV.region ?_
      refine RV.m rfl rfl ?_
      refine RV.nil (KV.then_n (KV.e7 1 6 7 8 10 11 156 ?_))
      refine KV.cases 156 rfl (fun cc12 => ?_) (fun cc12 => ?_)
      ·
       have hok2 := cc12
       rw [hkl] at hok2
       refine CV.cond_t rfl (CV.seq (CV.region ?_))
       refine RV.s (Step.fieldAddr rfl (F127_1 _ _)) rfl ?_
       (first | refine RV.op (OV.step gno (Step.load Tryz.underlying23 rfl rfl (fun w h => h.cell 2 rfl rfl)) rfl ?_) | refine RV.op (OV.step gno (Step.load Tryz.underlying23 rfl rfl (fun w h => h.cell 4 rfl rfl)) rfl ?_))
       refine RV.s (Step.loadN _ Tryz.underlying195 rfl I195 rfl rfl (fun w h => h.cells 4 rfl)) rfl ?_
       refine RV.op (OV.buildSlice (K := hlK) ([⟨a, b, gg⟩]) rfl (Bs23_1_0 _ _ _) rfl rfl (by omega) gno rfl (fun b21_3 => ?_))
       refine RV.op (OV.append 3 Tryz.underlying23 I195 rfl rfl rfl rfl rfl rfl (fun w h => h.os 5 rfl) (by simp only [List.length_cons, List.length_nil]; omega) (by simp only [List.length_cons, List.length_nil]; omega) gno rfl (fun B3 d3 => ?_))
       refine RV.s (Step.fieldAddr rfl (F127_1 _ _)) rfl ?_
       refine RV.op (OV.store 2 [_] #[_, _, _] I23 rfl rfl rfl rfl rfl (Nat.le_of_ble_eq_true rfl) (by simp [Value.oneCell']) rfl gno ?_)
       refine RV.nil (KV.then_n (KV.e6 1 6 7 8 10 11 (CV.seq ?_)))
       have hca := hinv2.2.cap a hf9.1.1
       have hcb := hinv2.2.cap b hf9.1.2
       have hca0 := hinv2.2.cap0 hf9.1.1
       have hcb0 := hinv2.2.cap0 hf9.1.2
       refine CV.stillTail 14 (by kernel_rfl) (by kernel_rfl) (fun _ h => h.drew) ?_
       refine SV.step gno (Step.fieldAddr rfl (F127_0 _ _)) rfl ?_
       (first | refine SV.step gno (Step.load Tryz.underlying104 rfl rfl (fun w h => h.cell 2 rfl rfl)) rfl ?_ | refine SV.step gno (Step.load Tryz.underlying104 rfl rfl (fun w h => h.cell 4 rfl rfl)) rfl ?_)
       refine SV.step gno (Step.fieldAddr rfl (F195_0 _ _)) rfl ?_
       (first | refine SV.step gno (Step.load Tryz.underlying3 rfl rfl (fun w h => h.cell 2 rfl rfl)) rfl ?_ | refine SV.step gno (Step.load Tryz.underlying3 rfl rfl (fun w h => h.cell 4 rfl rfl)) rfl ?_)
       refine SV.step gno (Step.fieldAddr rfl (F127_0 _ _)) rfl ?_
       (first | refine SV.step gno (Step.load Tryz.underlying104 rfl rfl (fun w h => h.cell 2 rfl rfl)) rfl ?_ | refine SV.step gno (Step.load Tryz.underlying104 rfl rfl (fun w h => h.cell 4 rfl rfl)) rfl ?_)
       refine SV.step gno (Step.fieldAddr rfl (F195_0 _ _)) rfl ?_
       (first | refine SV.step gno (Step.load Tryz.underlying3 rfl rfl (fun w h => h.cell 2 rfl rfl)) rfl ?_ | refine SV.step gno (Step.load Tryz.underlying3 rfl rfl (fun w h => h.cell 4 rfl rfl)) rfl ?_)
       refine SV.step gno (Step.idx Tryz.underlying104 I41 (fun w h => h.os 1 rfl) rfl rfl (by first | rfl | omega | (simp only [List.length_set]; omega)) _ rfl (by first | omega | (rw [List.length_set]; omega) | (simp only [List.length_set]; omega))) rfl ?_
       refine SV.step gno (Step.fieldAddr rfl (F41_0 _ _)) rfl ?_
       refine SV.step gno (Step.load Tryz.underlying2 rfl rfl (fun w h => (h.os 1 rfl).cell0 (by omega) rfl)) rfl ?_
       refine SV.step gno (Step.fieldAddr rfl (F195_2 _ _)) rfl ?_
       (first | refine SV.step gno (Step.load Tryz.underlying2 rfl rfl (fun w h => h.cell 2 rfl rfl)) rfl ?_ | refine SV.step gno (Step.load Tryz.underlying2 rfl rfl (fun w h => h.cell 4 rfl rfl)) rfl ?_)
       (first | refine SV.step gno (Step.add rfl rfl (wI64 (by omega) (by omega))) rfl ?_ | refine SV.step gno (Step.add rfl rfl rfl) rfl ?_)
       refine SV.nil ?_
       show KV _ (wpList _ _ _ _) _ _
       refine RV.op (OV.step gno (Step.idx Tryz.underlying104 I41 (fun w h => h.os 1 rfl) rfl rfl (by first | rfl | omega | (simp only [List.length_set]; omega)) _ rfl (by first | omega | (rw [List.length_set]; omega) | (simp only [List.length_set]; omega))) rfl ?_)
       refine RV.s (Step.fieldAddr rfl (F41_0 _ _)) rfl ?_
       refine RV.op (OV.storeE 1 (a) (⟨(E.getD a hdK.d).cap + gg, (E.getD a hdK.d).amb⟩) (j := 0) [_] I2 rfl rfl rfl rfl rfl rfl (by omega) rfl (Nat.le_of_ble_eq_true rfl) gno ?_)
       refine RV.nil (KV.then_n (KV.e6 1 6 7 8 10 11 ?_))
       have hne : a ≠ b := fun e => (of_decide_eq_true hok2).1 (by rw [e])
       have hno : ((E.set a ⟨(E.getD a hdK.d).cap + gg, (E.getD a hdK.d).amb⟩).getD b hdK.d).cap = (E.getD b hdK.d).cap := by rw [getD_set_other _ _ _ hne]
       refine CV.stillTail 14 (by kernel_rfl) (by kernel_rfl) (fun _ h => h.drew) ?_
       refine SV.step gno (Step.fieldAddr rfl (F127_0 _ _)) rfl ?_
       (first | refine SV.step gno (Step.load Tryz.underlying104 rfl rfl (fun w h => h.cell 2 rfl rfl)) rfl ?_ | refine SV.step gno (Step.load Tryz.underlying104 rfl rfl (fun w h => h.cell 4 rfl rfl)) rfl ?_)
       refine SV.step gno (Step.fieldAddr rfl (F195_1 _ _)) rfl ?_
       (first | refine SV.step gno (Step.load Tryz.underlying3 rfl rfl (fun w h => h.cell 2 rfl rfl)) rfl ?_ | refine SV.step gno (Step.load Tryz.underlying3 rfl rfl (fun w h => h.cell 4 rfl rfl)) rfl ?_)
       refine SV.step gno (Step.fieldAddr rfl (F127_0 _ _)) rfl ?_
       (first | refine SV.step gno (Step.load Tryz.underlying104 rfl rfl (fun w h => h.cell 2 rfl rfl)) rfl ?_ | refine SV.step gno (Step.load Tryz.underlying104 rfl rfl (fun w h => h.cell 4 rfl rfl)) rfl ?_)
       refine SV.step gno (Step.fieldAddr rfl (F195_1 _ _)) rfl ?_
       (first | refine SV.step gno (Step.load Tryz.underlying3 rfl rfl (fun w h => h.cell 2 rfl rfl)) rfl ?_ | refine SV.step gno (Step.load Tryz.underlying3 rfl rfl (fun w h => h.cell 4 rfl rfl)) rfl ?_)
       refine SV.step gno (Step.idx Tryz.underlying104 I41 (fun w h => h.os 1 rfl) rfl rfl (by first | rfl | omega | (simp only [List.length_set]; omega)) _ rfl (by first | omega | (rw [List.length_set]; omega) | (simp only [List.length_set]; omega))) rfl ?_
       refine SV.step gno (Step.fieldAddr rfl (F41_0 _ _)) rfl ?_
       refine SV.step gno (Step.load Tryz.underlying2 rfl rfl (fun w h => (h.os 1 rfl).cell0 (by rw [List.length_set]; omega) rfl)) rfl ?_
       refine SV.step gno (Step.fieldAddr rfl (F195_2 _ _)) rfl ?_
       (first | refine SV.step gno (Step.load Tryz.underlying2 rfl rfl (fun w h => h.cell 2 rfl rfl)) rfl ?_ | refine SV.step gno (Step.load Tryz.underlying2 rfl rfl (fun w h => h.cell 4 rfl rfl)) rfl ?_)
       (first | refine SV.step gno (Step.add rfl rfl (wI64 (by omega) (by omega))) rfl ?_ | refine SV.step gno (Step.add rfl rfl rfl) rfl ?_)
       refine SV.nil ?_
       show KV _ (wpList _ _ _ _) _ _
       refine RV.op (OV.step gno (Step.idx Tryz.underlying104 I41 (fun w h => h.os 1 rfl) rfl rfl (by first | rfl | omega | (simp only [List.length_set]; omega)) _ rfl (by first | omega | (rw [List.length_set]; omega) | (simp only [List.length_set]; omega))) rfl ?_)
       refine RV.s (Step.fieldAddr rfl (F41_0 _ _)) rfl ?_
       refine RV.op (OV.storeE 1 (b) (⟨((E.set a ⟨(E.getD a hdK.d).cap + gg, (E.getD a hdK.d).amb⟩).getD b hdK.d).cap + gg, ((E.set a ⟨(E.getD a hdK.d).cap + gg, (E.getD a hdK.d).amb⟩).getD b hdK.d).amb⟩) (j := 0) [_] I2 rfl rfl rfl rfl rfl rfl (by rw [List.length_set]; omega) rfl (Nat.le_of_ble_eq_true rfl) gno ?_)
       refine RV.nil (KV.block_n (KV.then_n (KV.e5 1 6 7 8 10 (CV.region ?_))))
       refine RV.m rfl rfl ?_
       (first | refine RV.op (OV.step gno (Step.add rfl rfl (wI64 (by omega) (by omega))) rfl ?_) | refine RV.op (OV.step gno (Step.add rfl rfl rfl) rfl ?_))
       refine RV.a rfl rfl ?_
       refine RV.nil (KV.then_n (KV.e5 1 6 7 8 10 ?_))
       refine KV.sel [0, 0, 0, 0] [_, _, _, _] rfl ?_
       (first | exact KV.loop3 (x := j) (y := E) (z := z) (j + 1) ((((E.set a ⟨(E.getD a hdK.d).cap + gg, (E.getD a hdK.d).amb⟩)).set b ⟨((E.set a ⟨(E.getD a hdK.d).cap + gg, (E.getD a hdK.d).amb⟩).getD b hdK.d).cap + gg, ((E.set a ⟨(E.getD a hdK.d).cap + gg, (E.getD a hdK.d).amb⟩).getD b hdK.d).amb⟩)) (⟨z.M ++ [⟨a, b, gg⟩], B3, d3⟩) ⟨⟨by omega, by rw [List.length_append]; show z.M.length + 1 ≤ j + 1; omega⟩, hinv2.2.next hf9.1.1 hf9.1.2 hf9.2.1 hf9.2.2 hok2⟩ (by omega) ⟨rfl, rfl, rfl, rfl, rfl, trivial⟩ (fun _ h => h) | exact KV.loop3 (x := j) (y := E) (z := z) (j + 1) (E) (z) ⟨⟨by omega, by omega⟩, hinv2.2⟩ (by omega) ⟨rfl, rfl, rfl, rfl, rfl, trivial⟩ (fun _ h => h))
      ·
       refine CV.cond_f rfl (CV.skip (KV.block_n (KV.then_n (KV.e5 1 6 7 8 10 (CV.region ?_)))))
       refine RV.m rfl rfl ?_
       (first | refine RV.op (OV.step gno (Step.add rfl rfl (wI64 (by omega) (by omega))) rfl ?_) | refine RV.op (OV.step gno (Step.add rfl rfl rfl) rfl ?_))
       refine RV.a rfl rfl ?_
       refine RV.nil (KV.then_n (KV.e5 1 6 7 8 10 ?_))
       refine KV.sel [0, 0, 0, 0] [_, _, _, _] rfl ?_
       (first | exact KV.loop3 (x := j) (y := E) (z := z) (j + 1) ((((E.set a ⟨(E.getD a hdK.d).cap + gg, (E.getD a hdK.d).amb⟩)).set b ⟨((E.set a ⟨(E.getD a hdK.d).cap + gg, (E.getD a hdK.d).amb⟩).getD b hdK.d).cap + gg, ((E.set a ⟨(E.getD a hdK.d).cap + gg, (E.getD a hdK.d).amb⟩).getD b hdK.d).amb⟩)) (⟨z.M ++ [⟨a, b, gg⟩], B3, d3⟩) ⟨⟨by omega, by rw [List.length_append]; show z.M.length + 1 ≤ j + 1; omega⟩, hinv2.2.next hf9.1.1 hf9.1.2 hf9.2.1 hf9.2.2 hok2⟩ (by omega) ⟨rfl, rfl, rfl, rfl, rfl, trivial⟩ (fun _ h => h) | exact KV.loop3 (x := j) (y := E) (z := z) (j + 1) (E) (z) ⟨⟨by omega, by omega⟩, hinv2.2⟩ (by omega) ⟨rfl, rfl, rfl, rfl, rfl, trivial⟩ (fun _ h => h))
   ·
    refine RV.s (Step.pick_t rfl rfl) rfl ?_
    refine RV.nil (KV.then_n (KV.e6 1 6 7 8 10 82 (CV.cond_f rfl (CV.exit (KV.then_exit ?_)))))
    refine KV.then_exit (KV.block_hit (KV.then_n (KV.e2 6 8 (CV.seq (CV.region ?_)))))
    refine RV.s (Step.loadN _ Tryz.underlying127 rfl I127 rfl rfl (fun w h => h.cells 2 rfl)) rfl ?_
    refine RV.op (OV.store 0 [_, _, _] #[_, _, _] I127 rfl rfl rfl rfl rfl (Nat.le_of_ble_eq_true rfl) (by simp [Value.oneCell']) rfl gno ?_)
    refine RV.nil (KV.then_n (KV.e1 6 (CV.ret ?_)))
    refine KV.sel [1, 2, 0] [_, _, _] rfl ?_
    exact KV.retC1 [_, _, _] rfl rfl Tryz.underlying127 rfl I127 rfl (fun w h => h.cells 2 rfl) [OS 41 hdK b2_6 n E, OS 195 hlK z.B z.d z.M] (fun _ h => h.sel [0, 0] rfl) ⟨b2_6, n, E, z.B, z.d, z.M, base, by rw [hinv2.2.len] <;> rfl, ⟨by omega, by omega, by omega, hb12.1, hb12.2, hinv2.2.vld hn1.1 hn1.2 (by omega) hb12.1 hb12.2⟩, rfl⟩
  ·
   refine RV.m rfl rfl (RV.k rfl rfl (RV.k rfl rfl (RV.s (Step.pick_f rfl rfl) rfl ?_)))
   refine RV.nil (KV.then_n (KV.e6 1 6 7 8 10 82 (CV.cond_f rfl (CV.exit (KV.then_exit ?_)))))
   refine KV.then_exit (KV.block_hit (KV.then_n (KV.e2 6 8 (CV.seq (CV.region ?_)))))
   refine RV.s (Step.loadN _ Tryz.underlying127 rfl I127 rfl rfl (fun w h => h.cells 2 rfl)) rfl ?_
   refine RV.op (OV.store 0 [_, _, _] #[_, _, _] I127 rfl rfl rfl rfl rfl (Nat.le_of_ble_eq_true rfl) (by simp [Value.oneCell']) rfl gno ?_)
   refine RV.nil (KV.then_n (KV.e1 6 (CV.ret ?_)))
   refine KV.sel [1, 2, 0] [_, _, _] rfl ?_
   exact KV.retC1 [_, _, _] rfl rfl Tryz.underlying127 rfl I127 rfl (fun w h => h.cells 2 rfl) [OS 41 hdK b2_6 n E, OS 195 hlK z.B z.d z.M] (fun _ h => h.sel [0, 0] rfl) ⟨b2_6, n, E, z.B, z.d, z.M, base, by rw [hinv2.2.len] <;> rfl, ⟨by omega, by omega, by omega, hb12.1, hb12.2, hinv2.2.vld hn1.1 hn1.2 (by omega) hb12.1 hb12.2⟩, rfl⟩
end Go.Proofs.YtdfkpdcpegcieaaGreatDoor
