/-
 Walks, part 2.
-/
import Derived.Test.YtdfkpdcpegcieaaGreatDoorTabA
import Derived.Test.YtdfkpdcpegcieaaGreatDoorW1
import Derived.Test.YtdfkpdcpegcieaaGreatDoorObA
set_option linter.unusedSimpArgs false
set_option linter.unusedVariables false
namespace Go.Proofs.YtdfkpdcpegcieaaGreatDoor
open Go.Sv Go.Perf Go.Ctl
set_option maxRecDepth 100000 in
set_option maxHeartbeats 1000000 in
theorem valid_fn {A : Option Addr} {n c : Nat} {D : List HD} {w : World} (hr : RS w hdK A D) (hn : n = D.length) (hl : D.length ≤ 1000000) {B : Option Addr} {m d : Nat} {M : List HL} (hr2 : RS w hlK B M) (hm : m = M.length) (hl2 : M.length ≤ 1000000) (base : Int) : Fx Tryz.prog 77 [.slice A n c, .slice B m d, .int .i64 base] w [] no (fun v L => v = .bool (vldB D M base) ∧ L = []) := by
 subst hn
 subst hm
 refine Sv.Fx.body Tryz.func77 rfl T77 rfl ?_
 intro I hro hI
 refine KV.e3 0 1 2 (CV.seq (CV.region ?_))
 refine RV.a rfl rfl ?_
 refine RV.nil (KV.then_n (KV.e3 0 1 2 (CV.seq (CV.seq (CV.region ?_)))))
 refine RV.m rfl rfl (RV.s (Step.lenSl Tryz.underlying104 rfl) rfl ?_)
 refine RV.op (OV.split gno (Step.lss rfl rfl) rfl (fun cc1 => ?_) (fun cc1 => ?_))
 ·
  refine RV.m rfl rfl (RV.k rfl rfl (RV.k rfl rfl (RV.k rfl rfl (RV.s (Step.pick_t rfl rfl) rfl (RV.m rfl rfl (RV.k rfl rfl (RV.k rfl rfl ?_)))))))
  refine RV.s (Step.pick_t rfl rfl) rfl (RV.m rfl rfl (RV.k rfl rfl (RV.k rfl rfl (RV.s (Step.pick_t rfl rfl) rfl ?_))))
  refine RV.nil (KV.then_n (KV.e3 0 1 30 (CV.cond_t rfl (CV.seq (CV.region ?_)))))
  refine RV.a rfl rfl ?_
  refine RV.nil (KV.then_n (KV.e1 6 (CV.ret (KV.then_ret ?_))))
  refine KV.sel [] [] rfl ?_
  exact KV.ret1 rfl rfl _ (fun _ h => h) ⟨by rw [vldB_f (fun hv => by have h1 := hv.n1; have h2 := hv.n2; have h3 := hv.b1; have h4 := hv.b2; omega)], rfl⟩
 ·
  refine RV.m rfl rfl (RV.gw rfl (Step.move rfl) rfl (RV.gw rfl (Step.lenSl Tryz.underlying104 rfl) rfl ?_))
  refine RV.op (OV.split (gyes rfl) (Step.gtr rfl rfl) rfl (fun cc2 => ?_) (fun cc2 => ?_))
  ·
   refine RV.s (Step.pick_f rfl rfl) rfl (RV.m rfl rfl (RV.k rfl rfl (RV.k rfl rfl (RV.s (Step.pick_t rfl rfl) rfl (RV.m rfl rfl (RV.k rfl rfl (RV.k rfl rfl ?_)))))))
   refine RV.s (Step.pick_t rfl rfl) rfl ?_
   refine RV.nil (KV.then_n (KV.e3 0 1 30 (CV.cond_t rfl (CV.seq (CV.region ?_)))))
   refine RV.a rfl rfl ?_
   refine RV.nil (KV.then_n (KV.e1 6 (CV.ret (KV.then_ret ?_))))
   refine KV.sel [] [] rfl ?_
   exact KV.ret1 rfl rfl _ (fun _ h => h) ⟨by rw [vldB_f (fun hv => by have h1 := hv.n1; have h2 := hv.n2; have h3 := hv.b1; have h4 := hv.b2; omega)], rfl⟩
  ·
   refine RV.s (Step.pick_f rfl rfl) rfl (RV.m rfl rfl (RV.gw rfl (Step.move rfl) rfl ?_))
   refine RV.op (OV.split (gyes rfl) (Step.lss rfl rfl) rfl (fun cc3 => ?_) (fun cc3 => ?_))
   ·
    refine RV.s (Step.pick_f rfl rfl) rfl (RV.m rfl rfl (RV.k rfl rfl (RV.k rfl rfl (RV.s (Step.pick_t rfl rfl) rfl ?_))))
    refine RV.nil (KV.then_n (KV.e3 0 1 30 (CV.cond_t rfl (CV.seq (CV.region ?_)))))
    refine RV.a rfl rfl ?_
    refine RV.nil (KV.then_n (KV.e1 6 (CV.ret (KV.then_ret ?_))))
    refine KV.sel [] [] rfl ?_
    exact KV.ret1 rfl rfl _ (fun _ h => h) ⟨by rw [vldB_f (fun hv => by have h1 := hv.n1; have h2 := hv.n2; have h3 := hv.b1; have h4 := hv.b2; omega)], rfl⟩
   ·
    refine RV.s (Step.pick_f rfl rfl) rfl (RV.m rfl rfl (RV.gw rfl (Step.move rfl) rfl ?_))
    refine RV.op (OV.split (gyes rfl) (Step.gtr rfl rfl) rfl (fun cc4 => ?_) (fun cc4 => ?_))
    ·
     refine RV.s (Step.pick_f rfl rfl) rfl ?_
     refine RV.nil (KV.then_n (KV.e3 0 1 30 (CV.cond_t rfl (CV.seq (CV.region ?_)))))
     refine RV.a rfl rfl ?_
     refine RV.nil (KV.then_n (KV.e1 6 (CV.ret (KV.then_ret ?_))))
     refine KV.sel [] [] rfl ?_
     exact KV.ret1 rfl rfl _ (fun _ h => h) ⟨by rw [vldB_f (fun hv => by have h1 := hv.n1; have h2 := hv.n2; have h3 := hv.b1; have h4 := hv.b2; omega)], rfl⟩
    ·
     refine RV.s (Step.pick_f rfl rfl) rfl ?_
     refine RV.nil (KV.then_n (KV.e3 0 1 30 (CV.cond_f rfl (CV.skip (KV.then_n ?_)))))
     refine KV.e2 0 1 (CV.seq (CV.region ?_))
     refine RV.m rfl rfl (RV.s (Step.lenSl Tryz.underlying104 rfl) rfl ?_)
     refine RV.op (OV.make (K := (intK .i64)) (D.length) (D.length) (0) Tryz.underlying56 I2 rfl rfl rfl rfl rfl (by omega) (by omega) (by omega) gno rfl (fun b3_2 => ?_))
     refine RV.a rfl rfl ?_
     refine RV.nil (KV.then_n (KV.e3 0 1 7 (CV.seq (CV.seq (CV.region ?_)))))
     refine RV.m rfl rfl (RV.s (Step.lenSl Tryz.underlying104 rfl) rfl (RV.m rfl rfl ?_))
     refine RV.nil (KV.then_n (KV.e6 0 1 7 34 35 36 (CV.block ?_)))
     refine KV.sel [0] [_] rfl ?_
     refine CV.loopI (fun (i : Nat) => i ≤ D.length ∧ ∀ k, k < i → 1 ≤ (hdA D k).amb ∧ (hdA D k).amb ≤ 16777216) (fun (i : Nat) => D.length - i) (fun (i : Nat) => [(0, .slice A D.length c), (1, .slice B M.length d), (7, .slice b3_2 D.length D.length), (34, .slice A D.length c), (35, .int .i64 D.length), (36, .int .i64 i)]) (fun (i : Nat) => Hp I w [OS 2 (intK .i64) b3_2 D.length (ndA D i)]) (0) ⟨Nat.zero_le _, fun k hk => by omega⟩ ⟨rfl, rfl, rfl, rfl, rfl, rfl, trivial⟩ (fun _ h => by rw [ndA_zero]; exact h) ?_
     intro i hinv
     refine CV.seq (CV.region ?_)
     refine RV.op (OV.split gno (Step.lss rfl rfl) rfl (fun cc5 => ?_) (fun cc5 => ?_))
     ·
      refine RV.nil (KV.then_n (KV.e7 0 1 7 34 35 36 37 (CV.seq (CV.cond_t rfl (CV.skip ?_)))))
      refine KV.then_n (KV.e6 0 1 7 34 35 36 (CV.seq (CV.block (CV.seq (CV.region ?_)))))
      refine RV.m rfl rfl ?_
      refine RV.op (OV.step gno (Step.idx Tryz.underlying104 I41 (fun w h => h.rs hr (fun _ => hI _)) rfl rfl (by first | rfl | (rw [ndA_len]) | (rw [ndL_len]) | (simp only [List.length_set, ndL_len])) _ rfl (by first | omega | (rw [ndA_len]; omega) | (rw [ndL_len]; omega) | (simp only [List.length_set, ndL_len]; omega))) rfl ?_)
      refine RV.op (OV.step gno (Step.loadN _ Tryz.underlying41 rfl I41 rfl rfl (fun w h => (h.rs hr (fun _ => hI _)).cells (by first | omega | (rw [ndA_len]; omega) | (rw [ndL_len]; omega) | (simp only [List.length_set, ndL_len]; omega)))) rfl ?_)
      refine RV.op (OV.alloc #[.int .i64 0, .int .i64 0] I41 rfl gno rfl (fun b6_3 => ?_))
      refine RV.a rfl rfl ?_
      refine RV.op (OV.store 1 [_, _] #[_, _] I41 rfl rfl rfl rfl rfl (Nat.le_of_ble_eq_true rfl) (by simp [Value.oneCell']) rfl gno ?_)
      refine RV.nil (KV.then_n (KV.e8 0 1 7 8 9 34 35 36 (CV.seq (CV.seq (CV.region ?_)))))
      refine RV.s (Step.fieldAddr rfl (F41_1 _ _)) rfl ?_
      (first | refine RV.op (OV.step gno (Step.load Tryz.underlying2 rfl rfl (fun w h => h.cell 1 rfl rfl)) rfl ?_) | refine RV.op (OV.step gno (Step.load Tryz.underlying2 rfl rfl (fun w h => (h.rs hr (fun _ => hI _)).cell (by first | omega | (rw [ndA_len]; omega) | (rw [ndL_len]; omega) | (simp only [List.length_set, ndL_len]; omega)) rfl)) rfl ?_) | refine RV.op (OV.step gno (Step.load Tryz.underlying2 rfl rfl (fun w h => (h.rs hr (fun _ => hI _)).cell0 (by first | omega | (rw [ndA_len]; omega) | (rw [ndL_len]; omega) | (simp only [List.length_set, ndL_len]; omega)) rfl)) rfl ?_))
      refine RV.op (OV.split gno (Step.lss rfl rfl) rfl (fun cc6 => ?_) (fun cc6 => ?_))
      ·
       refine RV.m rfl rfl (RV.k rfl rfl (RV.k rfl rfl (RV.k rfl rfl (RV.s (Step.pick_t rfl rfl) rfl ?_))))
       refine RV.nil (KV.then_n (KV.e9 0 1 7 8 9 34 35 36 48 (CV.cond_t rfl (CV.seq (CV.region ?_)))))
       refine RV.a rfl rfl ?_
       refine RV.nil (KV.then_n (KV.e1 6 (CV.ret (KV.then_ret (KV.block_ret ?_)))))
       refine KV.then_ret (KV.then_ret (KV.block_ret (KV.then_ret ?_)))
       refine KV.sel [] [] rfl ?_
       exact KV.ret1 rfl rfl _ (fun _ h => h) ⟨by rw [vldB_f (fun hv => by have hq := vld_amb hv (i := i) (by omega); omega)], rfl⟩
      ·
       refine RV.m rfl rfl (RV.gw rfl (Step.fieldAddr rfl (F41_1 _ _)) rfl ?_)
       (first | refine RV.op (OV.step (gyes rfl) (Step.load Tryz.underlying2 rfl rfl (fun w h => h.cell 1 rfl rfl)) rfl ?_) | refine RV.op (OV.step (gyes rfl) (Step.load Tryz.underlying2 rfl rfl (fun w h => (h.rs hr (fun _ => hI _)).cell (by first | omega | (rw [ndA_len]; omega) | (rw [ndL_len]; omega) | (simp only [List.length_set, ndL_len]; omega)) rfl)) rfl ?_) | refine RV.op (OV.step (gyes rfl) (Step.load Tryz.underlying2 rfl rfl (fun w h => (h.rs hr (fun _ => hI _)).cell0 (by first | omega | (rw [ndA_len]; omega) | (rw [ndL_len]; omega) | (simp only [List.length_set, ndL_len]; omega)) rfl)) rfl ?_))
       refine RV.op (OV.split (gyes rfl) (Step.gtr rfl rfl) rfl (fun cc7 => ?_) (fun cc7 => ?_))
       ·
        refine RV.s (Step.pick_f rfl rfl) rfl ?_
        refine RV.nil (KV.then_n (KV.e9 0 1 7 8 9 34 35 36 48 (CV.cond_t rfl (CV.seq (CV.region ?_)))))
        refine RV.a rfl rfl ?_
        refine RV.nil (KV.then_n (KV.e1 6 (CV.ret (KV.then_ret (KV.block_ret ?_)))))
        refine KV.then_ret (KV.then_ret (KV.block_ret (KV.then_ret ?_)))
        refine KV.sel [] [] rfl ?_
        exact KV.ret1 rfl rfl _ (fun _ h => h) ⟨by rw [vldB_f (fun hv => by have hq := vld_amb hv (i := i) (by omega); omega)], rfl⟩
       ·
        refine RV.s (Step.pick_f rfl rfl) rfl ?_
        refine RV.nil (KV.then_n (KV.e9 0 1 7 8 9 34 35 36 48 (CV.cond_f rfl (CV.skip (KV.then_n ?_)))))
        refine KV.e8 0 1 7 8 9 34 35 36 (CV.region ?_)
        refine RV.m rfl rfl (RV.m rfl rfl (RV.s (Step.fieldAddr rfl (F41_1 _ _)) rfl ?_))
        (first | refine RV.op (OV.step gno (Step.load Tryz.underlying2 rfl rfl (fun w h => h.cell 1 rfl rfl)) rfl ?_) | refine RV.op (OV.step gno (Step.load Tryz.underlying2 rfl rfl (fun w h => (h.rs hr (fun _ => hI _)).cell (by first | omega | (rw [ndA_len]; omega) | (rw [ndL_len]; omega) | (simp only [List.length_set, ndL_len]; omega)) rfl)) rfl ?_) | refine RV.op (OV.step gno (Step.load Tryz.underlying2 rfl rfl (fun w h => (h.rs hr (fun _ => hI _)).cell0 (by first | omega | (rw [ndA_len]; omega) | (rw [ndL_len]; omega) | (simp only [List.length_set, ndL_len]; omega)) rfl)) rfl ?_))
        refine RV.op (OV.step gno (Step.idx Tryz.underlying56 I2 (fun w h => h.os 0 rfl) rfl rfl (by first | rfl | (rw [ndA_len]) | (rw [ndL_len]) | (simp only [List.length_set, ndL_len])) _ rfl (by first | omega | (rw [ndA_len]; omega) | (rw [ndL_len]; omega) | (simp only [List.length_set, ndL_len]; omega))) rfl ?_)
        refine RV.op (OV.storeE 0 (i) ((D.getD i hdK.d).amb) (j := 0) [_] I2 rfl rfl rfl rfl rfl rfl (by rw [ndA_len]; omega) rfl (Nat.le_of_ble_eq_true rfl) gno ?_)
        refine RV.nil (KV.block_n (KV.then_n (KV.e6 0 1 7 34 35 36 (CV.region ?_))))
        (first | refine RV.op (OV.step gno (Step.add rfl rfl (wI64 (by omega) (by omega))) rfl ?_) | refine RV.op (OV.step gno (Step.add rfl rfl rfl) rfl ?_))
        refine RV.m rfl rfl ?_
        refine RV.nil (KV.then_n (KV.e6 0 1 7 34 35 36 ?_))
        refine KV.sel [0] [_] rfl ?_
        exact KV.loopI (z := i) (i + 1) ⟨by omega, fun k hk => by by_cases e : k = i; (subst e; change 1 ≤ (D.getD k hdK.d).amb ∧ (D.getD k hdK.d).amb ≤ 16777216; omega); exact hinv.2 k (by omega)⟩ (by omega) ⟨rfl, rfl, rfl, rfl, rfl, rfl, trivial⟩ (fun _ h => by rw [← nd_set (by omega)]; exact h)
     ·
      refine RV.nil (KV.then_n (KV.e7 0 1 7 34 35 36 37 (CV.seq (CV.cond_f rfl (CV.exit ?_)))))
      refine KV.then_exit (KV.then_exit (KV.block_hit (KV.then_n (KV.e3 0 1 7 (CV.seq ?_)))))
      obtain rfl : i = D.length := by omega
      refine CV.region ?_
      refine RV.op (OV.alloc #[.bool false, .bool false, .bool false, .bool false, .bool false, .bool false, .bool false, .bool false, .bool false, .bool false, .bool false, .bool false, .bool false, .bool false, .bool false, .bool false, .bool false, .bool false, .bool false, .bool false, .bool false, .bool false, .bool false, .bool false, .bool false, .bool false, .bool false, .bool false, .bool false, .bool false, .bool false, .bool false, .bool false, .bool false, .bool false, .bool false, .bool false, .bool false, .bool false, .bool false, .bool false, .bool false, .bool false, .bool false, .bool false, .bool false, .bool false, .bool false, .bool false, .bool false, .bool false, .bool false, .bool false, .bool false, .bool false, .bool false, .bool false, .bool false, .bool false, .bool false, .bool false, .bool false, .bool false, .bool false, .bool false, .bool false, .bool false, .bool false, .bool false, .bool false, .bool false, .bool false, .bool false, .bool false, .bool false, .bool false, .bool false, .bool false, .bool false, .bool false, .bool false, .bool false, .bool false, .bool false, .bool false, .bool false, .bool false, .bool false, .bool false, .bool false, .bool false, .bool false, .bool false, .bool false, .bool false, .bool false, .bool false, .bool false, .bool false, .bool false, .bool false, .bool false, .bool false, .bool false, .bool false, .bool false, .bool false, .bool false, .bool false, .bool false, .bool false, .bool false, .bool false, .bool false, .bool false, .bool false, .bool false, .bool false, .bool false, .bool false, .bool false, .bool false, .bool false, .bool false, .bool false, .bool false, .bool false, .bool false, .bool false, .bool false, .bool false, .bool false, .bool false, .bool false, .bool false, .bool false, .bool false, .bool false, .bool false, .bool false, .bool false, .bool false, .bool false, .bool false, .bool false, .bool false, .bool false, .bool false, .bool false, .bool false, .bool false, .bool false, .bool false, .bool false, .bool false, .bool false, .bool false, .bool false, .bool false, .bool false, .bool false, .bool false, .bool false, .bool false, .bool false, .bool false, .bool false, .bool false, .bool false, .bool false, .bool false, .bool false, .bool false, .bool false, .bool false, .bool false, .bool false, .bool false, .bool false, .bool false, .bool false, .bool false, .bool false, .bool false, .bool false, .bool false, .bool false, .bool false, .bool false, .bool false, .bool false, .bool false, .bool false, .bool false, .bool false, .bool false, .bool false, .bool false, .bool false, .bool false, .bool false, .bool false, .bool false, .bool false, .bool false, .bool false, .bool false, .bool false, .bool false, .bool false, .bool false, .bool false, .bool false, .bool false, .bool false, .bool false, .bool false, .bool false, .bool false, .bool false, .bool false, .bool false, .bool false, .bool false, .bool false, .bool false, .bool false, .bool false, .bool false, .bool false, .bool false, .bool false, .bool false, .bool false, .bool false, .bool false, .bool false, .bool false, .bool false, .bool false, .bool false, .bool false, .bool false, .bool false, .bool false, .bool false, .bool false, .bool false, .bool false, .bool false, .bool false, .bool false, .bool false, .bool false, .bool false, .bool false] I273 rfl gno rfl (fun b11_0 => ?_))
      refine KV.heap (fun w h => Hp.last (L := [OS 2 (intK .i64) b3_2 D.length (ndL D M 0)]) (B := OS 273 bolK (some ⟨b11_0, 0, none⟩) 256 (lmx M 0)) (by rw [← ndA_end D M]; exact h) fun J hJ => OS.ofBlk hJ (by rw [lmx_len]; decide) (by decide) rfl (by rw [lmx_zero]; rfl)) ?_
      refine RV.nil (KV.then_n (KV.e4 0 1 7 10 (CV.seq (CV.seq (CV.region ?_)))))
      refine RV.m rfl rfl (RV.s (Step.lenSl Tryz.underlying23 rfl) rfl (RV.m rfl rfl ?_))
      refine RV.nil (KV.then_n (KV.e6 0 7 10 55 56 57 (CV.block ?_)))
      refine KV.sel [0, 0] [_, _] rfl ?_
      refine CV.loopI (fun (j : Nat) => j ≤ M.length ∧ ∀ k, k < j → lnkOk D.length M k) (fun (j : Nat) => M.length - j) (fun (j : Nat) => [(0, .slice A D.length c), (7, .slice b3_2 D.length D.length), (10, .pointer (some ⟨b11_0, 0, none⟩)), (55, .slice B M.length d), (56, .int .i64 M.length), (57, .int .i64 j)]) (fun (j : Nat) => Hp I w [OS 2 (intK .i64) b3_2 D.length (ndL D M j), OS 273 bolK (some ⟨b11_0, 0, none⟩) 256 (lmx M j)]) (0) ⟨Nat.zero_le _, fun k hk => by omega⟩ ⟨rfl, rfl, rfl, rfl, rfl, rfl, trivial⟩ (fun _ h => h) ?_
      intro j hinv2
      refine CV.seq (CV.region ?_)
      refine RV.op (OV.split gno (Step.lss rfl rfl) rfl (fun cc8 => ?_) (fun cc8 => ?_))
      ·
       refine RV.nil (KV.then_n (KV.e7 0 7 10 55 56 57 58 (CV.seq (CV.cond_t rfl (CV.skip ?_)))))
       refine KV.then_n (KV.e6 0 7 10 55 56 57 (CV.seq (CV.block (CV.seq (CV.region ?_)))))
       refine RV.op (OV.step gno (Step.idx Tryz.underlying23 I195 (fun w h => h.rs hr2 (fun _ => hI _)) rfl rfl (by first | rfl | (rw [ndA_len]) | (rw [ndL_len]) | (simp only [List.length_set, ndL_len])) _ rfl (by first | omega | (rw [ndA_len]; omega) | (rw [ndL_len]; omega) | (simp only [List.length_set, ndL_len]; omega))) rfl ?_)
       refine RV.s (Step.loadN _ Tryz.underlying195 rfl I195 rfl rfl (fun w h => (h.rs hr2 (fun _ => hI _)).cells (by omega))) rfl ?_
       refine RV.op (OV.alloc #[.int .i64 0, .int .i64 0, .int .i64 0] I195 rfl gno rfl (fun b14_2 => ?_))
       refine RV.op (OV.store 2 [_, _, _] #[_, _, _] I195 rfl rfl rfl rfl rfl (Nat.le_of_ble_eq_true rfl) (by simp [Value.oneCell']) rfl gno ?_)
       refine RV.nil (KV.then_n (KV.e7 0 7 10 12 55 56 57 (CV.seq (CV.seq (CV.region ?_)))))
       refine RV.s (Step.fieldAddr rfl (F195_0 _ _)) rfl ?_
       (first | refine RV.op (OV.step gno (Step.load Tryz.underlying3 rfl rfl (fun w h => h.cell 2 rfl rfl)) rfl ?_) | refine RV.op (OV.step gno (Step.load Tryz.underlying3 rfl rfl (fun w h => (h.rs hr (fun _ => hI _)).cell (by first | omega | (rw [ndA_len]; omega) | (rw [ndL_len]; omega) | (simp only [List.length_set, ndL_len]; omega)) rfl)) rfl ?_) | refine RV.op (OV.step gno (Step.load Tryz.underlying3 rfl rfl (fun w h => (h.rs hr (fun _ => hI _)).cell0 (by first | omega | (rw [ndA_len]; omega) | (rw [ndL_len]; omega) | (simp only [List.length_set, ndL_len]; omega)) rfl)) rfl ?_))
       refine RV.op (OV.split gno (Step.lss rfl rfl) rfl (fun cc9 => ?_) (fun cc9 => ?_))
       ·
        refine RV.m rfl rfl (RV.k rfl rfl (RV.k rfl rfl (RV.k rfl rfl (RV.k rfl rfl (RV.k rfl rfl (RV.s (Step.pick_t rfl rfl) rfl (RV.m rfl rfl ?_)))))))
        refine RV.k rfl rfl (RV.k rfl rfl (RV.k rfl rfl (RV.s (Step.pick_t rfl rfl) rfl (RV.m rfl rfl (RV.k rfl rfl (RV.k rfl rfl (RV.k rfl rfl ?_)))))))
        refine RV.k rfl rfl (RV.k rfl rfl (RV.s (Step.pick_t rfl rfl) rfl (RV.m rfl rfl (RV.k rfl rfl (RV.k rfl rfl (RV.k rfl rfl (RV.k rfl rfl ?_)))))))
        refine RV.k rfl rfl (RV.s (Step.pick_t rfl rfl) rfl ?_)
        refine RV.nil (KV.then_n (KV.e8 0 7 10 12 55 56 57 89 (CV.cond_t rfl (CV.seq (CV.region ?_)))))
        refine RV.a rfl rfl ?_
        refine RV.nil (KV.then_n (KV.e1 6 (CV.ret (KV.then_ret (KV.block_ret ?_)))))
        refine KV.then_ret (KV.then_ret (KV.block_ret (KV.then_ret ?_)))
        refine KV.sel [] [] rfl ?_
        exact KV.ret1 rfl rfl _ (fun _ h => h) ⟨by rw [vldB_f (fun hv => by have hq := vld_ends hv (i := j) (by omega); omega)], rfl⟩
       ·
        refine RV.m rfl rfl (RV.gw rfl (Step.fieldAddr rfl (F195_0 _ _)) rfl ?_)
        (first | refine RV.op (OV.step (gyes rfl) (Step.load Tryz.underlying3 rfl rfl (fun w h => h.cell 2 rfl rfl)) rfl ?_) | refine RV.op (OV.step (gyes rfl) (Step.load Tryz.underlying3 rfl rfl (fun w h => (h.rs hr (fun _ => hI _)).cell (by first | omega | (rw [ndA_len]; omega) | (rw [ndL_len]; omega) | (simp only [List.length_set, ndL_len]; omega)) rfl)) rfl ?_) | refine RV.op (OV.step (gyes rfl) (Step.load Tryz.underlying3 rfl rfl (fun w h => (h.rs hr (fun _ => hI _)).cell0 (by first | omega | (rw [ndA_len]; omega) | (rw [ndL_len]; omega) | (simp only [List.length_set, ndL_len]; omega)) rfl)) rfl ?_))
        refine RV.gw rfl (Step.move rfl) rfl (RV.gw rfl (Step.lenSl Tryz.underlying104 rfl) rfl ?_)
        refine RV.op (OV.split (gyes rfl) (Step.geq rfl rfl) rfl (fun cc10 => ?_) (fun cc10 => ?_))
        ·
         refine RV.s (Step.pick_f rfl rfl) rfl (RV.m rfl rfl (RV.k rfl rfl (RV.k rfl rfl (RV.k rfl rfl (RV.s (Step.pick_t rfl rfl) rfl (RV.m rfl rfl (RV.k rfl rfl ?_)))))))
         refine RV.k rfl rfl (RV.k rfl rfl (RV.k rfl rfl (RV.k rfl rfl (RV.s (Step.pick_t rfl rfl) rfl (RV.m rfl rfl (RV.k rfl rfl (RV.k rfl rfl ?_)))))))
         refine RV.k rfl rfl (RV.k rfl rfl (RV.k rfl rfl (RV.s (Step.pick_t rfl rfl) rfl ?_)))
         refine RV.nil (KV.then_n (KV.e8 0 7 10 12 55 56 57 89 (CV.cond_t rfl (CV.seq (CV.region ?_)))))
         refine RV.a rfl rfl ?_
         refine RV.nil (KV.then_n (KV.e1 6 (CV.ret (KV.then_ret (KV.block_ret ?_)))))
         refine KV.then_ret (KV.then_ret (KV.block_ret (KV.then_ret ?_)))
         refine KV.sel [] [] rfl ?_
         exact KV.ret1 rfl rfl _ (fun _ h => h) ⟨by rw [vldB_f (fun hv => by have hq := vld_ends hv (i := j) (by omega); omega)], rfl⟩
        ·
         refine RV.s (Step.pick_f rfl rfl) rfl (RV.m rfl rfl (RV.gw rfl (Step.fieldAddr rfl (F195_1 _ _)) rfl ?_))
         (first | refine RV.op (OV.step (gyes rfl) (Step.load Tryz.underlying3 rfl rfl (fun w h => h.cell 2 rfl rfl)) rfl ?_) | refine RV.op (OV.step (gyes rfl) (Step.load Tryz.underlying3 rfl rfl (fun w h => (h.rs hr (fun _ => hI _)).cell (by first | omega | (rw [ndA_len]; omega) | (rw [ndL_len]; omega) | (simp only [List.length_set, ndL_len]; omega)) rfl)) rfl ?_) | refine RV.op (OV.step (gyes rfl) (Step.load Tryz.underlying3 rfl rfl (fun w h => (h.rs hr (fun _ => hI _)).cell0 (by first | omega | (rw [ndA_len]; omega) | (rw [ndL_len]; omega) | (simp only [List.length_set, ndL_len]; omega)) rfl)) rfl ?_))
         refine RV.op (OV.split (gyes rfl) (Step.lss rfl rfl) rfl (fun cc11 => ?_) (fun cc11 => ?_))
         ·
          refine RV.s (Step.pick_f rfl rfl) rfl (RV.m rfl rfl (RV.k rfl rfl (RV.k rfl rfl (RV.k rfl rfl (RV.k rfl rfl (RV.k rfl rfl (RV.s (Step.pick_t rfl rfl) rfl ?_)))))))
          refine RV.m rfl rfl (RV.k rfl rfl (RV.k rfl rfl (RV.k rfl rfl (RV.k rfl rfl (RV.k rfl rfl (RV.s (Step.pick_t rfl rfl) rfl ?_))))))
          refine RV.nil (KV.then_n (KV.e8 0 7 10 12 55 56 57 89 (CV.cond_t rfl (CV.seq (CV.region ?_)))))
          refine RV.a rfl rfl ?_
          refine RV.nil (KV.then_n (KV.e1 6 (CV.ret (KV.then_ret (KV.block_ret ?_)))))
          refine KV.then_ret (KV.then_ret (KV.block_ret (KV.then_ret ?_)))
          refine KV.sel [] [] rfl ?_
          exact KV.ret1 rfl rfl _ (fun _ h => h) ⟨by rw [vldB_f (fun hv => by have hq := vld_ends hv (i := j) (by omega); omega)], rfl⟩
         ·
          refine RV.s (Step.pick_f rfl rfl) rfl (RV.m rfl rfl (RV.gw rfl (Step.fieldAddr rfl (F195_1 _ _)) rfl ?_))
          (first | refine RV.op (OV.step (gyes rfl) (Step.load Tryz.underlying3 rfl rfl (fun w h => h.cell 2 rfl rfl)) rfl ?_) | refine RV.op (OV.step (gyes rfl) (Step.load Tryz.underlying3 rfl rfl (fun w h => (h.rs hr (fun _ => hI _)).cell (by first | omega | (rw [ndA_len]; omega) | (rw [ndL_len]; omega) | (simp only [List.length_set, ndL_len]; omega)) rfl)) rfl ?_) | refine RV.op (OV.step (gyes rfl) (Step.load Tryz.underlying3 rfl rfl (fun w h => (h.rs hr (fun _ => hI _)).cell0 (by first | omega | (rw [ndA_len]; omega) | (rw [ndL_len]; omega) | (simp only [List.length_set, ndL_len]; omega)) rfl)) rfl ?_))
          refine RV.gw rfl (Step.move rfl) rfl (RV.gw rfl (Step.lenSl Tryz.underlying104 rfl) rfl ?_)
          refine RV.op (OV.split (gyes rfl) (Step.geq rfl rfl) rfl (fun cc12 => ?_) (fun cc12 => ?_))
          ·
           refine RV.s (Step.pick_f rfl rfl) rfl (RV.m rfl rfl (RV.k rfl rfl (RV.k rfl rfl (RV.k rfl rfl (RV.k rfl rfl (RV.k rfl rfl (RV.s (Step.pick_t rfl rfl) rfl ?_)))))))
           refine RV.nil (KV.then_n (KV.e8 0 7 10 12 55 56 57 89 (CV.cond_t rfl (CV.seq (CV.region ?_)))))
           refine RV.a rfl rfl ?_
           refine RV.nil (KV.then_n (KV.e1 6 (CV.ret (KV.then_ret (KV.block_ret ?_)))))
           refine KV.then_ret (KV.then_ret (KV.block_ret (KV.then_ret ?_)))
           refine KV.sel [] [] rfl ?_
           exact KV.ret1 rfl rfl _ (fun _ h => h) ⟨by rw [vldB_f (fun hv => by have hq := vld_ends hv (i := j) (by omega); omega)], rfl⟩
          ·
           refine RV.s (Step.pick_f rfl rfl) rfl (RV.m rfl rfl (RV.gw rfl (Step.fieldAddr rfl (F195_0 _ _)) rfl ?_))
           (first | refine RV.op (OV.step (gyes rfl) (Step.load Tryz.underlying3 rfl rfl (fun w h => h.cell 2 rfl rfl)) rfl ?_) | refine RV.op (OV.step (gyes rfl) (Step.load Tryz.underlying3 rfl rfl (fun w h => (h.rs hr (fun _ => hI _)).cell (by first | omega | (rw [ndA_len]; omega) | (rw [ndL_len]; omega) | (simp only [List.length_set, ndL_len]; omega)) rfl)) rfl ?_) | refine RV.op (OV.step (gyes rfl) (Step.load Tryz.underlying3 rfl rfl (fun w h => (h.rs hr (fun _ => hI _)).cell0 (by first | omega | (rw [ndA_len]; omega) | (rw [ndL_len]; omega) | (simp only [List.length_set, ndL_len]; omega)) rfl)) rfl ?_))
           refine RV.gw rfl (Step.fieldAddr rfl (F195_1 _ _)) rfl ?_
           (first | refine RV.op (OV.step (gyes rfl) (Step.load Tryz.underlying3 rfl rfl (fun w h => h.cell 2 rfl rfl)) rfl ?_) | refine RV.op (OV.step (gyes rfl) (Step.load Tryz.underlying3 rfl rfl (fun w h => (h.rs hr (fun _ => hI _)).cell (by first | omega | (rw [ndA_len]; omega) | (rw [ndL_len]; omega) | (simp only [List.length_set, ndL_len]; omega)) rfl)) rfl ?_) | refine RV.op (OV.step (gyes rfl) (Step.load Tryz.underlying3 rfl rfl (fun w h => (h.rs hr (fun _ => hI _)).cell0 (by first | omega | (rw [ndA_len]; omega) | (rw [ndL_len]; omega) | (simp only [List.length_set, ndL_len]; omega)) rfl)) rfl ?_))
           refine RV.op (OV.split (gyes rfl) (Step.eql rfl rfl) rfl (fun cc13 => ?_) (fun cc13 => ?_))
           ·
            refine RV.s (Step.pick_f rfl rfl) rfl ?_
            refine RV.nil (KV.then_n (KV.e8 0 7 10 12 55 56 57 89 (CV.cond_t rfl (CV.seq (CV.region ?_)))))
            refine RV.a rfl rfl ?_
            refine RV.nil (KV.then_n (KV.e1 6 (CV.ret (KV.then_ret (KV.block_ret ?_)))))
            refine KV.then_ret (KV.then_ret (KV.block_ret (KV.then_ret ?_)))
            refine KV.sel [] [] rfl ?_
            exact KV.ret1 rfl rfl _ (fun _ h => h) ⟨by rw [vldB_f (fun hv => by have hq := vld_ends hv (i := j) (by omega); omega)], rfl⟩
           ·
            refine RV.s (Step.pick_f rfl rfl) rfl ?_
            refine RV.nil (KV.then_n (KV.e8 0 7 10 12 55 56 57 89 (CV.cond_f rfl (CV.skip (KV.then_n ?_)))))
            refine KV.e7 0 7 10 12 55 56 57 (CV.seq (CV.seq ?_))
            have hxa : 0 ≤ (M.getD j hlK.d).a := by omega
            have hxb : 0 ≤ (M.getD j hlK.d).b := by omega
            obtain ⟨a, ha⟩ := Int.eq_ofNat_of_zero_le hxa
            obtain ⟨b, hb⟩ := Int.eq_ofNat_of_zero_le hxb
            have hne : a ≠ b := by omega
            have ha2 : a < D.length := by omega
            have hb2 : b < D.length := by omega
            refine CV.still (by kernel_rfl) (by kernel_rfl) (fun _ h => h.drew) ?_
            refine SV.step gno (Step.fieldAddr rfl (F195_2 _ _)) rfl ?_
            (first | refine SV.step gno (Step.load Tryz.underlying2 rfl rfl (fun w h => h.cell 2 rfl rfl)) rfl ?_ | refine SV.step gno (Step.load Tryz.underlying2 rfl rfl (fun w h => (h.rs hr (fun _ => hI _)).cell (by first | omega | (rw [ndA_len]; omega) | (rw [ndL_len]; omega) | (simp only [List.length_set, ndL_len]; omega)) rfl)) rfl ?_ | refine SV.step gno (Step.load Tryz.underlying2 rfl rfl (fun w h => (h.rs hr (fun _ => hI _)).cell0 (by first | omega | (rw [ndA_len]; omega) | (rw [ndL_len]; omega) | (simp only [List.length_set, ndL_len]; omega)) rfl)) rfl ?_)
            refine SV.split gno (Step.lss rfl rfl) rfl (fun cc14 => ?_) (fun cc14 => ?_)
            ·
             refine SV.step gno (Step.move rfl) rfl ?_
             refine SV.skip rfl rfl ?_
             refine SV.skip rfl rfl ?_
             refine SV.skip rfl rfl ?_
             refine SV.step gno (Step.pick_t rfl rfl) rfl ?_
             refine SV.step gno (Step.move rfl) rfl ?_
             refine SV.skip rfl rfl ?_
             refine SV.skip rfl rfl ?_
             refine SV.skip rfl rfl ?_
             refine SV.skip rfl rfl ?_
             refine SV.skip rfl rfl ?_
             refine SV.skip rfl rfl ?_
             refine SV.skip rfl rfl ?_
             refine SV.step gno (Step.pick_t rfl rfl) rfl ?_
             refine SV.nil (KV.then_n (KV.e8 0 7 10 12 55 56 57 106 (CV.cond_t rfl (CV.seq (CV.region ?_)))))
             refine RV.a rfl rfl ?_
             refine RV.nil (KV.then_n (KV.e1 6 (CV.ret (KV.then_ret (KV.block_ret ?_)))))
             refine KV.then_ret (KV.then_ret (KV.block_ret (KV.then_ret ?_)))
             refine KV.sel [] [] rfl ?_
             exact KV.ret1 rfl rfl _ (fun _ h => h) ⟨by rw [vldB_f (fun hv => by first | (have hq := vld_g hv (i := j) (by omega); omega) | (obtain ⟨k, hk, hp⟩ := hdup; exact (hv.lnk j (by omega)).2.2.2 k hk hp))], rfl⟩
            ·
             refine SV.step gno (Step.move rfl) rfl ?_
             refine SV.step (gyes rfl) (Step.fieldAddr rfl (F195_2 _ _)) rfl ?_
             (first | refine SV.step (gyes rfl) (Step.load Tryz.underlying2 rfl rfl (fun w h => h.cell 2 rfl rfl)) rfl ?_ | refine SV.step (gyes rfl) (Step.load Tryz.underlying2 rfl rfl (fun w h => (h.rs hr (fun _ => hI _)).cell (by first | omega | (rw [ndA_len]; omega) | (rw [ndL_len]; omega) | (simp only [List.length_set, ndL_len]; omega)) rfl)) rfl ?_ | refine SV.step (gyes rfl) (Step.load Tryz.underlying2 rfl rfl (fun w h => (h.rs hr (fun _ => hI _)).cell0 (by first | omega | (rw [ndA_len]; omega) | (rw [ndL_len]; omega) | (simp only [List.length_set, ndL_len]; omega)) rfl)) rfl ?_)
             refine SV.split (gyes rfl) (Step.gtr rfl rfl) rfl (fun cc15 => ?_) (fun cc15 => ?_)
             ·
              refine SV.step gno (Step.pick_f rfl rfl) rfl ?_
              refine SV.step gno (Step.move rfl) rfl ?_
              refine SV.skip rfl rfl ?_
              refine SV.skip rfl rfl ?_
              refine SV.skip rfl rfl ?_
              refine SV.skip rfl rfl ?_
              refine SV.skip rfl rfl ?_
              refine SV.skip rfl rfl ?_
              refine SV.skip rfl rfl ?_
              refine SV.step gno (Step.pick_t rfl rfl) rfl ?_
              refine SV.nil (KV.then_n (KV.e8 0 7 10 12 55 56 57 106 (CV.cond_t rfl (CV.seq (CV.region ?_)))))
              refine RV.a rfl rfl ?_
              refine RV.nil (KV.then_n (KV.e1 6 (CV.ret (KV.then_ret (KV.block_ret ?_)))))
              refine KV.then_ret (KV.then_ret (KV.block_ret (KV.then_ret ?_)))
              refine KV.sel [] [] rfl ?_
              exact KV.ret1 rfl rfl _ (fun _ h => h) ⟨by rw [vldB_f (fun hv => by first | (have hq := vld_g hv (i := j) (by omega); omega) | (obtain ⟨k, hk, hp⟩ := hdup; exact (hv.lnk j (by omega)).2.2.2 k hk hp))], rfl⟩
             ·
              refine SV.step gno (Step.pick_f rfl rfl) rfl ?_
              refine SV.step gno (Step.move rfl) rfl ?_
              refine SV.step (gyes rfl) (Step.fieldAddr rfl (F195_0 _ _)) rfl ?_
              (first | refine SV.step (gyes rfl) (Step.load Tryz.underlying3 rfl rfl (fun w h => h.cell 2 rfl rfl)) rfl ?_ | refine SV.step (gyes rfl) (Step.load Tryz.underlying3 rfl rfl (fun w h => (h.rs hr (fun _ => hI _)).cell (by first | omega | (rw [ndA_len]; omega) | (rw [ndL_len]; omega) | (simp only [List.length_set, ndL_len]; omega)) rfl)) rfl ?_ | refine SV.step (gyes rfl) (Step.load Tryz.underlying3 rfl rfl (fun w h => (h.rs hr (fun _ => hI _)).cell0 (by first | omega | (rw [ndA_len]; omega) | (rw [ndL_len]; omega) | (simp only [List.length_set, ndL_len]; omega)) rfl)) rfl ?_)
              refine SV.step (gyes rfl) (Step.fieldAddr rfl (F195_1 _ _)) rfl ?_
              (first | refine SV.step (gyes rfl) (Step.load Tryz.underlying3 rfl rfl (fun w h => h.cell 2 rfl rfl)) rfl ?_ | refine SV.step (gyes rfl) (Step.load Tryz.underlying3 rfl rfl (fun w h => (h.rs hr (fun _ => hI _)).cell (by first | omega | (rw [ndA_len]; omega) | (rw [ndL_len]; omega) | (simp only [List.length_set, ndL_len]; omega)) rfl)) rfl ?_ | refine SV.step (gyes rfl) (Step.load Tryz.underlying3 rfl rfl (fun w h => (h.rs hr (fun _ => hI _)).cell0 (by first | omega | (rw [ndA_len]; omega) | (rw [ndL_len]; omega) | (simp only [List.length_set, ndL_len]; omega)) rfl)) rfl ?_)
              refine SV.step (gyes rfl) (Step.idxArr Tryz.underlying273 I272 rfl rfl _ ha (by first | omega | (rw [ndA_len]; omega) | (rw [ndL_len]; omega) | (simp only [List.length_set, ndL_len]; omega))) rfl ?_
              refine SV.step (gyes rfl) (Step.idxArr Tryz.underlying272 I4 rfl rfl _ hb (by first | omega | (rw [ndA_len]; omega) | (rw [ndL_len]; omega) | (simp only [List.length_set, ndL_len]; omega))) rfl ?_
              refine SV.step (gyes rfl) (Step.load Tryz.underlying4 rfl rfl (fun w h => (h.os 1 rfl).cellAt (a * 16 + b) 0 (by rw [lmx_len]; omega) (by show _ = 0 + (a * 16 + b) * 1 + 0; omega) rfl)) rfl ?_
              refine SV.step gno (Step.pick_f rfl rfl) rfl ?_
              refine SV.nil (KV.then_n (KV.e8 0 7 10 12 55 56 57 106 ?_))
              refine KV.cases 106 rfl (fun cc16 => ?_) (fun cc16 => ?_)
              ·
               have hdup := lm_t ha hb (by omega) (by omega) cc16
               refine CV.cond_t rfl (CV.seq (CV.region ?_))
               refine RV.a rfl rfl ?_
               refine RV.nil (KV.then_n (KV.e1 6 (CV.ret (KV.then_ret (KV.block_ret ?_)))))
               refine KV.then_ret (KV.then_ret (KV.block_ret (KV.then_ret ?_)))
               refine KV.sel [] [] rfl ?_
               exact KV.ret1 rfl rfl _ (fun _ h => h) ⟨by rw [vldB_f (fun hv => by first | (have hq := vld_g hv (i := j) (by omega); omega) | (obtain ⟨k, hk, hp⟩ := hdup; exact (hv.lnk j (by omega)).2.2.2 k hk hp))], rfl⟩
              ·
               have hnew := lm_f ha hb (by omega) (by omega) cc16
               refine CV.cond_f rfl (CV.skip (KV.then_n (KV.e7 0 7 10 12 55 56 57 (CV.seq ?_))))
               refine CV.stillTail 5 (by kernel_rfl) (by kernel_rfl) (fun _ h => h.drew) ?_
               refine SV.step gno (Step.fieldAddr rfl (F195_0 _ _)) rfl ?_
               (first | refine SV.step gno (Step.load Tryz.underlying3 rfl rfl (fun w h => h.cell 2 rfl rfl)) rfl ?_ | refine SV.step gno (Step.load Tryz.underlying3 rfl rfl (fun w h => (h.rs hr (fun _ => hI _)).cell (by first | omega | (rw [ndA_len]; omega) | (rw [ndL_len]; omega) | (simp only [List.length_set, ndL_len]; omega)) rfl)) rfl ?_ | refine SV.step gno (Step.load Tryz.underlying3 rfl rfl (fun w h => (h.rs hr (fun _ => hI _)).cell0 (by first | omega | (rw [ndA_len]; omega) | (rw [ndL_len]; omega) | (simp only [List.length_set, ndL_len]; omega)) rfl)) rfl ?_)
               refine SV.step gno (Step.fieldAddr rfl (F195_1 _ _)) rfl ?_
               (first | refine SV.step gno (Step.load Tryz.underlying3 rfl rfl (fun w h => h.cell 2 rfl rfl)) rfl ?_ | refine SV.step gno (Step.load Tryz.underlying3 rfl rfl (fun w h => (h.rs hr (fun _ => hI _)).cell (by first | omega | (rw [ndA_len]; omega) | (rw [ndL_len]; omega) | (simp only [List.length_set, ndL_len]; omega)) rfl)) rfl ?_ | refine SV.step gno (Step.load Tryz.underlying3 rfl rfl (fun w h => (h.rs hr (fun _ => hI _)).cell0 (by first | omega | (rw [ndA_len]; omega) | (rw [ndL_len]; omega) | (simp only [List.length_set, ndL_len]; omega)) rfl)) rfl ?_)
               refine SV.step gno (Step.idxArr Tryz.underlying273 I272 rfl rfl _ ha (by first | omega | (rw [ndA_len]; omega) | (rw [ndL_len]; omega) | (simp only [List.length_set, ndL_len]; omega))) rfl ?_
               refine SV.nil ?_
               show KV _ (wpList _ _ _ _) _ _
               refine RV.op (OV.step gno (Step.idxArr Tryz.underlying272 I4 rfl rfl _ hb (by first | omega | (rw [ndA_len]; omega) | (rw [ndL_len]; omega) | (simp only [List.length_set, ndL_len]; omega))) rfl ?_)
               refine RV.op (OV.storeE 1 (a * 16 + b) (true) (j := 0) (A := some ⟨b11_0, 0, none⟩) [_] I4 rfl rfl rfl (by show _ = 0 + (a * 16 + b) * 1 + 0; omega) rfl rfl (by rw [lmx_len]; omega) rfl (Nat.le_of_ble_eq_true rfl) gno ?_)
               refine RV.nil (KV.then_n (KV.e7 0 7 10 12 55 56 57 (CV.seq ?_)))
               refine CV.stillTail 5 (by kernel_rfl) (by kernel_rfl) (fun _ h => h.drew) ?_
               refine SV.step gno (Step.fieldAddr rfl (F195_1 _ _)) rfl ?_
               (first | refine SV.step gno (Step.load Tryz.underlying3 rfl rfl (fun w h => h.cell 2 rfl rfl)) rfl ?_ | refine SV.step gno (Step.load Tryz.underlying3 rfl rfl (fun w h => (h.rs hr (fun _ => hI _)).cell (by first | omega | (rw [ndA_len]; omega) | (rw [ndL_len]; omega) | (simp only [List.length_set, ndL_len]; omega)) rfl)) rfl ?_ | refine SV.step gno (Step.load Tryz.underlying3 rfl rfl (fun w h => (h.rs hr (fun _ => hI _)).cell0 (by first | omega | (rw [ndA_len]; omega) | (rw [ndL_len]; omega) | (simp only [List.length_set, ndL_len]; omega)) rfl)) rfl ?_)
               refine SV.step gno (Step.fieldAddr rfl (F195_0 _ _)) rfl ?_
               (first | refine SV.step gno (Step.load Tryz.underlying3 rfl rfl (fun w h => h.cell 2 rfl rfl)) rfl ?_ | refine SV.step gno (Step.load Tryz.underlying3 rfl rfl (fun w h => (h.rs hr (fun _ => hI _)).cell (by first | omega | (rw [ndA_len]; omega) | (rw [ndL_len]; omega) | (simp only [List.length_set, ndL_len]; omega)) rfl)) rfl ?_ | refine SV.step gno (Step.load Tryz.underlying3 rfl rfl (fun w h => (h.rs hr (fun _ => hI _)).cell0 (by first | omega | (rw [ndA_len]; omega) | (rw [ndL_len]; omega) | (simp only [List.length_set, ndL_len]; omega)) rfl)) rfl ?_)
               refine SV.step gno (Step.idxArr Tryz.underlying273 I272 rfl rfl _ hb (by first | omega | (rw [ndA_len]; omega) | (rw [ndL_len]; omega) | (simp only [List.length_set, ndL_len]; omega))) rfl ?_
               refine SV.nil ?_
               show KV _ (wpList _ _ _ _) _ _
               refine RV.op (OV.step gno (Step.idxArr Tryz.underlying272 I4 rfl rfl _ ha (by first | omega | (rw [ndA_len]; omega) | (rw [ndL_len]; omega) | (simp only [List.length_set, ndL_len]; omega))) rfl ?_)
               refine RV.op (OV.storeE 1 (b * 16 + a) (true) (j := 0) (A := some ⟨b11_0, 0, none⟩) [_] I4 rfl rfl rfl (by show _ = 0 + (b * 16 + a) * 1 + 0; omega) rfl rfl (by simp only [List.length_set, lmx_len]; omega) rfl (Nat.le_of_ble_eq_true rfl) gno ?_)
               refine RV.nil (KV.then_n (KV.e7 0 7 10 12 55 56 57 (CV.seq ?_)))
               have hnb := nd_bd (M := M) (j := j) hinv.2 (by omega) hl2 hinv2.2 ha2
               refine CV.stillTail 8 (by kernel_rfl) (by kernel_rfl) (fun _ h => h.drew) ?_
               refine SV.step gno (Step.move rfl) rfl ?_
               refine SV.step gno (Step.fieldAddr rfl (F195_0 _ _)) rfl ?_
               (first | refine SV.step gno (Step.load Tryz.underlying3 rfl rfl (fun w h => h.cell 2 rfl rfl)) rfl ?_ | refine SV.step gno (Step.load Tryz.underlying3 rfl rfl (fun w h => (h.rs hr (fun _ => hI _)).cell (by first | omega | (rw [ndA_len]; omega) | (rw [ndL_len]; omega) | (simp only [List.length_set, ndL_len]; omega)) rfl)) rfl ?_ | refine SV.step gno (Step.load Tryz.underlying3 rfl rfl (fun w h => (h.rs hr (fun _ => hI _)).cell0 (by first | omega | (rw [ndA_len]; omega) | (rw [ndL_len]; omega) | (simp only [List.length_set, ndL_len]; omega)) rfl)) rfl ?_)
               refine SV.step gno (Step.idx Tryz.underlying56 I2 (fun w h => h.os 0 rfl) rfl rfl (by first | rfl | (rw [ndA_len]) | (rw [ndL_len]) | (simp only [List.length_set, ndL_len])) _ ha (by first | omega | (rw [ndA_len]; omega) | (rw [ndL_len]; omega) | (simp only [List.length_set, ndL_len]; omega))) rfl ?_
               refine SV.step gno (Step.load Tryz.underlying2 rfl rfl (fun w h => (h.os 0 rfl).cell0 (by rw [ndL_len]; omega) rfl)) rfl ?_
               refine SV.step gno (Step.fieldAddr rfl (F195_2 _ _)) rfl ?_
               (first | refine SV.step gno (Step.load Tryz.underlying2 rfl rfl (fun w h => h.cell 2 rfl rfl)) rfl ?_ | refine SV.step gno (Step.load Tryz.underlying2 rfl rfl (fun w h => (h.rs hr (fun _ => hI _)).cell (by first | omega | (rw [ndA_len]; omega) | (rw [ndL_len]; omega) | (simp only [List.length_set, ndL_len]; omega)) rfl)) rfl ?_ | refine SV.step gno (Step.load Tryz.underlying2 rfl rfl (fun w h => (h.rs hr (fun _ => hI _)).cell0 (by first | omega | (rw [ndA_len]; omega) | (rw [ndL_len]; omega) | (simp only [List.length_set, ndL_len]; omega)) rfl)) rfl ?_)
               (first | refine SV.step gno (Step.add rfl rfl (wI64 (by omega) (by omega))) rfl ?_ | refine SV.step gno (Step.add rfl rfl rfl) rfl ?_)
               refine SV.nil ?_
               show KV _ (wpList _ _ _ _) _ _
               refine RV.op (OV.step gno (Step.idx Tryz.underlying56 I2 (fun w h => h.os 0 rfl) rfl rfl (by first | rfl | (rw [ndA_len]) | (rw [ndL_len]) | (simp only [List.length_set, ndL_len])) _ ha (by first | omega | (rw [ndA_len]; omega) | (rw [ndL_len]; omega) | (simp only [List.length_set, ndL_len]; omega))) rfl ?_)
               refine RV.op (OV.storeE 0 (a) (((ndL D M j).getD a (intK .i64).d + (M.getD j hlK.d).g)) (j := 0) [_] I2 rfl rfl rfl rfl rfl rfl (by rw [ndL_len]; omega) rfl (Nat.le_of_ble_eq_true rfl) gno ?_)
               refine RV.nil (KV.then_n (KV.e7 0 7 10 12 55 56 57 ?_))
               have hnb2 := nd_bd (M := M) (j := j) hinv.2 (by omega) hl2 hinv2.2 hb2
               have hno := nd_other (D := D) (M := M) (j := j) ((ndL D M j).getD a (intK .i64).d + (M.getD j hlK.d).g) hne
               refine CV.stillTail 8 (by kernel_rfl) (by kernel_rfl) (fun _ h => h.drew) ?_
               refine SV.step gno (Step.move rfl) rfl ?_
               refine SV.step gno (Step.fieldAddr rfl (F195_1 _ _)) rfl ?_
               (first | refine SV.step gno (Step.load Tryz.underlying3 rfl rfl (fun w h => h.cell 2 rfl rfl)) rfl ?_ | refine SV.step gno (Step.load Tryz.underlying3 rfl rfl (fun w h => (h.rs hr (fun _ => hI _)).cell (by first | omega | (rw [ndA_len]; omega) | (rw [ndL_len]; omega) | (simp only [List.length_set, ndL_len]; omega)) rfl)) rfl ?_ | refine SV.step gno (Step.load Tryz.underlying3 rfl rfl (fun w h => (h.rs hr (fun _ => hI _)).cell0 (by first | omega | (rw [ndA_len]; omega) | (rw [ndL_len]; omega) | (simp only [List.length_set, ndL_len]; omega)) rfl)) rfl ?_)
               refine SV.step gno (Step.idx Tryz.underlying56 I2 (fun w h => h.os 0 rfl) rfl rfl (by first | rfl | (rw [ndA_len]) | (rw [ndL_len]) | (simp only [List.length_set, ndL_len])) _ hb (by first | omega | (rw [ndA_len]; omega) | (rw [ndL_len]; omega) | (simp only [List.length_set, ndL_len]; omega))) rfl ?_
               refine SV.step gno (Step.load Tryz.underlying2 rfl rfl (fun w h => (h.os 0 rfl).cell0 (by simp only [List.length_set, ndL_len]; omega) rfl)) rfl ?_
               refine SV.step gno (Step.fieldAddr rfl (F195_2 _ _)) rfl ?_
               (first | refine SV.step gno (Step.load Tryz.underlying2 rfl rfl (fun w h => h.cell 2 rfl rfl)) rfl ?_ | refine SV.step gno (Step.load Tryz.underlying2 rfl rfl (fun w h => (h.rs hr (fun _ => hI _)).cell (by first | omega | (rw [ndA_len]; omega) | (rw [ndL_len]; omega) | (simp only [List.length_set, ndL_len]; omega)) rfl)) rfl ?_ | refine SV.step gno (Step.load Tryz.underlying2 rfl rfl (fun w h => (h.rs hr (fun _ => hI _)).cell0 (by first | omega | (rw [ndA_len]; omega) | (rw [ndL_len]; omega) | (simp only [List.length_set, ndL_len]; omega)) rfl)) rfl ?_)
               (first | refine SV.step gno (Step.add rfl rfl (wI64 (by omega) (by omega))) rfl ?_ | refine SV.step gno (Step.add rfl rfl rfl) rfl ?_)
               refine SV.nil ?_
               show KV _ (wpList _ _ _ _) _ _
               refine RV.op (OV.step gno (Step.idx Tryz.underlying56 I2 (fun w h => h.os 0 rfl) rfl rfl (by first | rfl | (rw [ndA_len]) | (rw [ndL_len]) | (simp only [List.length_set, ndL_len])) _ hb (by first | omega | (rw [ndA_len]; omega) | (rw [ndL_len]; omega) | (simp only [List.length_set, ndL_len]; omega))) rfl ?_)
               refine RV.op (OV.storeE 0 (b) ((((ndL D M j).set a ((ndL D M j).getD a (intK .i64).d + (M.getD j hlK.d).g)).getD b (intK .i64).d + (M.getD j hlK.d).g)) (j := 0) [_] I2 rfl rfl rfl rfl rfl rfl (by simp only [List.length_set, ndL_len]; omega) rfl (Nat.le_of_ble_eq_true rfl) gno ?_)
               refine RV.nil (KV.block_n (KV.then_n (KV.e6 0 7 10 55 56 57 (CV.region ?_))))
               (first | refine RV.op (OV.step gno (Step.add rfl rfl (wI64 (by omega) (by omega))) rfl ?_) | refine RV.op (OV.step gno (Step.add rfl rfl rfl) rfl ?_))
               refine RV.m rfl rfl ?_
               refine RV.nil (KV.then_n (KV.e6 0 7 10 55 56 57 ?_))
               refine KV.sel [0, 0] [_, _] rfl ?_
               exact KV.loopI (z := j) (j + 1) ⟨by omega, fun k hk => by by_cases e : k = j; (subst e; exact lnkOk_of (by omega) (by omega) hnew); exact hinv2.2 k (by omega)⟩ (by omega) ⟨rfl, rfl, rfl, rfl, rfl, rfl, trivial⟩ (fun _ h => by rw [← nd_step (by omega) ha hb ha2 hb2 hne, ← lm_step ha hb (by omega) (by omega)]; exact h)
      ·
       refine RV.nil (KV.then_n (KV.e7 0 7 10 55 56 57 58 (CV.seq (CV.cond_f rfl (CV.exit ?_)))))
       refine KV.then_exit (KV.then_exit (KV.block_hit (KV.then_n (KV.e2 0 7 (CV.seq ?_)))))
       refine CV.seq ?_
       obtain rfl : j = M.length := by omega
       refine CV.region ?_
       refine RV.m rfl rfl (RV.s (Step.lenSl Tryz.underlying104 rfl) rfl (RV.m rfl rfl ?_))
       refine RV.nil (KV.then_n (KV.e4 7 138 139 140 (CV.block ?_)))
       refine KV.sel [0] [_] rfl ?_
       refine CV.loopI (fun (q : Nat) => q ≤ D.length ∧ ∀ k, k < q → need D M k ≤ (hdA D k).cap ∧ (hdA D k).cap ≤ 16777216) (fun (q : Nat) => D.length - q) (fun (q : Nat) => [(7, .slice b3_2 D.length D.length), (138, .slice A D.length c), (139, .int .i64 D.length), (140, .int .i64 q)]) (fun (q : Nat) => Hp I w [OS 2 (intK .i64) b3_2 D.length (ndL D M M.length)]) (0) ⟨Nat.zero_le _, fun k hk => by omega⟩ ⟨rfl, rfl, rfl, rfl, trivial⟩ (fun _ h => h) ?_
       intro q hinv3
       refine CV.seq (CV.region ?_)
       refine RV.op (OV.split gno (Step.lss rfl rfl) rfl (fun cc17 => ?_) (fun cc17 => ?_))
       ·
        refine RV.nil (KV.then_n (KV.e5 7 138 139 140 141 (CV.seq (CV.cond_t rfl (CV.skip ?_)))))
        refine KV.then_n (KV.e4 7 138 139 140 (CV.seq (CV.block (CV.seq (CV.region ?_)))))
        refine RV.m rfl rfl ?_
        refine RV.op (OV.step gno (Step.idx Tryz.underlying104 I41 (fun w h => h.rs hr (fun _ => hI _)) rfl rfl (by first | rfl | (rw [ndA_len]) | (rw [ndL_len]) | (simp only [List.length_set, ndL_len])) _ rfl (by first | omega | (rw [ndA_len]; omega) | (rw [ndL_len]; omega) | (simp only [List.length_set, ndL_len]; omega))) rfl ?_)
        refine RV.op (OV.step gno (Step.loadN _ Tryz.underlying41 rfl I41 rfl rfl (fun w h => (h.rs hr (fun _ => hI _)).cells (by first | omega | (rw [ndA_len]; omega) | (rw [ndL_len]; omega) | (simp only [List.length_set, ndL_len]; omega)))) rfl ?_)
        refine RV.op (OV.alloc #[.int .i64 0, .int .i64 0] I41 rfl gno rfl (fun b26_3 => ?_))
        refine RV.a rfl rfl ?_
        refine RV.op (OV.store 1 [_, _] #[_, _] I41 rfl rfl rfl rfl rfl (Nat.le_of_ble_eq_true rfl) (by simp [Value.oneCell']) rfl gno ?_)
        refine RV.nil (KV.then_n (KV.e6 7 13 14 138 139 140 (CV.seq ?_)))
        have hnf := nd_full (D := D) (M := M) (k := q) (by omega)
        refine CV.still (by kernel_rfl) (by kernel_rfl) (fun _ h => h.drew) ?_
        refine SV.step gno (Step.fieldAddr rfl (F41_0 _ _)) rfl ?_
        (first | refine SV.step gno (Step.load Tryz.underlying2 rfl rfl (fun w h => h.cell 1 rfl rfl)) rfl ?_ | refine SV.step gno (Step.load Tryz.underlying2 rfl rfl (fun w h => (h.rs hr (fun _ => hI _)).cell (by first | omega | (rw [ndA_len]; omega) | (rw [ndL_len]; omega) | (simp only [List.length_set, ndL_len]; omega)) rfl)) rfl ?_ | refine SV.step gno (Step.load Tryz.underlying2 rfl rfl (fun w h => (h.rs hr (fun _ => hI _)).cell0 (by first | omega | (rw [ndA_len]; omega) | (rw [ndL_len]; omega) | (simp only [List.length_set, ndL_len]; omega)) rfl)) rfl ?_)
        refine SV.step gno (Step.move rfl) rfl ?_
        refine SV.step gno (Step.move rfl) rfl ?_
        refine SV.step gno (Step.idx Tryz.underlying56 I2 (fun w h => h.os 0 rfl) rfl rfl (by first | rfl | (rw [ndA_len]) | (rw [ndL_len]) | (simp only [List.length_set, ndL_len])) _ rfl (by first | omega | (rw [ndA_len]; omega) | (rw [ndL_len]; omega) | (simp only [List.length_set, ndL_len]; omega))) rfl ?_
        refine SV.step gno (Step.load Tryz.underlying2 rfl rfl (fun w h => (h.os 0 rfl).cell0 (by rw [ndL_len]; omega) rfl)) rfl ?_
        refine SV.split gno (Step.lss rfl rfl) rfl (fun cc18 => ?_) (fun cc18 => ?_)
        ·
         refine SV.step gno (Step.move rfl) rfl ?_
         refine SV.skip rfl rfl ?_
         refine SV.skip rfl rfl ?_
         refine SV.skip rfl rfl ?_
         refine SV.step gno (Step.pick_t rfl rfl) rfl ?_
         refine SV.nil (KV.then_n (KV.e5 7 138 139 140 156 (CV.cond_t rfl (CV.seq (CV.region ?_)))))
         refine RV.a rfl rfl ?_
         refine RV.nil (KV.then_n (KV.e1 6 (CV.ret (KV.block_ret (KV.then_ret ?_)))))
         refine KV.then_ret (KV.block_ret (KV.then_ret ?_))
         refine KV.sel [] [] rfl ?_
         exact KV.ret1 rfl rfl _ (fun _ h => h) ⟨by rw [vldB_f (fun hv => by have hq := vld_cap hv (i := q) (by omega); omega)], rfl⟩
        ·
         refine SV.step gno (Step.move rfl) rfl ?_
         refine SV.step (gyes rfl) (Step.fieldAddr rfl (F41_0 _ _)) rfl ?_
         (first | refine SV.step (gyes rfl) (Step.load Tryz.underlying2 rfl rfl (fun w h => h.cell 1 rfl rfl)) rfl ?_ | refine SV.step (gyes rfl) (Step.load Tryz.underlying2 rfl rfl (fun w h => (h.rs hr (fun _ => hI _)).cell (by first | omega | (rw [ndA_len]; omega) | (rw [ndL_len]; omega) | (simp only [List.length_set, ndL_len]; omega)) rfl)) rfl ?_ | refine SV.step (gyes rfl) (Step.load Tryz.underlying2 rfl rfl (fun w h => (h.rs hr (fun _ => hI _)).cell0 (by first | omega | (rw [ndA_len]; omega) | (rw [ndL_len]; omega) | (simp only [List.length_set, ndL_len]; omega)) rfl)) rfl ?_)
         refine SV.split (gyes rfl) (Step.gtr rfl rfl) rfl (fun cc19 => ?_) (fun cc19 => ?_)
         ·
          refine SV.step gno (Step.pick_f rfl rfl) rfl ?_
          refine SV.nil (KV.then_n (KV.e5 7 138 139 140 156 (CV.cond_t rfl (CV.seq (CV.region ?_)))))
          refine RV.a rfl rfl ?_
          refine RV.nil (KV.then_n (KV.e1 6 (CV.ret (KV.block_ret (KV.then_ret ?_)))))
          refine KV.then_ret (KV.block_ret (KV.then_ret ?_))
          refine KV.sel [] [] rfl ?_
          exact KV.ret1 rfl rfl _ (fun _ h => h) ⟨by rw [vldB_f (fun hv => by have hq := vld_cap hv (i := q) (by omega); omega)], rfl⟩
         ·
          refine SV.step gno (Step.pick_f rfl rfl) rfl ?_
          refine SV.nil (KV.then_n (KV.e5 7 138 139 140 156 (CV.cond_f rfl (CV.skip (KV.block_n ?_)))))
          refine KV.then_n (KV.e4 7 138 139 140 (CV.region ?_))
          (first | refine RV.op (OV.step gno (Step.add rfl rfl (wI64 (by omega) (by omega))) rfl ?_) | refine RV.op (OV.step gno (Step.add rfl rfl rfl) rfl ?_))
          refine RV.m rfl rfl ?_
          refine RV.nil (KV.then_n (KV.e4 7 138 139 140 ?_))
          refine KV.sel [0] [_] rfl ?_
          exact KV.loopI (z := q) (q + 1) ⟨by omega, fun k hk => by by_cases e : k = q; (subst e; change need D M k ≤ (D.getD k hdK.d).cap ∧ (D.getD k hdK.d).cap ≤ 16777216; omega); exact hinv3.2 k (by omega)⟩ (by omega) ⟨rfl, rfl, rfl, rfl, trivial⟩ (fun _ h => h)
       ·
        refine RV.nil (KV.then_n (KV.e5 7 138 139 140 141 (CV.seq (CV.cond_f rfl (CV.exit ?_)))))
        refine KV.then_exit (KV.then_exit (KV.block_hit (KV.then_n (KV.env [] trivial (CV.seq ?_)))))
        refine CV.region ?_
        refine RV.a rfl rfl ?_
        refine RV.nil (KV.then_n (KV.e1 6 (CV.ret ?_)))
        refine KV.sel [] [] rfl ?_
        exact KV.ret1 rfl rfl _ (fun _ h => h) ⟨by rw [vldB_t ⟨by omega, by omega, by omega, by omega, hinv.2, hinv2.2, fun k hk => hinv3.2 k (by omega)⟩], rfl⟩

set_option maxRecDepth 100000 in
set_option maxHeartbeats 1000000 in
theorem heatNew_fn {A : Option Addr} {n c : Nat} {D : List HD} {w : World} (hr : RS w hdK A D) (hn : n = D.length) (hl : D.length ≤ 1000000) {B : Option Addr} {m d : Nat} {M : List HL} (hr2 : RS w hlK B M) (hm : m = M.length) (hl2 : M.length ≤ 1000000) (base : Int) : Fx Tryz.prog 39 [.slice A n c, .slice B m d, .int .i64 base] w [] no (fun v L => (Vld D M base → ∃ a : MA, v = .tuple #[.pointer (some ⟨a.b, 0, none⟩), .int .i64 0] ∧ L = mobj a D M base (D.map fun x => x.cap * base) 0) ∧ (¬ Vld D M base → v = .tuple #[.pointer none, .int .i64 1] ∧ L = [])) := by
 subst hn
 subst hm
 refine Sv.Fx.body Tryz.func39 rfl T39 rfl ?_
 intro I hro hI
 refine KV.e3 0 1 2 (CV.seq (CV.region ?_))
 refine RV.a rfl rfl (RV.a rfl rfl ?_)
 refine RV.nil (KV.then_n (KV.e3 0 1 2 (CV.seq (CV.seq (CV.region ?_)))))
 refine RV.m rfl rfl (RV.m rfl rfl (RV.m rfl rfl ?_))
 refine RV.op (OV.call [] (F := []) Tryz.func77 B77 N77 rfl rfl (fun w h => valid_fn (h.rs hr (fun _ => hI _)) rfl hl (h.rs hr2 (fun _ => hI _)) rfl hl2 base) (fun _ hb => hb.elim) gno rfl (fun v L' hp => ?_))
 obtain ⟨rfl, rfl⟩ := hp
 simp only [List.append_nil]
 refine RV.s (Step.not rfl) rfl ?_
 refine RV.nil (KV.then_n (KV.e4 0 1 2 15 ?_))
 refine KV.cases 15 rfl (fun cc1 => ?_) (fun cc1 => ?_)
 ·
  have hv := vldB_nt cc1
  refine CV.cond_t rfl (CV.seq (CV.region ?_))
  refine RV.a rfl rfl (RV.a rfl rfl ?_)
  refine RV.nil (KV.then_n (KV.e2 6 7 (CV.ret (KV.then_ret ?_))))
  refine KV.sel [] [] rfl ?_
  exact KV.ret2 rfl rfl rfl _ (fun _ h => h) ⟨fun k => absurd k hv, fun _ => ⟨rfl, rfl⟩⟩
 ·
  have hv := vldB_nf cc1
  refine CV.cond_f rfl (CV.skip (KV.then_n (KV.e3 0 1 2 ?_)))
  refine CV.join (fun (a : MA) => [(0, .slice A D.length c), (2, .int .i64 base), (8, .pointer (some ⟨a.b, 0, none⟩))]) (fun (a : MA) => Hp I w (mobj a D M base (List.replicate D.length 0) 0)) ?_ ?_
  ·
   skip
   refine CV.any (Hp I w []) (by kernel_rfl) (fun _ h => h.drew) 11 rfl ?_
   refine AV.u 0 (bl 11 1) rfl gno (Step.move rfl) rfl (fun _ h => h.sel [] rfl) ?_
   refine AV.u 2 (bl 11 5) rfl gno (Step.move rfl) rfl (fun _ h => h.sel [] rfl) ?_
   refine AV.u 4 (bl 11 21) rfl gno (Step.move rfl) rfl (fun _ h => h.sel [] rfl) ?_
   refine AV.u 5 (bl 11 53) rfl gno (Step.move rfl) rfl (fun _ h => h.sel [] rfl) ?_
   refine AV.u 6 (bl 11 117) rfl gno (Step.lenSl Tryz.underlying104 rfl) rfl (fun _ h => h.sel [] rfl) ?_
   refine AV.all [1, 7] (by kernel_rfl) (by decide) ?_
   refine ⟨⟨_, rfl, ?_⟩, ⟨⟨_, rfl, ?_⟩, trivial⟩⟩
   ·
    refine OV.call [] (F := []) Tryz.func78 B78 N78 rfl rfl (fun w h => cloneHd_fn (h.rs hr (fun _ => hI _)) rfl hl) (fun _ hb => hb.elim) gno rfl (fun v L' hp => ?_)
    obtain ⟨Ad, cd, rfl, rfl⟩ := hp
    refine AV.next (bl 11 119) (by kernel_rfl) (fun _ h => h.sel [] rfl) ?_
    refine AV.all [3, 7] (by kernel_rfl) (by decide) ?_
    refine ⟨⟨_, rfl, ?_⟩, ⟨⟨_, rfl, ?_⟩, trivial⟩⟩
    ·
     refine OV.call [] (F := [_]) Tryz.func79 B79 N79 rfl rfl (fun w h => cloneHl_fn (h.rs hr2 (fun _ => hI _)) rfl hl2) (fun _ hb => hb.elim) gno rfl (fun v L' hp => ?_)
     obtain ⟨Al, cl, rfl, rfl⟩ := hp
     refine AV.next (bl 11 127) (by kernel_rfl) (fun _ h => h.sel [] rfl) ?_
     refine AV.all [7] (by kernel_rfl) (by decide) ?_
     refine ⟨⟨_, rfl, ?_⟩, trivial⟩
     ·
      refine OV.make (K := (intK .i64)) (D.length) (D.length) (0) Tryz.underlying56 I2 rfl rfl rfl rfl rfl (by omega) (by omega) (by omega) gno rfl (fun b3_7 => ?_)
      refine AV.next (bl 11 255) (by kernel_rfl) (fun _ h => h.sel [] rfl) ?_
      refine AV.u 8 (bl 11 511) rfl gno (Step.build rfl (Bd197_0_1_2_3 _ _ _ _ _ _ _ _ _ _)) rfl (fun _ h => h.sel [] rfl) ?_
      refine AV.all [9] (by kernel_rfl) (by decide) ?_
      refine ⟨⟨_, rfl, ?_⟩, trivial⟩
      ·
       refine OV.box (t := 197) #[_, _, _, _, _] rfl rfl gno rfl (fun b3_9 => ?_)
       refine AV.next (bl 11 1023) (by kernel_rfl) (fun _ h => h.sel [] rfl) ?_
       refine AV.u 10 (bl 11 2047) rfl gno (Step.assign rfl) rfl (fun _ h => h.sel [] rfl) ?_
       refine AV.done (by kernel_rfl) ?_
       refine KV.then_n (KV.e3 0 2 8 ?_)
       refine KV.sel [3, 0, 0, 0] [_, _, _, _] rfl ?_
       exact KV.join (⟨b3_9, Ad, cd, Al, cl, b3_7, D.length⟩) ⟨rfl, rfl, rfl, trivial⟩ (fun _ h => h)
    ·
     refine OV.make (K := (intK .i64)) (D.length) (D.length) (0) Tryz.underlying56 I2 rfl rfl rfl rfl rfl (by omega) (by omega) (by omega) gno rfl (fun b3_7 => ?_)
     refine AV.next (bl 11 247) (by kernel_rfl) (fun _ h => h.sel [] rfl) ?_
     refine AV.all [3] (by kernel_rfl) (by decide) ?_
     refine ⟨⟨_, rfl, ?_⟩, trivial⟩
     ·
      refine OV.call [] (F := [_, _]) Tryz.func79 B79 N79 rfl rfl (fun w h => cloneHl_fn (h.rs hr2 (fun _ => hI _)) rfl hl2) (fun _ hb => hb.elim) gno rfl (fun v L' hp => ?_)
      obtain ⟨Al, cl, rfl, rfl⟩ := hp
      refine AV.next (bl 11 255) (by kernel_rfl) (fun _ h => h.sel [] rfl) ?_
      refine AV.u 8 (bl 11 511) rfl gno (Step.build rfl (Bd197_0_1_2_3 _ _ _ _ _ _ _ _ _ _)) rfl (fun _ h => h.sel [] rfl) ?_
      refine AV.all [9] (by kernel_rfl) (by decide) ?_
      refine ⟨⟨_, rfl, ?_⟩, trivial⟩
      ·
       refine OV.box (t := 197) #[_, _, _, _, _] rfl rfl gno rfl (fun b3_9 => ?_)
       refine AV.next (bl 11 1023) (by kernel_rfl) (fun _ h => h.sel [] rfl) ?_
       refine AV.u 10 (bl 11 2047) rfl gno (Step.assign rfl) rfl (fun _ h => h.sel [] rfl) ?_
       refine AV.done (by kernel_rfl) ?_
       refine KV.then_n (KV.e3 0 2 8 ?_)
       refine KV.sel [3, 0, 1, 0] [_, _, _, _] rfl ?_
       exact KV.join (⟨b3_9, Ad, cd, Al, cl, b3_7, D.length⟩) ⟨rfl, rfl, rfl, trivial⟩ (fun _ h => h)
   ·
    refine OV.make (K := (intK .i64)) (D.length) (D.length) (0) Tryz.underlying56 I2 rfl rfl rfl rfl rfl (by omega) (by omega) (by omega) gno rfl (fun b3_7 => ?_)
    refine AV.next (bl 11 245) (by kernel_rfl) (fun _ h => h.sel [] rfl) ?_
    refine AV.all [1] (by kernel_rfl) (by decide) ?_
    refine ⟨⟨_, rfl, ?_⟩, trivial⟩
    ·
     refine OV.call [] (F := [_]) Tryz.func78 B78 N78 rfl rfl (fun w h => cloneHd_fn (h.rs hr (fun _ => hI _)) rfl hl) (fun _ hb => hb.elim) gno rfl (fun v L' hp => ?_)
     obtain ⟨Ad, cd, rfl, rfl⟩ := hp
     refine AV.next (bl 11 247) (by kernel_rfl) (fun _ h => h.sel [] rfl) ?_
     refine AV.all [3] (by kernel_rfl) (by decide) ?_
     refine ⟨⟨_, rfl, ?_⟩, trivial⟩
     ·
      refine OV.call [] (F := [_, _]) Tryz.func79 B79 N79 rfl rfl (fun w h => cloneHl_fn (h.rs hr2 (fun _ => hI _)) rfl hl2) (fun _ hb => hb.elim) gno rfl (fun v L' hp => ?_)
      obtain ⟨Al, cl, rfl, rfl⟩ := hp
      refine AV.next (bl 11 255) (by kernel_rfl) (fun _ h => h.sel [] rfl) ?_
      refine AV.u 8 (bl 11 511) rfl gno (Step.build rfl (Bd197_0_1_2_3 _ _ _ _ _ _ _ _ _ _)) rfl (fun _ h => h.sel [] rfl) ?_
      refine AV.all [9] (by kernel_rfl) (by decide) ?_
      refine ⟨⟨_, rfl, ?_⟩, trivial⟩
      ·
       refine OV.box (t := 197) #[_, _, _, _, _] rfl rfl gno rfl (fun b3_9 => ?_)
       refine AV.next (bl 11 1023) (by kernel_rfl) (fun _ h => h.sel [] rfl) ?_
       refine AV.u 10 (bl 11 2047) rfl gno (Step.assign rfl) rfl (fun _ h => h.sel [] rfl) ?_
       refine AV.done (by kernel_rfl) ?_
       refine KV.then_n (KV.e3 0 2 8 ?_)
       refine KV.sel [3, 1, 1, 0] [_, _, _, _] rfl ?_
       exact KV.join (⟨b3_9, Ad, cd, Al, cl, b3_7, D.length⟩) ⟨rfl, rfl, rfl, trivial⟩ (fun _ h => h)
  ·
   intro a
   refine CV.seq (CV.seq (CV.region ?_))
   refine RV.m rfl rfl (RV.s (Step.lenSl Tryz.underlying104 rfl) rfl (RV.m rfl rfl ?_))
   refine RV.nil (KV.then_n (KV.e5 2 8 26 27 28 (CV.block ?_)))
   refine KV.sel [0, 0, 0, 0] [_, _, _, _] rfl ?_
   refine CV.loopI (fun (i : Nat) => i ≤ D.length) (fun (i : Nat) => D.length - i) (fun (i : Nat) => [(2, .int .i64 base), (8, .pointer (some ⟨a.b, 0, none⟩)), (26, .slice A D.length c), (27, .int .i64 D.length), (28, .int .i64 i)]) (fun (i : Nat) => Hp I w (mobj a D M base (eK D base i) 0)) (0) (Nat.zero_le _) ⟨rfl, rfl, rfl, rfl, rfl, trivial⟩ (fun _ h => by rw [eK_zero]; exact h) ?_
   intro i hinv
   refine CV.seq (CV.region ?_)
   refine RV.op (OV.split gno (Step.lss rfl rfl) rfl (fun cc2 => ?_) (fun cc2 => ?_))
   ·
    refine RV.nil (KV.then_n (KV.e6 2 8 26 27 28 29 (CV.seq (CV.cond_t rfl (CV.skip ?_)))))
    refine KV.then_n (KV.e5 2 8 26 27 28 (CV.seq (CV.block (CV.seq (CV.region ?_)))))
    refine RV.m rfl rfl ?_
    refine RV.op (OV.step gno (Step.idx Tryz.underlying104 I41 (fun w h => h.rs hr (fun _ => hI _)) rfl rfl (by first | rfl | (rw [eK_len])) _ rfl (by first | omega | (rw [eK_len]; omega))) rfl ?_)
    (first | refine RV.op (OV.step gno (Step.loadN _ Tryz.underlying41 rfl I41 rfl rfl (fun w h => h.cells 0 rfl)) rfl ?_) | refine RV.op (OV.step gno (Step.loadN _ Tryz.underlying41 rfl I41 rfl rfl (fun w h => (h.rs hr (fun _ => hI _)).cells (by first | omega | (rw [eK_len]; omega)))) rfl ?_))
    refine RV.op (OV.alloc #[.int .i64 0, .int .i64 0] I41 rfl gno rfl (fun b6_3 => ?_))
    refine RV.a rfl rfl ?_
    refine RV.op (OV.store 4 [_, _] #[_, _] I41 rfl rfl rfl rfl rfl (Nat.le_of_ble_eq_true rfl) (by simp [Value.oneCell']) rfl gno ?_)
    refine RV.nil (KV.then_n (KV.e7 2 8 9 10 26 27 28 ?_))
    have hcm := cap_mul hv (i := i) (by omega)
    refine CV.stillTail 9 (by kernel_rfl) (by kernel_rfl) (fun _ h => h.drew) ?_
    refine SV.step gno (Step.move rfl) rfl ?_
    refine SV.step gno (Step.nilCheck rfl) rfl ?_
    refine SV.step gno (Step.fieldAddr rfl (F197_3 _ _)) rfl ?_
    (first | refine SV.step gno (Step.load Tryz.underlying56 rfl rfl (fun w h => h.cell 0 rfl rfl)) rfl ?_ | refine SV.step gno (Step.load Tryz.underlying56 rfl rfl (fun w h => h.cell 4 rfl rfl)) rfl ?_ | refine SV.step gno (Step.load Tryz.underlying56 rfl rfl (fun w h => (h.rs hr (fun _ => hI _)).cell (by first | omega | (rw [eK_len]; omega)) rfl)) rfl ?_ | refine SV.step gno (Step.load Tryz.underlying56 rfl rfl (fun w h => (h.rs hr (fun _ => hI _)).cell0 (by first | omega | (rw [eK_len]; omega)) rfl)) rfl ?_)
    refine SV.step gno (Step.move rfl) rfl ?_
    refine SV.step gno (Step.fieldAddr rfl (F41_0 _ _)) rfl ?_
    (first | refine SV.step gno (Step.load Tryz.underlying2 rfl rfl (fun w h => h.cell 0 rfl rfl)) rfl ?_ | refine SV.step gno (Step.load Tryz.underlying2 rfl rfl (fun w h => h.cell 4 rfl rfl)) rfl ?_ | refine SV.step gno (Step.load Tryz.underlying2 rfl rfl (fun w h => (h.rs hr (fun _ => hI _)).cell (by first | omega | (rw [eK_len]; omega)) rfl)) rfl ?_ | refine SV.step gno (Step.load Tryz.underlying2 rfl rfl (fun w h => (h.rs hr (fun _ => hI _)).cell0 (by first | omega | (rw [eK_len]; omega)) rfl)) rfl ?_)
    refine SV.step gno (Step.move rfl) rfl ?_
    (first | refine SV.step gno (Step.mul rfl rfl (wI64 (by omega) (by omega))) rfl ?_ | refine SV.step gno (Step.mul rfl rfl rfl) rfl ?_)
    refine SV.nil ?_
    show KV _ (wpList _ _ _ _) _ _
    refine RV.op (OV.step gno (Step.idx Tryz.underlying56 I2 (fun w h => h.os 3 rfl) rfl rfl (by first | rfl | (rw [eK_len])) _ rfl (by first | omega | (rw [eK_len]; omega))) rfl ?_)
    refine RV.op (OV.storeE 3 (i) (((D.getD i hdK.d).cap * base)) (j := 0) [_] I2 rfl rfl rfl rfl rfl rfl (by rw [eK_len]; omega) rfl (Nat.le_of_ble_eq_true rfl) gno ?_)
    refine RV.nil (KV.block_n (KV.then_n (KV.e5 2 8 26 27 28 (CV.region ?_))))
    (first | refine RV.op (OV.step gno (Step.add rfl rfl (wI64 (by omega) (by omega))) rfl ?_) | refine RV.op (OV.step gno (Step.add rfl rfl rfl) rfl ?_))
    refine RV.m rfl rfl ?_
    refine RV.nil (KV.then_n (KV.e5 2 8 26 27 28 ?_))
    refine KV.sel [0, 0, 0, 0] [_, _, _, _] rfl ?_
    exact KV.loopI (z := i) (i + 1) (by omega) (by omega) ⟨rfl, rfl, rfl, rfl, rfl, trivial⟩ (fun _ h => by rw [← eK_succ (by omega)]; exact h)
   ·
    refine RV.nil (KV.then_n (KV.e6 2 8 26 27 28 29 (CV.seq (CV.cond_f rfl (CV.exit ?_)))))
    refine KV.then_exit (KV.then_exit (KV.block_hit (KV.then_n (KV.e1 8 (CV.seq ?_)))))
    obtain rfl : i = D.length := by omega
    refine CV.region ?_
    refine RV.m rfl rfl (RV.a rfl rfl (RV.a rfl rfl ?_))
    refine RV.nil (KV.then_n (KV.e2 6 7 (CV.ret ?_)))
    refine KV.sel [0, 0, 0, 0] [_, _, _, _] rfl ?_
    exact KV.ret2 rfl rfl rfl _ (fun _ h => h) ⟨fun _ => ⟨a, rfl, by rw [← eK_end]; rfl⟩, fun k => absurd hv k⟩

set_option maxRecDepth 100000 in
set_option maxHeartbeats 1000000 in
theorem sustainable_fn (x : HD) (base lim : Int) {w : World} : Fx Tryz.prog 20 [.agg #[.int .i64 x.cap, .int .i64 x.amb], .int .i64 base, .int .i64 lim] w [] no (fun v L => ((susE x base lim → v = .tuple #[.int .i64 (x.amb * (lim - base)), .int .i64 0]) ∧ (¬ susE x base lim → v = .tuple #[.int .i64 0, .int .i64 1])) ∧ L = []) := by
 refine Sv.Fx.body Tryz.func20 rfl T20 rfl ?_
 intro I hro hI
 refine KV.e3 0 1 2 (CV.seq (CV.region ?_))
 refine RV.op (OV.box (t := 41) #[_, _] rfl rfl gno rfl (fun b0_0 => ?_))
 refine RV.a rfl rfl (RV.a rfl rfl ?_)
 refine RV.nil (KV.then_n (KV.e3 1 2 3 (CV.seq (CV.seq (CV.region ?_)))))
 refine RV.s (Step.loadN _ Tryz.underlying41 rfl I41 rfl rfl (fun w h => h.cells 0 rfl)) rfl ?_
 refine RV.op (OV.buildSlice (K := hdK) ([x]) rfl (Bs104_1_0 _ _) rfl rfl (by omega) gno rfl (fun b1_1 => ?_))
 refine RV.m rfl rfl ?_
 refine RV.op (OV.call [] (F := [_, _]) Tryz.func39 B39 N39 rfl rfl (fun w h => heatNew_fn (h.os 1 rfl) rfl (by show 1 ≤ 1000000; decide) (B := none) (d := 0) (M := []) RS.nil rfl (by decide) base) (fun _ hb => hb.elim) gno rfl (fun v L' hp => ?_))
 by_cases hv : Vld [x] [] base
 ·
  skip
  obtain ⟨a, rfl, rfl⟩ := hp.1 hv
  refine RV.m rfl rfl (RV.s (Step.extract0 rfl rfl) rfl (RV.s (Step.extract0 rfl rfl) rfl (RV.a rfl rfl (RV.a rfl rfl ?_))))
  refine RV.nil (KV.then_n (KV.e4 1 2 3 9 (CV.seq (CV.region ?_))))
  refine RV.m rfl rfl (RV.s (Step.neq rfl rfl) rfl ?_)
  refine RV.nil (KV.then_n (KV.e4 1 2 3 18 (CV.cond_f rfl (CV.skip (KV.then_n ?_)))))
  refine KV.e3 1 2 3 (CV.seq (CV.seq (CV.region ?_)))
  refine RV.m rfl rfl (RV.m rfl rfl ?_)
  refine RV.op (OV.split gno (Step.lss rfl rfl) rfl (fun cc1 => ?_) (fun cc1 => ?_))
  ·
   refine RV.m rfl rfl (RV.k rfl rfl (RV.k rfl rfl (RV.s (Step.pick_t rfl rfl) rfl ?_)))
   refine RV.nil (KV.then_n (KV.e4 1 2 3 25 (CV.cond_t rfl (CV.seq (CV.region ?_)))))
   refine RV.a rfl rfl (RV.a rfl rfl ?_)
   refine RV.nil (KV.then_n (KV.e2 6 7 (CV.ret (KV.then_ret ?_))))
   refine KV.sel [] [] rfl ?_
   exact KV.ret2 rfl rfl rfl _ (fun _ h => h) ⟨⟨fun k => by have k1 := k.2.1; have k2 := k.2.2; omega, fun _ => rfl⟩, rfl⟩
  ·
   refine RV.m rfl rfl (RV.gw rfl (Step.move rfl) rfl ?_)
   refine RV.op (OV.split (gyes rfl) (Step.gtr rfl rfl) rfl (fun cc2 => ?_) (fun cc2 => ?_))
   ·
    refine RV.s (Step.pick_f rfl rfl) rfl ?_
    refine RV.nil (KV.then_n (KV.e4 1 2 3 25 (CV.cond_t rfl (CV.seq (CV.region ?_)))))
    refine RV.a rfl rfl (RV.a rfl rfl ?_)
    refine RV.nil (KV.then_n (KV.e2 6 7 (CV.ret (KV.then_ret ?_))))
    refine KV.sel [] [] rfl ?_
    exact KV.ret2 rfl rfl rfl _ (fun _ h => h) ⟨⟨fun k => by have k1 := k.2.1; have k2 := k.2.2; omega, fun _ => rfl⟩, rfl⟩
   ·
    refine RV.s (Step.pick_f rfl rfl) rfl ?_
    refine RV.nil (KV.then_n (KV.e4 1 2 3 25 (CV.cond_f rfl (CV.skip (KV.then_n ?_)))))
    refine KV.e3 1 2 3 (CV.seq ?_)
    have hs : susE x base lim := ⟨hv, by omega, by omega⟩
    have hs1 := susE_one hs
    have hs2 := sus_mul hs
    refine CV.region ?_
    refine RV.s (Step.fieldAddr rfl (F41_1 _ _)) rfl (RV.s (Step.load Tryz.underlying2 rfl rfl (fun w h => h.cell 0 rfl rfl)) rfl (RV.m rfl rfl (RV.m rfl rfl ?_)))
    (first | refine RV.op (OV.step gno (Step.sub rfl rfl (wI64 (by omega) (by omega))) rfl ?_) | refine RV.op (OV.step gno (Step.sub rfl rfl rfl) rfl ?_))
    (first | refine RV.op (OV.step gno (Step.mul rfl rfl (wI64 (by omega) (by omega))) rfl ?_) | refine RV.op (OV.step gno (Step.mul rfl rfl rfl) rfl ?_))
    refine RV.a rfl rfl (RV.a rfl rfl ?_)
    refine RV.nil (KV.then_n (KV.e2 6 7 (CV.ret ?_)))
    refine KV.sel [] [] rfl ?_
    exact KV.ret2 rfl rfl rfl _ (fun _ h => h) ⟨⟨fun _ => rfl, fun k => absurd hs k⟩, rfl⟩
 ·
  skip
  obtain ⟨rfl, rfl⟩ := hp.2 hv
  simp only [List.append_nil]
  refine RV.m rfl rfl (RV.s (Step.extract0 rfl rfl) rfl (RV.s (Step.extract0 rfl rfl) rfl (RV.a rfl rfl (RV.a rfl rfl ?_))))
  refine RV.nil (KV.then_n (KV.e4 1 2 3 9 (CV.seq (CV.region ?_))))
  refine RV.m rfl rfl (RV.s (Step.neq rfl rfl) rfl ?_)
  refine RV.nil (KV.then_n (KV.e4 1 2 3 18 (CV.cond_t rfl (CV.seq (CV.region ?_)))))
  refine RV.a rfl rfl (RV.a rfl rfl ?_)
  refine RV.nil (KV.then_n (KV.e2 6 7 (CV.ret (KV.then_ret ?_))))
  refine KV.sel [] [] rfl ?_
  exact KV.ret2 rfl rfl rfl _ (fun _ h => h) ⟨⟨fun k => absurd k.1 hv, fun _ => rfl⟩, rfl⟩

set_option maxRecDepth 100000 in
set_option maxHeartbeats 1000000 in
theorem temperature_fn (b : Nat) {hA lA eA : Option Addr} {hc lc ec nl : Nat} {D : List HD} {En : List Int} {base rel : Int} {fz : Nat × Nat} {w : World} (hb : w.heap[b]? = some (.cells #[.slice hA D.length hc, .slice lA nl lc, .int .i64 base, .slice eA D.length ec, .int .i64 rel] 197 fz)) (hr : RS w hdK hA D) (hr2 : RS w (intK .i64) eA En) (hE : En.length = D.length) {i : Nat} (hi : i < D.length) (hcap : 1 ≤ (D.getD i hdK.d).cap) (he : -4611686018427387904 ≤ En.getD i (intK .i64).d ∧ En.getD i (intK .i64).d ≤ 4611686018427387904) : Fx Tryz.prog 52 [.pointer (some ⟨b, 0, none⟩), .int .i64 i] w [] no (fun v L => v = .int .i64 (tmp D En i) ∧ L = []) := by
 refine Sv.Fx.body Tryz.func52 rfl T52 rfl ?_
 intro I hro hI
 refine KV.e2 0 1 ?_
 have htd := tdiv_bd hcap he.1 he.2
 refine CV.seq (CV.region ?_)
 refine RV.a rfl rfl ?_
 refine RV.nil (KV.then_n (KV.e2 0 1 (CV.seq (CV.seq (CV.region ?_)))))
 refine RV.m rfl rfl ?_
 refine RV.op (OV.split gno (Step.lss rfl rfl) rfl (fun e1 => ?_) (fun e1 => ?_))
 ·
  exfalso; omega
 ·
  refine RV.m rfl rfl (RV.gw rfl (Step.move rfl) rfl (RV.gw rfl (Step.move rfl) rfl (RV.gw rfl (Step.nilCheck rfl) rfl (RV.gw rfl (Step.fieldAddr rfl (F197_0 _ _)) rfl (RV.gw rfl (Step.load Tryz.underlying104 rfl rfl (fun w h => (cell_of (h.ro hb (hI b)) 0).trans rfl)) rfl (RV.gw rfl (Step.lenSl Tryz.underlying104 rfl) rfl ?_))))))
  refine RV.op (OV.split (gyes rfl) (Step.geq rfl rfl) rfl (fun e2 => ?_) (fun e2 => ?_))
  ·
   exfalso; omega
  ·
   refine RV.s (Step.pick_f rfl rfl) rfl ?_
   refine RV.nil (KV.then_n (KV.e3 0 1 18 (CV.cond_f rfl (CV.skip (KV.then_n ?_)))))
   refine KV.e2 0 1 (CV.seq ?_)
   refine CV.still (by kernel_rfl) (by kernel_rfl) (fun _ h => h.drew) ?_
   refine SV.step gno (Step.move rfl) rfl ?_
   refine SV.step gno (Step.nilCheck rfl) rfl ?_
   refine SV.step gno (Step.fieldAddr rfl (F197_3 _ _)) rfl ?_
   refine SV.step gno (Step.load Tryz.underlying56 rfl rfl (fun w h => (cell_of (h.ro hb (hI b)) 3).trans rfl)) rfl ?_
   refine SV.step gno (Step.move rfl) rfl ?_
   refine SV.step gno (Step.idx Tryz.underlying56 I2 (fun w h => h.rs hr2 (fun _ => hI _)) rfl rfl (by first | rfl | omega) _ rfl (by omega)) rfl ?_
   refine SV.step gno (Step.load Tryz.underlying2 rfl rfl (fun w h => (h.rs hr2 (fun _ => hI _)).cell0 (by omega) rfl)) rfl ?_
   refine SV.step gno (Step.move rfl) rfl ?_
   refine SV.step gno (Step.nilCheck rfl) rfl ?_
   refine SV.step gno (Step.fieldAddr rfl (F197_0 _ _)) rfl ?_
   refine SV.step gno (Step.load Tryz.underlying104 rfl rfl (fun w h => (cell_of (h.ro hb (hI b)) 0).trans rfl)) rfl ?_
   refine SV.step gno (Step.move rfl) rfl ?_
   refine SV.step gno (Step.idx Tryz.underlying104 I41 (fun w h => h.rs hr (fun _ => hI _)) rfl rfl (by first | rfl | omega) _ rfl (by omega)) rfl ?_
   refine SV.step gno (Step.fieldAddr rfl (F41_0 _ _)) rfl ?_
   refine SV.step gno (Step.load Tryz.underlying2 rfl rfl (fun w h => (h.rs hr (fun _ => hI _)).cell0 (by omega) rfl)) rfl ?_
   refine SV.step gno (Step.assign rfl) rfl ?_
   refine SV.step gno (Step.assign rfl) rfl ?_
   refine SV.nil (KV.then_n (KV.e2 5 6 (CV.seq (CV.region ?_))))
   refine RV.m rfl rfl (RV.m rfl rfl ?_)
   refine RV.s (Step.quo rfl rfl (by omega) (wI64 (by omega) (by omega))) rfl ?_
   refine RV.a rfl rfl ?_
   refine RV.nil (KV.then_n (KV.e3 5 6 7 (CV.seq (CV.seq (CV.region ?_)))))
   refine RV.m rfl rfl (RV.m rfl rfl ?_)
   refine RV.s (Step.rem rfl rfl (by omega) (rfl)) rfl ?_
   refine RV.op (OV.split gno (Step.lss rfl rfl) rfl (fun hq => ?_) (fun hq => ?_))
   ·
    refine RV.nil (KV.then_n (KV.e2 7 40 (CV.cond_t rfl (CV.region ?_))))
    refine RV.m rfl rfl ?_
    (first | refine RV.op (OV.step gno (Step.sub rfl rfl (wI64 (by omega) (by omega))) rfl ?_) | refine RV.op (OV.step gno (Step.sub rfl rfl rfl) rfl ?_))
    refine RV.a rfl rfl ?_
    refine RV.nil (KV.then_n (KV.e1 7 (CV.seq (CV.region ?_))))
    refine RV.m rfl rfl (RV.a rfl rfl ?_)
    refine RV.nil (KV.then_n (KV.e1 4 (CV.ret ?_)))
    refine KV.sel [] [] rfl ?_
    first | exact KV.ret1 rfl rfl _ (fun _ h => h) ⟨by rw [tmp_f hcap hq], rfl⟩ | exact KV.ret1 rfl rfl _ (fun _ h => h) ⟨by rw [tmp_n hcap hq], rfl⟩
   ·
    refine RV.nil (KV.then_n (KV.e2 7 40 (CV.cond_f rfl (CV.skip (KV.then_n ?_)))))
    refine KV.e1 7 (CV.seq (CV.region ?_))
    refine RV.m rfl rfl (RV.a rfl rfl ?_)
    refine RV.nil (KV.then_n (KV.e1 4 (CV.ret ?_)))
    refine KV.sel [] [] rfl ?_
    first | exact KV.ret1 rfl rfl _ (fun _ h => h) ⟨by rw [tmp_f hcap hq], rfl⟩ | exact KV.ret1 rfl rfl _ (fun _ h => h) ⟨by rw [tmp_n hcap hq], rfl⟩

set_option maxRecDepth 100000 in
set_option maxHeartbeats 1000000 in
theorem temperatures_fn (b : Nat) {hA lA eA : Option Addr} {hc lc ec nl : Nat} {D : List HD} {En : List Int} {base rel : Int} {fz : Nat × Nat} {w : World} (hb : w.heap[b]? = some (.cells #[.slice hA D.length hc, .slice lA nl lc, .int .i64 base, .slice eA D.length ec, .int .i64 rel] 197 fz)) (hr : RS w hdK hA D) (hr2 : RS w (intK .i64) eA En) (hE : En.length = D.length) (hl : D.length ≤ 1000000) (hcap : ∀ i, i < D.length → 1 ≤ (D.getD i hdK.d).cap) (he : ∀ i, i < D.length → -4611686018427387904 ≤ En.getD i (intK .i64).d ∧ En.getD i (intK .i64).d ≤ 4611686018427387904) : Fx Tryz.prog 87 [.pointer (some ⟨b, 0, none⟩)] w [] no (fun v L => ∃ A2 c2, v = .slice A2 D.length c2 ∧ L = [OS 2 (intK .i64) A2 c2 (tmps D En)]) := by
 refine Sv.Fx.body Tryz.func87 rfl T87 rfl ?_
 intro I hro hI
 refine KV.e1 0 (CV.seq (CV.region ?_))
 refine RV.a rfl rfl ?_
 refine RV.nil (KV.then_n (KV.e1 0 (CV.seq (CV.region ?_))))
 refine RV.m rfl rfl (RV.s (Step.nilCheck rfl) rfl (RV.s (Step.fieldAddr rfl (F197_0 _ _)) rfl (RV.s (Step.load Tryz.underlying104 rfl rfl (fun w h => (cell_of (h.ro hb (hI b)) 0).trans rfl)) rfl (RV.s (Step.lenSl Tryz.underlying104 rfl) rfl ?_))))
 refine RV.op (OV.make (K := (intK .i64)) (D.length) (D.length) (0) Tryz.underlying56 I2 rfl rfl rfl rfl rfl (by omega) (by omega) (by omega) gno rfl (fun b1_5 => ?_))
 refine RV.a rfl rfl ?_
 refine RV.nil (KV.then_n (KV.e2 0 3 (CV.seq (CV.seq (CV.region ?_)))))
 refine RV.m rfl rfl (RV.s (Step.lenSl Tryz.underlying56 rfl) rfl (RV.m rfl rfl ?_))
 refine RV.nil (KV.then_n (KV.e4 0 3 12 13 (CV.block ?_)))
 refine KV.sel [0] [_] rfl ?_
 refine CV.loopI (fun (i : Nat) => i ≤ D.length) (fun (i : Nat) => D.length - i) (fun (i : Nat) => [(0, .pointer (some ⟨b, 0, none⟩)), (3, .slice b1_5 D.length D.length), (12, .int .i64 D.length), (13, .int .i64 i)]) (fun (i : Nat) => Hp I w [OS 2 (intK .i64) b1_5 D.length (tK D En i)]) (0) (Nat.zero_le _) ⟨rfl, rfl, rfl, rfl, trivial⟩ (fun _ h => by rw [tK_zero]; exact h) ?_
 intro i hinv
 refine CV.seq (CV.region ?_)
 refine RV.op (OV.split gno (Step.lss rfl rfl) rfl (fun cc1 => ?_) (fun cc1 => ?_))
 ·
  refine RV.nil (KV.then_n (KV.e5 0 3 12 13 14 (CV.seq (CV.cond_t rfl (CV.skip ?_)))))
  refine KV.then_n (KV.e4 0 3 12 13 (CV.seq (CV.block (CV.seq (CV.region ?_)))))
  refine RV.m rfl rfl (RV.a rfl rfl ?_)
  refine RV.nil (KV.then_n (KV.e5 0 3 4 12 13 (CV.region ?_)))
  refine RV.m rfl rfl (RV.m rfl rfl (RV.m rfl rfl (RV.m rfl rfl ?_)))
  refine RV.op (OV.call [] (F := [_]) Tryz.func52 B52 N52 rfl rfl (fun w h => temperature_fn b (h.ro hb (hI b)) (h.rs hr (fun _ => hI _)) (h.rs hr2 (fun _ => hI _)) hE (i := i) (by omega) (hcap i (by omega)) (he i (by omega))) (fun _ hb => hb.elim) gno rfl (fun v L' hp => ?_))
  obtain ⟨rfl, rfl⟩ := hp
  simp only [List.append_nil]
  refine RV.op (OV.step gno (Step.idx Tryz.underlying56 I2 (fun w h => h.os 0 rfl) rfl rfl (by first | rfl | (rw [tK_len])) _ rfl (by first | omega | (rw [tK_len]; omega))) rfl ?_)
  refine RV.op (OV.storeE 0 (i) ((tmp D En i)) (j := 0) [_] I2 rfl rfl rfl rfl rfl rfl (by rw [tK_len]; omega) rfl (Nat.le_of_ble_eq_true rfl) gno ?_)
  refine RV.nil (KV.block_n (KV.then_n (KV.e4 0 3 12 13 (CV.region ?_))))
  (first | refine RV.op (OV.step gno (Step.add rfl rfl (wI64 (by omega) (by omega))) rfl ?_) | refine RV.op (OV.step gno (Step.add rfl rfl rfl) rfl ?_))
  refine RV.m rfl rfl ?_
  refine RV.nil (KV.then_n (KV.e4 0 3 12 13 ?_))
  refine KV.sel [0] [_] rfl ?_
  exact KV.loopI (z := i) (i + 1) (by omega) (by omega) ⟨rfl, rfl, rfl, rfl, trivial⟩ (fun _ h => by rw [← tK_succ (by omega)]; exact h)
 ·
  refine RV.nil (KV.then_n (KV.e5 0 3 12 13 14 (CV.seq (CV.cond_f rfl (CV.exit ?_)))))
  refine KV.then_exit (KV.then_exit (KV.block_hit (KV.then_n (KV.e1 3 (CV.seq ?_)))))
  obtain rfl : i = D.length := by omega
  refine CV.region ?_
  refine RV.m rfl rfl (RV.a rfl rfl ?_)
  refine RV.nil (KV.then_n (KV.e1 2 (CV.ret ?_)))
  refine KV.sel [0] [_] rfl ?_
  rw [tK_end]
  exact KV.ret1 rfl rfl _ (fun _ h => h) ⟨_, _, rfl, rfl⟩

set_option maxRecDepth 100000 in
set_option maxHeartbeats 1000000 in
theorem validPower_fn {A : Option Addr} {n c : Nat} {p : List Int} {w : World} (hr : RS w (intK .i64) A p) (hn : n = p.length) (hl : p.length ≤ 1000000) (k : Int) : Fx Tryz.prog 86 [.slice A n c, .int .i64 k] w [] no (fun v L => v = .bool (vpB p k) ∧ L = []) := by
 subst hn
 refine Sv.Fx.body Tryz.func86 rfl T86 rfl ?_
 intro I hro hI
 refine KV.e2 0 1 (CV.seq (CV.region ?_))
 refine RV.a rfl rfl ?_
 refine RV.nil (KV.then_n (KV.e2 0 1 (CV.seq (CV.seq (CV.region ?_)))))
 refine RV.m rfl rfl (RV.s (Step.lenSl Tryz.underlying56 rfl) rfl (RV.m rfl rfl ?_))
 refine RV.op (OV.split gno (Step.neq rfl rfl) rfl (fun hq => ?_) (fun hq => ?_))
 ·
  refine RV.nil (KV.then_n (KV.e2 0 10 (CV.cond_t rfl (CV.seq (CV.region ?_)))))
  refine RV.a rfl rfl ?_
  refine RV.nil (KV.then_n (KV.e1 4 (CV.ret (KV.then_ret ?_))))
  refine KV.sel [] [] rfl ?_
  exact KV.ret1 rfl rfl _ (fun _ h => h) ⟨by rw [vpB_f (fun k => hq k.1)], rfl⟩
 ·
  refine RV.nil (KV.then_n (KV.e2 0 10 (CV.cond_f rfl (CV.skip (KV.then_n ?_)))))
  refine KV.e1 0 (CV.seq (CV.seq (CV.region ?_)))
  refine RV.m rfl rfl (RV.s (Step.lenSl Tryz.underlying56 rfl) rfl (RV.m rfl rfl ?_))
  refine RV.nil (KV.then_n (KV.e3 11 12 13 (CV.block ?_)))
  refine KV.sel [] [] rfl ?_
  refine CV.loopI (fun (i : Nat) => i ≤ p.length ∧ ∀ j, j < i → 0 ≤ p.getD j (intK .i64).d ∧ p.getD j (intK .i64).d ≤ 16777216) (fun (i : Nat) => p.length - i) (fun (i : Nat) => [(11, .slice A p.length c), (12, .int .i64 p.length), (13, .int .i64 i)]) (fun (i : Nat) => Hp I w []) (0) ⟨Nat.zero_le _, fun k hk => by omega⟩ ⟨rfl, rfl, rfl, trivial⟩ (fun _ h => h) ?_
  intro i hinv
  refine CV.seq (CV.region ?_)
  refine RV.op (OV.split gno (Step.lss rfl rfl) rfl (fun cc1 => ?_) (fun cc1 => ?_))
  ·
   refine RV.nil (KV.then_n (KV.e4 11 12 13 14 (CV.seq (CV.cond_t rfl (CV.skip ?_)))))
   refine KV.then_n (KV.e3 11 12 13 (CV.seq (CV.block (CV.seq (CV.region ?_)))))
   refine RV.s (Step.idx Tryz.underlying56 I2 (fun w h => h.rs hr (fun _ => hI _)) rfl rfl (rfl) _ rfl (by omega)) rfl ?_
   (first | refine RV.op (OV.step gno (Step.load Tryz.underlying2 rfl rfl (fun w h => (h.rs hr (fun _ => hI _)).cell (by omega) rfl)) rfl ?_) | refine RV.op (OV.step gno (Step.load Tryz.underlying2 rfl rfl (fun w h => (h.rs hr (fun _ => hI _)).cell0 (by omega) rfl)) rfl ?_))
   refine RV.a rfl rfl ?_
   refine RV.nil (KV.then_n (KV.e4 6 11 12 13 (CV.seq (CV.region ?_))))
   refine RV.m rfl rfl ?_
   refine RV.op (OV.split gno (Step.lss rfl rfl) rfl (fun cc2 => ?_) (fun cc2 => ?_))
   ·
    refine RV.m rfl rfl (RV.k rfl rfl (RV.k rfl rfl (RV.s (Step.pick_t rfl rfl) rfl ?_)))
    refine RV.nil (KV.then_n (KV.e4 11 12 13 22 (CV.cond_t rfl (CV.seq (CV.region ?_)))))
    refine RV.a rfl rfl ?_
    refine RV.nil (KV.then_n (KV.e1 4 (CV.ret (KV.block_ret (KV.then_ret ?_)))))
    refine KV.then_ret (KV.block_ret (KV.then_ret ?_))
    refine KV.sel [] [] rfl ?_
    exact KV.ret1 rfl rfl _ (fun _ h => h) ⟨by rw [vpB_f (fun k => by have := k.2 i (by omega); omega)], rfl⟩
   ·
    refine RV.m rfl rfl (RV.gw rfl (Step.move rfl) rfl ?_)
    refine RV.op (OV.split (gyes rfl) (Step.gtr rfl rfl) rfl (fun cc3 => ?_) (fun cc3 => ?_))
    ·
     refine RV.s (Step.pick_f rfl rfl) rfl ?_
     refine RV.nil (KV.then_n (KV.e4 11 12 13 22 (CV.cond_t rfl (CV.seq (CV.region ?_)))))
     refine RV.a rfl rfl ?_
     refine RV.nil (KV.then_n (KV.e1 4 (CV.ret (KV.block_ret (KV.then_ret ?_)))))
     refine KV.then_ret (KV.block_ret (KV.then_ret ?_))
     refine KV.sel [] [] rfl ?_
     exact KV.ret1 rfl rfl _ (fun _ h => h) ⟨by rw [vpB_f (fun k => by have := k.2 i (by omega); omega)], rfl⟩
    ·
     refine RV.s (Step.pick_f rfl rfl) rfl ?_
     refine RV.nil (KV.then_n (KV.e4 11 12 13 22 (CV.cond_f rfl (CV.skip (KV.block_n ?_)))))
     refine KV.then_n (KV.e3 11 12 13 (CV.region ?_))
     (first | refine RV.op (OV.step gno (Step.add rfl rfl (wI64 (by omega) (by omega))) rfl ?_) | refine RV.op (OV.step gno (Step.add rfl rfl rfl) rfl ?_))
     refine RV.m rfl rfl ?_
     refine RV.nil (KV.then_n (KV.e3 11 12 13 ?_))
     refine KV.sel [] [] rfl ?_
     exact KV.loopI (z := i) (i + 1) ⟨by omega, fun j hj => by by_cases e : j = i; (subst e; omega); exact hinv.2 j (by omega)⟩ (by omega) ⟨rfl, rfl, rfl, trivial⟩ (fun _ h => h)
  ·
   refine RV.nil (KV.then_n (KV.e4 11 12 13 14 (CV.seq (CV.cond_f rfl (CV.exit ?_)))))
   refine KV.then_exit (KV.then_exit (KV.block_hit (KV.then_n (KV.env [] trivial (CV.seq ?_)))))
   refine CV.region ?_
   refine RV.a rfl rfl ?_
   refine RV.nil (KV.then_n (KV.e1 4 (CV.ret ?_)))
   refine KV.sel [] [] rfl ?_
   exact KV.ret1 rfl rfl _ (fun _ h => h) ⟨by rw [vpB_t ⟨by omega, fun j hj => hinv.2 j (by omega)⟩], rfl⟩

set_option maxRecDepth 100000 in
set_option maxHeartbeats 1000000 in
theorem step_fn (a0 : MA) (D : List HD) (M : List HL) (base : Int) (En : List Int) (rel : Int) {pA : Option Addr} {pc np : Nat} {p : List Int} {hi : Int} {w : World} (hs : StepOk D M base En p hi) (hnp : np = p.length) (hl : D.length ≤ 1000000) (hl2 : M.length ≤ 1000000) : Fx Tryz.prog 49 [.pointer (some ⟨a0.b, 0, none⟩), .slice pA np pc] w (mobj a0 D M base En rel ++ [OS 2 (intK .i64) pA pc p]) no (fun v L => ∃ A2 c2 rel2, v = .tuple #[.slice A2 D.length c2, .int .i64 0] ∧ L = mobj a0 D M base (stepE D M base En p) rel2 ++ [OS 2 (intK .i64) pA pc p, OS 2 (intK .i64) A2 c2 (tmps D (stepE D M base En p))]) := by
 subst hnp
 refine Sv.Fx.body Tryz.func49 rfl T49 rfl ?_
 intro I hro hI
 refine KV.e2 0 1 (CV.seq (CV.region ?_))
 refine RV.a rfl rfl (RV.a rfl rfl ?_)
 refine RV.nil (KV.then_n (KV.e2 0 1 (CV.seq (CV.seq (CV.region ?_)))))
 refine RV.m rfl rfl (RV.m rfl rfl (RV.s (Step.nilCheck rfl) rfl (RV.s (Step.fieldAddr rfl (F197_0 _ _)) rfl ?_)))
 (first | refine RV.op (OV.step gno (Step.load Tryz.underlying104 rfl rfl (fun w h => h.cell 0 rfl rfl)) rfl ?_) | refine RV.op (OV.step gno (Step.load Tryz.underlying104 rfl rfl (fun w h => (h.os 1 rfl).cell (by first | omega | (rw [tmps_len]; omega) | (have := hs.pl; omega) | (rw [e1_len hs.e]; omega) | (rw [e2_len hs.e]; omega) | (simp only [List.length_set, e2_len hs.e]; omega)) rfl)) rfl ?_) | refine RV.op (OV.step gno (Step.load Tryz.underlying104 rfl rfl (fun w h => (h.os 1 rfl).cell0 (by first | omega | (rw [tmps_len]; omega) | (have := hs.pl; omega) | (rw [e1_len hs.e]; omega) | (rw [e2_len hs.e]; omega) | (simp only [List.length_set, e2_len hs.e]; omega)) rfl)) rfl ?_))
 refine RV.s (Step.lenSl Tryz.underlying104 rfl) rfl ?_
 refine RV.op (OV.call [] (F := [_, _, _, _, _]) Tryz.func86 B86 N86 rfl rfl (fun w h => validPower_fn (h.os 4 rfl) rfl (by have := hs.pl; omega) D.length) (fun _ hb => hb.elim) gno rfl (fun v L' hp => ?_))
 obtain ⟨rfl, rfl⟩ := hp
 simp only [List.append_nil]
 rw [vpB_t ⟨by have := hs.pl; omega, fun i hi => hs.pp (by have := hs.pl; omega)⟩]
 refine RV.s (Step.not rfl) rfl ?_
 refine RV.nil (KV.then_n (KV.e3 0 1 20 (CV.cond_f rfl (CV.skip (KV.then_n ?_)))))
 refine KV.e2 0 1 (CV.seq (CV.region ?_))
 refine RV.m rfl rfl ?_
 refine RV.op (OV.call [] (F := [_, _, _, _, _]) Tryz.func87 B87 N87 rfl rfl (fun w h => temperatures_fn a0.b (h.blk 0 rfl) (h.os 1 rfl) (h.os 3 rfl) hs.e hl (fun i hi => (vld_capP hs.v hi).1) (fun i hi => by have := hs.en hi; omega)) (fun _ hb => hb.elim) gno rfl (fun v L' hp => ?_))
 obtain ⟨At, ct, rfl, rfl⟩ := hp
 refine RV.a rfl rfl ?_
 refine RV.nil (KV.then_n (KV.e3 0 1 6 (CV.seq (CV.seq (CV.region ?_)))))
 refine RV.m rfl rfl (RV.s (Step.nilCheck rfl) rfl (RV.s (Step.fieldAddr rfl (F197_0 _ _)) rfl ?_))
 (first | refine RV.op (OV.step gno (Step.load Tryz.underlying104 rfl rfl (fun w h => h.cell 0 rfl rfl)) rfl ?_) | refine RV.op (OV.step gno (Step.load Tryz.underlying104 rfl rfl (fun w h => (h.os 1 rfl).cell (by first | omega | (rw [tmps_len]; omega) | (have := hs.pl; omega) | (rw [e1_len hs.e]; omega) | (rw [e2_len hs.e]; omega) | (simp only [List.length_set, e2_len hs.e]; omega)) rfl)) rfl ?_) | refine RV.op (OV.step gno (Step.load Tryz.underlying104 rfl rfl (fun w h => (h.os 1 rfl).cell0 (by first | omega | (rw [tmps_len]; omega) | (have := hs.pl; omega) | (rw [e1_len hs.e]; omega) | (rw [e2_len hs.e]; omega) | (simp only [List.length_set, e2_len hs.e]; omega)) rfl)) rfl ?_))
 refine RV.s (Step.lenSl Tryz.underlying104 rfl) rfl (RV.m rfl rfl ?_)
 refine RV.nil (KV.then_n (KV.e6 0 1 6 26 27 28 (CV.block ?_)))
 refine KV.sel [0, 0, 0, 0, 0, 0] [_, _, _, _, _, _] rfl ?_
 refine CV.loop2 (fun (i : Nat) (rel2 : Int) => i ≤ D.length) (fun (i : Nat) (rel2 : Int) => D.length - i) (fun (i : Nat) (rel2 : Int) => [(0, .pointer (some ⟨a0.b, 0, none⟩)), (1, .slice pA p.length pc), (6, .slice At D.length ct), (26, .slice a0.hA D.length a0.hc), (27, .int .i64 D.length), (28, .int .i64 i)]) (fun (i : Nat) (rel2 : Int) => Hp I w (mobj a0 D M base (E1k D (tmps D En) base En p i) rel2 ++ [OS 2 (intK .i64) pA pc p, OS 2 (intK .i64) At ct (tmps D En)])) (0) (rel) (Nat.zero_le _) ⟨rfl, rfl, rfl, rfl, rfl, rfl, trivial⟩ (fun _ h => by rw [E1k_zero]; exact h) ?_
 intro i rel2 hinv
 refine CV.seq (CV.region ?_)
 refine RV.op (OV.split gno (Step.lss rfl rfl) rfl (fun cc1 => ?_) (fun cc1 => ?_))
 ·
  refine RV.nil (KV.then_n (KV.e7 0 1 6 26 27 28 29 (CV.seq (CV.cond_t rfl (CV.skip ?_)))))
  refine KV.then_n (KV.e6 0 1 6 26 27 28 (CV.seq (CV.block (CV.seq (CV.region ?_)))))
  refine RV.m rfl rfl ?_
  refine RV.op (OV.step gno (Step.idx Tryz.underlying104 I41 (fun w h => h.os 1 rfl) rfl rfl (by first | rfl | (rw [tmps_len]) | (rw [e1_len hs.e]) | (rw [e2_len hs.e]) | (simp only [List.length_set, e2_len hs.e])) _ rfl (by first | omega | (rw [tmps_len]; omega) | (have := hs.pl; omega) | (rw [e1_len hs.e]; omega) | (rw [e2_len hs.e]; omega) | (simp only [List.length_set, e2_len hs.e]; omega))) rfl ?_)
  (first | refine RV.op (OV.step gno (Step.loadN _ Tryz.underlying41 rfl I41 rfl rfl (fun w h => h.cells 0 rfl)) rfl ?_) | refine RV.op (OV.step gno (Step.loadN _ Tryz.underlying41 rfl I41 rfl rfl (fun w h => (h.os 1 rfl).cells (by first | omega | (rw [tmps_len]; omega) | (have := hs.pl; omega) | (rw [e1_len hs.e]; omega) | (rw [e2_len hs.e]; omega) | (simp only [List.length_set, e2_len hs.e]; omega)))) rfl ?_))
  refine RV.op (OV.alloc #[.int .i64 0, .int .i64 0] I41 rfl gno rfl (fun b6_3 => ?_))
  refine RV.a rfl rfl ?_
  refine RV.op (OV.store 6 [_, _] #[_, _] I41 rfl rfl rfl rfl rfl (Nat.le_of_ble_eq_true rfl) (by simp [Value.oneCell']) rfl gno ?_)
  refine RV.nil (KV.then_n (KV.e8 0 1 6 7 8 26 27 28 (CV.seq ?_)))
  have htb := hs.tb (i := i) (by omega)
  have hout := hs.out (i := i) (by omega)
  have hen := hs.en (i := i) (by omega)
  have hpp := hs.pp (i := i) (by omega)
  have he1 := E1_at (D := D) (T := tmps D En) (base := base) (p := p) (show i < En.length by have := hs.e; omega)
  refine CV.still (by kernel_rfl) (by kernel_rfl) (fun _ h => h.drew) ?_
  refine SV.step gno (Step.fieldAddr rfl (F41_1 _ _)) rfl ?_
  (first | refine SV.step gno (Step.load Tryz.underlying2 rfl rfl (fun w h => h.cell 0 rfl rfl)) rfl ?_ | refine SV.step gno (Step.load Tryz.underlying2 rfl rfl (fun w h => h.cell 6 rfl rfl)) rfl ?_ | refine SV.step gno (Step.load Tryz.underlying2 rfl rfl (fun w h => (h.os 1 rfl).cell (by first | omega | (rw [tmps_len]; omega) | (have := hs.pl; omega) | (rw [e1_len hs.e]; omega) | (rw [e2_len hs.e]; omega) | (simp only [List.length_set, e2_len hs.e]; omega)) rfl)) rfl ?_ | refine SV.step gno (Step.load Tryz.underlying2 rfl rfl (fun w h => (h.os 1 rfl).cell0 (by first | omega | (rw [tmps_len]; omega) | (have := hs.pl; omega) | (rw [e1_len hs.e]; omega) | (rw [e2_len hs.e]; omega) | (simp only [List.length_set, e2_len hs.e]; omega)) rfl)) rfl ?_)
  refine SV.step gno (Step.move rfl) rfl ?_
  refine SV.step gno (Step.move rfl) rfl ?_
  refine SV.step gno (Step.idx Tryz.underlying56 I2 (fun w h => h.os 5 rfl) rfl rfl (by first | rfl | (rw [tmps_len]) | (rw [e1_len hs.e]) | (rw [e2_len hs.e]) | (simp only [List.length_set, e2_len hs.e])) _ rfl (by first | omega | (rw [tmps_len]; omega) | (have := hs.pl; omega) | (rw [e1_len hs.e]; omega) | (rw [e2_len hs.e]; omega) | (simp only [List.length_set, e2_len hs.e]; omega))) rfl ?_
  refine SV.step gno (Step.load Tryz.underlying2 rfl rfl (fun w h => (h.os 5 rfl).cell0 (by rw [tmps_len]; omega) rfl)) rfl ?_
  refine SV.step gno (Step.move rfl) rfl ?_
  refine SV.step gno (Step.nilCheck rfl) rfl ?_
  refine SV.step gno (Step.fieldAddr rfl (F197_2 _ _)) rfl ?_
  (first | refine SV.step gno (Step.load Tryz.underlying2 rfl rfl (fun w h => h.cell 0 rfl rfl)) rfl ?_ | refine SV.step gno (Step.load Tryz.underlying2 rfl rfl (fun w h => h.cell 6 rfl rfl)) rfl ?_ | refine SV.step gno (Step.load Tryz.underlying2 rfl rfl (fun w h => (h.os 1 rfl).cell (by first | omega | (rw [tmps_len]; omega) | (have := hs.pl; omega) | (rw [e1_len hs.e]; omega) | (rw [e2_len hs.e]; omega) | (simp only [List.length_set, e2_len hs.e]; omega)) rfl)) rfl ?_ | refine SV.step gno (Step.load Tryz.underlying2 rfl rfl (fun w h => (h.os 1 rfl).cell0 (by first | omega | (rw [tmps_len]; omega) | (have := hs.pl; omega) | (rw [e1_len hs.e]; omega) | (rw [e2_len hs.e]; omega) | (simp only [List.length_set, e2_len hs.e]; omega)) rfl)) rfl ?_)
  (first | refine SV.step gno (Step.sub rfl rfl (wI64 (by omega) (by omega))) rfl ?_ | refine SV.step gno (Step.sub rfl rfl rfl) rfl ?_)
  (first | refine SV.step gno (Step.mul rfl rfl (wI64 (by omega) (by omega))) rfl ?_ | refine SV.step gno (Step.mul rfl rfl rfl) rfl ?_)
  refine SV.step gno (Step.assign rfl) rfl ?_
  refine SV.nil (KV.then_n (KV.e8 0 1 6 7 9 26 27 28 (CV.seq ?_)))
  refine CV.stillTail 14 (by kernel_rfl) (by kernel_rfl) (fun _ h => h.drew) ?_
  refine SV.step gno (Step.move rfl) rfl ?_
  refine SV.step gno (Step.nilCheck rfl) rfl ?_
  refine SV.step gno (Step.fieldAddr rfl (F197_3 _ _)) rfl ?_
  (first | refine SV.step gno (Step.load Tryz.underlying56 rfl rfl (fun w h => h.cell 0 rfl rfl)) rfl ?_ | refine SV.step gno (Step.load Tryz.underlying56 rfl rfl (fun w h => h.cell 6 rfl rfl)) rfl ?_ | refine SV.step gno (Step.load Tryz.underlying56 rfl rfl (fun w h => (h.os 1 rfl).cell (by first | omega | (rw [tmps_len]; omega) | (have := hs.pl; omega) | (rw [e1_len hs.e]; omega) | (rw [e2_len hs.e]; omega) | (simp only [List.length_set, e2_len hs.e]; omega)) rfl)) rfl ?_ | refine SV.step gno (Step.load Tryz.underlying56 rfl rfl (fun w h => (h.os 1 rfl).cell0 (by first | omega | (rw [tmps_len]; omega) | (have := hs.pl; omega) | (rw [e1_len hs.e]; omega) | (rw [e2_len hs.e]; omega) | (simp only [List.length_set, e2_len hs.e]; omega)) rfl)) rfl ?_)
  refine SV.step gno (Step.move rfl) rfl ?_
  refine SV.step gno (Step.idx Tryz.underlying56 I2 (fun w h => h.os 3 rfl) rfl rfl (by first | rfl | (rw [tmps_len]) | (rw [e1_len hs.e]) | (rw [e2_len hs.e]) | (simp only [List.length_set, e2_len hs.e])) _ rfl (by first | omega | (rw [tmps_len]; omega) | (have := hs.pl; omega) | (rw [e1_len hs.e]; omega) | (rw [e2_len hs.e]; omega) | (simp only [List.length_set, e2_len hs.e]; omega))) rfl ?_
  refine SV.step gno (Step.load Tryz.underlying2 rfl rfl (fun w h => (h.os 3 rfl).cell0 (by rw [e1_len hs.e]; omega) rfl)) rfl ?_
  refine SV.step gno (Step.move rfl) rfl ?_
  refine SV.step gno (Step.move rfl) rfl ?_
  refine SV.step gno (Step.idx Tryz.underlying56 I2 (fun w h => h.os 4 rfl) rfl rfl (by first | rfl | (rw [tmps_len]) | (rw [e1_len hs.e]) | (rw [e2_len hs.e]) | (simp only [List.length_set, e2_len hs.e])) _ rfl (by first | omega | (rw [tmps_len]; omega) | (have := hs.pl; omega) | (rw [e1_len hs.e]; omega) | (rw [e2_len hs.e]; omega) | (simp only [List.length_set, e2_len hs.e]; omega))) rfl ?_
  refine SV.step gno (Step.load Tryz.underlying2 rfl rfl (fun w h => (h.os 4 rfl).cell0 (by have := hs.pl; omega) rfl)) rfl ?_
  refine SV.step gno (Step.move rfl) rfl ?_
  (first | refine SV.step gno (Step.sub rfl rfl (wI64 (by omega) (by omega))) rfl ?_ | refine SV.step gno (Step.sub rfl rfl rfl) rfl ?_)
  (first | refine SV.step gno (Step.add rfl rfl (wI64 (by omega) (by omega))) rfl ?_ | refine SV.step gno (Step.add rfl rfl rfl) rfl ?_)
  refine SV.nil ?_
  show KV _ (wpList _ _ _ _) _ _
  refine RV.op (OV.step gno (Step.idx Tryz.underlying56 I2 (fun w h => h.os 3 rfl) rfl rfl (by first | rfl | (rw [tmps_len]) | (rw [e1_len hs.e]) | (rw [e2_len hs.e]) | (simp only [List.length_set, e2_len hs.e])) _ rfl (by first | omega | (rw [tmps_len]; omega) | (have := hs.pl; omega) | (rw [e1_len hs.e]; omega) | (rw [e2_len hs.e]; omega) | (simp only [List.length_set, e2_len hs.e]; omega))) rfl ?_)
  refine RV.op (OV.storeE 3 (i) (((E1k D (tmps D En) base En p i).getD i (intK .i64).d + (p.getD i (intK .i64).d - (D.getD i hdK.d).amb * ((tmps D En).getD i (intK .i64).d - base)))) (j := 0) [_] I2 rfl rfl rfl rfl rfl rfl (by rw [e1_len hs.e]; omega) rfl (Nat.le_of_ble_eq_true rfl) gno ?_)
  refine RV.nil (KV.then_n (KV.e7 0 1 6 9 26 27 28 (CV.region ?_)))
  refine RV.m rfl rfl (RV.s (Step.nilCheck rfl) rfl (RV.s (Step.fieldAddr rfl (F197_4 _ _)) rfl ?_))
  (first | refine RV.op (OV.step gno (Step.load Tryz.underlying2 rfl rfl (fun w h => h.cell 0 rfl rfl)) rfl ?_) | refine RV.op (OV.step gno (Step.load Tryz.underlying2 rfl rfl (fun w h => h.cell 6 rfl rfl)) rfl ?_) | refine RV.op (OV.step gno (Step.load Tryz.underlying2 rfl rfl (fun w h => (h.os 1 rfl).cell (by first | omega | (rw [tmps_len]; omega) | (have := hs.pl; omega) | (rw [e1_len hs.e]; omega) | (rw [e2_len hs.e]; omega) | (simp only [List.length_set, e2_len hs.e]; omega)) rfl)) rfl ?_) | refine RV.op (OV.step gno (Step.load Tryz.underlying2 rfl rfl (fun w h => (h.os 1 rfl).cell0 (by first | omega | (rw [tmps_len]; omega) | (have := hs.pl; omega) | (rw [e1_len hs.e]; omega) | (rw [e2_len hs.e]; omega) | (simp only [List.length_set, e2_len hs.e]; omega)) rfl)) rfl ?_))
  refine RV.m rfl rfl (RV.s (Step.add rfl rfl (rfl)) rfl (RV.s (Step.nilCheck rfl) rfl (RV.s (Step.fieldAddr rfl (F197_4 _ _)) rfl ?_)))
  refine RV.op (OV.store 0 [_] #[_, _, _, _, _] I2 rfl rfl rfl rfl rfl (Nat.le_of_ble_eq_true rfl) (by simp [Value.oneCell']) rfl gno ?_)
  refine RV.nil (KV.block_n (KV.then_n (KV.e6 0 1 6 26 27 28 (CV.region ?_))))
  (first | refine RV.op (OV.step gno (Step.add rfl rfl (wI64 (by omega) (by omega))) rfl ?_) | refine RV.op (OV.step gno (Step.add rfl rfl rfl) rfl ?_))
  refine RV.m rfl rfl ?_
  refine RV.nil (KV.then_n (KV.e6 0 1 6 26 27 28 ?_))
  refine KV.sel [0, 0, 0, 0, 0, 0] [_, _, _, _, _, _] rfl ?_
  exact KV.loop2 (x := i) (y := rel2) (i + 1) (_) (by omega) (by omega) ⟨rfl, rfl, rfl, rfl, rfl, rfl, trivial⟩ (fun _ h => by rw [← E1_set (by have := hs.e; omega)]; exact h)
 ·
  refine RV.nil (KV.then_n (KV.e7 0 1 6 26 27 28 29 (CV.seq (CV.cond_f rfl (CV.exit ?_)))))
  refine KV.then_exit (KV.then_exit (KV.block_hit (KV.then_n (KV.e2 0 6 (CV.seq ?_)))))
  refine CV.seq ?_
  obtain rfl : i = D.length := by omega
  refine CV.region ?_
  refine RV.m rfl rfl (RV.s (Step.nilCheck rfl) rfl (RV.s (Step.fieldAddr rfl (F197_1 _ _)) rfl ?_))
  (first | refine RV.op (OV.step gno (Step.load Tryz.underlying23 rfl rfl (fun w h => h.cell 0 rfl rfl)) rfl ?_) | refine RV.op (OV.step gno (Step.load Tryz.underlying23 rfl rfl (fun w h => (h.os 1 rfl).cell (by first | omega | (rw [tmps_len]; omega) | (have := hs.pl; omega) | (rw [e1_len hs.e]; omega) | (rw [e2_len hs.e]; omega) | (simp only [List.length_set, e2_len hs.e]; omega)) rfl)) rfl ?_) | refine RV.op (OV.step gno (Step.load Tryz.underlying23 rfl rfl (fun w h => (h.os 1 rfl).cell0 (by first | omega | (rw [tmps_len]; omega) | (have := hs.pl; omega) | (rw [e1_len hs.e]; omega) | (rw [e2_len hs.e]; omega) | (simp only [List.length_set, e2_len hs.e]; omega)) rfl)) rfl ?_))
  refine RV.s (Step.lenSl Tryz.underlying23 rfl) rfl (RV.m rfl rfl ?_)
  refine RV.nil (KV.then_n (KV.e5 0 6 72 73 74 (CV.block ?_)))
  refine KV.sel [0, 0, 0, 0, 0, 0] [_, _, _, _, _, _] rfl ?_
  refine CV.loopI (fun (j : Nat) => j ≤ M.length) (fun (j : Nat) => M.length - j) (fun (j : Nat) => [(0, .pointer (some ⟨a0.b, 0, none⟩)), (6, .slice At D.length ct), (72, .slice a0.lA M.length a0.lc), (73, .int .i64 M.length), (74, .int .i64 j)]) (fun (j : Nat) => Hp I w (mobj a0 D M base (E2j (tmps D En) M (step1 D (tmps D En) base En p) j) rel2 ++ [OS 2 (intK .i64) pA pc p, OS 2 (intK .i64) At ct (tmps D En)])) (0) (Nat.zero_le _) ⟨rfl, rfl, rfl, rfl, rfl, trivial⟩ (fun _ h => by have e := E1k_end D (tmps D En) base En p; rw [hs.e] at e; rw [e] at h; exact h) ?_
  intro j hinv2
  refine CV.seq (CV.region ?_)
  refine RV.op (OV.split gno (Step.lss rfl rfl) rfl (fun cc2 => ?_) (fun cc2 => ?_))
  ·
   refine RV.nil (KV.then_n (KV.e6 0 6 72 73 74 75 (CV.seq (CV.cond_t rfl (CV.skip ?_)))))
   refine KV.then_n (KV.e5 0 6 72 73 74 (CV.seq (CV.block (CV.seq (CV.region ?_)))))
   refine RV.op (OV.step gno (Step.idx Tryz.underlying23 I195 (fun w h => h.os 2 rfl) rfl rfl (by first | rfl | (rw [tmps_len]) | (rw [e1_len hs.e]) | (rw [e2_len hs.e]) | (simp only [List.length_set, e2_len hs.e])) _ rfl (by first | omega | (rw [tmps_len]; omega) | (have := hs.pl; omega) | (rw [e1_len hs.e]; omega) | (rw [e2_len hs.e]; omega) | (simp only [List.length_set, e2_len hs.e]; omega))) rfl ?_)
   refine RV.s (Step.loadN _ Tryz.underlying195 rfl I195 rfl rfl (fun w h => (h.os 2 rfl).cells (by omega))) rfl ?_
   refine RV.op (OV.alloc #[.int .i64 0, .int .i64 0, .int .i64 0] I195 rfl gno rfl (fun b13_2 => ?_))
   refine RV.op (OV.store 6 [_, _, _] #[_, _, _] I195 rfl rfl rfl rfl rfl (Nat.le_of_ble_eq_true rfl) (by simp [Value.oneCell']) rfl gno ?_)
   refine RV.nil (KV.then_n (KV.e6 0 6 11 72 73 74 (CV.seq ?_)))
   have hes := vld_ends hs.v (i := j) (by omega)
   obtain ⟨a, ha⟩ := Int.eq_ofNat_of_zero_le hes.1
   obtain ⟨b, hb⟩ := Int.eq_ofNat_of_zero_le hes.2.2.1
   have hne : a ≠ b := by omega
   have ha2 : a < D.length := by omega
   have hb2 : b < D.length := by omega
   have hfl := hs.flow ha2 hb2 (j := j) (by omega)
   have hea := hs.e2 j ha2
   have heb := hs.e2 j hb2
   refine CV.still (by kernel_rfl) (by kernel_rfl) (fun _ h => h.drew) ?_
   refine SV.step gno (Step.fieldAddr rfl (F195_2 _ _)) rfl ?_
   (first | refine SV.step gno (Step.load Tryz.underlying2 rfl rfl (fun w h => h.cell 0 rfl rfl)) rfl ?_ | refine SV.step gno (Step.load Tryz.underlying2 rfl rfl (fun w h => h.cell 6 rfl rfl)) rfl ?_ | refine SV.step gno (Step.load Tryz.underlying2 rfl rfl (fun w h => (h.os 1 rfl).cell (by first | omega | (rw [tmps_len]; omega) | (have := hs.pl; omega) | (rw [e1_len hs.e]; omega) | (rw [e2_len hs.e]; omega) | (simp only [List.length_set, e2_len hs.e]; omega)) rfl)) rfl ?_ | refine SV.step gno (Step.load Tryz.underlying2 rfl rfl (fun w h => (h.os 1 rfl).cell0 (by first | omega | (rw [tmps_len]; omega) | (have := hs.pl; omega) | (rw [e1_len hs.e]; omega) | (rw [e2_len hs.e]; omega) | (simp only [List.length_set, e2_len hs.e]; omega)) rfl)) rfl ?_)
   refine SV.step gno (Step.move rfl) rfl ?_
   refine SV.step gno (Step.fieldAddr rfl (F195_0 _ _)) rfl ?_
   (first | refine SV.step gno (Step.load Tryz.underlying3 rfl rfl (fun w h => h.cell 0 rfl rfl)) rfl ?_ | refine SV.step gno (Step.load Tryz.underlying3 rfl rfl (fun w h => h.cell 6 rfl rfl)) rfl ?_ | refine SV.step gno (Step.load Tryz.underlying3 rfl rfl (fun w h => (h.os 1 rfl).cell (by first | omega | (rw [tmps_len]; omega) | (have := hs.pl; omega) | (rw [e1_len hs.e]; omega) | (rw [e2_len hs.e]; omega) | (simp only [List.length_set, e2_len hs.e]; omega)) rfl)) rfl ?_ | refine SV.step gno (Step.load Tryz.underlying3 rfl rfl (fun w h => (h.os 1 rfl).cell0 (by first | omega | (rw [tmps_len]; omega) | (have := hs.pl; omega) | (rw [e1_len hs.e]; omega) | (rw [e2_len hs.e]; omega) | (simp only [List.length_set, e2_len hs.e]; omega)) rfl)) rfl ?_)
   refine SV.step gno (Step.idx Tryz.underlying56 I2 (fun w h => h.os 5 rfl) rfl rfl (by first | rfl | (rw [tmps_len]) | (rw [e1_len hs.e]) | (rw [e2_len hs.e]) | (simp only [List.length_set, e2_len hs.e])) _ ha (by first | omega | (rw [tmps_len]; omega) | (have := hs.pl; omega) | (rw [e1_len hs.e]; omega) | (rw [e2_len hs.e]; omega) | (simp only [List.length_set, e2_len hs.e]; omega))) rfl ?_
   refine SV.step gno (Step.load Tryz.underlying2 rfl rfl (fun w h => (h.os 5 rfl).cell0 (by rw [tmps_len]; omega) rfl)) rfl ?_
   refine SV.step gno (Step.move rfl) rfl ?_
   refine SV.step gno (Step.fieldAddr rfl (F195_1 _ _)) rfl ?_
   (first | refine SV.step gno (Step.load Tryz.underlying3 rfl rfl (fun w h => h.cell 0 rfl rfl)) rfl ?_ | refine SV.step gno (Step.load Tryz.underlying3 rfl rfl (fun w h => h.cell 6 rfl rfl)) rfl ?_ | refine SV.step gno (Step.load Tryz.underlying3 rfl rfl (fun w h => (h.os 1 rfl).cell (by first | omega | (rw [tmps_len]; omega) | (have := hs.pl; omega) | (rw [e1_len hs.e]; omega) | (rw [e2_len hs.e]; omega) | (simp only [List.length_set, e2_len hs.e]; omega)) rfl)) rfl ?_ | refine SV.step gno (Step.load Tryz.underlying3 rfl rfl (fun w h => (h.os 1 rfl).cell0 (by first | omega | (rw [tmps_len]; omega) | (have := hs.pl; omega) | (rw [e1_len hs.e]; omega) | (rw [e2_len hs.e]; omega) | (simp only [List.length_set, e2_len hs.e]; omega)) rfl)) rfl ?_)
   refine SV.step gno (Step.idx Tryz.underlying56 I2 (fun w h => h.os 5 rfl) rfl rfl (by first | rfl | (rw [tmps_len]) | (rw [e1_len hs.e]) | (rw [e2_len hs.e]) | (simp only [List.length_set, e2_len hs.e])) _ hb (by first | omega | (rw [tmps_len]; omega) | (have := hs.pl; omega) | (rw [e1_len hs.e]; omega) | (rw [e2_len hs.e]; omega) | (simp only [List.length_set, e2_len hs.e]; omega))) rfl ?_
   refine SV.step gno (Step.load Tryz.underlying2 rfl rfl (fun w h => (h.os 5 rfl).cell0 (by rw [tmps_len]; omega) rfl)) rfl ?_
   (first | refine SV.step gno (Step.sub rfl rfl (wI64 (by omega) (by omega))) rfl ?_ | refine SV.step gno (Step.sub rfl rfl rfl) rfl ?_)
   (first | refine SV.step gno (Step.mul rfl rfl (wI64 (by omega) (by omega))) rfl ?_ | refine SV.step gno (Step.mul rfl rfl rfl) rfl ?_)
   refine SV.step gno (Step.assign rfl) rfl ?_
   refine SV.nil (KV.then_n (KV.e7 0 6 11 12 72 73 74 (CV.seq ?_)))
   refine CV.stillTail 10 (by kernel_rfl) (by kernel_rfl) (fun _ h => h.drew) ?_
   refine SV.step gno (Step.move rfl) rfl ?_
   refine SV.step gno (Step.nilCheck rfl) rfl ?_
   refine SV.step gno (Step.fieldAddr rfl (F197_3 _ _)) rfl ?_
   (first | refine SV.step gno (Step.load Tryz.underlying56 rfl rfl (fun w h => h.cell 0 rfl rfl)) rfl ?_ | refine SV.step gno (Step.load Tryz.underlying56 rfl rfl (fun w h => h.cell 6 rfl rfl)) rfl ?_ | refine SV.step gno (Step.load Tryz.underlying56 rfl rfl (fun w h => (h.os 1 rfl).cell (by first | omega | (rw [tmps_len]; omega) | (have := hs.pl; omega) | (rw [e1_len hs.e]; omega) | (rw [e2_len hs.e]; omega) | (simp only [List.length_set, e2_len hs.e]; omega)) rfl)) rfl ?_ | refine SV.step gno (Step.load Tryz.underlying56 rfl rfl (fun w h => (h.os 1 rfl).cell0 (by first | omega | (rw [tmps_len]; omega) | (have := hs.pl; omega) | (rw [e1_len hs.e]; omega) | (rw [e2_len hs.e]; omega) | (simp only [List.length_set, e2_len hs.e]; omega)) rfl)) rfl ?_)
   refine SV.step gno (Step.fieldAddr rfl (F195_0 _ _)) rfl ?_
   (first | refine SV.step gno (Step.load Tryz.underlying3 rfl rfl (fun w h => h.cell 0 rfl rfl)) rfl ?_ | refine SV.step gno (Step.load Tryz.underlying3 rfl rfl (fun w h => h.cell 6 rfl rfl)) rfl ?_ | refine SV.step gno (Step.load Tryz.underlying3 rfl rfl (fun w h => (h.os 1 rfl).cell (by first | omega | (rw [tmps_len]; omega) | (have := hs.pl; omega) | (rw [e1_len hs.e]; omega) | (rw [e2_len hs.e]; omega) | (simp only [List.length_set, e2_len hs.e]; omega)) rfl)) rfl ?_ | refine SV.step gno (Step.load Tryz.underlying3 rfl rfl (fun w h => (h.os 1 rfl).cell0 (by first | omega | (rw [tmps_len]; omega) | (have := hs.pl; omega) | (rw [e1_len hs.e]; omega) | (rw [e2_len hs.e]; omega) | (simp only [List.length_set, e2_len hs.e]; omega)) rfl)) rfl ?_)
   refine SV.step gno (Step.idx Tryz.underlying56 I2 (fun w h => h.os 3 rfl) rfl rfl (by first | rfl | (rw [tmps_len]) | (rw [e1_len hs.e]) | (rw [e2_len hs.e]) | (simp only [List.length_set, e2_len hs.e])) _ ha (by first | omega | (rw [tmps_len]; omega) | (have := hs.pl; omega) | (rw [e1_len hs.e]; omega) | (rw [e2_len hs.e]; omega) | (simp only [List.length_set, e2_len hs.e]; omega))) rfl ?_
   refine SV.step gno (Step.load Tryz.underlying2 rfl rfl (fun w h => (h.os 3 rfl).cell0 (by rw [e2_len hs.e]; omega) rfl)) rfl ?_
   refine SV.step gno (Step.move rfl) rfl ?_
   (first | refine SV.step gno (Step.sub rfl rfl (wI64 (by omega) (by omega))) rfl ?_ | refine SV.step gno (Step.sub rfl rfl rfl) rfl ?_)
   refine SV.nil ?_
   show KV _ (wpList _ _ _ _) _ _
   refine RV.op (OV.step gno (Step.idx Tryz.underlying56 I2 (fun w h => h.os 3 rfl) rfl rfl (by first | rfl | (rw [tmps_len]) | (rw [e1_len hs.e]) | (rw [e2_len hs.e]) | (simp only [List.length_set, e2_len hs.e])) _ ha (by first | omega | (rw [tmps_len]; omega) | (have := hs.pl; omega) | (rw [e1_len hs.e]; omega) | (rw [e2_len hs.e]; omega) | (simp only [List.length_set, e2_len hs.e]; omega))) rfl ?_)
   refine RV.op (OV.storeE 3 (a) (((E2j (tmps D En) M (step1 D (tmps D En) base En p) j).getD a (intK .i64).d - ((M.getD j hlK.d).g * ((tmps D En).getD a (intK .i64).d - (tmps D En).getD b (intK .i64).d)))) (j := 0) [_] I2 rfl rfl rfl rfl rfl rfl (by rw [e2_len hs.e]; omega) rfl (Nat.le_of_ble_eq_true rfl) gno ?_)
   refine RV.nil (KV.then_n (KV.e7 0 6 11 12 72 73 74 ?_))
   have hno := e2_other (X := (E2j (tmps D En) M (step1 D (tmps D En) base En p) j)) ((E2j (tmps D En) M (step1 D (tmps D En) base En p) j).getD a (intK .i64).d - ((M.getD j hlK.d).g * ((tmps D En).getD a (intK .i64).d - (tmps D En).getD b (intK .i64).d))) hne
   refine CV.stillTail 10 (by kernel_rfl) (by kernel_rfl) (fun _ h => h.drew) ?_
   refine SV.step gno (Step.move rfl) rfl ?_
   refine SV.step gno (Step.nilCheck rfl) rfl ?_
   refine SV.step gno (Step.fieldAddr rfl (F197_3 _ _)) rfl ?_
   (first | refine SV.step gno (Step.load Tryz.underlying56 rfl rfl (fun w h => h.cell 0 rfl rfl)) rfl ?_ | refine SV.step gno (Step.load Tryz.underlying56 rfl rfl (fun w h => h.cell 6 rfl rfl)) rfl ?_ | refine SV.step gno (Step.load Tryz.underlying56 rfl rfl (fun w h => (h.os 1 rfl).cell (by first | omega | (rw [tmps_len]; omega) | (have := hs.pl; omega) | (rw [e1_len hs.e]; omega) | (rw [e2_len hs.e]; omega) | (simp only [List.length_set, e2_len hs.e]; omega)) rfl)) rfl ?_ | refine SV.step gno (Step.load Tryz.underlying56 rfl rfl (fun w h => (h.os 1 rfl).cell0 (by first | omega | (rw [tmps_len]; omega) | (have := hs.pl; omega) | (rw [e1_len hs.e]; omega) | (rw [e2_len hs.e]; omega) | (simp only [List.length_set, e2_len hs.e]; omega)) rfl)) rfl ?_)
   refine SV.step gno (Step.fieldAddr rfl (F195_1 _ _)) rfl ?_
   (first | refine SV.step gno (Step.load Tryz.underlying3 rfl rfl (fun w h => h.cell 0 rfl rfl)) rfl ?_ | refine SV.step gno (Step.load Tryz.underlying3 rfl rfl (fun w h => h.cell 6 rfl rfl)) rfl ?_ | refine SV.step gno (Step.load Tryz.underlying3 rfl rfl (fun w h => (h.os 1 rfl).cell (by first | omega | (rw [tmps_len]; omega) | (have := hs.pl; omega) | (rw [e1_len hs.e]; omega) | (rw [e2_len hs.e]; omega) | (simp only [List.length_set, e2_len hs.e]; omega)) rfl)) rfl ?_ | refine SV.step gno (Step.load Tryz.underlying3 rfl rfl (fun w h => (h.os 1 rfl).cell0 (by first | omega | (rw [tmps_len]; omega) | (have := hs.pl; omega) | (rw [e1_len hs.e]; omega) | (rw [e2_len hs.e]; omega) | (simp only [List.length_set, e2_len hs.e]; omega)) rfl)) rfl ?_)
   refine SV.step gno (Step.idx Tryz.underlying56 I2 (fun w h => h.os 3 rfl) rfl rfl (by first | rfl | (rw [tmps_len]) | (rw [e1_len hs.e]) | (rw [e2_len hs.e]) | (simp only [List.length_set, e2_len hs.e])) _ hb (by first | omega | (rw [tmps_len]; omega) | (have := hs.pl; omega) | (rw [e1_len hs.e]; omega) | (rw [e2_len hs.e]; omega) | (simp only [List.length_set, e2_len hs.e]; omega))) rfl ?_
   refine SV.step gno (Step.load Tryz.underlying2 rfl rfl (fun w h => (h.os 3 rfl).cell0 (by simp only [List.length_set, e2_len hs.e]; omega) rfl)) rfl ?_
   refine SV.step gno (Step.move rfl) rfl ?_
   (first | refine SV.step gno (Step.add rfl rfl (wI64 (by omega) (by omega))) rfl ?_ | refine SV.step gno (Step.add rfl rfl rfl) rfl ?_)
   refine SV.nil ?_
   show KV _ (wpList _ _ _ _) _ _
   refine RV.op (OV.step gno (Step.idx Tryz.underlying56 I2 (fun w h => h.os 3 rfl) rfl rfl (by first | rfl | (rw [tmps_len]) | (rw [e1_len hs.e]) | (rw [e2_len hs.e]) | (simp only [List.length_set, e2_len hs.e])) _ hb (by first | omega | (rw [tmps_len]; omega) | (have := hs.pl; omega) | (rw [e1_len hs.e]; omega) | (rw [e2_len hs.e]; omega) | (simp only [List.length_set, e2_len hs.e]; omega))) rfl ?_)
   refine RV.op (OV.storeE 3 (b) ((((E2j (tmps D En) M (step1 D (tmps D En) base En p) j).set a ((E2j (tmps D En) M (step1 D (tmps D En) base En p) j).getD a (intK .i64).d - ((M.getD j hlK.d).g * ((tmps D En).getD a (intK .i64).d - (tmps D En).getD b (intK .i64).d)))).getD b (intK .i64).d + ((M.getD j hlK.d).g * ((tmps D En).getD a (intK .i64).d - (tmps D En).getD b (intK .i64).d)))) (j := 0) [_] I2 rfl rfl rfl rfl rfl rfl (by simp only [List.length_set, e2_len hs.e]; omega) rfl (Nat.le_of_ble_eq_true rfl) gno ?_)
   refine RV.nil (KV.block_n (KV.then_n (KV.e5 0 6 72 73 74 (CV.region ?_))))
   (first | refine RV.op (OV.step gno (Step.add rfl rfl (wI64 (by omega) (by omega))) rfl ?_) | refine RV.op (OV.step gno (Step.add rfl rfl rfl) rfl ?_))
   refine RV.m rfl rfl ?_
   refine RV.nil (KV.then_n (KV.e5 0 6 72 73 74 ?_))
   refine KV.sel [0, 0, 0, 0, 0, 0] [_, _, _, _, _, _] rfl ?_
   exact KV.loopI (z := j) (j + 1) (by omega) (by omega) ⟨rfl, rfl, rfl, rfl, rfl, trivial⟩ (fun _ h => by rw [← E2_set (by omega) ha hb]; exact h)
  ·
   refine RV.nil (KV.then_n (KV.e6 0 6 72 73 74 75 (CV.seq (CV.cond_f rfl (CV.exit ?_)))))
   refine KV.then_exit (KV.then_exit (KV.block_hit (KV.then_n (KV.e1 0 (CV.seq ?_)))))
   obtain rfl : j = M.length := by omega
   refine KV.heap (S' := Hp I w (mobj a0 D M base (stepE D M base En p) rel2 ++ [OS 2 (intK .i64) pA pc p])) (fun w h => by rw [E2j_end] at h; exact h.sel [0, 0, 0, 0, 0] rfl) ?_
   refine CV.region ?_
   refine RV.m rfl rfl ?_
   refine RV.op (OV.call [] (F := [_, _, _, _, _]) Tryz.func87 B87 N87 rfl rfl (fun w h => temperatures_fn a0.b (h.blk 0 rfl) (h.os 1 rfl) (h.os 3 rfl) hs.nx.1 hl (fun i hi => (vld_capP hs.v hi).1) (fun i hi => by have := en_bd hs.v hs.h hs.nx.2 hi; show _ ≤ (stepE D M base En p).getD i 0 ∧ (stepE D M base En p).getD i 0 ≤ _; omega)) (fun _ hb => hb.elim) gno rfl (fun v L' hp => ?_))
   obtain ⟨At2, ct2, rfl, rfl⟩ := hp
   refine RV.a rfl rfl (RV.a rfl rfl ?_)
   refine RV.nil (KV.then_n (KV.e2 4 5 (CV.ret ?_)))
   refine KV.sel [0, 0, 0, 0, 0, 0] [_, _, _, _, _, _] rfl ?_
   exact KV.ret2 rfl rfl rfl _ (fun _ h => h) ⟨_, _, _, rfl, rfl⟩
end Go.Proofs.YtdfkpdcpegcieaaGreatDoor
