/-
  Walks, part 6.
-/
import Derived.Test.YthdpojggdodpfaaTabs
import Derived.Test.YthdpojggdodpfaaW5
import Derived.Test.YthdpojggdodpfaaMdA
set_option linter.unusedSimpArgs false
set_option linter.unusedVariables false
namespace Go.Proofs.Ythdpojggdodpfaa
open Go.Sv Go.Ios
set_option maxRecDepth 100000 in
set_option maxHeartbeats 1000000 in
theorem read_fn {h0 : MH} {w : World} (hM : MR w h0) (ho : h0.ok) {x : Int} {n : Nat} {wd : Int} (hwd : wd = (n : Int)) (hx1 : h0.base ≤ x) (hx2 : x + n ≤ h0.base + h0.len) (hx3 : x ≤ 18446744073709551615) (hn : n ≤ 8) : Fx Try.prog 34 [.pointer (some ⟨h0.p, 0, none⟩), .int .u64 x, .int .i64 wd] w [] no (fun v L => v = .int .u64 (rdL h0.bs (x - h0.base).toNat n) ∧ L = []) := by
  subst hwd
  refine Sv.Fx.body Try.func34 rfl T34 rfl ?_
  intro I hro hI
  refine KV.env [(0, _), (1, _), (2, _)] ⟨rfl, rfl, rfl, trivial⟩ ?_
  have hb := ho.b
  have hr := ho.r
  unfold isU at hb
  unfold okR at hr
  have hoB : okB h0.bs := ho.y
  obtain ⟨k, hk⟩ := Int.eq_ofNat_of_zero_le (show 0 ≤ x - h0.base by omega)
  have hk2 : (x - h0.base).toNat = k := by omega
  rw [hk2]
  refine CV.seq ?_
  -- region 0 iospace.go:201
  refine CV.region ?_
  refine RV.op (OV.step gno (Step.assign rfl) rfl ?_)
  refine RV.nil ?_
  refine KV.then_n ?_
  refine KV.env [(0, _), (1, _), (2, _)] ⟨rfl, rfl, rfl, trivial⟩ ?_
  refine CV.seq ?_
  -- region 1 iospace.go:202
  refine CV.region ?_
  refine RV.op (OV.step gno (Step.assign rfl) rfl ?_)
  refine RV.nil ?_
  refine KV.then_n ?_
  refine KV.env [(0, _), (1, _), (2, _), (7, _)] ⟨rfl, rfl, rfl, rfl, trivial⟩ ?_
  refine CV.seq ?_
  refine CV.seq ?_
  -- region 2 iospace.go:203
  refine CV.region ?_
  refine RV.op (OV.step gno (Step.move rfl) rfl ?_)
  refine RV.op (OV.step gno (Step.nilCheck rfl) rfl ?_)
  refine RV.op (OV.step gno (Step.fieldAddr rfl (F77_2 _ _)) rfl ?_)
  refine RV.op (OV.step gno (Step.load Try.underlying23 rfl rfl (fun w h => (hM.keep (same_of h hI)).cell rfl)) rfl ?_)
  refine RV.op (OV.split gno (Step.nilSl Try.underlying23 rfl rfl) rfl (fun hnil => ?_) (fun hnil => ?_))
  · -- True
    have hbs : h0.bs = [] := by rcases ho.d with h1 | h1; (exact h1.1); exact absurd hnil h1.2
    refine RV.nil ?_
    refine KV.then_n ?_
    refine KV.env [(0, _), (1, _), (2, _), (7, _), (13, _)] ⟨rfl, rfl, rfl, rfl, rfl, trivial⟩ ?_
    refine CV.cond_t rfl ?_
    refine CV.seq ?_
    -- region 3 iospace.go:204
    refine CV.region ?_
    refine RV.op (OV.step gno (Step.assign rfl) rfl ?_)
    refine RV.nil ?_
    refine KV.then_n ?_
    refine KV.env [(6, _)] ⟨rfl, trivial⟩ ?_
    refine CV.ret ?_
    refine KV.then_ret ?_
    -- return at r3
    refine KV.sel [] [] rfl ?_
    exact KV.ret1 rfl rfl _ (fun _ h => h) ⟨by rw [hbs, rdL_nil], rfl⟩
  · -- False
    have hbl : h0.bs.length = h0.len.toNat := by rcases ho.d with h1 | h1; (exact absurd h1.2 hnil); exact h1.1
    refine RV.nil ?_
    refine KV.then_n ?_
    refine KV.env [(0, _), (1, _), (2, _), (7, _), (13, _)] ⟨rfl, rfl, rfl, rfl, rfl, trivial⟩ ?_
    refine CV.cond_f rfl ?_
    refine CV.skip ?_
    refine KV.then_n ?_
    refine KV.env [(0, _), (1, _), (2, _), (7, _)] ⟨rfl, rfl, rfl, rfl, trivial⟩ ?_
    refine CV.seq ?_
    refine CV.seq ?_
    -- region 4 iospace.go:206
    refine CV.region ?_
    refine RV.op (OV.step gno (Step.move rfl) rfl ?_)
    refine RV.op (OV.step gno (Step.move rfl) rfl ?_)
    refine RV.nil ?_
    refine KV.then_n ?_
    refine KV.env [(0, _), (1, _), (7, _), (14, _), (15, _)] ⟨rfl, rfl, rfl, rfl, rfl, trivial⟩ ?_
    refine CV.block ?_
    -- loop L5; live [0, 1, 7, 14, 15]
    refine KV.sel [] [] rfl ?_
    refine CV.loopI (fun (j : Nat) => j ≤ n) (fun (j : Nat) => n - j) (fun (j : Nat) => [(0, .pointer (some ⟨h0.p, 0, none⟩)), (1, .int .u64 x), (7, .int .u64 (rdL h0.bs k j)), (14, .int .i64 n), (15, .int .i64 j)]) (fun (j : Nat) => Hp I w []) (0) (Nat.zero_le _) ⟨rfl, rfl, rfl, rfl, rfl, trivial⟩ (fun _ h => h) ?_
    intro j hinv
    refine CV.seq ?_
    -- region 5 iospace.go:206
    refine CV.region ?_
    refine RV.op (OV.split gno (Step.lss rfl rfl) rfl (fun hj => ?_) (fun hj => ?_))
    · -- True
      refine RV.nil ?_
      refine KV.then_n ?_
      refine KV.env [(0, _), (1, _), (7, _), (14, _), (15, _), (16, _)] ⟨rfl, rfl, rfl, rfl, rfl, rfl, trivial⟩ ?_
      refine CV.seq ?_
      refine CV.cond_t rfl ?_
      refine CV.skip ?_
      refine KV.then_n ?_
      refine KV.env [(0, _), (1, _), (7, _), (14, _), (15, _)] ⟨rfl, rfl, rfl, rfl, rfl, trivial⟩ ?_
      refine CV.seq ?_
      refine CV.block ?_
      refine CV.seq ?_
      -- region 6 iospace.go:206
      refine CV.region ?_
      refine RV.op (OV.step gno (Step.move rfl) rfl ?_)
      refine RV.op (OV.step gno (Step.assign rfl) rfl ?_)
      refine RV.nil ?_
      refine KV.then_n ?_
      refine KV.env [(0, _), (1, _), (7, _), (8, _), (14, _), (15, _)] ⟨rfl, rfl, rfl, rfl, rfl, rfl, trivial⟩ ?_
      -- region 7 iospace.go:207
      have hby : 0 ≤ h0.bs.getD (k + j) (intK .u8).d ∧ h0.bs.getD (k + j) (intK .u8).d ≤ 255 := hoB (k + j)
      have hrb := rdL_bd hoB k j
      have hjk : x - h0.base + (j : Int) = ((k + j : Nat) : Int) := by omega
      refine CV.still (by kernel_rfl) (by kernel_rfl) (fun _ h => h.drew) ?_
      refine SV.step gno (Step.move rfl) rfl ?_
      refine SV.step gno (Step.move rfl) rfl ?_
      refine SV.step gno (Step.nilCheck rfl) rfl ?_
      refine SV.step gno (Step.fieldAddr rfl (F77_2 _ _)) rfl ?_
      refine SV.step gno (Step.load Try.underlying23 rfl rfl (fun w h => (hM.keep (same_of h hI)).cell rfl)) rfl ?_
      refine SV.step gno (Step.move rfl) rfl ?_
      refine SV.step gno (Step.move rfl) rfl ?_
      refine SV.step gno (Step.nilCheck rfl) rfl ?_
      refine SV.step gno (Step.fieldAddr rfl (F77_0 _ _)) rfl ?_
      refine SV.step gno (Step.fieldAddr rfl (F32_0 _ _)) rfl ?_
      refine SV.step gno (Step.load Try.underlying22 rfl rfl (fun w h => (hM.keep (same_of h hI)).cell rfl)) rfl ?_
      (first | refine SV.step gno (Step.sub rfl rfl (wU64 (by omega) (by omega))) rfl ?_ | refine SV.step gno (Step.sub rfl rfl rfl) rfl ?_)
      refine SV.step gno (Step.move rfl) rfl ?_
      (first | refine SV.step gno (Step.convI Try.underlying3 Try.underlying22 rfl (wU64 (by omega) (by omega))) rfl ?_ | refine SV.step gno (Step.convI Try.underlying3 Try.underlying22 rfl rfl) rfl ?_)
      (first | refine SV.step gno (Step.add rfl rfl (wU64 (by omega) (by omega))) rfl ?_ | refine SV.step gno (Step.add rfl rfl rfl) rfl ?_)
      rw [hjk]
      refine SV.step gno (Step.idx Try.underlying23 I5 (fun w h => (hM.keep (same_of h hI)).2) rfl rfl (rfl) _ rfl (by omega)) rfl ?_
      refine SV.step gno (Step.load Try.underlying5 rfl rfl (fun w h => (hM.keep (same_of h hI)).2.cell0 (by omega) rfl)) rfl ?_
      refine SV.step gno (Step.convI Try.underlying5 Try.underlying22 rfl (wU64 (by omega) (by omega))) rfl ?_
      refine SV.step gno (Step.move rfl) rfl ?_
      (first | refine SV.step gno (Step.mul rfl rfl (wI64 (by omega) (by omega))) rfl ?_ | refine SV.step gno (Step.mul rfl rfl rfl) rfl ?_)
      refine SV.step gno (Step.shl rfl rfl (by omega) (shlB hby.1 hby.2 (by omega))) rfl ?_
      refine SV.step gno (Step.bor rfl rfl (orB hrb.1 hrb.2 hby.1 hby.2 (by omega))) rfl ?_
      refine SV.step gno (Step.assign rfl) rfl ?_
      refine SV.nil ?_
      refine KV.block_n ?_
      refine KV.then_n ?_
      refine KV.env [(0, _), (1, _), (7, _), (14, _), (15, _)] ⟨rfl, rfl, rfl, rfl, rfl, trivial⟩ ?_
      -- region 8 iospace.go:206
      refine CV.region ?_
      (first | refine RV.op (OV.step gno (Step.add rfl rfl (wI64 (by omega) (by omega))) rfl ?_) | refine RV.op (OV.step gno (Step.add rfl rfl rfl) rfl ?_))
      refine RV.op (OV.step gno (Step.move rfl) rfl ?_)
      refine RV.nil ?_
      refine KV.then_n ?_
      refine KV.env [(0, _), (1, _), (7, _), (14, _), (15, _)] ⟨rfl, rfl, rfl, rfl, rfl, trivial⟩ ?_
      refine KV.sel [] [] rfl ?_
      exact KV.loopI (z := j) (j + 1) (by omega) (by omega) ⟨rfl, rfl, rfl, rfl, rfl, trivial⟩ (fun _ h => h)
    · -- False
      refine RV.nil ?_
      refine KV.then_n ?_
      refine KV.env [(0, _), (1, _), (7, _), (14, _), (15, _), (16, _)] ⟨rfl, rfl, rfl, rfl, rfl, rfl, trivial⟩ ?_
      refine CV.seq ?_
      refine CV.cond_f rfl ?_
      refine CV.exit ?_
      refine KV.then_exit ?_
      refine KV.then_exit ?_
      refine KV.block_hit ?_
      refine KV.then_n ?_
      refine KV.env [(7, _)] ⟨rfl, trivial⟩ ?_
      refine CV.seq ?_
      -- region 9 iospace.go:209
      refine CV.region ?_
      refine RV.op (OV.step gno (Step.move rfl) rfl ?_)
      refine RV.op (OV.step gno (Step.assign rfl) rfl ?_)
      refine RV.nil ?_
      refine KV.then_n ?_
      refine KV.env [(6, _)] ⟨rfl, trivial⟩ ?_
      refine CV.ret ?_
      -- return at r9
      refine KV.sel [] [] rfl ?_
      exact KV.ret1 rfl rfl _ (fun _ h => h) ⟨by rw [show n = j by omega], rfl⟩

set_option maxRecDepth 100000 in
set_option maxHeartbeats 1000000 in
theorem write_fn {h0 : MH} {w : World} (ho : h0.ok) {x v : Int} {n : Nat} {wd : Int} (hwd : wd = (n : Int)) (hx1 : h0.base ≤ x) (hx2 : x + n ≤ h0.base + h0.len) (hx3 : x ≤ 18446744073709551615) (hn : n ≤ 8) (hv : isU v) : Fx Try.prog 33 [.pointer (some ⟨h0.p, 0, none⟩), .int .u64 x, .int .i64 wd, .int .u64 v] w (mhL h0) no (fun r L => r = .tuple #[] ∧ ∃ A c, A ≠ none ∧ L = mhL { h0 with A := A, c := c, bs := wrK (raw0 h0) (x - h0.base).toNat v n }) := by
  subst hwd
  refine Sv.Fx.body Try.func33 rfl T33 rfl ?_
  intro I hro hI
  refine KV.env [(0, _), (1, _), (2, _), (3, _)] ⟨rfl, rfl, rfl, rfl, trivial⟩ ?_
  have hb := ho.b
  have hr := ho.r
  unfold isU at hb hv
  unfold okR at hr
  obtain ⟨k, hk⟩ := Int.eq_ofNat_of_zero_le (show 0 ≤ x - h0.base by omega)
  have hk2 : (x - h0.base).toNat = k := by omega
  rw [hk2]
  have hrl := raw0_len ho
  -- join; live [0, 1, 2, 3]
  refine CV.join2 (fun (Ad : Option Addr) (cd : Nat) => [(0, .pointer (some ⟨h0.p, 0, none⟩)), (1, .int .u64 x), (2, .int .i64 n), (3, .int .u64 v)]) (fun (Ad : Option Addr) (cd : Nat) => Hp I w [Blk h0.p (.cells #[.int .u64 h0.base, .int .u64 h0.len, .int .i64 h0.own, .slice Ad (raw0 h0).length cd] 77 (0, 0)), OS 5 (intK .u8) Ad cd (raw0 h0)]) ?_ ?_
  · skip
    refine CV.seq ?_
    -- region 0 iospace.go:214
    refine CV.region ?_
    refine RV.op (OV.step gno (Step.move rfl) rfl ?_)
    refine RV.op (OV.step gno (Step.nilCheck rfl) rfl ?_)
    refine RV.op (OV.step gno (Step.fieldAddr rfl (F77_2 _ _)) rfl ?_)
    refine RV.op (OV.step gno (Step.load Try.underlying23 rfl rfl (fun w h => h.cell 0 rfl rfl)) rfl ?_)
    refine RV.op (OV.split gno (Step.nilSl Try.underlying23 rfl rfl) rfl (fun hnil => ?_) (fun hnil => ?_))
    · -- True
      have hbs : h0.bs = [] := by rcases ho.d with h1 | h1; (exact h1.1); exact absurd hnil h1.2
      have hr0 : raw0 h0 = List.replicate h0.len.toNat 0 := if_pos hbs
      refine RV.nil ?_
      refine KV.then_n ?_
      refine KV.env [(0, _), (1, _), (2, _), (3, _), (13, _)] ⟨rfl, rfl, rfl, rfl, rfl, trivial⟩ ?_
      refine CV.cond_t rfl ?_
      -- region 1 iospace.go:215
      refine CV.region ?_
      refine RV.op (OV.step gno (Step.move rfl) rfl ?_)
      refine RV.op (OV.step gno (Step.move rfl) rfl ?_)
      refine RV.op (OV.step gno (Step.nilCheck rfl) rfl ?_)
      refine RV.op (OV.step gno (Step.fieldAddr rfl (F77_0 _ _)) rfl ?_)
      refine RV.op (OV.step gno (Step.fieldAddr rfl (F32_1 _ _)) rfl ?_)
      refine RV.op (OV.step gno (Step.load Try.underlying22 rfl rfl (fun w h => h.cell 0 rfl rfl)) rfl ?_)
      refine RV.op (OV.make (K := intK .u8) (h0.len.toNat) (h0.len.toNat) (0) Try.underlying23 I5 rfl rfl rfl (by omega) (by omega) (by omega) (by omega) (by omega) gno rfl (fun Ad => ?_))
      refine RV.op (OV.step gno (Step.nilCheck rfl) rfl ?_)
      refine RV.op (OV.step gno (Step.fieldAddr rfl (F77_2 _ _)) rfl ?_)
      refine RV.op (OV.store 0 [_] #[_, _, _, _] I23 rfl rfl rfl rfl rfl (Nat.le_of_ble_eq_true rfl) (by simp [Value.oneCell']) rfl gno ?_)
      refine RV.nil ?_
      refine KV.then_n ?_
      refine KV.env [(0, _), (1, _), (2, _), (3, _)] ⟨rfl, rfl, rfl, rfl, trivial⟩ ?_
      refine KV.sel [0, 1] [_, _] rfl ?_
      (first | exact KV.join2 (Ad) (h0.len.toNat) ⟨rfl, rfl, rfl, rfl, trivial⟩ (fun _ h => by first | (rw [hr0, List.length_replicate]; exact h) | (rw [hr0]; exact h)) | exact KV.join2 (h0.A) (h0.c) ⟨rfl, rfl, rfl, rfl, trivial⟩ (fun _ h => by first | (rw [hr0, List.length_replicate]; exact h) | (rw [hr0]; exact h)))
    · -- False
      have hr0 : raw0 h0 = h0.bs := if_neg (by intro e; rcases ho.d with h1 | h1; (exact hnil h1.2); rw [e] at h1; simp at h1; omega)
      refine RV.nil ?_
      refine KV.then_n ?_
      refine KV.env [(0, _), (1, _), (2, _), (3, _), (13, _)] ⟨rfl, rfl, rfl, rfl, rfl, trivial⟩ ?_
      refine CV.cond_f rfl ?_
      refine CV.skip ?_
      refine KV.then_n ?_
      refine KV.env [(0, _), (1, _), (2, _), (3, _)] ⟨rfl, rfl, rfl, rfl, trivial⟩ ?_
      refine KV.sel [0, 0] [_, _] rfl ?_
      (first | exact KV.join2 (Ad) (h0.len.toNat) ⟨rfl, rfl, rfl, rfl, trivial⟩ (fun _ h => by first | (rw [hr0, List.length_replicate]; exact h) | (rw [hr0]; exact h)) | exact KV.join2 (h0.A) (h0.c) ⟨rfl, rfl, rfl, rfl, trivial⟩ (fun _ h => by first | (rw [hr0, List.length_replicate]; exact h) | (rw [hr0]; exact h)))
  · intro Ad cd
    refine CV.seq ?_
    -- region 2 iospace.go:217
    refine CV.region ?_
    refine RV.op (OV.step gno (Step.move rfl) rfl ?_)
    refine RV.op (OV.step gno (Step.move rfl) rfl ?_)
    refine RV.nil ?_
    refine KV.then_n ?_
    refine KV.env [(0, _), (1, _), (3, _), (23, _), (24, _)] ⟨rfl, rfl, rfl, rfl, rfl, trivial⟩ ?_
    refine CV.block ?_
    -- loop L3; live [0, 1, 3, 23, 24]
    refine KV.sel [0, 0] [_, _] rfl ?_
    refine CV.loopI (fun (j : Nat) => j ≤ n) (fun (j : Nat) => n - j) (fun (j : Nat) => [(0, .pointer (some ⟨h0.p, 0, none⟩)), (1, .int .u64 x), (3, .int .u64 v), (23, .int .i64 n), (24, .int .i64 j)]) (fun (j : Nat) => Hp I w [Blk h0.p (.cells #[.int .u64 h0.base, .int .u64 h0.len, .int .i64 h0.own, .slice Ad (wrK (raw0 h0) k v j).length cd] 77 (0, 0)), OS 5 (intK .u8) Ad cd (wrK (raw0 h0) k v j)]) (0) (Nat.zero_le _) ⟨rfl, rfl, rfl, rfl, rfl, trivial⟩ (fun _ h => h) ?_
    intro j hinv
    refine CV.seq ?_
    -- region 3 iospace.go:217
    refine CV.region ?_
    refine RV.op (OV.split gno (Step.lss rfl rfl) rfl (fun hj => ?_) (fun hj => ?_))
    · -- True
      refine RV.nil ?_
      refine KV.then_n ?_
      refine KV.env [(0, _), (1, _), (3, _), (23, _), (24, _), (25, _)] ⟨rfl, rfl, rfl, rfl, rfl, rfl, trivial⟩ ?_
      refine CV.seq ?_
      refine CV.cond_t rfl ?_
      refine CV.skip ?_
      refine KV.then_n ?_
      refine KV.env [(0, _), (1, _), (3, _), (23, _), (24, _)] ⟨rfl, rfl, rfl, rfl, rfl, trivial⟩ ?_
      refine CV.seq ?_
      refine CV.block ?_
      refine CV.seq ?_
      -- region 4 iospace.go:217
      refine CV.region ?_
      refine RV.op (OV.step gno (Step.move rfl) rfl ?_)
      refine RV.op (OV.step gno (Step.assign rfl) rfl ?_)
      refine RV.nil ?_
      refine KV.then_n ?_
      refine KV.env [(0, _), (1, _), (3, _), (8, _), (23, _), (24, _)] ⟨rfl, rfl, rfl, rfl, rfl, rfl, trivial⟩ ?_
      -- region 5 iospace.go:218
      have hjk : x - h0.base + (j : Int) = ((k + j : Nat) : Int) := by omega
      refine CV.stillTail 19 (by kernel_rfl) (by kernel_rfl) (fun _ h => h.drew) ?_
      refine SV.step gno (Step.move rfl) rfl ?_
      refine SV.step gno (Step.nilCheck rfl) rfl ?_
      refine SV.step gno (Step.fieldAddr rfl (F77_2 _ _)) rfl ?_
      refine SV.step gno (Step.load Try.underlying23 rfl rfl (fun w h => h.cell 0 rfl rfl)) rfl ?_
      refine SV.step gno (Step.move rfl) rfl ?_
      refine SV.step gno (Step.move rfl) rfl ?_
      refine SV.step gno (Step.nilCheck rfl) rfl ?_
      refine SV.step gno (Step.fieldAddr rfl (F77_0 _ _)) rfl ?_
      refine SV.step gno (Step.fieldAddr rfl (F32_0 _ _)) rfl ?_
      refine SV.step gno (Step.load Try.underlying22 rfl rfl (fun w h => h.cell 0 rfl rfl)) rfl ?_
      (first | refine SV.step gno (Step.sub rfl rfl (wU64 (by omega) (by omega))) rfl ?_ | refine SV.step gno (Step.sub rfl rfl rfl) rfl ?_)
      refine SV.step gno (Step.move rfl) rfl ?_
      (first | refine SV.step gno (Step.convI Try.underlying3 Try.underlying22 rfl (wU64 (by omega) (by omega))) rfl ?_ | refine SV.step gno (Step.convI Try.underlying3 Try.underlying22 rfl rfl) rfl ?_)
      (first | refine SV.step gno (Step.add rfl rfl (wU64 (by omega) (by omega))) rfl ?_ | refine SV.step gno (Step.add rfl rfl rfl) rfl ?_)
      rw [hjk]
      refine SV.step gno (Step.move rfl) rfl ?_
      refine SV.step gno (Step.move rfl) rfl ?_
      (first | refine SV.step gno (Step.mul rfl rfl (wI64 (by omega) (by omega))) rfl ?_ | refine SV.step gno (Step.mul rfl rfl rfl) rfl ?_)
      refine SV.step gno (Step.shr rfl rfl (by omega) (rfl)) rfl ?_
      refine SV.step gno (Step.convI Try.underlying22 Try.underlying5 rfl (u8B (by omega) hv.1)) rfl ?_
      refine SV.nil ?_
      show KV _ (wpList _ _ _ _) _ _
      refine RV.op (OV.step gno (Step.idx Try.underlying23 I5 (fun w h => h.os 1 rfl) rfl rfl (rfl) _ rfl (by first | omega | (rw [wrK_length]; omega))) rfl ?_)
      refine RV.op (OV.storeE 1 (k + j) (byo v j) (j := 0) [_] I5 rfl rfl rfl rfl rfl rfl (by first | omega | (rw [wrK_length]; omega)) rfl (Nat.le_of_ble_eq_true rfl) gno ?_)
      refine RV.nil ?_
      refine KV.block_n ?_
      refine KV.then_n ?_
      refine KV.env [(0, _), (1, _), (3, _), (23, _), (24, _)] ⟨rfl, rfl, rfl, rfl, rfl, trivial⟩ ?_
      -- region 6 iospace.go:217
      refine CV.region ?_
      (first | refine RV.op (OV.step gno (Step.add rfl rfl (wI64 (by omega) (by omega))) rfl ?_) | refine RV.op (OV.step gno (Step.add rfl rfl rfl) rfl ?_))
      refine RV.op (OV.step gno (Step.move rfl) rfl ?_)
      refine RV.nil ?_
      refine KV.then_n ?_
      refine KV.env [(0, _), (1, _), (3, _), (23, _), (24, _)] ⟨rfl, rfl, rfl, rfl, rfl, trivial⟩ ?_
      refine KV.sel [0, 0] [_, _] rfl ?_
      exact KV.loopI (z := j) (j + 1) (by omega) (by omega) ⟨rfl, rfl, rfl, rfl, rfl, trivial⟩ (fun _ h => by rw [wrK, List.length_set]; exact h)
    · -- False
      refine RV.nil ?_
      refine KV.then_n ?_
      refine KV.env [(0, _), (1, _), (3, _), (23, _), (24, _), (25, _)] ⟨rfl, rfl, rfl, rfl, rfl, rfl, trivial⟩ ?_
      refine CV.seq ?_
      refine CV.cond_f rfl ?_
      refine CV.exit ?_
      refine KV.then_exit ?_
      refine KV.then_exit ?_
      refine KV.block_hit ?_
      -- return at normal
      obtain rfl : j = n := by omega
      refine KV.have (fun w h => osSome h 1 rfl (by rw [wrK_length]; omega)) (fun hAd => ?_)
      refine KV.toRet ?_
      exact KV.ret0 rfl _ (fun _ h => h) ⟨rfl, _, _, hAd, rfl⟩
end Go.Proofs.Ythdpojggdodpfaa
