/-
 Walks, part 35.
-/
import Derived.Test.YtplmfekhdaefaaaGreatDoorTabB
import Derived.Test.YtplmfekhdaefaaaGreatDoorW34
set_option linter.unusedSimpArgs false
set_option linter.unusedVariables false
namespace Go.Proofs.YtplmfekhdaefaaaGreatDoor
open Go.Sv Go.Drv
set_option maxRecDepth 100000 in
set_option maxHeartbeats 4000000 in
theorem formatGuard_fn (gd : Gd) (hg : rgG gd) {w : World} (hP : PowR w) : Fx Tryz.prog 39 [.agg #[.bool gd.used, .int .u64 gd.reg, .int .u64 gd.mask, .int .u64 gd.val]] w [] at5 (fun x L => x = .string (bs (gdT gd)) ∧ L = []) := by
 refine Sv.Fx.body Tryz.func39 rfl T39 rfl ?_
 intro I hro hI
 refine KV.env [(0, _)] ⟨rfl, trivial⟩ ?_
 have e1 := dec_len hg.1
 have e2 := dec_len hg.2.1
 have e3 := dec_len hg.2.2
 refine CV.seq (CV.region ?_)
 refine RV.op (OV.box (t := 45) #[_, _, _, _] rfl rfl gno rfl (fun q => ?_))
 refine RV.s (Step.assign (v := .string (Sv.bs [])) rfl) rfl ?_
 refine RV.nil (KV.then_n (KV.env [(1, _)] ⟨rfl, trivial⟩ (CV.seq (CV.seq (CV.region ?_)))))
 refine RV.s (Step.fieldAddr rfl (F45_0 _ _)) rfl (RV.s (Step.load Tryz.underlying4 rfl rfl (fun w h => h.cell 0 rfl rfl)) rfl (RV.s (Step.not rfl) rfl ?_))
 refine RV.nil (KV.then_n (KV.env [(1, _), (5, _)] ⟨rfl, rfl, trivial⟩ ?_))
 refine KV.cases 5 rfl (fun cc1 => ?_) (fun cc1 => ?_)
 ·
  have hu := neg_t cc1
  refine CV.cond_t rfl (CV.seq (CV.region ?_))
  refine RV.s (Step.assign (v := .string (Sv.bs [])) rfl) rfl ?_
  refine RV.nil (KV.then_n (KV.env [(2, _)] ⟨rfl, trivial⟩ (CV.ret (KV.then_ret ?_))))
  refine KV.sel [] [] rfl ?_
  exact KV.ret1 rfl rfl _ (fun _ h => h) ⟨by unfold gdT; rw [if_neg (by rw [hu]; decide)], rfl⟩
 ·
  have hu := neg_f cc1
  refine CV.cond_f rfl (CV.skip (KV.then_n (KV.env [(1, _)] ⟨rfl, trivial⟩ (CV.seq ?_))))
  refine CV.any (Hp I w [Blk q (.cells #[.bool gd.used, .int .u64 gd.reg, .int .u64 gd.mask, .int .u64 gd.val] 45 (0, 0))]) (by kernel_rfl) (fun _ h => h.drew) 15 rfl ?_
  refine AV.u 0 (bl 15 1) rfl gno (Step.fieldAddr rfl (F45_1 _ _)) rfl (fun _ h => h) ?_
  refine AV.u 1 (bl 15 3) rfl gno (Step.load Tryz.underlying43 rfl rfl (fun w h => h.cell 0 rfl rfl)) rfl (fun _ h => h) ?_
  refine AV.u 5 (bl 15 35) rfl gno (Step.fieldAddr rfl (F45_2 _ _)) rfl (fun _ h => h) ?_
  refine AV.u 6 (bl 15 99) rfl gno (Step.load Tryz.underlying43 rfl rfl (fun w h => h.cell 0 rfl rfl)) rfl (fun _ h => h) ?_
  refine AV.u 10 (bl 15 1123) rfl gno (Step.fieldAddr rfl (F45_3 _ _)) rfl (fun _ h => h) ?_
  refine AV.u 11 (bl 15 3171) rfl gno (Step.load Tryz.underlying43 rfl rfl (fun w h => h.cell 0 rfl rfl)) rfl (fun _ h => h) ?_
  refine AV.all [2] (by kernel_rfl) (by decide) ?_
  refine ⟨⟨_, rfl, ?_⟩, trivial⟩
  ·
   refine OV.call [] (F := [_]) Tryz.func63 B63 N63 rfl rfl (fun w h => decimal_fn gd.reg hg.1 (PowR.keep h hP (hro 5 rfl))) (fun b hb => roAt5 hP hro b hb) gno rfl (fun v L' hp => ?_)
   obtain ⟨rfl, rfl⟩ := hp
   simp only [List.append_nil]
   refine AV.next (bl 15 3175) (by kernel_rfl) (fun _ h => h) ?_
   refine AV.u 3 (bl 15 3183) rfl gno (Step.addStr (l := [32, 105, 102, 32]) rfl rfl (by (simp only [List.length_append, List.length_cons, List.length_nil]; omega))) rfl (fun _ h => h) ?_
   refine AV.u 4 (bl 15 3199) rfl gno (Step.addStr (l2 := [32, 38, 32]) rfl rfl (by (simp only [List.length_append, List.length_cons, List.length_nil]; omega))) rfl (fun _ h => h) ?_
   refine AV.all [7] (by kernel_rfl) (by decide) ?_
   refine ⟨⟨_, rfl, ?_⟩, trivial⟩
   ·
    refine OV.call [] (F := [_]) Tryz.func63 B63 N63 rfl rfl (fun w h => decimal_fn gd.mask hg.2.1 (PowR.keep h hP (hro 5 rfl))) (fun b hb => roAt5 hP hro b hb) gno rfl (fun v L' hp => ?_)
    obtain ⟨rfl, rfl⟩ := hp
    simp only [List.append_nil]
    refine AV.next (bl 15 3327) (by kernel_rfl) (fun _ h => h) ?_
    refine AV.u 8 (bl 15 3583) rfl gno (Step.addStr rfl rfl (by (simp only [List.length_append, List.length_cons, List.length_nil]; omega))) rfl (fun _ h => h) ?_
    refine AV.u 9 (bl 15 4095) rfl gno (Step.addStr (l2 := [32, 61, 32]) rfl rfl (by (simp only [List.length_append, List.length_cons, List.length_nil]; omega))) rfl (fun _ h => h) ?_
    refine AV.all [12] (by kernel_rfl) (by decide) ?_
    refine ⟨⟨_, rfl, ?_⟩, trivial⟩
    ·
     refine OV.call [] (F := [_]) Tryz.func63 B63 N63 rfl rfl (fun w h => decimal_fn gd.val hg.2.2 (PowR.keep h hP (hro 5 rfl))) (fun b hb => roAt5 hP hro b hb) gno rfl (fun v L' hp => ?_)
     obtain ⟨rfl, rfl⟩ := hp
     simp only [List.append_nil]
     refine AV.next (bl 15 8191) (by kernel_rfl) (fun _ h => h) ?_
     refine AV.u 13 (bl 15 16383) rfl gno (Step.addStr rfl rfl (by (simp only [List.length_append, List.length_cons, List.length_nil]; omega))) rfl (fun _ h => h) ?_
     refine AV.u 14 (bl 15 32767) rfl gno (Step.assign rfl) rfl (fun _ h => h) ?_
     refine AV.done (by kernel_rfl) ?_
     refine KV.then_n (KV.env [(2, _)] ⟨rfl, trivial⟩ (CV.ret ?_))
     refine KV.sel [] [] rfl ?_
     exact KV.ret1 rfl rfl _ (fun _ h => h) ⟨by unfold gdT; rw [if_pos hu]; rfl, rfl⟩

theorem join_fn {A : Option Addr} {c : Nat} {xs : List Bs} {w : World} (hs : RS w strK A xs) (h0 : 0 < xs.length) (hc : xs.length ≤ c) (sep : Bs) (hl : xs.length ≤ 1000000) (hj : (Lib.join xs sep).length ≤ 1000000) :
  Fx Tryz.prog 64 [.slice A xs.length c, .string (bs sep)] w [] no (fun x L => x = .string (bs (Lib.join xs sep)) ∧ L = []) := by
 intro I hI _
 have hA := hs.form h0
 obtain ⟨cur, t, fz, _, hb, hcell⟩ := hs.resolve_left (fun e => by rw [e] at h0; exact absurd h0 (by decide))
 have e1 : (xs.map bs).map (·.data.toList) = xs := by
  rw [List.map_map]
  have : ((fun x : ByteArray => x.data.toList) ∘ bs) = id := by funext l; simp [bs]
  rw [this, List.map_id]
 have hcs : ∀ (j : Nat) x, (xs.map bs)[j]? = some x → w.cell? ⟨bk A, of A + j, none⟩ = some (.string x) := by
  intro j x hx
  rw [List.getElem?_map] at hx
  have hj2 : j < xs.length := by
   refine Decidable.byContradiction fun k => ?_
   rw [List.getElem?_eq_none (by omega)] at hx
   cases hx
  have h3 := hs.cell (m := j) (j := 0) hj2 (v := .string (bs (xs.getD j strK.d))) rfl
  rw [List.getElem?_eq_getElem hj2] at hx
  have h4 : x = bs (xs.getD j strK.d) := by
   simp only [Option.map_some, Option.some.injEq] at hx
   rw [← hx, List.getD, List.getElem?_eq_getElem hj2]; rfl
  rw [h4]
  have e2 : of A + j * strK.sz + 0 = of A + j := by show of A + j * 1 + 0 = _; omega
  rw [e2] at h3; exact h3
 have h := Tryz.strings_Join (bk A) (of A) c (xs.map bs) (bs sep) w hcs (lt_of_some hb) (by rw [List.length_map]; omega) (by rw [List.length_map]; exact hc) (by rw [e1]; show (Lib.join xs sep).length ≤ _; omega)
 rw [e1, List.length_map] at h
 rw [hA]
 refine Calls.mono h ?_
 rintro e w' ⟨rfl, hw⟩
 exact ⟨_, [], rfl, ⟨rfl, rfl⟩, hp_below hI hw⟩
def txs (ops : List Ro) (j : Nat) : List Bs := (ops.take j).map roT ++ List.replicate (ops.length - j) []
theorem txs_zero (ops : List Ro) : txs ops 0 = List.replicate ops.length [] := rfl
theorem txs_len (ops : List Ro) {j : Nat} (hj : j ≤ ops.length) : (txs ops j).length = ops.length := by
 unfold txs
 rw [List.length_append, List.length_map, List.length_take, List.length_replicate]; omega
theorem txs_set {ops : List Ro} {j : Nat} (hj : j < ops.length) : (txs ops j).set j (roT (ops.getD j roK.d)) = txs ops (j + 1) := by
 unfold txs
 have e1 : ops.take (j + 1) = ops.take j ++ [ops.getD j roK.d] := by
  rw [List.take_add_one, List.getD, List.getElem?_eq_getElem hj]; rfl
 have e2 : ops.length - j = (ops.length - (j + 1)) + 1 := by omega
 rw [e1, e2, List.replicate_succ, List.set_append_right _ _ (by rw [List.length_map, List.length_take]; omega), List.length_map, List.length_take]
 have e3 : j - min j ops.length = 0 := by omega
 rw [e3]
 simp
theorem txs_end (ops : List Ro) : txs ops ops.length = ops.map roT := by unfold txs; rw [List.take_length, Nat.sub_self]; simp
theorem ops_join {ops : List Ro} (h : ops ≠ []) : [58, 32] ++ Lib.join (ops.map roT) [59, 32] = opsT ops := by
 cases ops with
 | nil => exact absurd rfl h
 | cons o r => rw [join_more]; rfl

set_option maxRecDepth 100000 in
set_option maxHeartbeats 8000000 in
theorem formatOps_fn {A : Option Addr} {c : Nat} {ops : List Ro} {w : World} (hs : RS w roK A ops) (hr : ∀ o ∈ ops, rgO o) (hl : ops.length ≤ 16) (hP : PowR w) : Fx Tryz.prog 40 [.slice A ops.length c] w [] at5 (fun x L => x = .string (bs (opsT ops)) ∧ L = []) := by
 refine Sv.Fx.body Tryz.func40 rfl T40 rfl ?_
 intro I hro hI
 refine KV.env [(0, _)] ⟨rfl, trivial⟩ (CV.seq (CV.region ?_))
 refine RV.s (Step.assign (v := .string (Sv.bs [])) rfl) rfl ?_
 refine RV.nil (KV.then_n (KV.env [(0, _)] ⟨rfl, trivial⟩ (CV.seq (CV.region ?_))))
 refine RV.m rfl rfl (RV.s (Step.lenSl Tryz.underlying46 rfl) rfl ?_)
 refine RV.op (OV.make (K := strK) (ops.length) (ops.length) ([]) Tryz.underlying22 I9 rfl rfl rfl rfl rfl (by omega) (by omega) (by omega) gno rfl (fun tA => ?_))
 rw [← txs_zero ops]
 refine RV.a rfl rfl ?_
 refine RV.nil (KV.then_n (KV.env [(0, _), (3, _)] ⟨rfl, rfl, trivial⟩ (CV.seq (CV.seq (CV.region ?_)))))
 refine RV.m rfl rfl (RV.s (Step.lenSl Tryz.underlying46 rfl) rfl (RV.m rfl rfl ?_))
 refine RV.nil (KV.then_n (KV.env [(3, _), (9, _), (10, _), (11, _)] ⟨rfl, rfl, rfl, rfl, trivial⟩ (CV.block ?_)))
 refine KV.sel [0] [_] rfl ?_
 refine CV.loopI (fun (j : Nat) => j ≤ ops.length) (fun (j : Nat) => ops.length - j) (fun (j : Nat) => [(3, .slice tA ops.length ops.length), (9, .slice A ops.length c), (10, .int .i64 ops.length), (11, .int .i64 j)]) (fun (j : Nat) => Hp I w [OS 9 strK tA ops.length (txs ops j)]) (0) (Nat.zero_le _) ⟨rfl, rfl, rfl, rfl, trivial⟩ (fun _ h => h) ?_
 intro j hjl
 refine CV.seq (CV.region ?_)
 refine RV.op (OV.split gno (Step.lss rfl rfl) rfl (fun hj => ?_) (fun hj => ?_))
 ·
  refine RV.nil (KV.then_n (KV.env [(3, _), (9, _), (10, _), (11, _), (12, _)] ⟨rfl, rfl, rfl, rfl, rfl, trivial⟩ (CV.seq (CV.cond_t rfl (CV.skip ?_)))))
  refine KV.then_n (KV.env [(3, _), (9, _), (10, _), (11, _)] ⟨rfl, rfl, rfl, rfl, trivial⟩ (CV.seq (CV.block (CV.seq (CV.region ?_)))))
  refine RV.m rfl rfl ?_
  refine RV.op (OV.step gno (Step.idx Tryz.underlying46 I59 (fun w h => (h.rs hs fun _ => hI _)) rfl rfl (by first | rfl | exact htl.symm | omega) _ rfl (by omega)) rfl ?_)
  refine RV.s (Step.loadN _ Tryz.underlying59 rfl I59 rfl rfl (fun w h => (h.rs hs fun _ => hI _).cells (by omega))) rfl ?_
  refine RV.op (OV.alloc #[.bool false, .int .u64 0, .int .u64 0] I59 rfl gno rfl (fun x => ?_))
  refine RV.a rfl rfl ?_
  refine RV.op (OV.store 1 [_, _, _] #[_, _, _] I59 rfl rfl rfl rfl rfl (Nat.le_of_ble_eq_true rfl) (by simp [Value.oneCell']) rfl gno ?_)
  have hrj := rg_at hr (j := j) (by omega)
  have e1 := dec_len hrj.1
  have e2 := dec_len hrj.2
  have htl := txs_len ops (j := j) (by omega)
  refine RV.nil (KV.then_n (KV.env [(3, _), (4, _), (5, _), (9, _), (10, _), (11, _)] ⟨rfl, rfl, rfl, rfl, rfl, rfl, trivial⟩ (CV.seq (CV.region ?_))))
  refine RV.s (Step.fieldAddr rfl (F59_0 _ _)) rfl (RV.s (Step.load Tryz.underlying4 rfl rfl (fun w h => h.cell 1 rfl rfl)) rfl ?_)
  refine RV.nil (KV.then_n (KV.env [(3, _), (4, _), (5, _), (9, _), (10, _), (11, _), (17, _)] ⟨rfl, rfl, rfl, rfl, rfl, rfl, rfl, trivial⟩ ?_))
  refine KV.cases 17 rfl (fun cc1 => ?_) (fun cc1 => ?_)
  ·
   have hw := cc1
   refine CV.cond_t rfl ?_
   refine CV.any (Hp I w [Blk x (.cells #[.bool (ops.getD j roK.d).wr, .int .u64 (ops.getD j roK.d).reg, .int .u64 (ops.getD j roK.d).val] 59 (0, 0))]) (by kernel_rfl) (fun _ h => h.drew) 13 rfl ?_
   refine AV.u 0 (bl 13 1) rfl gno (Step.move rfl) rfl (fun _ h => h.sel [1] rfl) ?_
   refine AV.u 1 (bl 13 3) rfl gno (Step.move rfl) rfl (fun _ h => h.sel [1] rfl) ?_
   refine AV.u 2 (bl 13 7) rfl gno (Step.fieldAddr rfl (F59_1 _ _)) rfl (fun _ h => h.sel [1] rfl) ?_
   refine AV.u 3 (bl 13 15) rfl gno (Step.load Tryz.underlying43 rfl rfl (fun w h => h.cell 0 rfl rfl)) rfl (fun _ h => h.sel [1] rfl) ?_
   refine AV.u 7 (bl 13 143) rfl gno (Step.fieldAddr rfl (F59_2 _ _)) rfl (fun _ h => h.sel [1] rfl) ?_
   refine AV.u 8 (bl 13 399) rfl gno (Step.load Tryz.underlying43 rfl rfl (fun w h => h.cell 0 rfl rfl)) rfl (fun _ h => h.sel [1] rfl) ?_
   refine AV.all [4] (by kernel_rfl) (by decide) ?_
   refine ⟨⟨_, rfl, ?_⟩, trivial⟩
   ·
    refine OV.call [] (F := [_, _]) Tryz.func63 B63 N63 rfl rfl (fun w h => decimal_fn (ops.getD j roK.d).reg hrj.1 (PowR.keep h hP (hro 5 rfl))) (fun b hb => roAt5 hP hro b hb) gno rfl (fun v L' hp => ?_)
    obtain ⟨rfl, rfl⟩ := hp
    simp only [List.append_nil]
    refine AV.next (bl 13 415) (by kernel_rfl) (fun _ h => h.sel [1] rfl) ?_
    refine AV.u 5 (bl 13 447) rfl gno (Step.addStr (l := [119, 114, 105, 116, 101, 32]) rfl rfl (by (simp only [List.length_append, List.length_cons, List.length_nil]; omega))) rfl (fun _ h => h.sel [1] rfl) ?_
    refine AV.u 6 (bl 13 511) rfl gno (Step.addStr (l2 := [32]) rfl rfl (by (simp only [List.length_append, List.length_cons, List.length_nil]; omega))) rfl (fun _ h => h.sel [1] rfl) ?_
    refine AV.all [9] (by kernel_rfl) (by decide) ?_
    refine ⟨⟨_, rfl, ?_⟩, trivial⟩
    ·
     refine OV.call [] (F := [_, _]) Tryz.func63 B63 N63 rfl rfl (fun w h => decimal_fn (ops.getD j roK.d).val hrj.2 (PowR.keep h hP (hro 5 rfl))) (fun b hb => roAt5 hP hro b hb) gno rfl (fun v L' hp => ?_)
     obtain ⟨rfl, rfl⟩ := hp
     simp only [List.append_nil]
     refine AV.next (bl 13 1023) (by kernel_rfl) (fun _ h => h.sel [1] rfl) ?_
     refine AV.u 10 (bl 13 2047) rfl gno (Step.addStr rfl rfl (by (simp only [List.length_append, List.length_cons, List.length_nil]; omega))) rfl (fun _ h => h.sel [1] rfl) ?_
     refine AV.all [11] (by kernel_rfl) (by decide) ?_
     refine ⟨⟨_, rfl, ?_⟩, trivial⟩
     ·
      refine OV.step gno (Step.idx Tryz.underlying22 I9 (fun w h => h.os 0 rfl) rfl rfl (by first | rfl | exact htl.symm | omega) _ rfl (by omega)) rfl ?_
      refine AV.next (bl 13 4095) (by kernel_rfl) (fun _ h => h.sel [1] rfl) ?_
      refine AV.all [12] (by kernel_rfl) (by decide) ?_
      refine ⟨⟨_, rfl, ?_⟩, trivial⟩
      ·
       refine OV.storeE 0 (j) (((sWrS ++ dec (ops.getD j roK.d).reg) ++ [32]) ++ dec (ops.getD j roK.d).val) (j := 0) [_] I9 rfl rfl rfl rfl rfl rfl (by omega) rfl (Nat.le_of_ble_eq_true rfl) gno ?_
       refine AV.next (bl 13 8191) (by kernel_rfl) (fun _ h => h.sel [1] rfl) ?_
       refine AV.done (by kernel_rfl) ?_
       refine KV.block_n (KV.then_n (KV.env [(3, _), (9, _), (10, _), (11, _)] ⟨rfl, rfl, rfl, rfl, trivial⟩ (CV.region ?_)))
       (first | refine RV.op (OV.step gno (Step.add rfl rfl (wI64 (by omega) (by omega))) rfl ?_) | refine RV.op (OV.step gno (Step.add rfl rfl rfl) rfl ?_))
       refine RV.m rfl rfl ?_
       refine RV.nil (KV.then_n (KV.env [(3, _), (9, _), (10, _), (11, _)] ⟨rfl, rfl, rfl, rfl, trivial⟩ ?_))
       refine KV.sel [0] [_] rfl ?_
       exact KV.loopI (z := j) (j + 1) (by omega) (by omega) ⟨rfl, rfl, rfl, rfl, trivial⟩ (fun _ h => by first | exact h | (rw [← txs_set (by omega)]; first | (unfold roT; rw [if_pos hw]; exact h) | (unfold roT; rw [if_neg (by rw [hw]; decide)]; exact h)))
  ·
   have hw := cc1
   refine CV.cond_f rfl (CV.region ?_)
   refine RV.m rfl rfl (RV.m rfl rfl (RV.s (Step.fieldAddr rfl (F59_1 _ _)) rfl (RV.s (Step.load Tryz.underlying43 rfl rfl (fun w h => h.cell 1 rfl rfl)) rfl ?_)))
   refine RV.op (OV.call [] (F := [_, _]) Tryz.func63 B63 N63 rfl rfl (fun w h => decimal_fn (ops.getD j roK.d).reg hrj.1 (PowR.keep h hP (hro 5 rfl))) (fun b hb => roAt5 hP hro b hb) gno rfl (fun v L' hp => ?_))
   obtain ⟨rfl, rfl⟩ := hp
   simp only [List.append_nil]
   refine RV.s (Step.addStr (l := [114, 101, 97, 100, 32]) rfl rfl (by (simp only [List.length_append, List.length_cons, List.length_nil]; omega))) rfl ?_
   refine RV.op (OV.step gno (Step.idx Tryz.underlying22 I9 (fun w h => h.os 0 rfl) rfl rfl (by first | rfl | exact htl.symm | omega) _ rfl (by omega)) rfl ?_)
   refine RV.op (OV.storeE 0 (j) (sRdS ++ dec (ops.getD j roK.d).reg) (j := 0) [_] I9 rfl rfl rfl rfl rfl rfl (by omega) rfl (Nat.le_of_ble_eq_true rfl) gno ?_)
   refine RV.nil (KV.block_n (KV.then_n (KV.env [(3, _), (9, _), (10, _), (11, _)] ⟨rfl, rfl, rfl, rfl, trivial⟩ (CV.region ?_))))
   (first | refine RV.op (OV.step gno (Step.add rfl rfl (wI64 (by omega) (by omega))) rfl ?_) | refine RV.op (OV.step gno (Step.add rfl rfl rfl) rfl ?_))
   refine RV.m rfl rfl ?_
   refine RV.nil (KV.then_n (KV.env [(3, _), (9, _), (10, _), (11, _)] ⟨rfl, rfl, rfl, rfl, trivial⟩ ?_))
   refine KV.sel [0] [_] rfl ?_
   exact KV.loopI (z := j) (j + 1) (by omega) (by omega) ⟨rfl, rfl, rfl, rfl, trivial⟩ (fun _ h => by first | exact h | (rw [← txs_set (by omega)]; first | (unfold roT; rw [if_pos hw]; exact h) | (unfold roT; rw [if_neg (by rw [hw]; decide)]; exact h)))
 ·
  refine RV.nil (KV.then_n (KV.env [(3, _), (9, _), (10, _), (11, _), (12, _)] ⟨rfl, rfl, rfl, rfl, rfl, trivial⟩ (CV.seq (CV.cond_f rfl (CV.exit ?_)))))
  refine KV.then_exit (KV.then_exit (KV.block_hit (KV.then_n (KV.env [(3, _)] ⟨rfl, trivial⟩ (CV.seq ?_)))))
  refine CV.seq ?_
  obtain rfl : j = ops.length := by omega
  rw [txs_end]
  refine CV.region ?_
  refine RV.m rfl rfl (RV.s (Step.lenSl Tryz.underlying22 rfl) rfl ?_)
  refine RV.op (OV.split gno (Step.eql rfl rfl) rfl (fun hz => ?_) (fun hz => ?_))
  ·
   refine RV.nil (KV.then_n (KV.env [(3, _), (40, _)] ⟨rfl, rfl, trivial⟩ (CV.cond_t rfl (CV.seq (CV.region ?_)))))
   refine RV.s (Step.assign (v := .string (Sv.bs [])) rfl) rfl ?_
   refine RV.nil (KV.then_n (KV.env [(2, _)] ⟨rfl, trivial⟩ (CV.ret (KV.then_ret ?_))))
   refine KV.sel [] [] rfl ?_
   exact KV.ret1 rfl rfl _ (fun _ h => h) ⟨by rw [List.eq_nil_of_length_eq_zero (l := ops) (by omega)]; rfl, rfl⟩
  ·
   refine RV.nil (KV.then_n (KV.env [(3, _), (40, _)] ⟨rfl, rfl, trivial⟩ (CV.cond_f rfl (CV.skip (KV.then_n ?_)))))
   refine KV.env [(3, _)] ⟨rfl, trivial⟩ (CV.seq ?_)
   have hne : ops ≠ [] := fun e => hz (by rw [e]; rfl)
   have hq0 := opsT_len hr
   rw [← ops_join hne] at hq0
   simp only [List.length_append, List.length_cons, List.length_nil] at hq0
   rw [show ops.length = (ops.map roT).length from (List.length_map _).symm]
   refine CV.region ?_
   refine RV.m rfl rfl ?_
   refine RV.op (OV.call [] (F := [_]) Tryz.func64 B64 N64 rfl rfl (fun w h => join_fn (h.os 0 rfl) (by rw [List.length_map]; omega) (by have := h.osCap 0 rfl; exact this.1) [59, 32] (by rw [List.length_map]; omega) (by have hq := opsT_len hr; rw [← ops_join hne] at hq; simp only [List.length_append, List.length_cons, List.length_nil] at hq; omega)) (fun _ hb => hb.elim) gno rfl (fun v L' hp => ?_))
   obtain ⟨rfl, rfl⟩ := hp
   simp only [List.append_nil]
   refine RV.s (Step.addStr (l := [58, 32]) rfl rfl (by (simp only [List.length_append, List.length_cons, List.length_nil]; omega))) rfl ?_
   refine RV.a rfl rfl ?_
   refine RV.nil (KV.then_n (KV.env [(2, _)] ⟨rfl, trivial⟩ (CV.ret ?_)))
   refine KV.sel [] [] rfl ?_
   exact KV.ret1 rfl rfl _ (fun _ h => h) ⟨by rw [ops_join hne], rfl⟩
end Go.Proofs.YtplmfekhdaefaaaGreatDoor
