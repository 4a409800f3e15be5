/-
 Walks, part 37.
-/
import Derived.Test.YtplmfekhdaefaaaGreatDoorTabB
import Derived.Test.YtplmfekhdaefaaaGreatDoorW10
import Derived.Test.YtplmfekhdaefaaaGreatDoorDm33
import Derived.Test.YtplmfekhdaefaaaGreatDoorDmB
set_option linter.unusedSimpArgs false
set_option linter.unusedVariables false
namespace Go.Proofs.YtplmfekhdaefaaaGreatDoor
open Go.Sv Go.Drv
theorem dgt_fin : ∀ p : Fin 10, ((([48, 49, 50, 51, 52, 53, 54, 55, 56, 57] : Bs).take (p.val + 1)).drop p.val) = [UInt8.ofNat (48 + p.val)] := by decide
theorem dgt {p : Nat} (h : p < 10) : ((([48, 49, 50, 51, 52, 53, 54, 55, 56, 57] : Bs).take (p + 1)).drop p) = [UInt8.ofNat (48 + p)] := dgt_fin ⟨p, h⟩
theorem dec_step {n : Nat} (h : 9 < n) : Lib.decDigits n = Lib.decDigits (n / 10) ++ [UInt8.ofNat (48 + n % 10)] := by rw [Lib.decDigits, dif_neg (by omega)]
theorem dec_last {n : Nat} (h : ¬ 9 < n) : Lib.decDigits n = [UInt8.ofNat (48 + n)] := by rw [Lib.decDigits, dif_pos (by omega)]

set_option maxRecDepth 100000 in
set_option maxHeartbeats 4000000 in
theorem rdec_fn (v : Int) (hv : u64 v) : FxP Tryz.prog 47 [.int .u64 v] (.string (bs (dec v))) := by
 refine Sv.FxP.body Tryz.func47 rfl T47 rfl ?_
 intro wp
 refine KV.env [(0, _)] ⟨rfl, trivial⟩ ?_
 have hv0 := hv.1
 have hv1 := hv.2
 have hdl := dec_len hv
 refine CV.seq (CV.region ?_)
 refine RV.s (Step.assign (v := .string (Sv.bs [])) rfl) rfl ?_
 refine RV.nil (KV.then_n (KV.env [(0, _)] ⟨rfl, trivial⟩ (CV.seq (CV.region ?_))))
 refine RV.s (Step.assign (v := .string (Sv.bs [])) rfl) rfl ?_
 refine RV.nil (KV.then_n (KV.env [(0, _), (3, _)] ⟨rfl, rfl, trivial⟩ (CV.seq (CV.block ?_))))
 refine CV.loop2 (fun (n : Nat) (s : Bs) => dec v = Lib.decDigits n ++ s ∧ n < 18446744073709551616) (fun (n : Nat) (s : Bs) => n) (fun (n : Nat) (s : Bs) => [(0, .int .u64 (n : Int)), (3, .string (bs s))]) (fun (n : Nat) (s : Bs) => fun w1 => w1 = wp) (v.toNat) ([]) ⟨by simp [dec], by omega⟩ ⟨(by show some (Value.int .u64 v) = _; rw [Int.toNat_of_nonneg hv0]), rfl, trivial⟩ (fun _ h => h) ?_
 intro n s hinv
 refine CV.seq (CV.seq (CV.region ?_))
 refine RV.m rfl rfl ?_
 refine RV.op (OV.split gno (Step.gtr rfl rfl) rfl (fun h9 => ?_) (fun h9 => ?_))
 ·
  refine RV.nil (KV.then_n (KV.env [(0, _), (3, _), (5, _)] ⟨rfl, rfl, rfl, trivial⟩ (CV.cond_t rfl (CV.skip (KV.then_n ?_)))))
  refine KV.env [(0, _), (3, _)] ⟨rfl, rfl, trivial⟩ (CV.block (CV.seq ?_))
  have hsl : (Lib.decDigits n ++ s).length ≤ 20 := by rw [← hinv.1]; exact hdl
  rw [List.length_append] at hsl
  refine CV.region ?_
  refine RV.m rfl rfl ?_
  refine RV.s (Step.rem rfl rfl (by omega) ((tmodN n 10))) rfl ?_
  refine RV.m rfl rfl ?_
  refine RV.s (Step.rem rfl rfl (by omega) ((tmodN n 10))) rfl ?_
  refine RV.s (Step.add rfl rfl (wU64 (by omega) (by omega))) rfl ?_
  refine RV.op (OV.step gno (Step.slStrLH (l := [48, 49, 50, 51, 52, 53, 54, 55, 56, 57]) Tryz.underlying9 rfl rfl rfl (n % 10) (n % 10 + 1) (rfl) ((by omega)) (by first | omega | (simp only [List.length_cons, List.length_nil]; omega)) (by first | omega | (simp only [List.length_cons, List.length_nil]; omega))) rfl ?_)
  refine RV.m rfl rfl ?_
  refine RV.s (Step.addStr rfl rfl (by (rw [dgt (Nat.mod_lt _ (by decide))]; simp only [List.length_cons, List.length_nil]; omega))) rfl ?_
  refine RV.a rfl rfl ?_
  refine RV.nil (KV.then_n (KV.env [(0, _), (3, _)] ⟨rfl, rfl, trivial⟩ (CV.region ?_)))
  refine RV.m rfl rfl ?_
  refine RV.s (Step.quo rfl rfl (by omega) ((wU64 (x := ((n / 10 : Nat) : Int)) (by omega) (by omega)))) rfl ?_
  refine RV.a rfl rfl ?_
  refine RV.nil (KV.block_n (KV.then_n (KV.env [(0, _), (3, _)] ⟨rfl, rfl, trivial⟩ ?_)))
  exact KV.loop2 (x := n) (y := s) (n / 10) ([UInt8.ofNat (48 + n % 10)] ++ s) ⟨by rw [hinv.1, dec_step (by omega)]; simp, by omega⟩ (by omega) ⟨rfl, (by rw [← dgt (Nat.mod_lt n (by decide))]; rfl), trivial⟩ (fun _ h => h)
 ·
  refine RV.nil (KV.then_n (KV.env [(0, _), (3, _), (5, _)] ⟨rfl, rfl, rfl, trivial⟩ (CV.cond_f rfl (CV.exit (KV.then_exit ?_)))))
  refine KV.then_exit (KV.block_hit (KV.then_n (KV.env [(0, _), (3, _)] ⟨rfl, rfl, trivial⟩ (CV.seq ?_))))
  have hsl : (Lib.decDigits n ++ s).length ≤ 20 := by rw [← hinv.1]; exact hdl
  rw [List.length_append] at hsl
  refine CV.region ?_
  refine RV.m rfl rfl (RV.m rfl rfl ?_)
  refine RV.s (Step.add rfl rfl (wU64 (by omega) (by omega))) rfl ?_
  refine RV.op (OV.step gno (Step.slStrLH (l := [48, 49, 50, 51, 52, 53, 54, 55, 56, 57]) Tryz.underlying9 rfl rfl rfl (n) (n + 1) (rfl) ((by omega)) (by first | omega | (simp only [List.length_cons, List.length_nil]; omega)) (by first | omega | (simp only [List.length_cons, List.length_nil]; omega))) rfl ?_)
  refine RV.m rfl rfl ?_
  refine RV.s (Step.addStr rfl rfl (by (rw [dgt (by omega)]; simp only [List.length_cons, List.length_nil]; omega))) rfl ?_
  refine RV.a rfl rfl ?_
  refine RV.nil (KV.then_n (KV.env [(2, _)] ⟨rfl, trivial⟩ (CV.ret ?_)))
  exact KV.retP1 rfl rfl (by rw [dgt (by omega), ← dec_last (by omega), hinv.1])

theorem gd_app (s : Bs) {g : Gd} (h : g.used = true) : s ++ gdT g = ((((((s ++ [32, 105, 102, 32]) ++ dec g.reg) ++ [32, 38, 32]) ++ dec g.mask) ++ [32, 61, 32]) ++ dec g.val) := by
 unfold gdT
 rw [if_pos h]
 simp [sIfS, sAmp, sEqS]
theorem gd_no (s : Bs) {g : Gd} (h : g.used = false) : s ++ gdT g = s := by
 unfold gdT
 rw [if_neg (by rw [h]; decide), List.append_nil]
theorem ops_snoc {ops : List Ro} {j : Nat} (hj : j < ops.length) : opsT (ops.take (j + 1)) = (opsT (ops.take j) ++ (if j = 0 then [58, 32] else [59, 32])) ++ roT (ops.getD j roK.d) := by
 have e1 : ops.take (j + 1) = ops.take j ++ [ops.getD j roK.d] := by
  rw [List.take_add_one, List.getD, List.getElem?_eq_getElem hj]; rfl
 rw [e1]
 cases j with
 | zero => simp [opsT, moreT]
 | succ j =>
  rw [if_neg (by omega)]
  cases ops with
  | nil => simp at hj
  | cons o r =>
   show opsT (o :: (r.take j ++ [_])) = opsT (o :: r.take j) ++ [59, 32] ++ _
   unfold opsT moreT
   simp
theorem roT_t {o : Ro} (h : o.wr = true) : roT o = ((sWrS ++ dec o.reg) ++ [32]) ++ dec o.val := by unfold roT; rw [if_pos h]
theorem roT_f {o : Ro} (h : o.wr = false) : roT o = sRdS ++ dec o.reg := by unfold roT; rw [if_neg (by rw [h]; decide)]
def trX (t : Tr) (to : Bs) : Bs := (((((sOnS ++ t.ev) ++ gdT t.gd) ++ sArr) ++ to) ++ opsT t.ops) ++ [10]
def hdX (t : Tr) (to : Bs) : Bs := (((sOnS ++ t.ev) ++ gdT t.gd) ++ sArr) ++ to

set_option maxRecDepth 100000 in
set_option maxHeartbeats 16000000 in
theorem rtransition_fn (h0 : TH) (to : Bs) {w : World} (ho : RS w roK h0.A h0.t.ops) (hr : rgT h0.t) (hl : h0.t.ops.length ≤ 16) (he : h0.t.ev.length ≤ 32) (hto : to.length ≤ 32) : Fx Tryz.prog 24 [.agg #[.int .i64 h0.t.frm, .string (bs h0.t.ev), .bool h0.t.gd.used, .int .u64 h0.t.gd.reg, .int .u64 h0.t.gd.mask, .int .u64 h0.t.gd.val, .slice h0.A h0.t.ops.length h0.c, .int .i64 h0.t.to], .string (bs to)] w [] no (fun x L => x = .string (bs (trX h0.t to)) ∧ L = []) := by
 refine Sv.Fx.body Tryz.func24 rfl T24 rfl ?_
 intro I hro hI
 refine KV.env [(0, _), (1, _)] ⟨rfl, rfl, trivial⟩ ?_
 have e1 := dec_len hr.1.1
 have e2 := dec_len hr.1.2.1
 have e3 := dec_len hr.1.2.2
 have e9 := gdT_len hr.1
 refine CV.seq (CV.region ?_)
 refine RV.op (OV.box (t := 48) #[_, _, _, _, _, _, _, _] rfl rfl gno rfl (fun q => ?_))
 refine RV.s (Step.assign (v := .string (Sv.bs [])) rfl) rfl ?_
 refine RV.nil (KV.then_n (KV.env [(1, _), (2, _)] ⟨rfl, rfl, trivial⟩ (CV.seq (CV.region ?_))))
 refine RV.s (Step.fieldAddr rfl (F48_1 _ _)) rfl (RV.s (Step.load Tryz.underlying9 rfl rfl (fun w h => h.cell 0 rfl rfl)) rfl ?_)
 refine RV.s (Step.addStr (l := [32, 32, 111, 110, 32]) rfl rfl (by (simp only [List.length_append, List.length_cons, List.length_nil]; omega))) rfl ?_
 refine RV.a rfl rfl ?_
 refine RV.nil (KV.then_n (KV.env [(1, _), (2, _), (5, _)] ⟨rfl, rfl, rfl, trivial⟩ ?_))
 refine CV.join (α := Unit) (fun _ => [(1, .string (bs to)), (2, .pointer (some ⟨q, 0, none⟩)), (5, .string (bs ((sOnS ++ h0.t.ev) ++ gdT h0.t.gd)))]) (fun _ => Hp I w [Blk q (.cells #[.int .i64 h0.t.frm, .string (bs h0.t.ev), .bool h0.t.gd.used, .int .u64 h0.t.gd.reg, .int .u64 h0.t.gd.mask, .int .u64 h0.t.gd.val, .slice h0.A h0.t.ops.length h0.c, .int .i64 h0.t.to] 48 (0, 0))]) ?_ ?_
 ·
  skip
  refine CV.seq (CV.region ?_)
  refine RV.s (Step.fieldAddr rfl (F48_2 _ _)) rfl (RV.s (Step.fieldAddr rfl (F45_0 _ _)) rfl (RV.s (Step.load Tryz.underlying4 rfl rfl (fun w h => h.cell 0 rfl rfl)) rfl ?_))
  refine RV.nil (KV.then_n (KV.env [(1, _), (2, _), (5, _), (12, _)] ⟨rfl, rfl, rfl, rfl, trivial⟩ ?_))
  refine KV.cases 12 rfl (fun cc1 => ?_) (fun cc1 => ?_)
  ·
   have hu := cc1
   refine CV.cond_t rfl ?_
   refine CV.still (by kernel_rfl) (by kernel_rfl) (fun _ h => h.drew) ?_
   refine SV.step gno (Step.move rfl) rfl ?_
   refine SV.step gno (Step.addStr (l2 := [32, 105, 102, 32]) rfl rfl (by (simp only [List.length_append, List.length_cons, List.length_nil]; omega))) rfl ?_
   refine SV.step gno (Step.fieldAddr rfl (F48_2 _ _)) rfl ?_
   refine SV.step gno (Step.fieldAddr rfl (F45_1 _ _)) rfl ?_
   refine SV.step gno (Step.load Tryz.underlying43 rfl rfl (fun w h => h.cell 0 rfl rfl)) rfl ?_
   refine SV.call Tryz.func47 B47 N47 rfl (rdec_fn h0.t.gd.reg hr.1.1) gno rfl ?_
   refine SV.step gno (Step.addStr rfl rfl (by (simp only [List.length_append, List.length_cons, List.length_nil]; omega))) rfl ?_
   refine SV.step gno (Step.addStr (l2 := [32, 38, 32]) rfl rfl (by (simp only [List.length_append, List.length_cons, List.length_nil]; omega))) rfl ?_
   refine SV.step gno (Step.fieldAddr rfl (F48_2 _ _)) rfl ?_
   refine SV.step gno (Step.fieldAddr rfl (F45_2 _ _)) rfl ?_
   refine SV.step gno (Step.load Tryz.underlying43 rfl rfl (fun w h => h.cell 0 rfl rfl)) rfl ?_
   refine SV.call Tryz.func47 B47 N47 rfl (rdec_fn h0.t.gd.mask hr.1.2.1) gno rfl ?_
   refine SV.step gno (Step.addStr rfl rfl (by (simp only [List.length_append, List.length_cons, List.length_nil]; omega))) rfl ?_
   refine SV.step gno (Step.addStr (l2 := [32, 61, 32]) rfl rfl (by (simp only [List.length_append, List.length_cons, List.length_nil]; omega))) rfl ?_
   refine SV.step gno (Step.fieldAddr rfl (F48_2 _ _)) rfl ?_
   refine SV.step gno (Step.fieldAddr rfl (F45_3 _ _)) rfl ?_
   refine SV.step gno (Step.load Tryz.underlying43 rfl rfl (fun w h => h.cell 0 rfl rfl)) rfl ?_
   refine SV.call Tryz.func47 B47 N47 rfl (rdec_fn h0.t.gd.val hr.1.2.2) gno rfl ?_
   refine SV.step gno (Step.addStr rfl rfl (by (simp only [List.length_append, List.length_cons, List.length_nil]; omega))) rfl ?_
   refine SV.step gno (Step.assign rfl) rfl ?_
   refine SV.nil (KV.then_n (KV.env [(1, _), (2, _), (5, _)] ⟨rfl, rfl, rfl, trivial⟩ ?_))
   refine KV.sel [0] [_] rfl ?_
   exact KV.join () ⟨rfl, rfl, (by first | (rw [gd_app _ hu]; rfl) | (rw [gd_no _ hu]; rfl)), trivial⟩ (fun _ h => h)
  ·
   have hu := cc1
   refine CV.cond_f rfl (CV.skip (KV.then_n (KV.env [(1, _), (2, _), (5, _)] ⟨rfl, rfl, rfl, trivial⟩ ?_)))
   refine KV.sel [0] [_] rfl ?_
   exact KV.join () ⟨rfl, rfl, (by first | (rw [gd_app _ hu]; rfl) | (rw [gd_no _ hu]; rfl)), trivial⟩ (fun _ h => h)
 ·
  intro _
  refine CV.seq (CV.region ?_)
  refine RV.m rfl rfl ?_
  refine RV.s (Step.addStr (l2 := [32, 45, 62, 32]) rfl rfl (by (simp only [List.length_append, sOnS, List.length_cons, List.length_nil]; omega))) rfl ?_
  refine RV.m rfl rfl ?_
  refine RV.s (Step.addStr rfl rfl (by (simp only [List.length_append, sOnS, List.length_cons, List.length_nil]; omega))) rfl ?_
  refine RV.a rfl rfl ?_
  refine RV.nil (KV.then_n (KV.env [(2, _), (5, _)] ⟨rfl, rfl, trivial⟩ (CV.seq (CV.seq (CV.region ?_)))))
  refine RV.a rfl rfl ?_
  refine RV.nil (KV.then_n (KV.env [(2, _), (5, _), (6, _)] ⟨rfl, rfl, rfl, trivial⟩ (CV.block ?_)))
  refine KV.sel [0] [_] rfl ?_
  refine CV.loopI (fun (j : Nat) => j ≤ h0.t.ops.length) (fun (j : Nat) => h0.t.ops.length - j) (fun (j : Nat) => [(2, .pointer (some ⟨q, 0, none⟩)), (5, .string (bs (hdX h0.t to ++ opsT (h0.t.ops.take j)))), (6, .int .i64 j)]) (fun (j : Nat) => Hp I w [Blk q (.cells #[.int .i64 h0.t.frm, .string (bs h0.t.ev), .bool h0.t.gd.used, .int .u64 h0.t.gd.reg, .int .u64 h0.t.gd.mask, .int .u64 h0.t.gd.val, .slice h0.A h0.t.ops.length h0.c, .int .i64 h0.t.to] 48 (0, 0))]) (0) (Nat.zero_le _) ⟨rfl, (by rw [List.take_zero]; unfold opsT; rw [List.append_nil]; rfl), rfl, trivial⟩ (fun _ h => h) ?_
  intro j hjl
  refine CV.seq (CV.seq (CV.region ?_))
  refine RV.m rfl rfl (RV.s (Step.fieldAddr rfl (F48_3 _ _)) rfl (RV.s (Step.load Tryz.underlying46 rfl rfl (fun w h => h.cell 0 rfl rfl)) rfl (RV.s (Step.lenSl Tryz.underlying46 rfl) rfl ?_)))
  refine RV.op (OV.split gno (Step.lss rfl rfl) rfl (fun hj => ?_) (fun hj => ?_))
  ·
   have hrj := rg_at hr.2 (j := j) (by omega)
   have e4 := dec_len hrj.1
   have e5 := dec_len hrj.2
   have e6 := opsT_len (l := h0.t.ops.take j) (fun o ho2 => hr.2 o (List.mem_of_mem_take ho2))
   have e7 : (h0.t.ops.take j).length ≤ 16 := by rw [List.length_take]; omega
   have e8 : (hdX h0.t to).length ≤ 300 := by unfold hdX; simp only [List.length_append, sOnS, sArr, List.length_cons, List.length_nil]; omega
   refine RV.nil (KV.then_n (KV.env [(2, _), (5, _), (6, _), (40, _)] ⟨rfl, rfl, rfl, rfl, trivial⟩ (CV.cond_t rfl (CV.skip (KV.then_n ?_)))))
   refine KV.env [(2, _), (5, _), (6, _)] ⟨rfl, rfl, rfl, trivial⟩ (CV.seq (CV.block ?_))
   refine CV.join (α := Unit) (fun _ => [(2, .pointer (some ⟨q, 0, none⟩)), (5, .string (bs ((hdX h0.t to ++ opsT (h0.t.ops.take j)) ++ (if j = 0 then [58, 32] else [59, 32])))), (6, .int .i64 j)]) (fun _ => Hp I w [Blk q (.cells #[.int .i64 h0.t.frm, .string (bs h0.t.ev), .bool h0.t.gd.used, .int .u64 h0.t.gd.reg, .int .u64 h0.t.gd.mask, .int .u64 h0.t.gd.val, .slice h0.A h0.t.ops.length h0.c, .int .i64 h0.t.to] 48 (0, 0))]) ?_ ?_
   ·
    skip
    refine CV.seq (CV.region ?_)
    refine RV.m rfl rfl ?_
    refine RV.op (OV.split gno (Step.eql rfl rfl) rfl (fun hz => ?_) (fun hz => ?_))
    ·
     refine RV.nil (KV.then_n (KV.env [(2, _), (5, _), (6, _), (44, _)] ⟨rfl, rfl, rfl, rfl, trivial⟩ (CV.cond_t rfl (CV.region ?_))))
     refine RV.m rfl rfl ?_
     refine RV.s (Step.addStr (l2 := [58, 32]) rfl rfl (by (simp only [List.length_append, List.length_cons, List.length_nil]; omega))) rfl ?_
     refine RV.a rfl rfl ?_
     refine RV.nil (KV.then_n (KV.env [(2, _), (5, _), (6, _)] ⟨rfl, rfl, rfl, trivial⟩ ?_))
     refine KV.sel [0] [_] rfl ?_
     exact KV.join () ⟨rfl, (by first | (rw [if_pos (by omega)]; rfl) | (rw [if_neg (by omega)]; rfl)), rfl, trivial⟩ (fun _ h => h)
    ·
     refine RV.nil (KV.then_n (KV.env [(2, _), (5, _), (6, _), (44, _)] ⟨rfl, rfl, rfl, rfl, trivial⟩ (CV.cond_f rfl (CV.region ?_))))
     refine RV.m rfl rfl ?_
     refine RV.s (Step.addStr (l2 := [59, 32]) rfl rfl (by (simp only [List.length_append, List.length_cons, List.length_nil]; omega))) rfl ?_
     refine RV.a rfl rfl ?_
     refine RV.nil (KV.then_n (KV.env [(2, _), (5, _), (6, _)] ⟨rfl, rfl, rfl, trivial⟩ ?_))
     refine KV.sel [0] [_] rfl ?_
     exact KV.join () ⟨rfl, (by first | (rw [if_pos (by omega)]; rfl) | (rw [if_neg (by omega)]; rfl)), rfl, trivial⟩ (fun _ h => h)
   ·
    intro _
    have e10 : (if j = 0 then [58, 32] else [59, 32] : Bs).length = 2 := by split <;> rfl
    refine CV.seq (CV.region ?_)
    refine RV.s (Step.fieldAddr rfl (F48_3 _ _)) rfl (RV.s (Step.load Tryz.underlying46 rfl rfl (fun w h => h.cell 0 rfl rfl)) rfl (RV.m rfl rfl ?_))
    refine RV.s (Step.idx Tryz.underlying46 I59 (fun w h => (h.rs ho fun _ => hI _)) rfl rfl (rfl) _ rfl (by omega)) rfl ?_
    refine RV.s (Step.fieldAddr rfl (F59_0 _ _)) rfl ?_
    refine RV.s (Step.load Tryz.underlying4 rfl rfl (fun w h => (h.rs ho fun _ => hI _).cell0 (by omega) rfl)) rfl ?_
    refine RV.nil (KV.then_n (KV.env [(2, _), (5, _), (6, _), (54, _)] ⟨rfl, rfl, rfl, rfl, trivial⟩ ?_))
    refine KV.cases 54 rfl (fun cc2 => ?_) (fun cc2 => ?_)
    ·
     have hw := cc2
     refine CV.cond_t rfl ?_
     refine CV.still (by kernel_rfl) (by kernel_rfl) (fun _ h => h.drew) ?_
     refine SV.step gno (Step.move rfl) rfl ?_
     refine SV.step gno (Step.addStr (l2 := [119, 114, 105, 116, 101, 32]) rfl rfl (by (simp only [List.length_append, List.length_cons, List.length_nil]; omega))) rfl ?_
     refine SV.step gno (Step.fieldAddr rfl (F48_3 _ _)) rfl ?_
     refine SV.step gno (Step.load Tryz.underlying46 rfl rfl (fun w h => h.cell 0 rfl rfl)) rfl ?_
     refine SV.step gno (Step.move rfl) rfl ?_
     refine SV.step gno (Step.idx Tryz.underlying46 I59 (fun w h => (h.rs ho fun _ => hI _)) rfl rfl (rfl) _ rfl (by omega)) rfl ?_
     refine SV.step gno (Step.fieldAddr rfl (F59_1 _ _)) rfl ?_
     refine SV.step gno (Step.load Tryz.underlying43 rfl rfl (fun w h => (h.rs ho fun _ => hI _).cell (by omega) rfl)) rfl ?_
     refine SV.call Tryz.func47 B47 N47 rfl (rdec_fn (h0.t.ops.getD j roK.d).reg hrj.1) gno rfl ?_
     refine SV.step gno (Step.addStr rfl rfl (by (simp only [List.length_append, List.length_cons, List.length_nil]; omega))) rfl ?_
     refine SV.step gno (Step.addStr (l2 := [32]) rfl rfl (by (simp only [List.length_append, List.length_cons, List.length_nil]; omega))) rfl ?_
     refine SV.step gno (Step.fieldAddr rfl (F48_3 _ _)) rfl ?_
     refine SV.step gno (Step.load Tryz.underlying46 rfl rfl (fun w h => h.cell 0 rfl rfl)) rfl ?_
     refine SV.step gno (Step.move rfl) rfl ?_
     refine SV.step gno (Step.idx Tryz.underlying46 I59 (fun w h => (h.rs ho fun _ => hI _)) rfl rfl (rfl) _ rfl (by omega)) rfl ?_
     refine SV.step gno (Step.fieldAddr rfl (F59_2 _ _)) rfl ?_
     refine SV.step gno (Step.load Tryz.underlying43 rfl rfl (fun w h => (h.rs ho fun _ => hI _).cell (by omega) rfl)) rfl ?_
     refine SV.call Tryz.func47 B47 N47 rfl (rdec_fn (h0.t.ops.getD j roK.d).val hrj.2) gno rfl ?_
     refine SV.step gno (Step.addStr rfl rfl (by (simp only [List.length_append, List.length_cons, List.length_nil]; omega))) rfl ?_
     refine SV.step gno (Step.assign rfl) rfl ?_
     refine SV.nil (KV.block_n (KV.then_n (KV.env [(2, _), (5, _), (6, _)] ⟨rfl, rfl, rfl, trivial⟩ (CV.region ?_))))
     refine RV.m rfl rfl ?_
     (first | refine RV.op (OV.step gno (Step.add rfl rfl (wI64 (by omega) (by omega))) rfl ?_) | refine RV.op (OV.step gno (Step.add rfl rfl rfl) rfl ?_))
     refine RV.a rfl rfl ?_
     refine RV.nil (KV.then_n (KV.env [(2, _), (5, _), (6, _)] ⟨rfl, rfl, rfl, trivial⟩ ?_))
     refine KV.sel [0] [_] rfl ?_
     exact KV.loopI (z := j) (j + 1) (by omega) (by omega) ⟨rfl, (by rw [ops_snoc (by omega)]; (first | rw [roT_t hw] | rw [roT_f hw]); show some (Value.string (bs _)) = some (Value.string (bs _)); simp [sWrS, sRdS]), rfl, trivial⟩ (fun _ h => h)
    ·
     have hw := cc2
     refine CV.cond_f rfl (CV.region ?_)
     refine RV.m rfl rfl ?_
     refine RV.s (Step.addStr (l2 := [114, 101, 97, 100, 32]) rfl rfl (by (simp only [List.length_append, List.length_cons, List.length_nil]; omega))) rfl ?_
     refine RV.s (Step.fieldAddr rfl (F48_3 _ _)) rfl (RV.s (Step.load Tryz.underlying46 rfl rfl (fun w h => h.cell 0 rfl rfl)) rfl (RV.m rfl rfl ?_))
     refine RV.s (Step.idx Tryz.underlying46 I59 (fun w h => (h.rs ho fun _ => hI _)) rfl rfl (rfl) _ rfl (by omega)) rfl ?_
     refine RV.s (Step.fieldAddr rfl (F59_1 _ _)) rfl ?_
     refine RV.s (Step.load Tryz.underlying43 rfl rfl (fun w h => (h.rs ho fun _ => hI _).cell (by omega) rfl)) rfl ?_
     refine RV.op (OV.callP Tryz.func47 B47 N47 rfl (rdec_fn (h0.t.ops.getD j roK.d).reg hrj.1) gno rfl ?_)
     refine RV.s (Step.addStr rfl rfl (by (simp only [List.length_append, List.length_cons, List.length_nil]; omega))) rfl ?_
     refine RV.a rfl rfl ?_
     refine RV.nil (KV.block_n (KV.then_n (KV.env [(2, _), (5, _), (6, _)] ⟨rfl, rfl, rfl, trivial⟩ (CV.region ?_))))
     refine RV.m rfl rfl ?_
     (first | refine RV.op (OV.step gno (Step.add rfl rfl (wI64 (by omega) (by omega))) rfl ?_) | refine RV.op (OV.step gno (Step.add rfl rfl rfl) rfl ?_))
     refine RV.a rfl rfl ?_
     refine RV.nil (KV.then_n (KV.env [(2, _), (5, _), (6, _)] ⟨rfl, rfl, rfl, trivial⟩ ?_))
     refine KV.sel [0] [_] rfl ?_
     exact KV.loopI (z := j) (j + 1) (by omega) (by omega) ⟨rfl, (by rw [ops_snoc (by omega)]; (first | rw [roT_t hw] | rw [roT_f hw]); show some (Value.string (bs _)) = some (Value.string (bs _)); simp [sWrS, sRdS]), rfl, trivial⟩ (fun _ h => h)
  ·
   refine RV.nil (KV.then_n (KV.env [(2, _), (5, _), (6, _), (40, _)] ⟨rfl, rfl, rfl, rfl, trivial⟩ (CV.cond_f rfl (CV.exit (KV.then_exit ?_)))))
   refine KV.then_exit (KV.block_hit (KV.then_n (KV.env [(5, _)] ⟨rfl, trivial⟩ (CV.seq ?_))))
   obtain rfl : j = h0.t.ops.length := by omega
   rw [List.take_length]
   have e6 := opsT_len hr.2
   have e8 : (hdX h0.t to).length ≤ 300 := by unfold hdX; simp only [List.length_append, sOnS, sArr, List.length_cons, List.length_nil]; omega
   refine CV.region ?_
   refine RV.m rfl rfl ?_
   refine RV.s (Step.addStr (l2 := [10]) rfl rfl (by (simp only [List.length_append, List.length_cons, List.length_nil]; omega))) rfl ?_
   refine RV.a rfl rfl ?_
   refine RV.nil (KV.then_n (KV.env [(4, _)] ⟨rfl, trivial⟩ (CV.ret ?_)))
   refine KV.sel [] [] rfl ?_
   exact KV.ret1 rfl rfl _ (fun _ h => h) ⟨by unfold trX hdX; rfl, rfl⟩

theorem st_app (s t : Bs) : ((s ++ sStS) ++ t) ++ [10] = s ++ stT t := by simp [stT]
theorem trX_eq (ss : List Bs) (t : Tr) : trX t (ss.getD t.to.toNat strK.d) = trT ss t := rfl

set_option maxRecDepth 100000 in
set_option maxHeartbeats 16000000 in
theorem rformat_fn (d : DH) {w : World} (hd : DR w d) (hrg : rgD d.d) : Fx Tryz.prog 9 [.agg #[.string (bs d.name), .slice d.sA d.ss.length d.sc, .slice d.tA d.hs.length d.tc]] w [] no (fun x L => x = .tuple #[.string (bs (fmtR d.d)), .int .i64 (chkM d.d)] ∧ L = []) := by
 refine Sv.Fx.body Tryz.func9 rfl T9 rfl ?_
 intro I hro hI
 refine KV.env [(0, _)] ⟨rfl, trivial⟩ (CV.seq (CV.region ?_))
 refine RV.op (OV.box (t := 25) #[_, _, _] rfl rfl gno rfl (fun p => ?_))
 refine RV.s (Step.assign (v := .string (Sv.bs [])) rfl) rfl (RV.a rfl rfl ?_)
 refine RV.nil (KV.then_n (KV.env [(1, _)] ⟨rfl, trivial⟩ (CV.seq (CV.seq (CV.region ?_)))))
 refine RV.s (Step.loadN _ Tryz.underlying25 rfl I25 rfl rfl (fun w h => h.cells 0 rfl)) rfl ?_
 refine RV.op (OV.call [] (F := [_]) Tryz.func23 B23 N23 rfl rfl (fun w h => rcheck_fn d (DR.keep h hd hI)) (fun _ hb => hb.elim) gno rfl (fun v L' hp => ?_))
 obtain ⟨rfl, rfl⟩ := hp
 simp only [List.append_nil]
 refine RV.a rfl rfl ?_
 refine RV.nil (KV.then_n (KV.env [(1, _), (4, _)] ⟨rfl, rfl, trivial⟩ (CV.seq (CV.region ?_))))
 refine RV.m rfl rfl ?_
 refine RV.op (OV.split gno (Step.neq rfl rfl) rfl (fun hck => ?_) (fun hck => ?_))
 ·
  refine RV.nil (KV.then_n (KV.env [(1, _), (4, _), (11, _)] ⟨rfl, rfl, rfl, trivial⟩ (CV.cond_t rfl (CV.seq (CV.region ?_)))))
  refine RV.m rfl rfl (RV.s (Step.assign (v := .string (Sv.bs [])) rfl) rfl (RV.a rfl rfl ?_))
  refine RV.nil (KV.then_n (KV.env [(2, _), (3, _)] ⟨rfl, rfl, trivial⟩ (CV.ret (KV.then_ret ?_))))
  refine KV.sel [] [] rfl ?_
  exact KV.ret2 rfl rfl rfl _ (fun _ h => h) ⟨by unfold fmtR; rw [if_neg hck], rfl⟩
 ·
  have hck0 := Decidable.not_not.1 hck
  have hok := ok_of hck0
  have hdl : d.d.ss.length = d.ss.length := rfl
  have hsl : d.ss.length ≤ 32 := hok.few
  have hnl : d.name.length ≤ 32 := nm_len hok.name
  have htl : d.hs.length ≤ 128 := by rw [← ts_len]; exact hok.fewT
  refine RV.nil (KV.then_n (KV.env [(1, _), (4, _), (11, _)] ⟨rfl, rfl, rfl, trivial⟩ (CV.cond_f rfl (CV.skip (KV.then_n ?_)))))
  refine KV.env [(1, _)] ⟨rfl, trivial⟩ (CV.seq (CV.region ?_))
  refine RV.s (Step.fieldAddr rfl (F25_0 _ _)) rfl (RV.s (Step.load Tryz.underlying9 rfl rfl (fun w h => h.cell 0 rfl rfl)) rfl ?_)
  refine RV.op (OV.step gno (Step.addStr (l := [100, 114, 105, 118, 101, 114, 32]) rfl rfl (by (first | omega | (simp only [List.length_append, List.length_cons, List.length_nil]; omega)))) rfl ?_)
  refine RV.op (OV.step gno (Step.addStr (l2 := [10]) rfl rfl (by (first | omega | (simp only [List.length_append, List.length_cons, List.length_nil]; omega)))) rfl ?_)
  refine RV.a rfl rfl ?_
  refine RV.nil (KV.then_n (KV.env [(1, _), (5, _)] ⟨rfl, rfl, trivial⟩ (CV.seq (CV.seq (CV.region ?_)))))
  refine RV.a rfl rfl ?_
  refine RV.nil (KV.then_n (KV.env [(1, _), (5, _), (6, _)] ⟨rfl, rfl, rfl, trivial⟩ (CV.block ?_)))
  refine KV.sel [0] [_] rfl ?_
  refine CV.loopI (fun (i : Nat) => i ≤ d.ss.length) (fun (i : Nat) => d.ss.length - i) (fun (i : Nat) => [(1, .pointer (some ⟨p, 0, none⟩)), (5, .string (bs (oT d.d i))), (6, .int .i64 i)]) (fun (i : Nat) => Hp I w [Blk p (.cells #[.string (bs d.name), .slice d.sA d.ss.length d.sc, .slice d.tA d.hs.length d.tc] 25 (0, 0))]) (0) (Nat.zero_le _) ⟨rfl, (by rw [oT_zero]; rfl), rfl, trivial⟩ (fun _ h => h) ?_
  intro i hil
  refine CV.seq (CV.seq (CV.region ?_))
  refine RV.m rfl rfl (RV.s (Step.fieldAddr rfl (F25_1 _ _)) rfl (RV.s (Step.load Tryz.underlying22 rfl rfl (fun w h => h.cell 0 rfl rfl)) rfl (RV.s (Step.lenSl Tryz.underlying22 rfl) rfl ?_)))
  refine RV.op (OV.split gno (Step.lss rfl rfl) rfl (fun hi => ?_) (fun hi => ?_))
  ·
   refine RV.nil (KV.then_n (KV.env [(1, _), (5, _), (6, _), (21, _)] ⟨rfl, rfl, rfl, rfl, trivial⟩ (CV.cond_t rfl (CV.skip (KV.then_n ?_)))))
   refine KV.env [(1, _), (5, _), (6, _)] ⟨rfl, rfl, rfl, trivial⟩ (CV.seq (CV.block (CV.seq ?_)))
   have hoi := oT_max hok hrg (i := i) (by omega)
   have hsn := nm_len (hok.nms i (by omega))
   have hsn2 : (d.ss.getD i strK.d).length ≤ 32 := hsn
   refine CV.region ?_
   refine RV.m rfl rfl ?_
   refine RV.op (OV.step gno (Step.addStr (l2 := [115, 116, 97, 116, 101, 32]) rfl rfl (by (first | omega | (simp only [List.length_append, List.length_cons, List.length_nil]; omega)))) rfl ?_)
   refine RV.s (Step.fieldAddr rfl (F25_1 _ _)) rfl (RV.s (Step.load Tryz.underlying22 rfl rfl (fun w h => h.cell 0 rfl rfl)) rfl (RV.m rfl rfl ?_))
   refine RV.op (OV.step gno (Step.idx Tryz.underlying22 I9 (fun w h => (DR.keep h hd hI).s) rfl rfl (by first | rfl | omega) _ rfl (by first | omega | (have q1 := htk.2.2.1; have q2 := htk.2.2.2.1; have q3 : d.d.ss.length = d.ss.length := rfl; omega))) rfl ?_)
   refine RV.s (Step.load Tryz.underlying9 rfl rfl (fun w h => (DR.keep h hd hI).s.cell0 (by omega) rfl)) rfl ?_
   refine RV.op (OV.step gno (Step.addStr rfl rfl (by (first | omega | (simp only [List.length_append, List.length_cons, List.length_nil]; omega)))) rfl ?_)
   refine RV.op (OV.step gno (Step.addStr (l2 := [10]) rfl rfl (by (first | omega | (simp only [List.length_append, List.length_cons, List.length_nil]; omega)))) rfl ?_)
   refine RV.a rfl rfl ?_
   refine RV.nil (KV.then_n (KV.env [(1, _), (5, _), (6, _)] ⟨rfl, rfl, rfl, trivial⟩ (CV.seq (CV.region ?_))))
   refine RV.a rfl rfl ?_
   refine RV.nil (KV.then_n (KV.env [(1, _), (5, _), (6, _), (7, _)] ⟨rfl, rfl, rfl, rfl, trivial⟩ (CV.block ?_)))
   refine KV.sel [0] [_] rfl ?_
   refine CV.loopI (fun (k : Nat) => k ≤ d.hs.length) (fun (k : Nat) => d.hs.length - k) (fun (k : Nat) => [(1, .pointer (some ⟨p, 0, none⟩)), (5, .string (bs (jT d.d i k))), (6, .int .i64 i), (7, .int .i64 k)]) (fun (k : Nat) => Hp I w [Blk p (.cells #[.string (bs d.name), .slice d.sA d.ss.length d.sc, .slice d.tA d.hs.length d.tc] 25 (0, 0))]) (0) (Nat.zero_le _) ⟨rfl, (by rw [jT_zero]; exact congrArg (fun x => some (Value.string (bs x))) (st_app (oT d.d i) (d.ss.getD i strK.d))), rfl, rfl, trivial⟩ (fun _ h => h) ?_
   intro k hkl
   refine CV.seq (CV.seq (CV.region ?_))
   refine RV.m rfl rfl (RV.s (Step.fieldAddr rfl (F25_2 _ _)) rfl (RV.s (Step.load Tryz.underlying23 rfl rfl (fun w h => h.cell 0 rfl rfl)) rfl (RV.s (Step.lenSl Tryz.underlying23 rfl) rfl ?_)))
   refine RV.op (OV.split gno (Step.lss rfl rfl) rfl (fun hk => ?_) (fun hk => ?_))
   ·
    refine RV.nil (KV.then_n (KV.env [(1, _), (5, _), (6, _), (7, _), (37, _)] ⟨rfl, rfl, rfl, rfl, rfl, trivial⟩ (CV.cond_t rfl (CV.skip (KV.then_n ?_)))))
    refine KV.env [(1, _), (5, _), (6, _), (7, _)] ⟨rfl, rfl, rfl, rfl, trivial⟩ (CV.seq (CV.block (CV.seq ?_)))
    have hk2 : k < d.hs.length := by omega
    refine CV.region ?_
    refine RV.s (Step.fieldAddr rfl (F25_2 _ _)) rfl (RV.s (Step.load Tryz.underlying23 rfl rfl (fun w h => h.cell 0 rfl rfl)) rfl (RV.m rfl rfl ?_))
    refine RV.op (OV.step gno (Step.idx Tryz.underlying23 I48 (fun w h => (DR.keep h hd hI).t) rfl rfl (by first | rfl | omega) _ rfl (by first | omega | (have q1 := htk.2.2.1; have q2 := htk.2.2.2.1; have q3 : d.d.ss.length = d.ss.length := rfl; omega))) rfl ?_)
    refine RV.s (Step.fieldAddr rfl (F48_0 _ _)) rfl ?_
    refine RV.s (Step.load Tryz.underlying3 rfl rfl (fun w h => (DR.keep h hd hI).t.cell0 (by omega) rfl)) rfl ?_
    refine RV.m rfl rfl ?_
    refine RV.op (OV.split gno (Step.eql rfl rfl) rfl (fun hf => ?_) (fun hf => ?_))
    ·
     refine RV.nil (KV.then_n (KV.env [(1, _), (5, _), (6, _), (7, _), (47, _)] ⟨rfl, rfl, rfl, rfl, rfl, trivial⟩ (CV.cond_t rfl ?_)))
     have hmem := ts_mem d hk2
     have hrt := hrg _ hmem
     have htk := tr_ok hok hmem
     have hev := nm_len htk.2.2.2.2.1
     have htg0 := nm_len (tgt_nm hok hmem)
     have htg : (d.ss.getD (d.hs.getD k thK.d).t.to.toNat strK.d).length ≤ 32 := htg0
     have htm := tr_max hok hrg hmem
     have htm2 : (trT d.ss (d.hs.getD k thK.d).t).length ≤ 1000 := htm
     have him := jT_max hok hrg (i := i) (k := k) (by omega)
     refine CV.any (Hp I w [Blk p (.cells #[.string (bs d.name), .slice d.sA d.ss.length d.sc, .slice d.tA d.hs.length d.tc] 25 (0, 0))]) (by kernel_rfl) (fun _ h => h.drew) 19 rfl ?_
     refine AV.u 0 (bl 19 1) rfl gno (Step.move rfl) rfl (fun _ h => h) ?_
     refine AV.u 1 (bl 19 3) rfl gno (Step.fieldAddr rfl (F25_2 _ _)) rfl (fun _ h => h) ?_
     refine AV.u 2 (bl 19 7) rfl gno (Step.load Tryz.underlying23 rfl rfl (fun w h => h.cell 0 rfl rfl)) rfl (fun _ h => h) ?_
     refine AV.u 3 (bl 19 15) rfl gno (Step.move rfl) rfl (fun _ h => h) ?_
     refine AV.u 4 (bl 19 31) rfl gno (Step.idx Tryz.underlying23 I48 (fun w h => (DR.keep h hd hI).t) rfl rfl (by first | rfl | omega) _ rfl (by first | omega | (have q1 := htk.2.2.1; have q2 := htk.2.2.2.1; have q3 : d.d.ss.length = d.ss.length := rfl; omega))) rfl (fun _ h => h) ?_
     refine AV.u 5 (bl 19 63) rfl gno (Step.loadN _ Tryz.underlying48 rfl I48 rfl rfl (fun w h => (DR.keep h hd hI).t.cells (by omega))) rfl (fun _ h => h) ?_
     refine AV.u 6 (bl 19 127) rfl gno (Step.fieldAddr rfl (F25_1 _ _)) rfl (fun _ h => h) ?_
     refine AV.u 7 (bl 19 255) rfl gno (Step.load Tryz.underlying22 rfl rfl (fun w h => h.cell 0 rfl rfl)) rfl (fun _ h => h) ?_
     refine AV.u 8 (bl 19 511) rfl gno (Step.fieldAddr rfl (F25_2 _ _)) rfl (fun _ h => h) ?_
     refine AV.u 9 (bl 19 1023) rfl gno (Step.load Tryz.underlying23 rfl rfl (fun w h => h.cell 0 rfl rfl)) rfl (fun _ h => h) ?_
     refine AV.u 10 (bl 19 2047) rfl gno (Step.move rfl) rfl (fun _ h => h) ?_
     refine AV.u 11 (bl 19 4095) rfl gno (Step.idx Tryz.underlying23 I48 (fun w h => (DR.keep h hd hI).t) rfl rfl (by first | rfl | omega) _ rfl (by first | omega | (have q1 := htk.2.2.1; have q2 := htk.2.2.2.1; have q3 : d.d.ss.length = d.ss.length := rfl; omega))) rfl (fun _ h => h) ?_
     refine AV.u 12 (bl 19 8191) rfl gno (Step.fieldAddr rfl (F48_4 _ _)) rfl (fun _ h => h) ?_
     refine AV.u 13 (bl 19 16383) rfl gno (Step.load Tryz.underlying3 rfl rfl (fun w h => (DR.keep h hd hI).t.cell (by omega) rfl)) rfl (fun _ h => h) ?_
     refine AV.u 14 (bl 19 32767) rfl gno (Step.idx Tryz.underlying22 I9 (fun w h => (DR.keep h hd hI).s) rfl rfl (by first | rfl | omega) _ (Int.toNat_of_nonneg htk.2.2.1).symm (by first | omega | (have q1 := htk.2.2.1; have q2 := htk.2.2.2.1; have q3 : d.d.ss.length = d.ss.length := rfl; omega))) rfl (fun _ h => h) ?_
     refine AV.u 15 (bl 19 65535) rfl gno (Step.load Tryz.underlying9 rfl rfl (fun w h => (DR.keep h hd hI).s.cell0 (by omega) rfl)) rfl (fun _ h => h) ?_
     refine AV.all [16] (by kernel_rfl) (by decide) ?_
     refine ⟨⟨_, rfl, ?_⟩, trivial⟩
     ·
      refine OV.call [] (F := [_]) Tryz.func24 B24 N24 rfl rfl (fun w h => rtransition_fn (d.hs.getD k thK.d) (d.ss.getD (d.hs.getD k thK.d).t.to.toNat strK.d) ((DR.keep h hd hI).o k hk2) hrt htk.2.2.2.2.2.2.1 hev htg) (fun _ hb => hb.elim) gno rfl (fun v L' hp => ?_)
      obtain ⟨rfl, rfl⟩ := hp
      simp only [List.append_nil]
      rw [trX_eq]
      refine AV.next (bl 19 131071) (by kernel_rfl) (fun _ h => h) ?_
      refine AV.u 17 (bl 19 262143) rfl gno (Step.addStr rfl rfl (by (first | omega | (simp only [List.length_append, List.length_cons, List.length_nil]; omega)))) rfl (fun _ h => h) ?_
      refine AV.u 18 (bl 19 524287) rfl gno (Step.assign rfl) rfl (fun _ h => h) ?_
      refine AV.done (by kernel_rfl) ?_
      refine KV.block_n (KV.then_n (KV.env [(1, _), (5, _), (6, _), (7, _)] ⟨rfl, rfl, rfl, rfl, trivial⟩ (CV.region ?_)))
      refine RV.m rfl rfl ?_
      (first | refine RV.op (OV.step gno (Step.add rfl rfl (wI64 (by omega) (by omega))) rfl ?_) | refine RV.op (OV.step gno (Step.add rfl rfl rfl) rfl ?_))
      refine RV.a rfl rfl ?_
      refine RV.nil (KV.then_n (KV.env [(1, _), (5, _), (6, _), (7, _)] ⟨rfl, rfl, rfl, rfl, trivial⟩ ?_))
      refine KV.sel [0] [_] rfl ?_
      exact KV.loopI (z := k) (k + 1) (by omega) (by omega) ⟨rfl, (by first | (rw [jT_yes (by rw [ts_len]; exact hk2) (by rw [ts_at]; exact hf), ts_at]; rfl) | (rw [jT_no (by rw [ts_len]; exact hk2) (by rw [ts_at]; exact hf)]; rfl)), rfl, rfl, trivial⟩ (fun _ h => h)
    ·
     refine RV.nil (KV.then_n (KV.env [(1, _), (5, _), (6, _), (7, _), (47, _)] ⟨rfl, rfl, rfl, rfl, rfl, trivial⟩ (CV.cond_f rfl (CV.skip (KV.block_n ?_)))))
     refine KV.then_n (KV.env [(1, _), (5, _), (6, _), (7, _)] ⟨rfl, rfl, rfl, rfl, trivial⟩ (CV.region ?_))
     refine RV.m rfl rfl ?_
     (first | refine RV.op (OV.step gno (Step.add rfl rfl (wI64 (by omega) (by omega))) rfl ?_) | refine RV.op (OV.step gno (Step.add rfl rfl rfl) rfl ?_))
     refine RV.a rfl rfl ?_
     refine RV.nil (KV.then_n (KV.env [(1, _), (5, _), (6, _), (7, _)] ⟨rfl, rfl, rfl, rfl, trivial⟩ ?_))
     refine KV.sel [0] [_] rfl ?_
     exact KV.loopI (z := k) (k + 1) (by omega) (by omega) ⟨rfl, (by first | (rw [jT_yes (by rw [ts_len]; exact hk2) (by rw [ts_at]; exact hf), ts_at]; rfl) | (rw [jT_no (by rw [ts_len]; exact hk2) (by rw [ts_at]; exact hf)]; rfl)), rfl, rfl, trivial⟩ (fun _ h => h)
   ·
    refine RV.nil (KV.then_n (KV.env [(1, _), (5, _), (6, _), (7, _), (37, _)] ⟨rfl, rfl, rfl, rfl, rfl, trivial⟩ (CV.cond_f rfl (CV.exit (KV.then_exit ?_)))))
    refine KV.then_exit (KV.block_hit (KV.block_n (KV.then_n (KV.env [(1, _), (5, _), (6, _)] ⟨rfl, rfl, rfl, trivial⟩ (CV.region ?_)))))
    refine RV.m rfl rfl ?_
    (first | refine RV.op (OV.step gno (Step.add rfl rfl (wI64 (by omega) (by omega))) rfl ?_) | refine RV.op (OV.step gno (Step.add rfl rfl rfl) rfl ?_))
    refine RV.a rfl rfl ?_
    refine RV.nil (KV.then_n (KV.env [(1, _), (5, _), (6, _)] ⟨rfl, rfl, rfl, trivial⟩ ?_))
    refine KV.sel [0] [_] rfl ?_
    exact KV.loopI (z := i) (i + 1) (by omega) (by omega) ⟨rfl, (by rw [← jT_end (k := k) (by rw [ts_len]; omega)]; rfl), rfl, trivial⟩ (fun _ h => h)
  ·
   refine RV.nil (KV.then_n (KV.env [(1, _), (5, _), (6, _), (21, _)] ⟨rfl, rfl, rfl, rfl, trivial⟩ (CV.cond_f rfl (CV.exit (KV.then_exit ?_)))))
   refine KV.then_exit (KV.block_hit (KV.then_n (KV.env [(5, _)] ⟨rfl, trivial⟩ (CV.seq ?_))))
   obtain rfl : i = d.ss.length := by omega
   refine CV.region ?_
   refine RV.m rfl rfl (RV.a rfl rfl (RV.a rfl rfl ?_))
   refine RV.nil (KV.then_n (KV.env [(2, _), (3, _)] ⟨rfl, rfl, trivial⟩ (CV.ret ?_)))
   refine KV.sel [] [] rfl ?_
   exact KV.ret2 rfl rfl rfl _ (fun _ h => h) ⟨by unfold fmtR; rw [if_pos hck0, hck0, fmt_eq]; rfl, rfl⟩
end Go.Proofs.YtplmfekhdaefaaaGreatDoor
