/-
 Walks, part 4.
-/
import Derived.Test.YtplmfekhdaefaaaGreatDoorTabA
import Derived.Test.YtplmfekhdaefaaaGreatDoorW3
import Derived.Test.YtplmfekhdaefaaaGreatDoorDmA
set_option linter.unusedSimpArgs false
set_option linter.unusedVariables false
namespace Go.Proofs.YtplmfekhdaefaaaGreatDoor
open Go.Sv Go.Drv
theorem ext99 (s : Bs) (c : UInt8) (w : World) : (callFunc 107 #[.string (bs s), .int .u8 (c.toNat : Int)]).run Tryz.prog w = .ok (.value (.int .i64 (Lib.indexByte s c))) w := by
 rw [run_callFunc_extern Tryz.func107 X99a X99b X99c X99d]
 have h := Lib.run_indexByteString (P := Tryz.prog) (bs s) (c.toNat : Int) w
 rw [u8_back] at h
 rw [h]; rfl

set_option maxRecDepth 100000 in
set_option maxHeartbeats 1000000 in
theorem indexByte_fn (s : Bs) (c : UInt8) : FxP Tryz.prog 92 [.string (bs s), .int .u8 (c.toNat : Int)] (.int .i64 (Lib.indexByte s c)) := by
 refine Sv.FxP.body Tryz.func92 rfl T92 rfl ?_
 intro wp
 refine KV.env [(0, _), (1, _)] ⟨rfl, rfl, trivial⟩ (CV.seq (CV.region ?_))
 refine RV.a rfl rfl ?_
 refine RV.nil (KV.then_n (KV.env [(0, _), (1, _)] ⟨rfl, rfl, trivial⟩ (CV.seq (CV.region ?_))))
 refine RV.m rfl rfl (RV.m rfl rfl (RV.s (Step.callX (vs := [.string (bs s), .int .u8 (c.toNat : Int)]) rfl (fun w _ => ext99 s c w)) rfl (RV.a rfl rfl ?_)))
 refine RV.nil (KV.then_n (KV.env [(4, _)] ⟨rfl, trivial⟩ (CV.ret ?_)))
 exact KV.retP1 rfl rfl rfl

set_option maxRecDepth 100000 in
set_option maxHeartbeats 1000000 in
theorem index_fn (s : Bs) (c : UInt8) : FxP Tryz.prog 86 [.string (bs s), .string (bs [c])] (.int .i64 (Lib.indexByte s c)) := by
 refine Sv.FxP.body Tryz.func86 rfl T86 rfl ?_
 intro wp
 refine KV.env [(0, _), (1, _)] ⟨rfl, rfl, trivial⟩ (CV.seq (CV.region ?_))
 refine RV.a rfl rfl ?_
 refine RV.nil (KV.then_n (KV.env [(0, _), (1, _)] ⟨rfl, rfl, trivial⟩ (CV.seq (CV.region ?_))))
 refine RV.m rfl rfl (RV.s (Step.lenStr Tryz.underlying9 rfl) rfl (RV.a rfl rfl ?_))
 refine RV.nil (KV.then_n (KV.env [(0, _), (1, _), (5, _)] ⟨rfl, rfl, rfl, trivial⟩ (CV.seq (CV.block (CV.seq ?_)))))
 refine CV.region ?_
 refine RV.m rfl rfl ?_
 refine RV.op (OV.split gno (Step.eql rfl rfl) rfl (fun h0 => ?_) (fun h0 => ?_))
 ·
  exact absurd h0 (by simp)
 ·
  refine RV.m rfl rfl (RV.gw rfl (Step.move rfl) rfl (RV.gw rfl (Step.move rfl) rfl ?_))
  refine RV.op (OV.split (gyes rfl) (Step.eqlStr rfl rfl) rfl (fun h1 => ?_) (fun h1 => ?_))
  ·
   refine RV.s (Step.pick_f rfl rfl) rfl (RV.a rfl rfl ?_)
   refine RV.nil (KV.then_n (KV.env [(0, _), (1, _), (5, _), (16, _)] ⟨rfl, rfl, rfl, rfl, trivial⟩ (CV.cond_t rfl (CV.seq (CV.region ?_)))))
   refine RV.a rfl rfl ?_
   refine RV.nil (KV.then_n (KV.env [(4, _)] ⟨rfl, trivial⟩ (CV.ret (KV.block_ret (KV.then_ret ?_)))))
   exact KV.retP1 rfl rfl (by rw [← h1]; simp [Lib.indexByte])
  ·
   refine RV.s (Step.pick_f rfl rfl) rfl (RV.a rfl rfl ?_)
   refine RV.nil (KV.then_n (KV.env [(0, _), (1, _), (5, _), (16, _)] ⟨rfl, rfl, rfl, rfl, trivial⟩ (CV.cond_f rfl (CV.seq (CV.region ?_)))))
   refine RV.m rfl rfl ?_
   refine RV.op (OV.split gno (Step.eql rfl rfl) rfl (fun h2 => ?_) (fun h2 => ?_))
   ·
    refine RV.a rfl rfl ?_
    refine RV.nil (KV.then_n (KV.env [(0, _), (1, _), (5, _), (24, _)] ⟨rfl, rfl, rfl, rfl, trivial⟩ (CV.cond_t rfl (CV.seq (CV.region ?_)))))
    refine RV.m rfl rfl (RV.m rfl rfl ?_)
    refine RV.s (Step.idxStr Tryz.underlying9 rfl rfl 0 rfl (by simp)) rfl ?_
    refine RV.op (OV.callP Tryz.func92 B92 N92 rfl (indexByte_fn s c) gno rfl ?_)
    refine RV.a rfl rfl ?_
    refine RV.nil (KV.then_n (KV.env [(4, _)] ⟨rfl, trivial⟩ (CV.ret (KV.block_ret (KV.then_ret ?_)))))
    exact KV.retP1 rfl rfl rfl
   ·
    exact absurd (by simp) h2

set_option maxRecDepth 100000 in
set_option maxHeartbeats 1000000 in
theorem sindex_fn (s : Bs) (c : UInt8) : FxP Tryz.prog 70 [.string (bs s), .string (bs [c])] (.int .i64 (Lib.indexByte s c)) := by
 refine Sv.FxP.body Tryz.func70 rfl T70 rfl ?_
 intro wp
 refine KV.env [(0, _), (1, _)] ⟨rfl, rfl, trivial⟩ (CV.seq (CV.region ?_))
 refine RV.a rfl rfl ?_
 refine RV.nil (KV.then_n (KV.env [(0, _), (1, _)] ⟨rfl, rfl, trivial⟩ (CV.seq (CV.region ?_))))
 refine RV.m rfl rfl (RV.m rfl rfl ?_)
 refine RV.op (OV.callP Tryz.func86 B86 N86 rfl (index_fn s c) gno rfl ?_)
 refine RV.a rfl rfl ?_
 refine RV.nil (KV.then_n (KV.env [(4, _)] ⟨rfl, trivial⟩ (CV.ret ?_)))
 exact KV.retP1 rfl rfl rfl

theorem tw_all {p : UInt8 → Bool} : ∀ {l : Bs}, (∀ x ∈ l, p x = true) → l.takeWhile p = l
 | [], _ => rfl
 | a :: l, h => by rw [List.takeWhile_cons, if_pos (h a (List.mem_cons_self ..)), tw_all fun x hx => h x (List.mem_cons_of_mem _ hx)]
theorem cutH_spec (l : Bs) : (Lib.indexByte l 35 = -1 ∧ cutH l = l) ∨ ∃ p : Nat, p < l.length ∧ Lib.indexByte l 35 = (p : Int) ∧ cutH l = l.take p := by
 rcases idx_spec 35 l with ⟨h1, h2⟩ | ⟨p, r, rfl, h1, h2⟩
 ·
  refine .inl ⟨h1, ?_⟩
  unfold cutH
  exact tw_all fun x hx => decide_eq_true (h2 x hx)
 ·
  refine .inr ⟨p.length, by simp, h1, ?_⟩
  unfold cutH
  rw [List.takeWhile_append_of_pos (fun x hx => decide_eq_true (h2 x hx))]
  simp

theorem cutN {s : Bs} (h : Lib.indexByte s 35 = -1) : cutH s = s := by
 rcases cutH_spec s with ⟨_, h2⟩ | ⟨p, _, h1, _⟩
 ·
  exact h2
 ·
  omega
theorem cutY {s : Bs} (h : 0 ≤ Lib.indexByte s 35) : ∃ p : Nat, p < s.length ∧ Lib.indexByte s 35 = (p : Int) ∧ cutH s = s.take p := by
 rcases cutH_spec s with ⟨h1, _⟩ | h1
 ·
  omega
 ·
  exact h1
theorem cutM1 {s : Bs} (h : ¬ 0 ≤ Lib.indexByte s 35) : cutH s = s := by
 rcases cutH_spec s with ⟨_, h2⟩ | ⟨p, _, h1, _⟩
 ·
  exact h2
 ·
  omega
def cutR (s : Bs) : Bs := if 0 ≤ Lib.indexByte s 35 then s.drop ((Lib.indexByte s 35).toNat + 1) else []

set_option maxRecDepth 100000 in
set_option maxHeartbeats 1000000 in
theorem cut_fn (s : Bs) (hl : s.length ≤ 1000000) {w : World} : Fx Tryz.prog 71 [.string (bs s), .string (bs [35])] w [] no (fun v L => v = .tuple #[.string (bs (cutH s)), .string (bs (cutR s)), .bool (decide (0 ≤ Lib.indexByte s 35))] ∧ L = []) := by
 refine Sv.Fx.body Tryz.func71 rfl T71 rfl ?_
 intro I hro hI
 refine KV.env [(0, _), (1, _)] ⟨rfl, rfl, trivial⟩ (CV.seq (CV.region ?_))
 refine RV.s (Step.assign (v := .string (Sv.bs [])) rfl) rfl (RV.s (Step.assign (v := .string (Sv.bs [])) rfl) rfl (RV.a rfl rfl ?_))
 refine RV.nil (KV.then_n (KV.env [(0, _), (1, _)] ⟨rfl, rfl, trivial⟩ (CV.seq (CV.seq (CV.region ?_)))))
 refine RV.m rfl rfl (RV.m rfl rfl ?_)
 refine RV.op (OV.callP Tryz.func86 B86 N86 rfl (index_fn s 35) gno rfl ?_)
 refine RV.a rfl rfl ?_
 refine RV.nil (KV.then_n (KV.env [(0, _), (1, _), (7, _)] ⟨rfl, rfl, rfl, trivial⟩ (CV.seq (CV.region ?_))))
 refine RV.m rfl rfl ?_
 refine RV.op (OV.split gno (Step.geq rfl rfl) rfl (fun h0 => ?_) (fun h0 => ?_))
 ·
  obtain ⟨p, hp1, hp2, hp3⟩ := cutY h0
  have hR : cutR s = s.drop (p + 1) := by rw [cutR, if_pos h0, hp2]; rfl
  refine RV.nil (KV.then_n (KV.env [(0, _), (1, _), (7, _), (12, _)] ⟨rfl, rfl, rfl, rfl, trivial⟩ (CV.cond_t rfl (CV.seq ?_))))
  refine CV.still (by kernel_rfl) (by kernel_rfl) (fun _ h => h.drew) ?_
  refine SV.step gno (Step.move rfl) rfl ?_
  refine SV.step gno (Step.move rfl) rfl ?_
  refine SV.step gno (Step.slStrHi Tryz.underlying9 rfl rfl (p) (hp2) (by omega)) rfl ?_
  refine SV.step gno (Step.move rfl) rfl ?_
  refine SV.step gno (Step.move rfl) rfl ?_
  refine SV.step gno (Step.move rfl) rfl ?_
  refine SV.step gno (Step.lenStr Tryz.underlying9 rfl) rfl ?_
  refine SV.step gno (Step.add rfl rfl (wI64 (by simp; omega) (by simp; omega))) rfl ?_
  refine SV.step gno (Step.slStrLo Tryz.underlying9 rfl rfl (p + 1) ((by simp; omega)) (by omega)) rfl ?_
  refine SV.step gno (Step.assign rfl) rfl ?_
  refine SV.step gno (Step.assign rfl) rfl ?_
  refine SV.step gno (Step.assign rfl) rfl ?_
  refine SV.nil (KV.then_n (KV.env [(4, _), (5, _), (6, _)] ⟨rfl, rfl, rfl, trivial⟩ (CV.ret (KV.then_ret ?_))))
  refine KV.sel [] [] rfl ?_
  exact KV.ret3 rfl rfl rfl rfl _ (fun _ h => h) ⟨by rw [hp3, hR, decide_eq_true h0], rfl⟩
 ·
  refine RV.nil (KV.then_n (KV.env [(0, _), (1, _), (7, _), (12, _)] ⟨rfl, rfl, rfl, rfl, trivial⟩ (CV.cond_f rfl (CV.skip (KV.then_n ?_)))))
  refine KV.env [(0, _)] ⟨rfl, trivial⟩ (CV.seq (CV.region ?_))
  refine RV.m rfl rfl (RV.a rfl rfl (RV.s (Step.assign (v := .string (Sv.bs [])) rfl) rfl (RV.a rfl rfl ?_)))
  refine RV.nil (KV.then_n (KV.env [(4, _), (5, _), (6, _)] ⟨rfl, rfl, rfl, trivial⟩ (CV.ret ?_)))
  refine KV.sel [] [] rfl ?_
  exact KV.ret3 rfl rfl rfl rfl _ (fun _ h => h) ⟨by rw [cutM1 h0, cutR, if_neg h0, decide_eq_false h0], rfl⟩

set_option maxRecDepth 100000 in
set_option maxHeartbeats 1000000 in
theorem scut_fn (s : Bs) (hl : s.length ≤ 1000000) {w : World} : Fx Tryz.prog 49 [.string (bs s), .string (bs [35])] w [] no (fun v L => v = .tuple #[.string (bs (cutH s)), .string (bs (cutR s)), .bool (decide (0 ≤ Lib.indexByte s 35))] ∧ L = []) := by
 refine Sv.Fx.body Tryz.func49 rfl T49 rfl ?_
 intro I hro hI
 refine KV.env [(0, _), (1, _)] ⟨rfl, rfl, trivial⟩ (CV.seq (CV.region ?_))
 refine RV.s (Step.assign (v := .string (Sv.bs [])) rfl) rfl (RV.s (Step.assign (v := .string (Sv.bs [])) rfl) rfl (RV.a rfl rfl ?_))
 refine RV.nil (KV.then_n (KV.env [(0, _), (1, _)] ⟨rfl, rfl, trivial⟩ (CV.seq (CV.region ?_))))
 refine RV.m rfl rfl (RV.m rfl rfl ?_)
 refine RV.op (OV.call [] (F := []) Tryz.func71 B71 N71 rfl rfl (fun w h => cut_fn s hl) (fun _ hb => hb.elim) gno rfl (fun v L' hp => ?_))
 obtain ⟨rfl, rfl⟩ := hp
 simp only [List.append_nil]
 refine RV.s (Step.extract0 rfl rfl) rfl (RV.s (Step.extract0 rfl rfl) rfl (RV.s (Step.extract0 rfl rfl) rfl (RV.a rfl rfl (RV.a rfl rfl (RV.a rfl rfl ?_)))))
 refine RV.nil (KV.then_n (KV.env [(4, _), (5, _), (6, _)] ⟨rfl, rfl, rfl, trivial⟩ (CV.ret ?_)))
 refine KV.sel [] [] rfl ?_
 exact KV.ret3 rfl rfl rfl rfl _ (fun _ h => h) ⟨rfl, rfl⟩

set_option maxRecDepth 100000 in
set_option maxHeartbeats 1000000 in
theorem pfx_fn (s p : Bs) : FxP Tryz.prog 72 [.string (bs s), .string (bs p)] (.bool (decide (p.length ≤ s.length ∧ s.take p.length = p))) := by
 refine Sv.FxP.body Tryz.func72 rfl T72 rfl ?_
 intro wp
 refine KV.env [(0, _), (1, _)] ⟨rfl, rfl, trivial⟩ (CV.seq (CV.region ?_))
 refine RV.a rfl rfl ?_
 refine RV.nil (KV.then_n (KV.env [(0, _), (1, _)] ⟨rfl, rfl, trivial⟩ (CV.seq (CV.region ?_))))
 refine RV.m rfl rfl (RV.s (Step.lenStr Tryz.underlying9 rfl) rfl (RV.m rfl rfl (RV.s (Step.lenStr Tryz.underlying9 rfl) rfl ?_)))
 refine RV.op (OV.split gno (Step.geq rfl rfl) rfl (fun h0 => ?_) (fun h0 => ?_))
 ·
  refine RV.m rfl rfl (RV.gw rfl (Step.move rfl) rfl (RV.gw rfl (Step.move rfl) rfl (RV.gw rfl (Step.lenStr Tryz.underlying9 rfl) rfl ?_)))
  refine RV.gw rfl (Step.slStrHi Tryz.underlying9 rfl rfl (p.length) (rfl) (by omega)) rfl ?_
  refine RV.gw rfl (Step.move rfl) rfl ?_
  refine RV.op (OV.split (gyes rfl) (Step.eqlStr rfl rfl) rfl (fun h1 => ?_) (fun h1 => ?_))
  ·
   refine RV.s (Step.pick_t rfl rfl) rfl (RV.a rfl rfl ?_)
   refine RV.nil (KV.then_n (KV.env [(4, _)] ⟨rfl, trivial⟩ (CV.ret ?_)))
   exact KV.retP1 rfl rfl (by first | rw [decide_eq_true (show p.length ≤ s.length ∧ s.take p.length = p from ⟨by omega, h1⟩)] | rw [decide_eq_false (show ¬ (p.length ≤ s.length ∧ s.take p.length = p) from fun k => by first | exact h1 k.2 | omega)])
  ·
   refine RV.s (Step.pick_t rfl rfl) rfl (RV.a rfl rfl ?_)
   refine RV.nil (KV.then_n (KV.env [(4, _)] ⟨rfl, trivial⟩ (CV.ret ?_)))
   exact KV.retP1 rfl rfl (by first | rw [decide_eq_true (show p.length ≤ s.length ∧ s.take p.length = p from ⟨by omega, h1⟩)] | rw [decide_eq_false (show ¬ (p.length ≤ s.length ∧ s.take p.length = p) from fun k => by first | exact h1 k.2 | omega)])
 ·
  refine RV.m rfl rfl (RV.k rfl rfl (RV.k rfl rfl (RV.k rfl rfl (RV.k rfl rfl (RV.k rfl rfl (RV.k rfl rfl (RV.s (Step.pick_f rfl rfl) rfl ?_)))))))
  refine RV.a rfl rfl ?_
  refine RV.nil (KV.then_n (KV.env [(4, _)] ⟨rfl, trivial⟩ (CV.ret ?_)))
  exact KV.retP1 rfl rfl (by first | rw [decide_eq_true (show p.length ≤ s.length ∧ s.take p.length = p from ⟨by omega, h1⟩)] | rw [decide_eq_false (show ¬ (p.length ≤ s.length ∧ s.take p.length = p) from fun k => by first | exact h1 k.2 | omega)])

set_option maxRecDepth 100000 in
set_option maxHeartbeats 1000000 in
theorem spfx_fn (s p : Bs) : FxP Tryz.prog 50 [.string (bs s), .string (bs p)] (.bool (decide (p.length ≤ s.length ∧ s.take p.length = p))) := by
 refine Sv.FxP.body Tryz.func50 rfl T50 rfl ?_
 intro wp
 refine KV.env [(0, _), (1, _)] ⟨rfl, rfl, trivial⟩ (CV.seq (CV.region ?_))
 refine RV.a rfl rfl ?_
 refine RV.nil (KV.then_n (KV.env [(0, _), (1, _)] ⟨rfl, rfl, trivial⟩ (CV.seq (CV.region ?_))))
 refine RV.m rfl rfl (RV.m rfl rfl ?_)
 refine RV.op (OV.callP Tryz.func72 B72 N72 rfl (pfx_fn s p) gno rfl ?_)
 refine RV.a rfl rfl ?_
 refine RV.nil (KV.then_n (KV.env [(4, _)] ⟨rfl, trivial⟩ (CV.ret ?_)))
 exact KV.retP1 rfl rfl rfl
end Go.Proofs.YtplmfekhdaefaaaGreatDoor
