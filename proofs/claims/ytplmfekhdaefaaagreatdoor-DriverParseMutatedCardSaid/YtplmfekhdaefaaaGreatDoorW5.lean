/-
 Walks, part 5.
-/
import Derived.Test.YtplmfekhdaefaaaGreatDoorTabA
import Derived.Test.YtplmfekhdaefaaaGreatDoorW4
import Derived.Test.YtplmfekhdaefaaaGreatDoorDmA
import Derived.Test.YtplmfekhdaefaaaGreatDoorPu
set_option linter.unusedSimpArgs false
set_option linter.unusedVariables false
namespace Go.Proofs.YtplmfekhdaefaaaGreatDoor
open Go.Sv Go.Drv
/-- The variable ErrRange holds an error. -/
def EvR (w : World) : Prop := ∃ t p, w.cell? ⟨4, 0, none⟩ = some (.iface t p)
theorem EvR.keep {I : Ids} {w0 w : World} {L : List Assn} (h : Hp I w0 L w) (k : EvR w0) (hI : ¬ I 4) : EvR w := by
 obtain ⟨t, p, hk⟩ := k
 refine ⟨t, p, ?_⟩
 unfold World.cell? at hk ⊢
 cases hb : w0.heap[4]? with
 | none => simp [hb] at hk
 | some o =>
  have h2 := h.ro hb hI
  simp only [hb] at hk
  simp only [h2]
  exact hk
theorem hp_below {I : Ids} {w w' : World} (hI : Sep [] I w) (h : RowKit.Below w.heap.size w w') : Hp I w [] w' :=
 ⟨fun _ => False, fun _ h => h, ⟨h.os, h.tape, h.output, h.size, fun x hx _ => h.block x hx⟩, fun _ h => h.elim⟩
theorem parseUint_fn (s : Bs) (h0 : s ≠ []) (hd : ∀ x ∈ s, digB x = true) (hl : s.length ≤ 1000000) {w : World} (hE : EvR w) :
  Fx Tryz.prog 74 [.string (bs s), .int .i64 10, .int .i64 64] w [] no (fun v L => (∃ x er, v = .tuple #[.int .u64 x, er] ∧ (valD 0 s < 18446744073709551616 → x = valD 0 s ∧ er = .nilIface) ∧ (¬ valD 0 s < 18446744073709551616 → ∃ t p, er = .iface t p)) ∧ L = []) := by
 intro I hI _
 have hp := parseB_dig h0 hd
 by_cases h : valD 0 s < 18446744073709551616
 ·
  rw [if_pos h] at hp
  have hc := Any.strconv_ParseUint_10_at64_ok Tryz.laysPu14 (bs s) (by rw [bs_size]; omega) (valD 0 s) hp w
  refine Calls.mono hc ?_
  rintro e w' ⟨rfl, hw⟩
  refine ⟨_, [], rfl, ⟨⟨_, _, rfl, fun _ => ⟨rfl, rfl⟩, fun k => absurd h k⟩, rfl⟩, ?_⟩
  rcases hw with rfl | rfl
  ·
   exact Hp.start hI
  ·
   exact hp_below hI (Lib.bytesWorld_below ..)
 ·
  rw [if_neg h] at hp
  obtain ⟨t, p, hv⟩ := hE
  have hc := Any.strconv_ParseUint_10_at64_range Tryz.laysPu14 (bs s) (by rw [bs_size]; omega) hp _ w hv (.inr ⟨t, p, rfl⟩)
  refine Calls.mono hc ?_
  rintro e w' ⟨n, rfl, _, _, hw⟩
  exact ⟨_, [], rfl, ⟨⟨_, _, rfl, fun k => absurd k h, fun _ => ⟨_, _, rfl⟩⟩, rfl⟩, hp_below hI hw⟩
section
variable {P : Program} {N : NN} {E : Env} {S : World → Prop} {d : Option Nat} {t t2 ty : TypeId} {pos : String} {af : Array Edge} {g : Option (Nat × Bool)} {x : Operand}
theorem neqNil_f {ms : Array (String × TypeId)} (hu : P.underlying t = some (.interface ms)) (hx : ev E x = some .nilIface) : Step P N E S ⟨d, .binOp .neq t x (.const .nilIface) t2, ty, pos, af, g⟩ (.bool false) :=
 Step.binR hx rfl (fun w => by cases x <;> simp [eqGuard]) (fun w => by
  have h : (Op.equal t .nilIface .nilIface).run P w = .ok true w := by
   show (Op.equalIn (9999 + 1) t .nilIface .nilIface).run P w = _
   rw [Op.equalIn]
   simp only [Sem.run_bind, run_underlying hu, Result.andThen_ok, Sem.run_pure]
  simp [binOp, h])
theorem neqNil_t {ms : Array (String × TypeId)} (hu : P.underlying t = some (.interface ms)) {k : TypeId} {v : Value} (hx : ev E x = some (.iface k v)) : Step P N E S ⟨d, .binOp .neq t x (.const .nilIface) t2, ty, pos, af, g⟩ (.bool true) :=
 Step.binR hx rfl (fun w => by simp [eqGuard]) (fun w => by
  have h : (Op.equal t (.iface k v) .nilIface).run P w = .ok false w := by
   show (Op.equalIn (9999 + 1) t (.iface k v) .nilIface).run P w = _
   rw [Op.equalIn]
   simp only [Sem.run_bind, run_underlying hu, Result.andThen_ok, Sem.run_pure]
  simp [binOp, h])
theorem neqNil_d {ms : Array (String × TypeId)} {p : Prop} [Decidable p] {er : Value} (hu : P.underlying t = some (.interface ms)) (hx : ev E x = some er) (h1 : p → er = .nilIface) (h2 : ¬ p → ∃ k v, er = .iface k v) : Step P N E S ⟨d, .binOp .neq t x (.const .nilIface) t2, ty, pos, af, g⟩ (.bool (decide (¬ p))) := by
 by_cases hp : p
 ·
  rw [decide_eq_false (show ¬ ¬ p from fun k => k hp)]
  exact neqNil_f hu (hx.trans (congrArg some (h1 hp)))
 ·
  rw [decide_eq_true hp]
  obtain ⟨k, v, rfl⟩ := h2 hp
  exact neqNil_t hu hx
end

set_option maxRecDepth 100000 in
set_option maxHeartbeats 4000000 in
theorem word_fn (s : Bs) (hl : s.length ≤ 1000000) {w : World} (hE : EvR w) : Fx Tryz.prog 52 [.string (bs s)] w [] no (fun v L => (match wordTok s with | some t => v = .tuple #[.agg (tokC t).toArray, .bool true] | none => v = .tuple #[.agg #[.int .i64 0, .string (bs []), .int .u64 0], .bool false]) ∧ L = []) := by
 refine Sv.Fx.body Tryz.func52 rfl T52 rfl ?_
 intro I hro hI
 refine KV.env [(0, _)] ⟨rfl, trivial⟩ (CV.seq (CV.region ?_))
 refine RV.op (OV.alloc #[.int .i64 0, .string (Sv.bs []), .int .u64 0] I114 rfl gno rfl (fun r => ?_))
 refine RV.a rfl rfl ?_
 refine RV.nil (KV.then_n (KV.env [(0, _), (2, _)] ⟨rfl, rfl, trivial⟩ (CV.seq (CV.seq (CV.region ?_)))))
 refine RV.m rfl rfl ?_
 refine RV.op (OV.callP Tryz.func56 B56 N56 rfl (isName_fn s) gno rfl ?_)
 refine RV.nil (KV.then_n (KV.env [(0, _), (2, _), (8, _)] ⟨rfl, rfl, rfl, trivial⟩ ?_))
 refine KV.cases 8 rfl (fun cc1 => ?_) (fun cc1 => ?_)
 ·
  have hnm : isNm s = true := cc1
  refine CV.cond_t rfl (CV.seq (CV.region ?_))
  refine RV.m rfl rfl (RV.s (Step.build rfl (Bd114_0_1 _ _)) rfl ?_)
  refine RV.op (OV.store 0 [_, _, _] #[_, _, _] I114 rfl rfl rfl rfl rfl (Nat.le_of_ble_eq_true rfl) (by simp [Value.oneCell']) rfl gno ?_)
  refine RV.a rfl rfl ?_
  refine RV.nil (KV.then_n (KV.env [(2, _), (3, _)] ⟨rfl, rfl, trivial⟩ (CV.ret (KV.then_ret ?_))))
  exact KV.retC2 [_, _, _] rfl rfl rfl Tryz.underlying114 rfl I114 rfl (fun w h => h.cells 0 rfl) [] (fun _ h => h.sel [] rfl) ⟨by rw [wt_name hnm] <;> rfl, rfl⟩
 ·
  have hnm : isNm s = false := cc1
  refine CV.cond_f rfl (CV.skip (KV.then_n (KV.env [(0, _), (2, _)] ⟨rfl, rfl, trivial⟩ (CV.seq (CV.seq ?_)))))
  refine CV.region ?_
  refine RV.m rfl rfl ?_
  refine RV.op (OV.split gno (Step.eqlStr (l2 := []) rfl rfl) rfl (fun h0 => ?_) (fun h0 => ?_))
  ·
   refine RV.m rfl rfl (RV.k rfl rfl (RV.k rfl rfl (RV.k rfl rfl (RV.k rfl rfl ?_))))
   refine RV.op (OV.skipU rfl rfl ?_)
   refine RV.op (OV.skipU rfl rfl ?_)
   refine RV.op (OV.skipU rfl rfl ?_)
   refine RV.k rfl rfl (RV.s (Step.pick_t rfl rfl) rfl ?_)
   refine RV.nil (KV.then_n (KV.env [(0, _), (2, _), (22, _)] ⟨rfl, rfl, rfl, trivial⟩ (CV.cond_t rfl (CV.seq (CV.region ?_)))))
   refine RV.s (Step.build rfl (Bd114_)) rfl ?_
   refine RV.op (OV.store 0 [_, _, _] #[_, _, _] I114 rfl rfl rfl rfl rfl (Nat.le_of_ble_eq_true rfl) (by simp [Value.oneCell']) rfl gno ?_)
   refine RV.a rfl rfl ?_
   refine RV.nil (KV.then_n (KV.env [(2, _), (3, _)] ⟨rfl, rfl, trivial⟩ (CV.ret (KV.then_ret ?_))))
   exact KV.retC2 [_, _, _] rfl rfl rfl Tryz.underlying114 rfl I114 rfl (fun w h => h.cells 0 rfl) [] (fun _ h => h.sel [] rfl) ⟨by rw [wt_bad hnm (bool_f (fun k => by have k2 := (numW_iff s).1 k; first | exact absurd h0 k2.1 | (rcases k2.2.1 with h3 | h3; omega; exact h3 (UInt8.toNat_inj.1 (by have h4 : ((48 : UInt8).toNat : Int) = 48 := rfl; omega)))))] <;> rfl, rfl⟩
  ·
   refine RV.m rfl rfl (RV.gw rfl (Step.move rfl) rfl (RV.gw rfl (Step.lenStr Tryz.underlying9 rfl) rfl ?_))
   refine RV.op (OV.split (gyes rfl) (Step.gtr rfl rfl) rfl (fun h1 => ?_) (fun h1 => ?_))
   ·
    refine RV.gw rfl (Step.move rfl) rfl (RV.gw rfl (Step.move rfl) rfl ?_)
    refine RV.op (OV.step (gyes rfl) (Step.idxStr Tryz.underlying9 rfl rfl 0 rfl (by first | omega | (have : 0 < s.length := List.length_pos_iff.2 h0; omega))) rfl ?_)
    refine RV.op (OV.split (gyes rfl) (Step.eql rfl rfl) rfl (fun h2 => ?_) (fun h2 => ?_))
    ·
     refine RV.gw rfl (Step.pick_t rfl rfl) rfl (RV.s (Step.pick_f rfl rfl) rfl ?_)
     refine RV.nil (KV.then_n (KV.env [(0, _), (2, _), (22, _)] ⟨rfl, rfl, rfl, trivial⟩ (CV.cond_t rfl (CV.seq (CV.region ?_)))))
     refine RV.s (Step.build rfl (Bd114_)) rfl ?_
     refine RV.op (OV.store 0 [_, _, _] #[_, _, _] I114 rfl rfl rfl rfl rfl (Nat.le_of_ble_eq_true rfl) (by simp [Value.oneCell']) rfl gno ?_)
     refine RV.a rfl rfl ?_
     refine RV.nil (KV.then_n (KV.env [(2, _), (3, _)] ⟨rfl, rfl, trivial⟩ (CV.ret (KV.then_ret ?_))))
     exact KV.retC2 [_, _, _] rfl rfl rfl Tryz.underlying114 rfl I114 rfl (fun w h => h.cells 0 rfl) [] (fun _ h => h.sel [] rfl) ⟨by rw [wt_bad hnm (bool_f (fun k => by have k2 := (numW_iff s).1 k; first | exact absurd h0 k2.1 | (rcases k2.2.1 with h3 | h3; omega; exact h3 (UInt8.toNat_inj.1 (by have h4 : ((48 : UInt8).toNat : Int) = 48 := rfl; omega)))))] <;> rfl, rfl⟩
    ·
     refine RV.gw rfl (Step.pick_t rfl rfl) rfl (RV.s (Step.pick_f rfl rfl) rfl ?_)
     refine RV.nil (KV.then_n (KV.env [(0, _), (2, _), (22, _)] ⟨rfl, rfl, rfl, trivial⟩ (CV.cond_f rfl (CV.skip (KV.then_n ?_)))))
     refine KV.env [(0, _), (2, _)] ⟨rfl, rfl, trivial⟩ (CV.seq (CV.seq (CV.region ?_)))
     refine RV.m rfl rfl (RV.s (Step.lenStr Tryz.underlying9 rfl) rfl (RV.m rfl rfl ?_))
     refine RV.nil (KV.then_n (KV.env [(0, _), (2, _), (25, _), (26, _)] ⟨rfl, rfl, rfl, rfl, trivial⟩ (CV.block ?_)))
     refine KV.sel [0] [_] rfl ?_
     refine CV.loopI (fun (j : Nat) => j ≤ s.length ∧ ∀ k, k < j → digB (s.getD k 0) = true) (fun (j : Nat) => s.length - j) (fun (j : Nat) => [(0, .string (bs s)), (2, .pointer (some ⟨r, 0, none⟩)), (25, .int .i64 s.length), (26, .int .i64 j)]) (fun (j : Nat) => Hp I w [Blk r (.cells #[.int .i64 (0), .string (bs ([])), .int .u64 (0)] 114 (0, 0))]) (0) ⟨Nat.zero_le _, fun k hk => by omega⟩ ⟨rfl, rfl, rfl, rfl, trivial⟩ (fun _ h => h) ?_
     intro j hinv
     refine CV.seq (CV.region ?_)
     refine RV.op (OV.split gno (Step.lss rfl rfl) rfl (fun hj => ?_) (fun hj => ?_))
     ·
      refine RV.nil (KV.then_n (KV.env [(0, _), (2, _), (25, _), (26, _), (27, _)] ⟨rfl, rfl, rfl, rfl, rfl, trivial⟩ (CV.seq (CV.cond_t rfl (CV.skip ?_)))))
      refine KV.then_n (KV.env [(0, _), (2, _), (25, _), (26, _)] ⟨rfl, rfl, rfl, rfl, trivial⟩ (CV.seq (CV.block (CV.seq (CV.region ?_)))))
      refine RV.m rfl rfl (RV.a rfl rfl ?_)
      refine RV.nil (KV.then_n (KV.env [(0, _), (2, _), (4, _), (25, _), (26, _)] ⟨rfl, rfl, rfl, rfl, rfl, trivial⟩ (CV.seq (CV.region ?_))))
      refine RV.m rfl rfl (RV.m rfl rfl ?_)
      refine RV.op (OV.step gno (Step.idxStr Tryz.underlying9 rfl rfl _ rfl (by first | omega | (have : 0 < s.length := List.length_pos_iff.2 h0; omega))) rfl ?_)
      refine RV.op (OV.callP Tryz.func73 B73 N73 rfl (isDigit_fn (s.getD j 0)) gno rfl ?_)
      refine RV.s (Step.not rfl) rfl ?_
      refine RV.nil (KV.then_n (KV.env [(0, _), (2, _), (25, _), (26, _), (33, _)] ⟨rfl, rfl, rfl, rfl, rfl, trivial⟩ ?_))
      refine KV.cases 33 rfl (fun cc2 => ?_) (fun cc2 => ?_)
      ·
       have hdg := neg_t cc2
       refine CV.cond_t rfl (CV.seq (CV.region ?_))
       refine RV.s (Step.build rfl (Bd114_)) rfl ?_
       refine RV.op (OV.store 0 [_, _, _] #[_, _, _] I114 rfl rfl rfl rfl rfl (Nat.le_of_ble_eq_true rfl) (by simp [Value.oneCell']) rfl gno ?_)
       refine RV.a rfl rfl ?_
       refine RV.nil (KV.then_n (KV.env [(2, _), (3, _)] ⟨rfl, rfl, trivial⟩ (CV.ret (KV.block_ret (KV.then_ret ?_)))))
       refine KV.then_ret (KV.block_ret (KV.then_ret ?_))
       exact KV.retC2 [_, _, _] rfl rfl rfl Tryz.underlying114 rfl I114 rfl (fun w h => h.cells 0 rfl) [] (fun _ h => h.sel [] rfl) ⟨by rw [wt_bad hnm (bool_f (fun k => by have k2 := (numW_iff s).1 k; exact ff (k2.2.2 j (by omega)) hdg))] <;> rfl, rfl⟩
      ·
       have hdg := neg_f cc2
       refine CV.cond_f rfl (CV.skip (KV.block_n (KV.then_n (KV.env [(0, _), (2, _), (25, _), (26, _)] ⟨rfl, rfl, rfl, rfl, trivial⟩ (CV.region ?_)))))
       (first | refine RV.op (OV.step gno (Step.add rfl rfl (wI64 (by omega) (by omega))) rfl ?_) | refine RV.op (OV.step gno (Step.add rfl rfl rfl) rfl ?_))
       refine RV.m rfl rfl ?_
       refine RV.nil (KV.then_n (KV.env [(0, _), (2, _), (25, _), (26, _)] ⟨rfl, rfl, rfl, rfl, trivial⟩ ?_))
       refine KV.sel [0] [_] rfl ?_
       exact KV.loopI (z := j) (j + 1) ⟨by omega, fun k hk => by by_cases e : k = j; (subst e; exact hdg); exact hinv.2 k (by omega)⟩ (by omega) ⟨rfl, rfl, rfl, rfl, trivial⟩ (fun _ h => h)
     ·
      refine RV.nil (KV.then_n (KV.env [(0, _), (2, _), (25, _), (26, _), (27, _)] ⟨rfl, rfl, rfl, rfl, rfl, trivial⟩ (CV.seq (CV.cond_f rfl (CV.exit ?_)))))
      refine KV.then_exit (KV.then_exit (KV.block_hit (KV.then_n (KV.env [(0, _), (2, _)] ⟨rfl, rfl, trivial⟩ (CV.seq ?_)))))
      refine CV.region ?_
      refine RV.m rfl rfl ?_
      refine RV.op (OV.call [] (F := [_]) Tryz.func74 B74 N74 rfl rfl (fun w h => parseUint_fn s h0 (mem_getD (fun k hk => hinv.2 k (by omega))) hl (EvR.keep h hE (hI _))) (fun _ hb => hb.elim) gno rfl (fun v L' hp => ?_))
      obtain ⟨⟨x, er, rfl, hok, hbad⟩, rfl⟩ := hp
      simp only [List.append_nil]
      refine RV.m rfl rfl (RV.s (Step.extract0 rfl rfl) rfl (RV.s (Step.extract0 rfl rfl) rfl (RV.a rfl rfl (RV.a rfl rfl ?_))))
      refine RV.nil (KV.then_n (KV.env [(2, _), (5, _), (6, _)] ⟨rfl, rfl, rfl, trivial⟩ (CV.seq (CV.seq (CV.region ?_)))))
      refine RV.m rfl rfl (RV.s (neqNil_d (p := valD 0 s < 18446744073709551616) Tryz.underlying97 rfl (fun k => (hok k).2) hbad) rfl ?_)
      by_cases hv : ¬ valD 0 s < 18446744073709551616
      ·
       rw [decide_eq_true hv]
       refine RV.nil (KV.then_n (KV.env [(2, _), (5, _), (42, _)] ⟨rfl, rfl, rfl, trivial⟩ (CV.cond_t rfl (CV.seq (CV.region ?_)))))
       refine RV.s (Step.build rfl (Bd114_)) rfl ?_
       refine RV.op (OV.store 0 [_, _, _] #[_, _, _] I114 rfl rfl rfl rfl rfl (Nat.le_of_ble_eq_true rfl) (by simp [Value.oneCell']) rfl gno ?_)
       refine RV.a rfl rfl ?_
       refine RV.nil (KV.then_n (KV.env [(2, _), (3, _)] ⟨rfl, rfl, trivial⟩ (CV.ret (KV.then_ret ?_))))
       exact KV.retC2 [_, _, _] rfl rfl rfl Tryz.underlying114 rfl I114 rfl (fun w h => h.cells 0 rfl) [] (fun _ h => h.sel [] rfl) ⟨by rw [wt_big hnm hv] <;> rfl, rfl⟩
      ·
       rw [decide_eq_false hv]
       obtain ⟨rfl, rfl⟩ := hok (Decidable.not_not.1 hv)
       refine RV.nil (KV.then_n (KV.env [(2, _), (5, _), (42, _)] ⟨rfl, rfl, rfl, trivial⟩ (CV.cond_f rfl (CV.skip (KV.then_n ?_)))))
       refine KV.env [(2, _), (5, _)] ⟨rfl, rfl, trivial⟩ (CV.seq (CV.region ?_))
       refine RV.m rfl rfl (RV.s (Step.build rfl (Bd114_0_2 _ _)) rfl ?_)
       refine RV.op (OV.store 0 [_, _, _] #[_, _, _] I114 rfl rfl rfl rfl rfl (Nat.le_of_ble_eq_true rfl) (by simp [Value.oneCell']) rfl gno ?_)
       refine RV.a rfl rfl ?_
       refine RV.nil (KV.then_n (KV.env [(2, _), (3, _)] ⟨rfl, rfl, trivial⟩ (CV.ret ?_)))
       exact KV.retC2 [_, _, _] rfl rfl rfl Tryz.underlying114 rfl I114 rfl (fun w h => h.cells 0 rfl) [] (fun _ h => h.sel [] rfl) ⟨by rw [wt_num hnm ((numW_iff s).2 ⟨h0, by first | (left; omega) | (right; exact fun e => h2 (by rw [e]; rfl)) | (left; have : 0 < s.length := List.length_pos_iff.2 h0; omega), fun k hk => hinv.2 k (by omega)⟩) (Decidable.not_not.1 hv)] <;> rfl, rfl⟩
   ·
    refine RV.gw rfl (Step.move rfl) rfl (RV.k rfl rfl (RV.k rfl rfl (RV.k rfl rfl (RV.gw rfl (Step.pick_f rfl rfl) rfl (RV.s (Step.pick_f rfl rfl) rfl ?_)))))
    refine RV.nil (KV.then_n (KV.env [(0, _), (2, _), (22, _)] ⟨rfl, rfl, rfl, trivial⟩ (CV.cond_f rfl (CV.skip (KV.then_n ?_)))))
    refine KV.env [(0, _), (2, _)] ⟨rfl, rfl, trivial⟩ (CV.seq (CV.seq (CV.region ?_)))
    refine RV.m rfl rfl (RV.s (Step.lenStr Tryz.underlying9 rfl) rfl (RV.m rfl rfl ?_))
    refine RV.nil (KV.then_n (KV.env [(0, _), (2, _), (25, _), (26, _)] ⟨rfl, rfl, rfl, rfl, trivial⟩ (CV.block ?_)))
    refine KV.sel [0] [_] rfl ?_
    refine CV.loopI (fun (j : Nat) => j ≤ s.length ∧ ∀ k, k < j → digB (s.getD k 0) = true) (fun (j : Nat) => s.length - j) (fun (j : Nat) => [(0, .string (bs s)), (2, .pointer (some ⟨r, 0, none⟩)), (25, .int .i64 s.length), (26, .int .i64 j)]) (fun (j : Nat) => Hp I w [Blk r (.cells #[.int .i64 (0), .string (bs ([])), .int .u64 (0)] 114 (0, 0))]) (0) ⟨Nat.zero_le _, fun k hk => by omega⟩ ⟨rfl, rfl, rfl, rfl, trivial⟩ (fun _ h => h) ?_
    intro j hinv
    refine CV.seq (CV.region ?_)
    refine RV.op (OV.split gno (Step.lss rfl rfl) rfl (fun hj => ?_) (fun hj => ?_))
    ·
     refine RV.nil (KV.then_n (KV.env [(0, _), (2, _), (25, _), (26, _), (27, _)] ⟨rfl, rfl, rfl, rfl, rfl, trivial⟩ (CV.seq (CV.cond_t rfl (CV.skip ?_)))))
     refine KV.then_n (KV.env [(0, _), (2, _), (25, _), (26, _)] ⟨rfl, rfl, rfl, rfl, trivial⟩ (CV.seq (CV.block (CV.seq (CV.region ?_)))))
     refine RV.m rfl rfl (RV.a rfl rfl ?_)
     refine RV.nil (KV.then_n (KV.env [(0, _), (2, _), (4, _), (25, _), (26, _)] ⟨rfl, rfl, rfl, rfl, rfl, trivial⟩ (CV.seq (CV.region ?_))))
     refine RV.m rfl rfl (RV.m rfl rfl ?_)
     refine RV.op (OV.step gno (Step.idxStr Tryz.underlying9 rfl rfl _ rfl (by first | omega | (have : 0 < s.length := List.length_pos_iff.2 h0; omega))) rfl ?_)
     refine RV.op (OV.callP Tryz.func73 B73 N73 rfl (isDigit_fn (s.getD j 0)) gno rfl ?_)
     refine RV.s (Step.not rfl) rfl ?_
     refine RV.nil (KV.then_n (KV.env [(0, _), (2, _), (25, _), (26, _), (33, _)] ⟨rfl, rfl, rfl, rfl, rfl, trivial⟩ ?_))
     refine KV.cases 33 rfl (fun cc3 => ?_) (fun cc3 => ?_)
     ·
      have hdg := neg_t cc3
      refine CV.cond_t rfl (CV.seq (CV.region ?_))
      refine RV.s (Step.build rfl (Bd114_)) rfl ?_
      refine RV.op (OV.store 0 [_, _, _] #[_, _, _] I114 rfl rfl rfl rfl rfl (Nat.le_of_ble_eq_true rfl) (by simp [Value.oneCell']) rfl gno ?_)
      refine RV.a rfl rfl ?_
      refine RV.nil (KV.then_n (KV.env [(2, _), (3, _)] ⟨rfl, rfl, trivial⟩ (CV.ret (KV.block_ret (KV.then_ret ?_)))))
      refine KV.then_ret (KV.block_ret (KV.then_ret ?_))
      exact KV.retC2 [_, _, _] rfl rfl rfl Tryz.underlying114 rfl I114 rfl (fun w h => h.cells 0 rfl) [] (fun _ h => h.sel [] rfl) ⟨by rw [wt_bad hnm (bool_f (fun k => by have k2 := (numW_iff s).1 k; exact ff (k2.2.2 j (by omega)) hdg))] <;> rfl, rfl⟩
     ·
      have hdg := neg_f cc3
      refine CV.cond_f rfl (CV.skip (KV.block_n (KV.then_n (KV.env [(0, _), (2, _), (25, _), (26, _)] ⟨rfl, rfl, rfl, rfl, trivial⟩ (CV.region ?_)))))
      (first | refine RV.op (OV.step gno (Step.add rfl rfl (wI64 (by omega) (by omega))) rfl ?_) | refine RV.op (OV.step gno (Step.add rfl rfl rfl) rfl ?_))
      refine RV.m rfl rfl ?_
      refine RV.nil (KV.then_n (KV.env [(0, _), (2, _), (25, _), (26, _)] ⟨rfl, rfl, rfl, rfl, trivial⟩ ?_))
      refine KV.sel [0] [_] rfl ?_
      exact KV.loopI (z := j) (j + 1) ⟨by omega, fun k hk => by by_cases e : k = j; (subst e; exact hdg); exact hinv.2 k (by omega)⟩ (by omega) ⟨rfl, rfl, rfl, rfl, trivial⟩ (fun _ h => h)
    ·
     refine RV.nil (KV.then_n (KV.env [(0, _), (2, _), (25, _), (26, _), (27, _)] ⟨rfl, rfl, rfl, rfl, rfl, trivial⟩ (CV.seq (CV.cond_f rfl (CV.exit ?_)))))
     refine KV.then_exit (KV.then_exit (KV.block_hit (KV.then_n (KV.env [(0, _), (2, _)] ⟨rfl, rfl, trivial⟩ (CV.seq ?_)))))
     refine CV.region ?_
     refine RV.m rfl rfl ?_
     refine RV.op (OV.call [] (F := [_]) Tryz.func74 B74 N74 rfl rfl (fun w h => parseUint_fn s h0 (mem_getD (fun k hk => hinv.2 k (by omega))) hl (EvR.keep h hE (hI _))) (fun _ hb => hb.elim) gno rfl (fun v L' hp => ?_))
     obtain ⟨⟨x, er, rfl, hok, hbad⟩, rfl⟩ := hp
     simp only [List.append_nil]
     refine RV.m rfl rfl (RV.s (Step.extract0 rfl rfl) rfl (RV.s (Step.extract0 rfl rfl) rfl (RV.a rfl rfl (RV.a rfl rfl ?_))))
     refine RV.nil (KV.then_n (KV.env [(2, _), (5, _), (6, _)] ⟨rfl, rfl, rfl, trivial⟩ (CV.seq (CV.seq (CV.region ?_)))))
     refine RV.m rfl rfl (RV.s (neqNil_d (p := valD 0 s < 18446744073709551616) Tryz.underlying97 rfl (fun k => (hok k).2) hbad) rfl ?_)
     by_cases hv : ¬ valD 0 s < 18446744073709551616
     ·
      rw [decide_eq_true hv]
      refine RV.nil (KV.then_n (KV.env [(2, _), (5, _), (42, _)] ⟨rfl, rfl, rfl, trivial⟩ (CV.cond_t rfl (CV.seq (CV.region ?_)))))
      refine RV.s (Step.build rfl (Bd114_)) rfl ?_
      refine RV.op (OV.store 0 [_, _, _] #[_, _, _] I114 rfl rfl rfl rfl rfl (Nat.le_of_ble_eq_true rfl) (by simp [Value.oneCell']) rfl gno ?_)
      refine RV.a rfl rfl ?_
      refine RV.nil (KV.then_n (KV.env [(2, _), (3, _)] ⟨rfl, rfl, trivial⟩ (CV.ret (KV.then_ret ?_))))
      exact KV.retC2 [_, _, _] rfl rfl rfl Tryz.underlying114 rfl I114 rfl (fun w h => h.cells 0 rfl) [] (fun _ h => h.sel [] rfl) ⟨by rw [wt_big hnm hv] <;> rfl, rfl⟩
     ·
      rw [decide_eq_false hv]
      obtain ⟨rfl, rfl⟩ := hok (Decidable.not_not.1 hv)
      refine RV.nil (KV.then_n (KV.env [(2, _), (5, _), (42, _)] ⟨rfl, rfl, rfl, trivial⟩ (CV.cond_f rfl (CV.skip (KV.then_n ?_)))))
      refine KV.env [(2, _), (5, _)] ⟨rfl, rfl, trivial⟩ (CV.seq (CV.region ?_))
      refine RV.m rfl rfl (RV.s (Step.build rfl (Bd114_0_2 _ _)) rfl ?_)
      refine RV.op (OV.store 0 [_, _, _] #[_, _, _] I114 rfl rfl rfl rfl rfl (Nat.le_of_ble_eq_true rfl) (by simp [Value.oneCell']) rfl gno ?_)
      refine RV.a rfl rfl ?_
      refine RV.nil (KV.then_n (KV.env [(2, _), (3, _)] ⟨rfl, rfl, trivial⟩ (CV.ret ?_)))
      exact KV.retC2 [_, _, _] rfl rfl rfl Tryz.underlying114 rfl I114 rfl (fun w h => h.cells 0 rfl) [] (fun _ h => h.sel [] rfl) ⟨by rw [wt_num hnm ((numW_iff s).2 ⟨h0, by first | (left; omega) | (right; exact fun e => h2 (by rw [e]; rfl)) | (left; have : 0 < s.length := List.length_pos_iff.2 h0; omega), fun k hk => hinv.2 k (by omega)⟩) (Decidable.not_not.1 hv)] <;> rfl, rfl⟩

theorem word3_fn (s : Bs) (hl : s.length ≤ 1000000) {w : World} (hE : EvR w) : Fx Tryz.prog 52 [.string (bs s)] w [] no (fun v L => ((wordTok s = some (.nm s) ∧ v = .tuple #[.agg #[.int .i64 1, .string (bs s), .int .u64 0], .bool true]) ∨ (∃ x, wordTok s = some (.num x) ∧ v = .tuple #[.agg #[.int .i64 2, .string (bs []), .int .u64 x], .bool true]) ∨ (wordTok s = none ∧ v = .tuple #[.agg #[.int .i64 0, .string (bs []), .int .u64 0], .bool false])) ∧ L = []) :=
 (word_fn s hl hE).mono fun v L h => by
  obtain ⟨h1, h2⟩ := h
  refine ⟨?_, h2⟩
  unfold wordTok at h1 ⊢
  by_cases hn : isNm s = true
  ·
   rw [if_pos hn] at h1 ⊢; exact .inl ⟨rfl, h1⟩
  ·
   rw [if_neg hn] at h1 ⊢
   by_cases hm : numW s = true ∧ valD 0 s < 18446744073709551616
   ·
    rw [if_pos hm] at h1 ⊢; exact .inr (.inl ⟨_, rfl, h1⟩)
   ·
    rw [if_neg hm] at h1 ⊢; exact .inr (.inr ⟨rfl, h1⟩)
theorem sp_t {c : UInt8} (h : (c.toNat : Int) = 32 ∨ (c.toNat : Int) = 9) : spB c = true := decide_eq_true (h.imp (fun k => UInt8.toNat_inj.1 (show c.toNat = 32 by omega)) (fun k => UInt8.toNat_inj.1 (show c.toNat = 9 by omega)))
theorem sp_f {c : UInt8} (h : ¬ ((c.toNat : Int) = 32 ∨ (c.toNat : Int) = 9)) : spB c = false := decide_eq_false fun k => h (k.imp (fun e => by rw [e]; rfl) (fun e => by rw [e]; rfl))
theorem sym_t {c : UInt8} (h : (c.toNat : Int) = 58 ∨ (c.toNat : Int) = 59 ∨ (c.toNat : Int) = 38 ∨ (c.toNat : Int) = 61) : symB c = true := decide_eq_true (h.imp (fun k => UInt8.toNat_inj.1 (show c.toNat = 58 by omega)) (fun h => h.imp (fun k => UInt8.toNat_inj.1 (show c.toNat = 59 by omega)) (fun h => h.imp (fun k => UInt8.toNat_inj.1 (show c.toNat = 38 by omega)) (fun k => UInt8.toNat_inj.1 (show c.toNat = 61 by omega)))))
theorem sym_f {c : UInt8} (h : ¬ ((c.toNat : Int) = 58 ∨ (c.toNat : Int) = 59 ∨ (c.toNat : Int) = 38 ∨ (c.toNat : Int) = 61)) : symB c = false := decide_eq_false fun k => h (k.imp (fun e => by rw [e]; rfl) (fun h => h.imp (fun e => by rw [e]; rfl) (fun h => h.imp (fun e => by rw [e]; rfl) (fun e => by rw [e]; rfl))))
theorem symT_at {c : UInt8} (h : symB c = true) : symT c.toNat = [c] := by
 have h2 : c = 58 ∨ c = 59 ∨ c = 38 ∨ c = 61 := of_decide_eq_true h
 rcases h2 with rfl | rfl | rfl | rfl <;> rfl
theorem cut_len (s : Bs) : (cutH s).length ≤ s.length := (List.takeWhile_sublist _).length_le
structure TZ where
 ts : List MT
 A : Option Addr
 c : Nat

set_option maxRecDepth 100000 in
set_option maxHeartbeats 8000000 in
theorem tokenize_fn (s : Bs) (hs : s.length ≤ 1000000) {w : World} (hE : EvR w) : Fx Tryz.prog 26 [.string (bs s)] w [] no (fun v L => (∃ ts A c, tk (cutH s) = some ts ∧ ts.length ≤ s.length ∧ v = .tuple #[.slice A ts.length c, .bool true] ∧ L = [OS 114 tokK A c ts]) ∨ (tk (cutH s) = none ∧ v = .tuple #[.slice none 0 0, .bool false] ∧ L = [])) := by
 refine Sv.Fx.body Tryz.func26 rfl T26 rfl ?_
 intro I hro hI
 refine KV.env [(0, _)] ⟨rfl, trivial⟩ (CV.seq (CV.region ?_))
 refine RV.a rfl rfl (RV.a rfl rfl ?_)
 refine RV.nil (KV.then_n (KV.env [(0, _)] ⟨rfl, trivial⟩ (CV.seq (CV.region ?_))))
 refine RV.m rfl rfl ?_
 refine RV.op (OV.call [] (F := []) Tryz.func49 B49 N49 rfl rfl (fun w h => scut_fn s hs) (fun _ hb => hb.elim) gno rfl (fun v L' hp => ?_))
 obtain ⟨rfl, rfl⟩ := hp
 simp only [List.append_nil]
 refine RV.m rfl rfl (RV.s (Step.extract0 rfl rfl) rfl (RV.s (Step.extract0 rfl rfl) rfl (RV.s (Step.extract0 rfl rfl) rfl (RV.a rfl rfl ?_))))
 refine RV.nil (KV.then_n (KV.env [(0, _)] ⟨rfl, trivial⟩ (CV.seq ?_)))
 obtain ⟨l, hl0⟩ : ∃ l, l = cutH s := ⟨_, rfl⟩
 rw [← hl0]
 have hl : l.length ≤ 1000000 := by rw [hl0]; exact Nat.le_trans (cut_len s) hs
 refine CV.region ?_
 refine RV.a rfl rfl ?_
 refine RV.nil (KV.then_n (KV.env [(0, _), (4, _)] ⟨rfl, rfl, trivial⟩ (CV.seq (CV.seq ?_))))
 refine KV.heap (fun w h => h.nilOS (e := 114) (K := tokK)) ?_
 refine CV.region ?_
 refine RV.a rfl rfl ?_
 refine RV.nil (KV.then_n (KV.env [(0, _), (4, _), (5, _)] ⟨rfl, rfl, rfl, trivial⟩ (CV.block ?_)))
 refine KV.sel [0] [_] rfl ?_
 refine CV.loop2 (fun (i : Nat) (T : TZ) => i ≤ l.length ∧ T.ts.length ≤ i ∧ Rd l i T.ts) (fun (i : Nat) (T : TZ) => l.length - i) (fun (i : Nat) (T : TZ) => [(0, .string (bs l)), (4, .slice T.A T.ts.length T.c), (5, .int .i64 i)]) (fun (i : Nat) (T : TZ) => Hp I w [OS 114 tokK T.A T.c T.ts]) (0) (⟨[], none, 0⟩) ⟨Nat.zero_le _, Nat.le_refl _, Rd.start l⟩ ⟨rfl, rfl, rfl, trivial⟩ (fun _ h => h) ?_
 intro i T hinv
 refine CV.seq (CV.seq (CV.region ?_))
 refine RV.m rfl rfl (RV.m rfl rfl (RV.s (Step.lenStr Tryz.underlying9 rfl) rfl ?_))
 refine RV.op (OV.split gno (Step.lss rfl rfl) rfl (fun hj => ?_) (fun hj => ?_))
 ·
  refine RV.nil (KV.then_n (KV.env [(0, _), (4, _), (5, _), (19, _)] ⟨rfl, rfl, rfl, rfl, trivial⟩ (CV.cond_t rfl (CV.skip (KV.then_n ?_)))))
  refine KV.env [(0, _), (4, _), (5, _)] ⟨rfl, rfl, rfl, trivial⟩ (CV.block (CV.seq (CV.region ?_)))
  refine RV.m rfl rfl (RV.m rfl rfl ?_)
  refine RV.s (Step.idxStr Tryz.underlying9 rfl rfl _ rfl (by omega)) rfl ?_
  refine RV.a rfl rfl ?_
  refine RV.nil (KV.then_n (KV.env [(0, _), (4, _), (5, _), (6, _)] ⟨rfl, rfl, rfl, rfl, trivial⟩ (CV.block (CV.seq (CV.region ?_)))))
  refine RV.m rfl rfl ?_
  refine RV.op (OV.split gno (Step.eql rfl rfl) rfl (fun c1 => ?_) (fun c1 => ?_))
  ·
   refine RV.m rfl rfl (RV.k rfl rfl (RV.k rfl rfl (RV.s (Step.pick_t rfl rfl) rfl (RV.a rfl rfl ?_))))
   refine RV.nil (KV.then_n (KV.env [(0, _), (4, _), (5, _), (6, _), (51, _)] ⟨rfl, rfl, rfl, rfl, rfl, trivial⟩ (CV.cond_t rfl (CV.region ?_))))
   refine RV.m rfl rfl ?_
   (first | refine RV.op (OV.step gno (Step.add rfl rfl (wI64 (by omega) (by omega))) rfl ?_) | refine RV.op (OV.step gno (Step.add rfl rfl rfl) rfl ?_))
   refine RV.a rfl rfl ?_
   refine RV.nil (KV.block_n (KV.block_n (KV.then_n (KV.env [(0, _), (4, _), (5, _)] ⟨rfl, rfl, rfl, trivial⟩ ?_))))
   refine KV.sel [0] [_] rfl ?_
   (first | exact KV.loop2 (x := i) (y := T) (i + 1) (T) ⟨by omega, by omega, hinv.2.2.sp (by omega) (sp_t (by omega))⟩ (by omega) ⟨rfl, rfl, rfl, trivial⟩ (fun _ h => h) | exact KV.loop2 (x := i) (y := T) (i + 1) (⟨T.ts ++ [.sym (l.getD i 0).toNat], A2, c2⟩) ⟨by omega, (by simp only [List.length_append, List.length_cons, List.length_nil]; omega), hinv.2.2.sym (by omega) (sp_f (by omega)) (sym_t (by omega))⟩ (by omega) ⟨rfl, rfl, rfl, trivial⟩ (fun _ h => h) | exact KV.loop2 (x := i) (y := T) (i + 2) (⟨T.ts ++ [.sym 62], A2, c2⟩) ⟨by omega, (by simp only [List.length_append, List.length_cons, List.length_nil]; omega), hinv.2.2.arr har⟩ (by omega) ⟨rfl, rfl, rfl, trivial⟩ (fun _ h => h) | exact KV.loop2 (x := i) (y := T) (e) (⟨T.ts ++ [.nm ((l.take e).drop i)], A2, c2⟩) ⟨by omega, (by have := (hWs _ hwt).1; simp only [List.length_append, List.length_cons, List.length_nil]; omega), (hWs _ hwt).2⟩ ((by have := (hWs _ hwt).1; omega)) ⟨rfl, rfl, rfl, trivial⟩ (fun _ h => h) | exact KV.loop2 (x := i) (y := T) (e) (⟨T.ts ++ [.num x], A2, c2⟩) ⟨by omega, (by have := (hWs _ hwt).1; simp only [List.length_append, List.length_cons, List.length_nil]; omega), (hWs _ hwt).2⟩ ((by have := (hWs _ hwt).1; omega)) ⟨rfl, rfl, rfl, trivial⟩ (fun _ h => h))
  ·
   refine RV.m rfl rfl (RV.gw rfl (Step.move rfl) rfl ?_)
   refine RV.op (OV.split (gyes rfl) (Step.eql rfl rfl) rfl (fun c2 => ?_) (fun c2 => ?_))
   ·
    refine RV.s (Step.pick_f rfl rfl) rfl (RV.a rfl rfl ?_)
    refine RV.nil (KV.then_n (KV.env [(0, _), (4, _), (5, _), (6, _), (51, _)] ⟨rfl, rfl, rfl, rfl, rfl, trivial⟩ (CV.cond_t rfl (CV.region ?_))))
    refine RV.m rfl rfl ?_
    (first | refine RV.op (OV.step gno (Step.add rfl rfl (wI64 (by omega) (by omega))) rfl ?_) | refine RV.op (OV.step gno (Step.add rfl rfl rfl) rfl ?_))
    refine RV.a rfl rfl ?_
    refine RV.nil (KV.block_n (KV.block_n (KV.then_n (KV.env [(0, _), (4, _), (5, _)] ⟨rfl, rfl, rfl, trivial⟩ ?_))))
    refine KV.sel [0] [_] rfl ?_
    (first | exact KV.loop2 (x := i) (y := T) (i + 1) (T) ⟨by omega, by omega, hinv.2.2.sp (by omega) (sp_t (by omega))⟩ (by omega) ⟨rfl, rfl, rfl, trivial⟩ (fun _ h => h) | exact KV.loop2 (x := i) (y := T) (i + 1) (⟨T.ts ++ [.sym (l.getD i 0).toNat], A2, c2⟩) ⟨by omega, (by simp only [List.length_append, List.length_cons, List.length_nil]; omega), hinv.2.2.sym (by omega) (sp_f (by omega)) (sym_t (by omega))⟩ (by omega) ⟨rfl, rfl, rfl, trivial⟩ (fun _ h => h) | exact KV.loop2 (x := i) (y := T) (i + 2) (⟨T.ts ++ [.sym 62], A2, c2⟩) ⟨by omega, (by simp only [List.length_append, List.length_cons, List.length_nil]; omega), hinv.2.2.arr har⟩ (by omega) ⟨rfl, rfl, rfl, trivial⟩ (fun _ h => h) | exact KV.loop2 (x := i) (y := T) (e) (⟨T.ts ++ [.nm ((l.take e).drop i)], A2, c2⟩) ⟨by omega, (by have := (hWs _ hwt).1; simp only [List.length_append, List.length_cons, List.length_nil]; omega), (hWs _ hwt).2⟩ ((by have := (hWs _ hwt).1; omega)) ⟨rfl, rfl, rfl, trivial⟩ (fun _ h => h) | exact KV.loop2 (x := i) (y := T) (e) (⟨T.ts ++ [.num x], A2, c2⟩) ⟨by omega, (by have := (hWs _ hwt).1; simp only [List.length_append, List.length_cons, List.length_nil]; omega), (hWs _ hwt).2⟩ ((by have := (hWs _ hwt).1; omega)) ⟨rfl, rfl, rfl, trivial⟩ (fun _ h => h))
   ·
    refine RV.s (Step.pick_f rfl rfl) rfl (RV.a rfl rfl ?_)
    refine RV.nil (KV.then_n (KV.env [(0, _), (4, _), (5, _), (6, _), (51, _)] ⟨rfl, rfl, rfl, rfl, rfl, trivial⟩ (CV.cond_f rfl (CV.seq (CV.region ?_)))))
    refine RV.m rfl rfl ?_
    refine RV.op (OV.split gno (Step.eql rfl rfl) rfl (fun c3 => ?_) (fun c3 => ?_))
    ·
     refine RV.m rfl rfl (RV.k rfl rfl (RV.k rfl rfl (RV.s (Step.pick_t rfl rfl) rfl (RV.m rfl rfl (RV.k rfl rfl (RV.k rfl rfl (RV.s (Step.pick_t rfl rfl) rfl ?_)))))))
     refine RV.m rfl rfl (RV.k rfl rfl (RV.k rfl rfl (RV.s (Step.pick_t rfl rfl) rfl (RV.a rfl rfl ?_))))
     refine RV.nil (KV.then_n (KV.env [(0, _), (4, _), (5, _), (60, _)] ⟨rfl, rfl, rfl, rfl, trivial⟩ (CV.cond_t rfl (CV.seq (CV.region ?_)))))
     refine RV.m rfl rfl (RV.m rfl rfl (RV.m rfl rfl (RV.m rfl rfl ?_)))
     (first | refine RV.op (OV.step gno (Step.add rfl rfl (wI64 (by omega) (by omega))) rfl ?_) | refine RV.op (OV.step gno (Step.add rfl rfl rfl) rfl ?_))
     refine RV.s (Step.slStrLH Tryz.underlying9 rfl rfl rfl (i) (i + 1) (rfl) (rfl) (by omega) (by omega)) rfl ?_
     refine RV.s (Step.build rfl (Bd114_0_1 _ _)) rfl ?_
     refine RV.op (OV.buildSlice (K := tokK) ([MT.sym (l.getD i 0).toNat]) rfl (Bs71_1_0 _ _ _) rfl (by rw [one_at (by omega)]; simp only [flat, List.flatMap_cons, List.flatMap_nil, List.append_nil]; show _ = [Value.int .i64 3, .string (bs (symT (l.getD i 0).toNat)), .int .u64 0]; rw [symT_at (sym_t (by omega))]) (by omega) gno rfl (fun b17_7 => ?_))
     refine RV.op (OV.append 0 Tryz.underlying71 I114 rfl rfl rfl rfl rfl rfl (fun w h => h.os 1 rfl) (by simp only [List.length_cons, List.length_nil]; omega) (by simp only [List.length_cons, List.length_nil]; omega) gno rfl (fun A2 c2 => ?_))
     refine RV.a rfl rfl ?_
     refine RV.nil (KV.then_n (KV.env [(0, _), (4, _), (5, _)] ⟨rfl, rfl, rfl, trivial⟩ (CV.region ?_)))
     refine RV.m rfl rfl ?_
     (first | refine RV.op (OV.step gno (Step.add rfl rfl (wI64 (by omega) (by omega))) rfl ?_) | refine RV.op (OV.step gno (Step.add rfl rfl rfl) rfl ?_))
     refine RV.a rfl rfl ?_
     refine RV.nil (KV.block_n (KV.block_n (KV.then_n (KV.env [(0, _), (4, _), (5, _)] ⟨rfl, rfl, rfl, trivial⟩ ?_))))
     refine KV.sel [0] [_] rfl ?_
     (first | exact KV.loop2 (x := i) (y := T) (i + 1) (T) ⟨by omega, by omega, hinv.2.2.sp (by omega) (sp_t (by omega))⟩ (by omega) ⟨rfl, rfl, rfl, trivial⟩ (fun _ h => h) | exact KV.loop2 (x := i) (y := T) (i + 1) (⟨T.ts ++ [.sym (l.getD i 0).toNat], A2, c2⟩) ⟨by omega, (by simp only [List.length_append, List.length_cons, List.length_nil]; omega), hinv.2.2.sym (by omega) (sp_f (by omega)) (sym_t (by omega))⟩ (by omega) ⟨rfl, rfl, rfl, trivial⟩ (fun _ h => h) | exact KV.loop2 (x := i) (y := T) (i + 2) (⟨T.ts ++ [.sym 62], A2, c2⟩) ⟨by omega, (by simp only [List.length_append, List.length_cons, List.length_nil]; omega), hinv.2.2.arr har⟩ (by omega) ⟨rfl, rfl, rfl, trivial⟩ (fun _ h => h) | exact KV.loop2 (x := i) (y := T) (e) (⟨T.ts ++ [.nm ((l.take e).drop i)], A2, c2⟩) ⟨by omega, (by have := (hWs _ hwt).1; simp only [List.length_append, List.length_cons, List.length_nil]; omega), (hWs _ hwt).2⟩ ((by have := (hWs _ hwt).1; omega)) ⟨rfl, rfl, rfl, trivial⟩ (fun _ h => h) | exact KV.loop2 (x := i) (y := T) (e) (⟨T.ts ++ [.num x], A2, c2⟩) ⟨by omega, (by have := (hWs _ hwt).1; simp only [List.length_append, List.length_cons, List.length_nil]; omega), (hWs _ hwt).2⟩ ((by have := (hWs _ hwt).1; omega)) ⟨rfl, rfl, rfl, trivial⟩ (fun _ h => h))
    ·
     refine RV.m rfl rfl (RV.gw rfl (Step.move rfl) rfl ?_)
     refine RV.op (OV.split (gyes rfl) (Step.eql rfl rfl) rfl (fun c4 => ?_) (fun c4 => ?_))
     ·
      refine RV.s (Step.pick_f rfl rfl) rfl (RV.m rfl rfl (RV.k rfl rfl (RV.k rfl rfl (RV.s (Step.pick_t rfl rfl) rfl (RV.m rfl rfl (RV.k rfl rfl (RV.k rfl rfl ?_)))))))
      refine RV.s (Step.pick_t rfl rfl) rfl (RV.a rfl rfl ?_)
      refine RV.nil (KV.then_n (KV.env [(0, _), (4, _), (5, _), (60, _)] ⟨rfl, rfl, rfl, rfl, trivial⟩ (CV.cond_t rfl (CV.seq (CV.region ?_)))))
      refine RV.m rfl rfl (RV.m rfl rfl (RV.m rfl rfl (RV.m rfl rfl ?_)))
      (first | refine RV.op (OV.step gno (Step.add rfl rfl (wI64 (by omega) (by omega))) rfl ?_) | refine RV.op (OV.step gno (Step.add rfl rfl rfl) rfl ?_))
      refine RV.s (Step.slStrLH Tryz.underlying9 rfl rfl rfl (i) (i + 1) (rfl) (rfl) (by omega) (by omega)) rfl ?_
      refine RV.s (Step.build rfl (Bd114_0_1 _ _)) rfl ?_
      refine RV.op (OV.buildSlice (K := tokK) ([MT.sym (l.getD i 0).toNat]) rfl (Bs71_1_0 _ _ _) rfl (by rw [one_at (by omega)]; simp only [flat, List.flatMap_cons, List.flatMap_nil, List.append_nil]; show _ = [Value.int .i64 3, .string (bs (symT (l.getD i 0).toNat)), .int .u64 0]; rw [symT_at (sym_t (by omega))]) (by omega) gno rfl (fun b17_7 => ?_))
      refine RV.op (OV.append 0 Tryz.underlying71 I114 rfl rfl rfl rfl rfl rfl (fun w h => h.os 1 rfl) (by simp only [List.length_cons, List.length_nil]; omega) (by simp only [List.length_cons, List.length_nil]; omega) gno rfl (fun A2 c2 => ?_))
      refine RV.a rfl rfl ?_
      refine RV.nil (KV.then_n (KV.env [(0, _), (4, _), (5, _)] ⟨rfl, rfl, rfl, trivial⟩ (CV.region ?_)))
      refine RV.m rfl rfl ?_
      (first | refine RV.op (OV.step gno (Step.add rfl rfl (wI64 (by omega) (by omega))) rfl ?_) | refine RV.op (OV.step gno (Step.add rfl rfl rfl) rfl ?_))
      refine RV.a rfl rfl ?_
      refine RV.nil (KV.block_n (KV.block_n (KV.then_n (KV.env [(0, _), (4, _), (5, _)] ⟨rfl, rfl, rfl, trivial⟩ ?_))))
      refine KV.sel [0] [_] rfl ?_
      (first | exact KV.loop2 (x := i) (y := T) (i + 1) (T) ⟨by omega, by omega, hinv.2.2.sp (by omega) (sp_t (by omega))⟩ (by omega) ⟨rfl, rfl, rfl, trivial⟩ (fun _ h => h) | exact KV.loop2 (x := i) (y := T) (i + 1) (⟨T.ts ++ [.sym (l.getD i 0).toNat], A2, c2⟩) ⟨by omega, (by simp only [List.length_append, List.length_cons, List.length_nil]; omega), hinv.2.2.sym (by omega) (sp_f (by omega)) (sym_t (by omega))⟩ (by omega) ⟨rfl, rfl, rfl, trivial⟩ (fun _ h => h) | exact KV.loop2 (x := i) (y := T) (i + 2) (⟨T.ts ++ [.sym 62], A2, c2⟩) ⟨by omega, (by simp only [List.length_append, List.length_cons, List.length_nil]; omega), hinv.2.2.arr har⟩ (by omega) ⟨rfl, rfl, rfl, trivial⟩ (fun _ h => h) | exact KV.loop2 (x := i) (y := T) (e) (⟨T.ts ++ [.nm ((l.take e).drop i)], A2, c2⟩) ⟨by omega, (by have := (hWs _ hwt).1; simp only [List.length_append, List.length_cons, List.length_nil]; omega), (hWs _ hwt).2⟩ ((by have := (hWs _ hwt).1; omega)) ⟨rfl, rfl, rfl, trivial⟩ (fun _ h => h) | exact KV.loop2 (x := i) (y := T) (e) (⟨T.ts ++ [.num x], A2, c2⟩) ⟨by omega, (by have := (hWs _ hwt).1; simp only [List.length_append, List.length_cons, List.length_nil]; omega), (hWs _ hwt).2⟩ ((by have := (hWs _ hwt).1; omega)) ⟨rfl, rfl, rfl, trivial⟩ (fun _ h => h))
     ·
      refine RV.s (Step.pick_f rfl rfl) rfl (RV.m rfl rfl (RV.gw rfl (Step.move rfl) rfl ?_))
      refine RV.op (OV.split (gyes rfl) (Step.eql rfl rfl) rfl (fun c5 => ?_) (fun c5 => ?_))
      ·
       refine RV.s (Step.pick_f rfl rfl) rfl (RV.m rfl rfl (RV.k rfl rfl (RV.k rfl rfl (RV.s (Step.pick_t rfl rfl) rfl (RV.a rfl rfl ?_)))))
       refine RV.nil (KV.then_n (KV.env [(0, _), (4, _), (5, _), (60, _)] ⟨rfl, rfl, rfl, rfl, trivial⟩ (CV.cond_t rfl (CV.seq (CV.region ?_)))))
       refine RV.m rfl rfl (RV.m rfl rfl (RV.m rfl rfl (RV.m rfl rfl ?_)))
       (first | refine RV.op (OV.step gno (Step.add rfl rfl (wI64 (by omega) (by omega))) rfl ?_) | refine RV.op (OV.step gno (Step.add rfl rfl rfl) rfl ?_))
       refine RV.s (Step.slStrLH Tryz.underlying9 rfl rfl rfl (i) (i + 1) (rfl) (rfl) (by omega) (by omega)) rfl ?_
       refine RV.s (Step.build rfl (Bd114_0_1 _ _)) rfl ?_
       refine RV.op (OV.buildSlice (K := tokK) ([MT.sym (l.getD i 0).toNat]) rfl (Bs71_1_0 _ _ _) rfl (by rw [one_at (by omega)]; simp only [flat, List.flatMap_cons, List.flatMap_nil, List.append_nil]; show _ = [Value.int .i64 3, .string (bs (symT (l.getD i 0).toNat)), .int .u64 0]; rw [symT_at (sym_t (by omega))]) (by omega) gno rfl (fun b17_7 => ?_))
       refine RV.op (OV.append 0 Tryz.underlying71 I114 rfl rfl rfl rfl rfl rfl (fun w h => h.os 1 rfl) (by simp only [List.length_cons, List.length_nil]; omega) (by simp only [List.length_cons, List.length_nil]; omega) gno rfl (fun A2 c2 => ?_))
       refine RV.a rfl rfl ?_
       refine RV.nil (KV.then_n (KV.env [(0, _), (4, _), (5, _)] ⟨rfl, rfl, rfl, trivial⟩ (CV.region ?_)))
       refine RV.m rfl rfl ?_
       (first | refine RV.op (OV.step gno (Step.add rfl rfl (wI64 (by omega) (by omega))) rfl ?_) | refine RV.op (OV.step gno (Step.add rfl rfl rfl) rfl ?_))
       refine RV.a rfl rfl ?_
       refine RV.nil (KV.block_n (KV.block_n (KV.then_n (KV.env [(0, _), (4, _), (5, _)] ⟨rfl, rfl, rfl, trivial⟩ ?_))))
       refine KV.sel [0] [_] rfl ?_
       (first | exact KV.loop2 (x := i) (y := T) (i + 1) (T) ⟨by omega, by omega, hinv.2.2.sp (by omega) (sp_t (by omega))⟩ (by omega) ⟨rfl, rfl, rfl, trivial⟩ (fun _ h => h) | exact KV.loop2 (x := i) (y := T) (i + 1) (⟨T.ts ++ [.sym (l.getD i 0).toNat], A2, c2⟩) ⟨by omega, (by simp only [List.length_append, List.length_cons, List.length_nil]; omega), hinv.2.2.sym (by omega) (sp_f (by omega)) (sym_t (by omega))⟩ (by omega) ⟨rfl, rfl, rfl, trivial⟩ (fun _ h => h) | exact KV.loop2 (x := i) (y := T) (i + 2) (⟨T.ts ++ [.sym 62], A2, c2⟩) ⟨by omega, (by simp only [List.length_append, List.length_cons, List.length_nil]; omega), hinv.2.2.arr har⟩ (by omega) ⟨rfl, rfl, rfl, trivial⟩ (fun _ h => h) | exact KV.loop2 (x := i) (y := T) (e) (⟨T.ts ++ [.nm ((l.take e).drop i)], A2, c2⟩) ⟨by omega, (by have := (hWs _ hwt).1; simp only [List.length_append, List.length_cons, List.length_nil]; omega), (hWs _ hwt).2⟩ ((by have := (hWs _ hwt).1; omega)) ⟨rfl, rfl, rfl, trivial⟩ (fun _ h => h) | exact KV.loop2 (x := i) (y := T) (e) (⟨T.ts ++ [.num x], A2, c2⟩) ⟨by omega, (by have := (hWs _ hwt).1; simp only [List.length_append, List.length_cons, List.length_nil]; omega), (hWs _ hwt).2⟩ ((by have := (hWs _ hwt).1; omega)) ⟨rfl, rfl, rfl, trivial⟩ (fun _ h => h))
      ·
       refine RV.s (Step.pick_f rfl rfl) rfl (RV.m rfl rfl (RV.gw rfl (Step.move rfl) rfl ?_))
       refine RV.op (OV.split (gyes rfl) (Step.eql rfl rfl) rfl (fun c6 => ?_) (fun c6 => ?_))
       ·
        refine RV.s (Step.pick_f rfl rfl) rfl (RV.a rfl rfl ?_)
        refine RV.nil (KV.then_n (KV.env [(0, _), (4, _), (5, _), (60, _)] ⟨rfl, rfl, rfl, rfl, trivial⟩ (CV.cond_t rfl (CV.seq (CV.region ?_)))))
        refine RV.m rfl rfl (RV.m rfl rfl (RV.m rfl rfl (RV.m rfl rfl ?_)))
        (first | refine RV.op (OV.step gno (Step.add rfl rfl (wI64 (by omega) (by omega))) rfl ?_) | refine RV.op (OV.step gno (Step.add rfl rfl rfl) rfl ?_))
        refine RV.s (Step.slStrLH Tryz.underlying9 rfl rfl rfl (i) (i + 1) (rfl) (rfl) (by omega) (by omega)) rfl ?_
        refine RV.s (Step.build rfl (Bd114_0_1 _ _)) rfl ?_
        refine RV.op (OV.buildSlice (K := tokK) ([MT.sym (l.getD i 0).toNat]) rfl (Bs71_1_0 _ _ _) rfl (by rw [one_at (by omega)]; simp only [flat, List.flatMap_cons, List.flatMap_nil, List.append_nil]; show _ = [Value.int .i64 3, .string (bs (symT (l.getD i 0).toNat)), .int .u64 0]; rw [symT_at (sym_t (by omega))]) (by omega) gno rfl (fun b17_7 => ?_))
        refine RV.op (OV.append 0 Tryz.underlying71 I114 rfl rfl rfl rfl rfl rfl (fun w h => h.os 1 rfl) (by simp only [List.length_cons, List.length_nil]; omega) (by simp only [List.length_cons, List.length_nil]; omega) gno rfl (fun A2 c2 => ?_))
        refine RV.a rfl rfl ?_
        refine RV.nil (KV.then_n (KV.env [(0, _), (4, _), (5, _)] ⟨rfl, rfl, rfl, trivial⟩ (CV.region ?_)))
        refine RV.m rfl rfl ?_
        (first | refine RV.op (OV.step gno (Step.add rfl rfl (wI64 (by omega) (by omega))) rfl ?_) | refine RV.op (OV.step gno (Step.add rfl rfl rfl) rfl ?_))
        refine RV.a rfl rfl ?_
        refine RV.nil (KV.block_n (KV.block_n (KV.then_n (KV.env [(0, _), (4, _), (5, _)] ⟨rfl, rfl, rfl, trivial⟩ ?_))))
        refine KV.sel [0] [_] rfl ?_
        (first | exact KV.loop2 (x := i) (y := T) (i + 1) (T) ⟨by omega, by omega, hinv.2.2.sp (by omega) (sp_t (by omega))⟩ (by omega) ⟨rfl, rfl, rfl, trivial⟩ (fun _ h => h) | exact KV.loop2 (x := i) (y := T) (i + 1) (⟨T.ts ++ [.sym (l.getD i 0).toNat], A2, c2⟩) ⟨by omega, (by simp only [List.length_append, List.length_cons, List.length_nil]; omega), hinv.2.2.sym (by omega) (sp_f (by omega)) (sym_t (by omega))⟩ (by omega) ⟨rfl, rfl, rfl, trivial⟩ (fun _ h => h) | exact KV.loop2 (x := i) (y := T) (i + 2) (⟨T.ts ++ [.sym 62], A2, c2⟩) ⟨by omega, (by simp only [List.length_append, List.length_cons, List.length_nil]; omega), hinv.2.2.arr har⟩ (by omega) ⟨rfl, rfl, rfl, trivial⟩ (fun _ h => h) | exact KV.loop2 (x := i) (y := T) (e) (⟨T.ts ++ [.nm ((l.take e).drop i)], A2, c2⟩) ⟨by omega, (by have := (hWs _ hwt).1; simp only [List.length_append, List.length_cons, List.length_nil]; omega), (hWs _ hwt).2⟩ ((by have := (hWs _ hwt).1; omega)) ⟨rfl, rfl, rfl, trivial⟩ (fun _ h => h) | exact KV.loop2 (x := i) (y := T) (e) (⟨T.ts ++ [.num x], A2, c2⟩) ⟨by omega, (by have := (hWs _ hwt).1; simp only [List.length_append, List.length_cons, List.length_nil]; omega), (hWs _ hwt).2⟩ ((by have := (hWs _ hwt).1; omega)) ⟨rfl, rfl, rfl, trivial⟩ (fun _ h => h))
       ·
        refine RV.s (Step.pick_f rfl rfl) rfl (RV.a rfl rfl ?_)
        refine RV.nil (KV.then_n (KV.env [(0, _), (4, _), (5, _), (60, _)] ⟨rfl, rfl, rfl, rfl, trivial⟩ (CV.cond_f rfl (CV.seq (CV.region ?_)))))
        refine RV.m rfl rfl (RV.m rfl rfl ?_)
        refine RV.s (Step.slStrLo Tryz.underlying9 rfl rfl (i) (rfl) (by omega)) rfl ?_
        refine RV.op (OV.callP Tryz.func50 B50 N50 rfl (spfx_fn (l.drop i) [45, 62]) gno rfl ?_)
        by_cases har : ([45, 62] : Bs).length ≤ (l.drop i).length ∧ (l.drop i).take ([45, 62] : Bs).length = [45, 62]
        ·
         rw [decide_eq_true har]
         have har2 : i + 2 ≤ l.length := by have h5 : 2 ≤ (l.drop i).length := har.1; rw [List.length_drop] at h5; omega
         refine RV.a rfl rfl ?_
         refine RV.nil (KV.then_n (KV.env [(0, _), (4, _), (5, _), (86, _)] ⟨rfl, rfl, rfl, rfl, trivial⟩ (CV.cond_t rfl (CV.seq (CV.region ?_)))))
         refine RV.m rfl rfl (RV.s (Step.build rfl (Bd114_0_1 _ _)) rfl ?_)
         refine RV.op (OV.buildSlice (K := tokK) ([MT.sym 62]) rfl (Bs71_1_0 _ _ _) rfl rfl (by omega) gno rfl (fun b20_2 => ?_))
         refine RV.op (OV.append 0 Tryz.underlying71 I114 rfl rfl rfl rfl rfl rfl (fun w h => h.os 1 rfl) (by simp only [List.length_cons, List.length_nil]; omega) (by simp only [List.length_cons, List.length_nil]; omega) gno rfl (fun A2 c2 => ?_))
         refine RV.a rfl rfl ?_
         refine RV.nil (KV.then_n (KV.env [(0, _), (4, _), (5, _)] ⟨rfl, rfl, rfl, trivial⟩ (CV.region ?_)))
         refine RV.m rfl rfl ?_
         (first | refine RV.op (OV.step gno (Step.add rfl rfl (wI64 (by omega) (by omega))) rfl ?_) | refine RV.op (OV.step gno (Step.add rfl rfl rfl) rfl ?_))
         refine RV.a rfl rfl ?_
         refine RV.nil (KV.block_n (KV.block_n (KV.then_n (KV.env [(0, _), (4, _), (5, _)] ⟨rfl, rfl, rfl, trivial⟩ ?_))))
         refine KV.sel [0] [_] rfl ?_
         (first | exact KV.loop2 (x := i) (y := T) (i + 1) (T) ⟨by omega, by omega, hinv.2.2.sp (by omega) (sp_t (by omega))⟩ (by omega) ⟨rfl, rfl, rfl, trivial⟩ (fun _ h => h) | exact KV.loop2 (x := i) (y := T) (i + 1) (⟨T.ts ++ [.sym (l.getD i 0).toNat], A2, c2⟩) ⟨by omega, (by simp only [List.length_append, List.length_cons, List.length_nil]; omega), hinv.2.2.sym (by omega) (sp_f (by omega)) (sym_t (by omega))⟩ (by omega) ⟨rfl, rfl, rfl, trivial⟩ (fun _ h => h) | exact KV.loop2 (x := i) (y := T) (i + 2) (⟨T.ts ++ [.sym 62], A2, c2⟩) ⟨by omega, (by simp only [List.length_append, List.length_cons, List.length_nil]; omega), hinv.2.2.arr har⟩ (by omega) ⟨rfl, rfl, rfl, trivial⟩ (fun _ h => h) | exact KV.loop2 (x := i) (y := T) (e) (⟨T.ts ++ [.nm ((l.take e).drop i)], A2, c2⟩) ⟨by omega, (by have := (hWs _ hwt).1; simp only [List.length_append, List.length_cons, List.length_nil]; omega), (hWs _ hwt).2⟩ ((by have := (hWs _ hwt).1; omega)) ⟨rfl, rfl, rfl, trivial⟩ (fun _ h => h) | exact KV.loop2 (x := i) (y := T) (e) (⟨T.ts ++ [.num x], A2, c2⟩) ⟨by omega, (by have := (hWs _ hwt).1; simp only [List.length_append, List.length_cons, List.length_nil]; omega), (hWs _ hwt).2⟩ ((by have := (hWs _ hwt).1; omega)) ⟨rfl, rfl, rfl, trivial⟩ (fun _ h => h))
        ·
         rw [decide_eq_false har]
         refine RV.a rfl rfl ?_
         refine RV.nil (KV.then_n (KV.env [(0, _), (4, _), (5, _), (86, _)] ⟨rfl, rfl, rfl, rfl, trivial⟩ (CV.cond_f rfl (CV.seq (CV.region ?_)))))
         refine RV.m rfl rfl (RV.a rfl rfl ?_)
         refine RV.nil (KV.then_n (KV.env [(0, _), (4, _), (5, _), (7, _)] ⟨rfl, rfl, rfl, rfl, trivial⟩ (CV.seq (CV.block ?_))))
         refine KV.sel [0] [_] rfl ?_
         refine CV.loopI (fun (e : Nat) => i ≤ e ∧ e ≤ l.length ∧ ∀ k, i ≤ k → k < e → wrdB (l.getD k 0) = true) (fun (e : Nat) => l.length - e) (fun (e : Nat) => [(0, .string (bs l)), (4, .slice T.A T.ts.length T.c), (5, .int .i64 i), (7, .int .i64 e)]) (fun (e : Nat) => Hp I w [OS 114 tokK T.A T.c T.ts]) (i) ⟨Nat.le_refl _, by omega, fun k h1 h2 => by omega⟩ ⟨rfl, rfl, rfl, rfl, trivial⟩ (fun _ h => h) ?_
         intro e hi2
         refine CV.seq (CV.seq (CV.region ?_))
         refine RV.m rfl rfl (RV.m rfl rfl (RV.s (Step.lenStr Tryz.underlying9 rfl) rfl ?_))
         refine RV.op (OV.split gno (Step.lss rfl rfl) rfl (fun he => ?_) (fun he => ?_))
         ·
          refine RV.m rfl rfl (RV.gw rfl (Step.move rfl) rfl (RV.gw rfl (Step.move rfl) rfl ?_))
          refine RV.gw rfl (Step.idxStr Tryz.underlying9 rfl rfl _ rfl (by omega)) rfl ?_
          refine RV.op (OV.callP Tryz.func51 B51 N51 rfl (isWord_fn (l.getD e 0)) (gyes rfl) rfl ?_)
          refine RV.s (Step.pick_t rfl rfl) rfl ?_
          refine RV.nil (KV.then_n (KV.env [(0, _), (4, _), (5, _), (7, _), (33, _)] ⟨rfl, rfl, rfl, rfl, rfl, trivial⟩ ?_))
          refine KV.cases 33 rfl (fun cc1 => ?_) (fun cc1 => ?_)
          ·
           have hw : wrdB (l.getD e 0) = true := cc1
           refine CV.cond_t rfl (CV.skip (KV.then_n (KV.env [(0, _), (4, _), (5, _), (7, _)] ⟨rfl, rfl, rfl, rfl, trivial⟩ (CV.block (CV.region ?_)))))
           refine RV.m rfl rfl ?_
           (first | refine RV.op (OV.step gno (Step.add rfl rfl (wI64 (by omega) (by omega))) rfl ?_) | refine RV.op (OV.step gno (Step.add rfl rfl rfl) rfl ?_))
           refine RV.a rfl rfl ?_
           refine RV.nil (KV.block_n (KV.then_n (KV.env [(0, _), (4, _), (5, _), (7, _)] ⟨rfl, rfl, rfl, rfl, trivial⟩ ?_)))
           refine KV.sel [0] [_] rfl ?_
           exact KV.loopI (z := e) (e + 1) ⟨by omega, by omega, fun k h1 h2 => by by_cases e2 : k = e; (subst e2; exact hw); exact hi2.2.2 k h1 (by omega)⟩ (by omega) ⟨rfl, rfl, rfl, rfl, trivial⟩ (fun _ h => h)
          ·
           have hw : wrdB (l.getD e 0) = false := cc1
           refine CV.cond_f rfl (CV.exit (KV.then_exit (KV.then_exit (KV.block_hit (KV.then_n ?_)))))
           refine KV.env [(0, _), (4, _), (5, _), (7, _)] ⟨rfl, rfl, rfl, rfl, trivial⟩ (CV.seq ?_)
           have hend : e = l.length ∨ wrdB (l.getD e 0) = false := by first | exact .inr hw | (left; omega)
           obtain ⟨hWn, hWs⟩ := hinv.2.2.word (by omega) (sp_f (by omega)) (sym_f (by omega)) har hi2.1 hi2.2.1 hi2.2.2 hend
           refine CV.region ?_
           refine RV.m rfl rfl (RV.m rfl rfl (RV.m rfl rfl ?_))
           refine RV.s (Step.slStrLH Tryz.underlying9 rfl rfl rfl (i) (e) (rfl) (rfl) (by omega) (by omega)) rfl ?_
           refine RV.op (OV.call [] (F := [_]) Tryz.func52 B52 N52 rfl rfl (fun w h => word3_fn ((l.take e).drop i) (by rw [List.length_drop, List.length_take]; omega) (EvR.keep h hE (hI _))) (fun _ hb => hb.elim) gno rfl (fun v L' hp => ?_))
           obtain ⟨hv, rfl⟩ := hp
           simp only [List.append_nil]
           rcases hv with ⟨hwt, rfl⟩ | ⟨x, hwt, rfl⟩ | ⟨hwt, rfl⟩
           ·
            skip
            refine RV.m rfl rfl (RV.s (Step.extract0 rfl rfl) rfl (RV.s (Step.extract0 rfl rfl) rfl ?_))
            refine RV.op (OV.alloc #[.int .i64 0, .string (Sv.bs []), .int .u64 0] I114 rfl gno rfl (fun q => ?_))
            refine RV.op (OV.store 1 [_, _, _] #[_, _, _] I114 rfl rfl rfl rfl rfl (Nat.le_of_ble_eq_true rfl) (by simp [Value.oneCell']) rfl gno ?_)
            refine RV.a rfl rfl ?_
            refine RV.nil (KV.then_n (KV.env [(0, _), (4, _), (7, _), (8, _), (9, _)] ⟨rfl, rfl, rfl, rfl, rfl, trivial⟩ (CV.seq (CV.seq (CV.region ?_)))))
            refine RV.m rfl rfl (RV.s (Step.not rfl) rfl ?_)
            refine RV.nil (KV.then_n (KV.env [(0, _), (4, _), (7, _), (8, _), (45, _)] ⟨rfl, rfl, rfl, rfl, rfl, trivial⟩ (CV.cond_f rfl (CV.skip (KV.then_n ?_)))))
            refine KV.env [(0, _), (4, _), (7, _), (8, _)] ⟨rfl, rfl, rfl, rfl, trivial⟩ (CV.seq (CV.region ?_))
            refine RV.m rfl rfl (RV.s (Step.loadN _ Tryz.underlying114 rfl I114 rfl rfl (fun w h => h.cells 1 rfl)) rfl ?_)
            refine RV.op (OV.buildSlice (K := tokK) ([MT.nm ((l.take e).drop i)]) rfl (Bs71_1_0 _ _ _) rfl rfl (by omega) gno rfl (fun b12_2 => ?_))
            refine RV.op (OV.append 0 Tryz.underlying71 I114 rfl rfl rfl rfl rfl rfl (fun w h => h.os 2 rfl) (by simp only [List.length_cons, List.length_nil]; omega) (by simp only [List.length_cons, List.length_nil]; omega) gno rfl (fun A2 c2 => ?_))
            refine RV.a rfl rfl ?_
            refine RV.nil (KV.then_n (KV.env [(0, _), (4, _), (7, _)] ⟨rfl, rfl, rfl, trivial⟩ (CV.region ?_)))
            refine RV.m rfl rfl (RV.a rfl rfl ?_)
            refine RV.nil (KV.block_n (KV.block_n (KV.then_n (KV.env [(0, _), (4, _), (5, _)] ⟨rfl, rfl, rfl, trivial⟩ ?_))))
            refine KV.sel [0] [_] rfl ?_
            (first | exact KV.loop2 (x := i) (y := T) (i + 1) (T) ⟨by omega, by omega, hinv.2.2.sp (by omega) (sp_t (by omega))⟩ (by omega) ⟨rfl, rfl, rfl, trivial⟩ (fun _ h => h) | exact KV.loop2 (x := i) (y := T) (i + 1) (⟨T.ts ++ [.sym (l.getD i 0).toNat], A2, c2⟩) ⟨by omega, (by simp only [List.length_append, List.length_cons, List.length_nil]; omega), hinv.2.2.sym (by omega) (sp_f (by omega)) (sym_t (by omega))⟩ (by omega) ⟨rfl, rfl, rfl, trivial⟩ (fun _ h => h) | exact KV.loop2 (x := i) (y := T) (i + 2) (⟨T.ts ++ [.sym 62], A2, c2⟩) ⟨by omega, (by simp only [List.length_append, List.length_cons, List.length_nil]; omega), hinv.2.2.arr har⟩ (by omega) ⟨rfl, rfl, rfl, trivial⟩ (fun _ h => h) | exact KV.loop2 (x := i) (y := T) (e) (⟨T.ts ++ [.nm ((l.take e).drop i)], A2, c2⟩) ⟨by omega, (by have := (hWs _ hwt).1; simp only [List.length_append, List.length_cons, List.length_nil]; omega), (hWs _ hwt).2⟩ ((by have := (hWs _ hwt).1; omega)) ⟨rfl, rfl, rfl, trivial⟩ (fun _ h => h) | exact KV.loop2 (x := i) (y := T) (e) (⟨T.ts ++ [.num x], A2, c2⟩) ⟨by omega, (by have := (hWs _ hwt).1; simp only [List.length_append, List.length_cons, List.length_nil]; omega), (hWs _ hwt).2⟩ ((by have := (hWs _ hwt).1; omega)) ⟨rfl, rfl, rfl, trivial⟩ (fun _ h => h))
           ·
            skip
            refine RV.m rfl rfl (RV.s (Step.extract0 rfl rfl) rfl (RV.s (Step.extract0 rfl rfl) rfl ?_))
            refine RV.op (OV.alloc #[.int .i64 0, .string (Sv.bs []), .int .u64 0] I114 rfl gno rfl (fun q => ?_))
            refine RV.op (OV.store 1 [_, _, _] #[_, _, _] I114 rfl rfl rfl rfl rfl (Nat.le_of_ble_eq_true rfl) (by simp [Value.oneCell']) rfl gno ?_)
            refine RV.a rfl rfl ?_
            refine RV.nil (KV.then_n (KV.env [(0, _), (4, _), (7, _), (8, _), (9, _)] ⟨rfl, rfl, rfl, rfl, rfl, trivial⟩ (CV.seq (CV.seq (CV.region ?_)))))
            refine RV.m rfl rfl (RV.s (Step.not rfl) rfl ?_)
            refine RV.nil (KV.then_n (KV.env [(0, _), (4, _), (7, _), (8, _), (45, _)] ⟨rfl, rfl, rfl, rfl, rfl, trivial⟩ (CV.cond_f rfl (CV.skip (KV.then_n ?_)))))
            refine KV.env [(0, _), (4, _), (7, _), (8, _)] ⟨rfl, rfl, rfl, rfl, trivial⟩ (CV.seq (CV.region ?_))
            refine RV.m rfl rfl (RV.s (Step.loadN _ Tryz.underlying114 rfl I114 rfl rfl (fun w h => h.cells 1 rfl)) rfl ?_)
            refine RV.op (OV.buildSlice (K := tokK) ([MT.num x]) rfl (Bs71_1_0 _ _ _) rfl rfl (by omega) gno rfl (fun b12_2 => ?_))
            refine RV.op (OV.append 0 Tryz.underlying71 I114 rfl rfl rfl rfl rfl rfl (fun w h => h.os 2 rfl) (by simp only [List.length_cons, List.length_nil]; omega) (by simp only [List.length_cons, List.length_nil]; omega) gno rfl (fun A2 c2 => ?_))
            refine RV.a rfl rfl ?_
            refine RV.nil (KV.then_n (KV.env [(0, _), (4, _), (7, _)] ⟨rfl, rfl, rfl, trivial⟩ (CV.region ?_)))
            refine RV.m rfl rfl (RV.a rfl rfl ?_)
            refine RV.nil (KV.block_n (KV.block_n (KV.then_n (KV.env [(0, _), (4, _), (5, _)] ⟨rfl, rfl, rfl, trivial⟩ ?_))))
            refine KV.sel [0] [_] rfl ?_
            (first | exact KV.loop2 (x := i) (y := T) (i + 1) (T) ⟨by omega, by omega, hinv.2.2.sp (by omega) (sp_t (by omega))⟩ (by omega) ⟨rfl, rfl, rfl, trivial⟩ (fun _ h => h) | exact KV.loop2 (x := i) (y := T) (i + 1) (⟨T.ts ++ [.sym (l.getD i 0).toNat], A2, c2⟩) ⟨by omega, (by simp only [List.length_append, List.length_cons, List.length_nil]; omega), hinv.2.2.sym (by omega) (sp_f (by omega)) (sym_t (by omega))⟩ (by omega) ⟨rfl, rfl, rfl, trivial⟩ (fun _ h => h) | exact KV.loop2 (x := i) (y := T) (i + 2) (⟨T.ts ++ [.sym 62], A2, c2⟩) ⟨by omega, (by simp only [List.length_append, List.length_cons, List.length_nil]; omega), hinv.2.2.arr har⟩ (by omega) ⟨rfl, rfl, rfl, trivial⟩ (fun _ h => h) | exact KV.loop2 (x := i) (y := T) (e) (⟨T.ts ++ [.nm ((l.take e).drop i)], A2, c2⟩) ⟨by omega, (by have := (hWs _ hwt).1; simp only [List.length_append, List.length_cons, List.length_nil]; omega), (hWs _ hwt).2⟩ ((by have := (hWs _ hwt).1; omega)) ⟨rfl, rfl, rfl, trivial⟩ (fun _ h => h) | exact KV.loop2 (x := i) (y := T) (e) (⟨T.ts ++ [.num x], A2, c2⟩) ⟨by omega, (by have := (hWs _ hwt).1; simp only [List.length_append, List.length_cons, List.length_nil]; omega), (hWs _ hwt).2⟩ ((by have := (hWs _ hwt).1; omega)) ⟨rfl, rfl, rfl, trivial⟩ (fun _ h => h))
           ·
            skip
            refine RV.m rfl rfl (RV.s (Step.extract0 rfl rfl) rfl (RV.s (Step.extract0 rfl rfl) rfl ?_))
            refine RV.op (OV.alloc #[.int .i64 0, .string (Sv.bs []), .int .u64 0] I114 rfl gno rfl (fun q => ?_))
            refine RV.op (OV.store 1 [_, _, _] #[_, _, _] I114 rfl rfl rfl rfl rfl (Nat.le_of_ble_eq_true rfl) (by simp [Value.oneCell']) rfl gno ?_)
            refine RV.a rfl rfl ?_
            refine RV.nil (KV.then_n (KV.env [(0, _), (4, _), (7, _), (8, _), (9, _)] ⟨rfl, rfl, rfl, rfl, rfl, trivial⟩ (CV.seq (CV.seq (CV.region ?_)))))
            refine RV.m rfl rfl (RV.s (Step.not rfl) rfl ?_)
            refine RV.nil (KV.then_n (KV.env [(0, _), (4, _), (7, _), (8, _), (45, _)] ⟨rfl, rfl, rfl, rfl, rfl, trivial⟩ (CV.cond_t rfl (CV.seq (CV.region ?_)))))
            refine RV.a rfl rfl (RV.a rfl rfl ?_)
            refine RV.nil (KV.then_n (KV.env [(2, _), (3, _)] ⟨rfl, rfl, trivial⟩ (CV.ret (KV.then_ret (KV.block_ret ?_)))))
            refine KV.block_ret (KV.then_ret (KV.block_ret (KV.then_ret ?_)))
            refine KV.sel [] [] rfl ?_
            exact KV.ret2 rfl rfl rfl _ (fun _ h => h) (.inr ⟨hWn hwt, rfl, rfl⟩)
         ·
          refine RV.m rfl rfl (RV.k rfl rfl (RV.k rfl rfl (RV.k rfl rfl (RV.k rfl rfl (RV.s (Step.pick_f rfl rfl) rfl ?_)))))
          refine RV.nil (KV.then_n (KV.env [(0, _), (4, _), (5, _), (7, _), (33, _)] ⟨rfl, rfl, rfl, rfl, rfl, trivial⟩ (CV.cond_f rfl (CV.exit (KV.then_exit ?_)))))
          refine KV.then_exit (KV.block_hit (KV.then_n (KV.env [(0, _), (4, _), (5, _), (7, _)] ⟨rfl, rfl, rfl, rfl, trivial⟩ (CV.seq ?_))))
          have hend : e = l.length ∨ wrdB (l.getD e 0) = false := by first | exact .inr hw | (left; omega)
          obtain ⟨hWn, hWs⟩ := hinv.2.2.word (by omega) (sp_f (by omega)) (sym_f (by omega)) har hi2.1 hi2.2.1 hi2.2.2 hend
          refine CV.region ?_
          refine RV.m rfl rfl (RV.m rfl rfl (RV.m rfl rfl ?_))
          refine RV.s (Step.slStrLH Tryz.underlying9 rfl rfl rfl (i) (e) (rfl) (rfl) (by omega) (by omega)) rfl ?_
          refine RV.op (OV.call [] (F := [_]) Tryz.func52 B52 N52 rfl rfl (fun w h => word3_fn ((l.take e).drop i) (by rw [List.length_drop, List.length_take]; omega) (EvR.keep h hE (hI _))) (fun _ hb => hb.elim) gno rfl (fun v L' hp => ?_))
          obtain ⟨hv, rfl⟩ := hp
          simp only [List.append_nil]
          rcases hv with ⟨hwt, rfl⟩ | ⟨x, hwt, rfl⟩ | ⟨hwt, rfl⟩
          ·
           skip
           refine RV.m rfl rfl (RV.s (Step.extract0 rfl rfl) rfl (RV.s (Step.extract0 rfl rfl) rfl ?_))
           refine RV.op (OV.alloc #[.int .i64 0, .string (Sv.bs []), .int .u64 0] I114 rfl gno rfl (fun q => ?_))
           refine RV.op (OV.store 1 [_, _, _] #[_, _, _] I114 rfl rfl rfl rfl rfl (Nat.le_of_ble_eq_true rfl) (by simp [Value.oneCell']) rfl gno ?_)
           refine RV.a rfl rfl ?_
           refine RV.nil (KV.then_n (KV.env [(0, _), (4, _), (7, _), (8, _), (9, _)] ⟨rfl, rfl, rfl, rfl, rfl, trivial⟩ (CV.seq (CV.seq (CV.region ?_)))))
           refine RV.m rfl rfl (RV.s (Step.not rfl) rfl ?_)
           refine RV.nil (KV.then_n (KV.env [(0, _), (4, _), (7, _), (8, _), (45, _)] ⟨rfl, rfl, rfl, rfl, rfl, trivial⟩ (CV.cond_f rfl (CV.skip (KV.then_n ?_)))))
           refine KV.env [(0, _), (4, _), (7, _), (8, _)] ⟨rfl, rfl, rfl, rfl, trivial⟩ (CV.seq (CV.region ?_))
           refine RV.m rfl rfl (RV.s (Step.loadN _ Tryz.underlying114 rfl I114 rfl rfl (fun w h => h.cells 1 rfl)) rfl ?_)
           refine RV.op (OV.buildSlice (K := tokK) ([MT.nm ((l.take e).drop i)]) rfl (Bs71_1_0 _ _ _) rfl rfl (by omega) gno rfl (fun b12_2 => ?_))
           refine RV.op (OV.append 0 Tryz.underlying71 I114 rfl rfl rfl rfl rfl rfl (fun w h => h.os 2 rfl) (by simp only [List.length_cons, List.length_nil]; omega) (by simp only [List.length_cons, List.length_nil]; omega) gno rfl (fun A2 c2 => ?_))
           refine RV.a rfl rfl ?_
           refine RV.nil (KV.then_n (KV.env [(0, _), (4, _), (7, _)] ⟨rfl, rfl, rfl, trivial⟩ (CV.region ?_)))
           refine RV.m rfl rfl (RV.a rfl rfl ?_)
           refine RV.nil (KV.block_n (KV.block_n (KV.then_n (KV.env [(0, _), (4, _), (5, _)] ⟨rfl, rfl, rfl, trivial⟩ ?_))))
           refine KV.sel [0] [_] rfl ?_
           (first | exact KV.loop2 (x := i) (y := T) (i + 1) (T) ⟨by omega, by omega, hinv.2.2.sp (by omega) (sp_t (by omega))⟩ (by omega) ⟨rfl, rfl, rfl, trivial⟩ (fun _ h => h) | exact KV.loop2 (x := i) (y := T) (i + 1) (⟨T.ts ++ [.sym (l.getD i 0).toNat], A2, c2⟩) ⟨by omega, (by simp only [List.length_append, List.length_cons, List.length_nil]; omega), hinv.2.2.sym (by omega) (sp_f (by omega)) (sym_t (by omega))⟩ (by omega) ⟨rfl, rfl, rfl, trivial⟩ (fun _ h => h) | exact KV.loop2 (x := i) (y := T) (i + 2) (⟨T.ts ++ [.sym 62], A2, c2⟩) ⟨by omega, (by simp only [List.length_append, List.length_cons, List.length_nil]; omega), hinv.2.2.arr har⟩ (by omega) ⟨rfl, rfl, rfl, trivial⟩ (fun _ h => h) | exact KV.loop2 (x := i) (y := T) (e) (⟨T.ts ++ [.nm ((l.take e).drop i)], A2, c2⟩) ⟨by omega, (by have := (hWs _ hwt).1; simp only [List.length_append, List.length_cons, List.length_nil]; omega), (hWs _ hwt).2⟩ ((by have := (hWs _ hwt).1; omega)) ⟨rfl, rfl, rfl, trivial⟩ (fun _ h => h) | exact KV.loop2 (x := i) (y := T) (e) (⟨T.ts ++ [.num x], A2, c2⟩) ⟨by omega, (by have := (hWs _ hwt).1; simp only [List.length_append, List.length_cons, List.length_nil]; omega), (hWs _ hwt).2⟩ ((by have := (hWs _ hwt).1; omega)) ⟨rfl, rfl, rfl, trivial⟩ (fun _ h => h))
          ·
           skip
           refine RV.m rfl rfl (RV.s (Step.extract0 rfl rfl) rfl (RV.s (Step.extract0 rfl rfl) rfl ?_))
           refine RV.op (OV.alloc #[.int .i64 0, .string (Sv.bs []), .int .u64 0] I114 rfl gno rfl (fun q => ?_))
           refine RV.op (OV.store 1 [_, _, _] #[_, _, _] I114 rfl rfl rfl rfl rfl (Nat.le_of_ble_eq_true rfl) (by simp [Value.oneCell']) rfl gno ?_)
           refine RV.a rfl rfl ?_
           refine RV.nil (KV.then_n (KV.env [(0, _), (4, _), (7, _), (8, _), (9, _)] ⟨rfl, rfl, rfl, rfl, rfl, trivial⟩ (CV.seq (CV.seq (CV.region ?_)))))
           refine RV.m rfl rfl (RV.s (Step.not rfl) rfl ?_)
           refine RV.nil (KV.then_n (KV.env [(0, _), (4, _), (7, _), (8, _), (45, _)] ⟨rfl, rfl, rfl, rfl, rfl, trivial⟩ (CV.cond_f rfl (CV.skip (KV.then_n ?_)))))
           refine KV.env [(0, _), (4, _), (7, _), (8, _)] ⟨rfl, rfl, rfl, rfl, trivial⟩ (CV.seq (CV.region ?_))
           refine RV.m rfl rfl (RV.s (Step.loadN _ Tryz.underlying114 rfl I114 rfl rfl (fun w h => h.cells 1 rfl)) rfl ?_)
           refine RV.op (OV.buildSlice (K := tokK) ([MT.num x]) rfl (Bs71_1_0 _ _ _) rfl rfl (by omega) gno rfl (fun b12_2 => ?_))
           refine RV.op (OV.append 0 Tryz.underlying71 I114 rfl rfl rfl rfl rfl rfl (fun w h => h.os 2 rfl) (by simp only [List.length_cons, List.length_nil]; omega) (by simp only [List.length_cons, List.length_nil]; omega) gno rfl (fun A2 c2 => ?_))
           refine RV.a rfl rfl ?_
           refine RV.nil (KV.then_n (KV.env [(0, _), (4, _), (7, _)] ⟨rfl, rfl, rfl, trivial⟩ (CV.region ?_)))
           refine RV.m rfl rfl (RV.a rfl rfl ?_)
           refine RV.nil (KV.block_n (KV.block_n (KV.then_n (KV.env [(0, _), (4, _), (5, _)] ⟨rfl, rfl, rfl, trivial⟩ ?_))))
           refine KV.sel [0] [_] rfl ?_
           (first | exact KV.loop2 (x := i) (y := T) (i + 1) (T) ⟨by omega, by omega, hinv.2.2.sp (by omega) (sp_t (by omega))⟩ (by omega) ⟨rfl, rfl, rfl, trivial⟩ (fun _ h => h) | exact KV.loop2 (x := i) (y := T) (i + 1) (⟨T.ts ++ [.sym (l.getD i 0).toNat], A2, c2⟩) ⟨by omega, (by simp only [List.length_append, List.length_cons, List.length_nil]; omega), hinv.2.2.sym (by omega) (sp_f (by omega)) (sym_t (by omega))⟩ (by omega) ⟨rfl, rfl, rfl, trivial⟩ (fun _ h => h) | exact KV.loop2 (x := i) (y := T) (i + 2) (⟨T.ts ++ [.sym 62], A2, c2⟩) ⟨by omega, (by simp only [List.length_append, List.length_cons, List.length_nil]; omega), hinv.2.2.arr har⟩ (by omega) ⟨rfl, rfl, rfl, trivial⟩ (fun _ h => h) | exact KV.loop2 (x := i) (y := T) (e) (⟨T.ts ++ [.nm ((l.take e).drop i)], A2, c2⟩) ⟨by omega, (by have := (hWs _ hwt).1; simp only [List.length_append, List.length_cons, List.length_nil]; omega), (hWs _ hwt).2⟩ ((by have := (hWs _ hwt).1; omega)) ⟨rfl, rfl, rfl, trivial⟩ (fun _ h => h) | exact KV.loop2 (x := i) (y := T) (e) (⟨T.ts ++ [.num x], A2, c2⟩) ⟨by omega, (by have := (hWs _ hwt).1; simp only [List.length_append, List.length_cons, List.length_nil]; omega), (hWs _ hwt).2⟩ ((by have := (hWs _ hwt).1; omega)) ⟨rfl, rfl, rfl, trivial⟩ (fun _ h => h))
          ·
           skip
           refine RV.m rfl rfl (RV.s (Step.extract0 rfl rfl) rfl (RV.s (Step.extract0 rfl rfl) rfl ?_))
           refine RV.op (OV.alloc #[.int .i64 0, .string (Sv.bs []), .int .u64 0] I114 rfl gno rfl (fun q => ?_))
           refine RV.op (OV.store 1 [_, _, _] #[_, _, _] I114 rfl rfl rfl rfl rfl (Nat.le_of_ble_eq_true rfl) (by simp [Value.oneCell']) rfl gno ?_)
           refine RV.a rfl rfl ?_
           refine RV.nil (KV.then_n (KV.env [(0, _), (4, _), (7, _), (8, _), (9, _)] ⟨rfl, rfl, rfl, rfl, rfl, trivial⟩ (CV.seq (CV.seq (CV.region ?_)))))
           refine RV.m rfl rfl (RV.s (Step.not rfl) rfl ?_)
           refine RV.nil (KV.then_n (KV.env [(0, _), (4, _), (7, _), (8, _), (45, _)] ⟨rfl, rfl, rfl, rfl, rfl, trivial⟩ (CV.cond_t rfl (CV.seq (CV.region ?_)))))
           refine RV.a rfl rfl (RV.a rfl rfl ?_)
           refine RV.nil (KV.then_n (KV.env [(2, _), (3, _)] ⟨rfl, rfl, trivial⟩ (CV.ret (KV.then_ret (KV.block_ret ?_)))))
           refine KV.block_ret (KV.then_ret (KV.block_ret (KV.then_ret ?_)))
           refine KV.sel [] [] rfl ?_
           exact KV.ret2 rfl rfl rfl _ (fun _ h => h) (.inr ⟨hWn hwt, rfl, rfl⟩)
 ·
  refine RV.nil (KV.then_n (KV.env [(0, _), (4, _), (5, _), (19, _)] ⟨rfl, rfl, rfl, rfl, trivial⟩ (CV.cond_f rfl (CV.exit (KV.then_exit ?_)))))
  refine KV.then_exit (KV.block_hit (KV.then_n (KV.env [(4, _)] ⟨rfl, trivial⟩ (CV.seq (CV.region ?_)))))
  refine RV.m rfl rfl (RV.a rfl rfl (RV.a rfl rfl ?_))
  refine RV.nil (KV.then_n (KV.env [(2, _), (3, _)] ⟨rfl, rfl, trivial⟩ (CV.ret ?_)))
  obtain rfl : i = l.length := by omega
  exact KV.ret2 rfl rfl rfl _ (fun _ h => h) (.inl ⟨T.ts, T.A, T.c, by exact hinv.2.2.fin, by have := cut_len s; rw [← hl0] at this; omega, rfl, rfl⟩)
end Go.Proofs.YtplmfekhdaefaaaGreatDoor
