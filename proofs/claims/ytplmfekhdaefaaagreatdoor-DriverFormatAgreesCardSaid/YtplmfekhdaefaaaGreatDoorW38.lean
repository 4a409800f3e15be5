/-
 Walks, part 38.
-/
import Derived.Test.YtplmfekhdaefaaaGreatDoorTabB
import Derived.Test.YtplmfekhdaefaaaGreatDoorW18
import Derived.Test.YtplmfekhdaefaaaGreatDoorDm33
import Derived.Test.YtplmfekhdaefaaaGreatDoorDm21
set_option linter.unusedSimpArgs false
set_option linter.unusedVariables false
namespace Go.Proofs.YtplmfekhdaefaaaGreatDoor
open Go.Sv Go.Drv
theorem rg_set {H : List TH} (h : ∀ x ∈ H, rgT x.t) {k : Nat} {y : TH} (hy : rgT y.t) : ∀ x ∈ H.set k y, rgT x.t := fun x hx => (List.mem_or_eq_of_mem_set hx).elim (h x) (fun e => e ▸ hy)
theorem rg_get {H : List TH} (h : ∀ x ∈ H, rgT x.t) {k : Nat} (hk : k < H.length) : rgT (H.getD k thK.d).t := h _ (by simp [List.getD, hk])
theorem rg_spO {h : TH} (hr : rgT h.t) (n : Int) (A : Option Addr) (c : Nat) : rgT (spO h n A c).t := by
 refine ⟨hr.1, fun o ho => ?_⟩
 rcases List.mem_append.1 ho with ho | ho
 ·
  exact hr.2 o ho
 ·
  obtain rfl := List.mem_singleton.1 ho
  have h3 := modM_lt n (n := 3) (by decide)
  exact ⟨⟨by show (0 : Int) ≤ 0; decide, by show (0 : Int) < 18446744073709551616; decide⟩, ⟨h3.1, by show modM n 3 < 18446744073709551616; omega⟩⟩
theorem rgD_of {d : DH} (h : ∀ x ∈ d.hs, rgT x.t) : rgD d.d := fun t ht => by
 obtain ⟨x, hx, rfl⟩ := List.mem_map.1 ht
 exact h x hx
theorem rgH_of {d : DH} (h : rgD d.d) : ∀ x ∈ d.hs, rgT x.t := fun x hx => h _ (List.mem_map.2 ⟨x, hx, rfl⟩)

set_option maxRecDepth 100000 in
set_option maxHeartbeats 16000000 in
theorem spoil2_fn (d : DH) (how n : Int) (text : Bs) {w : World} (hrH : ∀ x ∈ d.hs, rgT x.t) (h0 : 0 < d.ss.length) (hl1 : d.ss.length ≤ 1000) (hl2 : d.hs.length ≤ 1000) (hl3 : ∀ i, i < d.hs.length → (d.hs.getD i thK.d).t.ops.length ≤ 1000) : Fx Tryz.prog 15 [.agg #[.string (bs d.name), .slice d.sA d.ss.length d.sc, .slice d.tA d.hs.length d.tc], .int .i64 how, .int .i64 n, .string (bs text)] w (dL d) no (fun v L => ∃ d3 : DH, v = .agg #[.string (bs d3.name), .slice d3.sA d3.ss.length d3.sc, .slice d3.tA d3.hs.length d3.tc] ∧ (∀ x ∈ d3.hs, rgT x.t) ∧ L = dL d3) := by
 refine Sv.Fx.body Tryz.func15 rfl T15 rfl ?_
 intro I hro hI
 refine KV.env [(0, _), (1, _), (2, _), (3, _)] ⟨rfl, rfl, rfl, rfl, trivial⟩ ?_
 unfold dL
 obtain ⟨q, hq, hql⟩ := modN n h0
 refine CV.seq (CV.region ?_)
 refine RV.op (OV.box (t := 25) #[_, _, _] rfl rfl gno rfl (fun b => ?_))
 refine RV.op (OV.alloc #[.string (Sv.bs []), .slice none 0 0, .slice none 0 0] I25 rfl gno rfl (fun p => ?_))
 refine RV.nil (KV.then_n (KV.env [(1, _), (2, _), (3, _), (4, _), (8, _)] ⟨rfl, rfl, rfl, rfl, rfl, trivial⟩ (CV.seq (CV.region ?_))))
 refine RV.m rfl rfl (RV.s (Step.fieldAddr rfl (F25_1 _ _)) rfl (RV.s (Step.load Tryz.underlying22 rfl rfl (fun w h => h.cell 3 rfl rfl)) rfl (RV.s (Step.lenSl Tryz.underlying22 rfl) rfl ?_)))
 refine RV.op (OV.callP Tryz.func11 B11 N11 rfl (mod_fn n d.ss.length h0 (by omega)) gno rfl ?_)
 rw [hq]
 refine RV.a rfl rfl ?_
 refine RV.nil (KV.then_n (KV.env [(1, _), (2, _), (3, _), (4, _), (8, _), (9, _)] ⟨rfl, rfl, rfl, rfl, rfl, rfl, trivial⟩ ?_))
 refine CV.join4 (fun (nm : Bs) (sA : Option Addr) (sc : Nat) (ss : List Bs) => [(1, .int .i64 how), (2, .int .i64 n), (3, .string (bs text)), (4, .pointer (some ⟨b, 0, none⟩)), (8, .pointer (some ⟨p, 0, none⟩))]) (fun (nm : Bs) (sA : Option Addr) (sc : Nat) (ss : List Bs) => Hp I w [Blk b (.cells #[.string (bs nm), .slice sA ss.length sc, .slice d.tA d.hs.length d.tc] 25 (0, 0)), Blk p (.cells #[.string (bs []), .slice none 0 0, .slice none 0 0] 25 (0, 0)), OS 9 strK sA sc ss, OS 48 thK d.tA d.tc d.hs, Big opA d.hs]) ?_ ?_
 ·
  skip
  refine CV.seq (CV.region ?_)
  refine RV.m rfl rfl ?_
  refine RV.op (OV.callP Tryz.func11 B11 N11 rfl (mod_fn how 9 (by omega) (by omega)) gno rfl ?_)
  refine RV.nil (KV.then_n (KV.env [(1, _), (2, _), (3, _), (4, _), (8, _), (9, _), (17, _)] ⟨rfl, rfl, rfl, rfl, rfl, rfl, rfl, trivial⟩ (CV.block (CV.seq (CV.region ?_)))))
  refine RV.op (OV.split gno (Step.eql rfl rfl) rfl (fun x3_0 => ?_) (fun x3_0 => ?_))
  ·
   refine RV.a rfl rfl ?_
   refine RV.nil (KV.then_n (KV.env [(1, _), (2, _), (3, _), (4, _), (8, _), (9, _), (17, _), (18, _)] ⟨rfl, rfl, rfl, rfl, rfl, rfl, rfl, rfl, trivial⟩ (CV.cond_t rfl (CV.region ?_))))
   refine RV.m rfl rfl (RV.s (Step.fieldAddr rfl (F25_0 _ _)) rfl ?_)
   refine RV.op (OV.store 3 [_] #[_, _, _] I9 rfl rfl rfl rfl rfl (Nat.le_of_ble_eq_true rfl) (by simp [Value.oneCell']) rfl gno ?_)
   refine RV.nil (KV.block_n (KV.then_n (KV.env [(1, _), (2, _), (3, _), (4, _), (8, _)] ⟨rfl, rfl, rfl, rfl, rfl, trivial⟩ ?_)))
   refine KV.sel [3, 3, 0, 0, 0] [_, _, _, _, _] rfl ?_
   (first | exact KV.join4 (text) (d.sA) (d.sc) (d.ss) ⟨rfl, rfl, rfl, rfl, rfl, trivial⟩ (fun _ h => by first | exact h | (rw [List.length_set]; exact h)) | exact KV.join4 (d.name) (d.sA) (d.sc) (d.ss.set q text) ⟨rfl, rfl, rfl, rfl, rfl, trivial⟩ (fun _ h => by first | exact h | (rw [List.length_set]; exact h)) | exact KV.join4 (d.name) (A2) (c2) (d.ss ++ [d.ss.getD q strK.d]) ⟨rfl, rfl, rfl, rfl, rfl, trivial⟩ (fun _ h => by first | exact h | (rw [List.length_set]; exact h)) | exact KV.join4 (d.name) (d.sA) (d.sc) (d.ss) ⟨rfl, rfl, rfl, rfl, rfl, trivial⟩ (fun _ h => by first | exact h | (rw [List.length_set]; exact h)))
  ·
   refine RV.a rfl rfl ?_
   refine RV.nil (KV.then_n (KV.env [(1, _), (2, _), (3, _), (4, _), (8, _), (9, _), (17, _), (18, _)] ⟨rfl, rfl, rfl, rfl, rfl, rfl, rfl, rfl, trivial⟩ (CV.cond_f rfl (CV.seq (CV.region ?_)))))
   refine RV.op (OV.split gno (Step.eql rfl rfl) rfl (fun x5_0 => ?_) (fun x5_0 => ?_))
   ·
    refine RV.a rfl rfl ?_
    refine RV.nil (KV.then_n (KV.env [(1, _), (2, _), (3, _), (4, _), (8, _), (9, _), (17, _), (22, _)] ⟨rfl, rfl, rfl, rfl, rfl, rfl, rfl, rfl, trivial⟩ (CV.cond_t rfl (CV.region ?_))))
    refine RV.s (Step.fieldAddr rfl (F25_1 _ _)) rfl (RV.s (Step.load Tryz.underlying22 rfl rfl (fun w h => h.cell 3 rfl rfl)) rfl (RV.m rfl rfl (RV.m rfl rfl ?_)))
    refine RV.s (Step.idx Tryz.underlying22 I9 (fun w h => h.os 0 rfl) rfl rfl (rfl) _ rfl (by omega)) rfl ?_
    refine RV.op (OV.storeE 0 (q) (text) (j := 0) [_] I9 rfl rfl rfl rfl rfl rfl (by omega) rfl (Nat.le_of_ble_eq_true rfl) gno ?_)
    refine RV.nil (KV.block_n (KV.then_n (KV.env [(1, _), (2, _), (3, _), (4, _), (8, _)] ⟨rfl, rfl, rfl, rfl, rfl, trivial⟩ ?_)))
    refine KV.sel [3, 3, 0, 0, 0] [_, _, _, _, _] rfl ?_
    (first | exact KV.join4 (text) (d.sA) (d.sc) (d.ss) ⟨rfl, rfl, rfl, rfl, rfl, trivial⟩ (fun _ h => by first | exact h | (rw [List.length_set]; exact h)) | exact KV.join4 (d.name) (d.sA) (d.sc) (d.ss.set q text) ⟨rfl, rfl, rfl, rfl, rfl, trivial⟩ (fun _ h => by first | exact h | (rw [List.length_set]; exact h)) | exact KV.join4 (d.name) (A2) (c2) (d.ss ++ [d.ss.getD q strK.d]) ⟨rfl, rfl, rfl, rfl, rfl, trivial⟩ (fun _ h => by first | exact h | (rw [List.length_set]; exact h)) | exact KV.join4 (d.name) (d.sA) (d.sc) (d.ss) ⟨rfl, rfl, rfl, rfl, rfl, trivial⟩ (fun _ h => by first | exact h | (rw [List.length_set]; exact h)))
   ·
    refine RV.a rfl rfl ?_
    refine RV.nil (KV.then_n (KV.env [(1, _), (2, _), (3, _), (4, _), (8, _), (9, _), (17, _), (22, _)] ⟨rfl, rfl, rfl, rfl, rfl, rfl, rfl, rfl, trivial⟩ (CV.cond_f rfl (CV.seq (CV.region ?_)))))
    refine RV.op (OV.split gno (Step.eql rfl rfl) rfl (fun x7_0 => ?_) (fun x7_0 => ?_))
    ·
     refine RV.a rfl rfl ?_
     refine RV.nil (KV.then_n (KV.env [(1, _), (2, _), (3, _), (4, _), (8, _), (9, _), (29, _)] ⟨rfl, rfl, rfl, rfl, rfl, rfl, rfl, trivial⟩ (CV.cond_t rfl ?_)))
     refine CV.any (Hp I w []) (by kernel_rfl) (fun _ h => h.drew) 11 rfl ?_
     refine AV.u 0 (bl 11 1) rfl gno (Step.fieldAddr rfl (F25_1 _ _)) rfl (fun _ h => h.sel [] rfl) ?_
     refine AV.u 2 (bl 11 5) rfl gno (Step.fieldAddr rfl (F25_1 _ _)) rfl (fun _ h => h.sel [] rfl) ?_
     refine AV.u 4 (bl 11 21) rfl gno (Step.move rfl) rfl (fun _ h => h.sel [] rfl) ?_
     refine AV.all [1, 3] (by kernel_rfl) (by decide) ?_
     refine ⟨⟨_, rfl, ?_⟩, ⟨⟨_, rfl, ?_⟩, trivial⟩⟩
     ·
      refine OV.step gno (Step.load Tryz.underlying22 rfl rfl (fun w h => h.cell 3 rfl rfl)) rfl ?_
      refine AV.next (bl 11 23) (by kernel_rfl) (fun _ h => h.sel [] rfl) ?_
      refine AV.all [3] (by kernel_rfl) (by decide) ?_
      refine ⟨⟨_, rfl, ?_⟩, trivial⟩
      ·
       refine OV.step gno (Step.load Tryz.underlying22 rfl rfl (fun w h => h.cell 3 rfl rfl)) rfl ?_
       refine AV.next (bl 11 31) (by kernel_rfl) (fun _ h => h.sel [] rfl) ?_
       refine AV.all [5] (by kernel_rfl) (by decide) ?_
       refine ⟨⟨_, rfl, ?_⟩, trivial⟩
       ·
        refine OV.step gno (Step.idx Tryz.underlying22 I9 (fun w h => h.os 0 rfl) rfl rfl (rfl) _ rfl (by omega)) rfl ?_
        refine AV.next (bl 11 63) (by kernel_rfl) (fun _ h => h.sel [] rfl) ?_
        refine AV.all [6] (by kernel_rfl) (by decide) ?_
        refine ⟨⟨_, rfl, ?_⟩, trivial⟩
        ·
         refine OV.step gno (Step.load Tryz.underlying9 rfl rfl (fun w h => (h.os 0 rfl).cell0 (by omega) rfl)) rfl ?_
         refine AV.next (bl 11 127) (by kernel_rfl) (fun _ h => h.sel [] rfl) ?_
         refine AV.all [7] (by kernel_rfl) (by decide) ?_
         refine ⟨⟨_, rfl, ?_⟩, trivial⟩
         ·
          refine OV.buildSlice (K := strK) ([d.ss.getD q strK.d]) rfl (Bs22_1_0 _) rfl rfl (by omega) gno rfl (fun z => ?_)
          refine AV.next (bl 11 255) (by kernel_rfl) (fun _ h => h.sel [] rfl) ?_
          refine AV.all [8] (by kernel_rfl) (by decide) ?_
          refine ⟨⟨_, rfl, ?_⟩, trivial⟩
          ·
           refine OV.append 0 Tryz.underlying22 I9 rfl rfl rfl rfl rfl rfl (fun w h => h.os 5 rfl) (by simp only [List.length_cons, List.length_nil]; omega) (by simp only [List.length_cons, List.length_nil]; omega) gno rfl (fun A2 c2 => ?_)
           refine AV.next (bl 11 511) (by kernel_rfl) (fun _ h => h.sel [] rfl) ?_
           refine AV.u 9 (bl 11 1023) rfl gno (Step.fieldAddr rfl (F25_1 _ _)) rfl (fun _ h => h.sel [] rfl) ?_
           refine AV.all [10] (by kernel_rfl) (by decide) ?_
           refine ⟨⟨_, rfl, ?_⟩, trivial⟩
           ·
            refine OV.store 3 [_] #[_, _, _] I22 rfl rfl rfl rfl rfl (Nat.le_of_ble_eq_true rfl) (by simp [Value.oneCell']) rfl gno ?_
            refine AV.next (bl 11 2047) (by kernel_rfl) (fun _ h => h.sel [] rfl) ?_
            refine AV.done (by kernel_rfl) ?_
            refine KV.block_n (KV.then_n (KV.env [(1, _), (2, _), (3, _), (4, _), (8, _)] ⟨rfl, rfl, rfl, rfl, rfl, trivial⟩ ?_))
            refine KV.sel [3, 3, 0, 0, 0] [_, _, _, _, _] rfl ?_
            (first | exact KV.join4 (text) (d.sA) (d.sc) (d.ss) ⟨rfl, rfl, rfl, rfl, rfl, trivial⟩ (fun _ h => by first | exact h | (rw [List.length_set]; exact h)) | exact KV.join4 (d.name) (d.sA) (d.sc) (d.ss.set q text) ⟨rfl, rfl, rfl, rfl, rfl, trivial⟩ (fun _ h => by first | exact h | (rw [List.length_set]; exact h)) | exact KV.join4 (d.name) (A2) (c2) (d.ss ++ [d.ss.getD q strK.d]) ⟨rfl, rfl, rfl, rfl, rfl, trivial⟩ (fun _ h => by first | exact h | (rw [List.length_set]; exact h)) | exact KV.join4 (d.name) (d.sA) (d.sc) (d.ss) ⟨rfl, rfl, rfl, rfl, rfl, trivial⟩ (fun _ h => by first | exact h | (rw [List.length_set]; exact h)))
     ·
      refine OV.step gno (Step.load Tryz.underlying22 rfl rfl (fun w h => h.cell 3 rfl rfl)) rfl ?_
      refine AV.next (bl 11 29) (by kernel_rfl) (fun _ h => h.sel [] rfl) ?_
      refine AV.all [1, 5] (by kernel_rfl) (by decide) ?_
      refine ⟨⟨_, rfl, ?_⟩, ⟨⟨_, rfl, ?_⟩, trivial⟩⟩
      ·
       refine OV.step gno (Step.load Tryz.underlying22 rfl rfl (fun w h => h.cell 3 rfl rfl)) rfl ?_
       refine AV.next (bl 11 31) (by kernel_rfl) (fun _ h => h.sel [] rfl) ?_
       refine AV.all [5] (by kernel_rfl) (by decide) ?_
       refine ⟨⟨_, rfl, ?_⟩, trivial⟩
       ·
        refine OV.step gno (Step.idx Tryz.underlying22 I9 (fun w h => h.os 0 rfl) rfl rfl (rfl) _ rfl (by omega)) rfl ?_
        refine AV.next (bl 11 63) (by kernel_rfl) (fun _ h => h.sel [] rfl) ?_
        refine AV.all [6] (by kernel_rfl) (by decide) ?_
        refine ⟨⟨_, rfl, ?_⟩, trivial⟩
        ·
         refine OV.step gno (Step.load Tryz.underlying9 rfl rfl (fun w h => (h.os 0 rfl).cell0 (by omega) rfl)) rfl ?_
         refine AV.next (bl 11 127) (by kernel_rfl) (fun _ h => h.sel [] rfl) ?_
         refine AV.all [7] (by kernel_rfl) (by decide) ?_
         refine ⟨⟨_, rfl, ?_⟩, trivial⟩
         ·
          refine OV.buildSlice (K := strK) ([d.ss.getD q strK.d]) rfl (Bs22_1_0 _) rfl rfl (by omega) gno rfl (fun z => ?_)
          refine AV.next (bl 11 255) (by kernel_rfl) (fun _ h => h.sel [] rfl) ?_
          refine AV.all [8] (by kernel_rfl) (by decide) ?_
          refine ⟨⟨_, rfl, ?_⟩, trivial⟩
          ·
           refine OV.append 0 Tryz.underlying22 I9 rfl rfl rfl rfl rfl rfl (fun w h => h.os 5 rfl) (by simp only [List.length_cons, List.length_nil]; omega) (by simp only [List.length_cons, List.length_nil]; omega) gno rfl (fun A2 c2 => ?_)
           refine AV.next (bl 11 511) (by kernel_rfl) (fun _ h => h.sel [] rfl) ?_
           refine AV.u 9 (bl 11 1023) rfl gno (Step.fieldAddr rfl (F25_1 _ _)) rfl (fun _ h => h.sel [] rfl) ?_
           refine AV.all [10] (by kernel_rfl) (by decide) ?_
           refine ⟨⟨_, rfl, ?_⟩, trivial⟩
           ·
            refine OV.store 3 [_] #[_, _, _] I22 rfl rfl rfl rfl rfl (Nat.le_of_ble_eq_true rfl) (by simp [Value.oneCell']) rfl gno ?_
            refine AV.next (bl 11 2047) (by kernel_rfl) (fun _ h => h.sel [] rfl) ?_
            refine AV.done (by kernel_rfl) ?_
            refine KV.block_n (KV.then_n (KV.env [(1, _), (2, _), (3, _), (4, _), (8, _)] ⟨rfl, rfl, rfl, rfl, rfl, trivial⟩ ?_))
            refine KV.sel [3, 3, 0, 0, 0] [_, _, _, _, _] rfl ?_
            (first | exact KV.join4 (text) (d.sA) (d.sc) (d.ss) ⟨rfl, rfl, rfl, rfl, rfl, trivial⟩ (fun _ h => by first | exact h | (rw [List.length_set]; exact h)) | exact KV.join4 (d.name) (d.sA) (d.sc) (d.ss.set q text) ⟨rfl, rfl, rfl, rfl, rfl, trivial⟩ (fun _ h => by first | exact h | (rw [List.length_set]; exact h)) | exact KV.join4 (d.name) (A2) (c2) (d.ss ++ [d.ss.getD q strK.d]) ⟨rfl, rfl, rfl, rfl, rfl, trivial⟩ (fun _ h => by first | exact h | (rw [List.length_set]; exact h)) | exact KV.join4 (d.name) (d.sA) (d.sc) (d.ss) ⟨rfl, rfl, rfl, rfl, rfl, trivial⟩ (fun _ h => by first | exact h | (rw [List.length_set]; exact h)))
      ·
       refine OV.step gno (Step.idx Tryz.underlying22 I9 (fun w h => h.os 0 rfl) rfl rfl (rfl) _ rfl (by omega)) rfl ?_
       refine AV.next (bl 11 61) (by kernel_rfl) (fun _ h => h.sel [] rfl) ?_
       refine AV.all [1, 6] (by kernel_rfl) (by decide) ?_
       refine ⟨⟨_, rfl, ?_⟩, ⟨⟨_, rfl, ?_⟩, trivial⟩⟩
       ·
        refine OV.step gno (Step.load Tryz.underlying22 rfl rfl (fun w h => h.cell 3 rfl rfl)) rfl ?_
        refine AV.next (bl 11 63) (by kernel_rfl) (fun _ h => h.sel [] rfl) ?_
        refine AV.all [6] (by kernel_rfl) (by decide) ?_
        refine ⟨⟨_, rfl, ?_⟩, trivial⟩
        ·
         refine OV.step gno (Step.load Tryz.underlying9 rfl rfl (fun w h => (h.os 0 rfl).cell0 (by omega) rfl)) rfl ?_
         refine AV.next (bl 11 127) (by kernel_rfl) (fun _ h => h.sel [] rfl) ?_
         refine AV.all [7] (by kernel_rfl) (by decide) ?_
         refine ⟨⟨_, rfl, ?_⟩, trivial⟩
         ·
          refine OV.buildSlice (K := strK) ([d.ss.getD q strK.d]) rfl (Bs22_1_0 _) rfl rfl (by omega) gno rfl (fun z => ?_)
          refine AV.next (bl 11 255) (by kernel_rfl) (fun _ h => h.sel [] rfl) ?_
          refine AV.all [8] (by kernel_rfl) (by decide) ?_
          refine ⟨⟨_, rfl, ?_⟩, trivial⟩
          ·
           refine OV.append 0 Tryz.underlying22 I9 rfl rfl rfl rfl rfl rfl (fun w h => h.os 5 rfl) (by simp only [List.length_cons, List.length_nil]; omega) (by simp only [List.length_cons, List.length_nil]; omega) gno rfl (fun A2 c2 => ?_)
           refine AV.next (bl 11 511) (by kernel_rfl) (fun _ h => h.sel [] rfl) ?_
           refine AV.u 9 (bl 11 1023) rfl gno (Step.fieldAddr rfl (F25_1 _ _)) rfl (fun _ h => h.sel [] rfl) ?_
           refine AV.all [10] (by kernel_rfl) (by decide) ?_
           refine ⟨⟨_, rfl, ?_⟩, trivial⟩
           ·
            refine OV.store 3 [_] #[_, _, _] I22 rfl rfl rfl rfl rfl (Nat.le_of_ble_eq_true rfl) (by simp [Value.oneCell']) rfl gno ?_
            refine AV.next (bl 11 2047) (by kernel_rfl) (fun _ h => h.sel [] rfl) ?_
            refine AV.done (by kernel_rfl) ?_
            refine KV.block_n (KV.then_n (KV.env [(1, _), (2, _), (3, _), (4, _), (8, _)] ⟨rfl, rfl, rfl, rfl, rfl, trivial⟩ ?_))
            refine KV.sel [3, 3, 0, 0, 0] [_, _, _, _, _] rfl ?_
            (first | exact KV.join4 (text) (d.sA) (d.sc) (d.ss) ⟨rfl, rfl, rfl, rfl, rfl, trivial⟩ (fun _ h => by first | exact h | (rw [List.length_set]; exact h)) | exact KV.join4 (d.name) (d.sA) (d.sc) (d.ss.set q text) ⟨rfl, rfl, rfl, rfl, rfl, trivial⟩ (fun _ h => by first | exact h | (rw [List.length_set]; exact h)) | exact KV.join4 (d.name) (A2) (c2) (d.ss ++ [d.ss.getD q strK.d]) ⟨rfl, rfl, rfl, rfl, rfl, trivial⟩ (fun _ h => by first | exact h | (rw [List.length_set]; exact h)) | exact KV.join4 (d.name) (d.sA) (d.sc) (d.ss) ⟨rfl, rfl, rfl, rfl, rfl, trivial⟩ (fun _ h => by first | exact h | (rw [List.length_set]; exact h)))
       ·
        refine OV.step gno (Step.load Tryz.underlying9 rfl rfl (fun w h => (h.os 0 rfl).cell0 (by omega) rfl)) rfl ?_
        refine AV.next (bl 11 125) (by kernel_rfl) (fun _ h => h.sel [] rfl) ?_
        refine AV.all [1, 7] (by kernel_rfl) (by decide) ?_
        refine ⟨⟨_, rfl, ?_⟩, ⟨⟨_, rfl, ?_⟩, trivial⟩⟩
        ·
         refine OV.step gno (Step.load Tryz.underlying22 rfl rfl (fun w h => h.cell 3 rfl rfl)) rfl ?_
         refine AV.next (bl 11 127) (by kernel_rfl) (fun _ h => h.sel [] rfl) ?_
         refine AV.all [7] (by kernel_rfl) (by decide) ?_
         refine ⟨⟨_, rfl, ?_⟩, trivial⟩
         ·
          refine OV.buildSlice (K := strK) ([d.ss.getD q strK.d]) rfl (Bs22_1_0 _) rfl rfl (by omega) gno rfl (fun z => ?_)
          refine AV.next (bl 11 255) (by kernel_rfl) (fun _ h => h.sel [] rfl) ?_
          refine AV.all [8] (by kernel_rfl) (by decide) ?_
          refine ⟨⟨_, rfl, ?_⟩, trivial⟩
          ·
           refine OV.append 0 Tryz.underlying22 I9 rfl rfl rfl rfl rfl rfl (fun w h => h.os 5 rfl) (by simp only [List.length_cons, List.length_nil]; omega) (by simp only [List.length_cons, List.length_nil]; omega) gno rfl (fun A2 c2 => ?_)
           refine AV.next (bl 11 511) (by kernel_rfl) (fun _ h => h.sel [] rfl) ?_
           refine AV.u 9 (bl 11 1023) rfl gno (Step.fieldAddr rfl (F25_1 _ _)) rfl (fun _ h => h.sel [] rfl) ?_
           refine AV.all [10] (by kernel_rfl) (by decide) ?_
           refine ⟨⟨_, rfl, ?_⟩, trivial⟩
           ·
            refine OV.store 3 [_] #[_, _, _] I22 rfl rfl rfl rfl rfl (Nat.le_of_ble_eq_true rfl) (by simp [Value.oneCell']) rfl gno ?_
            refine AV.next (bl 11 2047) (by kernel_rfl) (fun _ h => h.sel [] rfl) ?_
            refine AV.done (by kernel_rfl) ?_
            refine KV.block_n (KV.then_n (KV.env [(1, _), (2, _), (3, _), (4, _), (8, _)] ⟨rfl, rfl, rfl, rfl, rfl, trivial⟩ ?_))
            refine KV.sel [3, 3, 0, 0, 0] [_, _, _, _, _] rfl ?_
            (first | exact KV.join4 (text) (d.sA) (d.sc) (d.ss) ⟨rfl, rfl, rfl, rfl, rfl, trivial⟩ (fun _ h => by first | exact h | (rw [List.length_set]; exact h)) | exact KV.join4 (d.name) (d.sA) (d.sc) (d.ss.set q text) ⟨rfl, rfl, rfl, rfl, rfl, trivial⟩ (fun _ h => by first | exact h | (rw [List.length_set]; exact h)) | exact KV.join4 (d.name) (A2) (c2) (d.ss ++ [d.ss.getD q strK.d]) ⟨rfl, rfl, rfl, rfl, rfl, trivial⟩ (fun _ h => by first | exact h | (rw [List.length_set]; exact h)) | exact KV.join4 (d.name) (d.sA) (d.sc) (d.ss) ⟨rfl, rfl, rfl, rfl, rfl, trivial⟩ (fun _ h => by first | exact h | (rw [List.length_set]; exact h)))
        ·
         refine OV.buildSlice (K := strK) ([d.ss.getD q strK.d]) rfl (Bs22_1_0 _) rfl rfl (by omega) gno rfl (fun z => ?_)
         refine AV.next (bl 11 253) (by kernel_rfl) (fun _ h => h.sel [] rfl) ?_
         refine AV.all [1] (by kernel_rfl) (by decide) ?_
         refine ⟨⟨_, rfl, ?_⟩, trivial⟩
         ·
          refine OV.step gno (Step.load Tryz.underlying22 rfl rfl (fun w h => h.cell 3 rfl rfl)) rfl ?_
          refine AV.next (bl 11 255) (by kernel_rfl) (fun _ h => h.sel [] rfl) ?_
          refine AV.all [8] (by kernel_rfl) (by decide) ?_
          refine ⟨⟨_, rfl, ?_⟩, trivial⟩
          ·
           refine OV.append 0 Tryz.underlying22 I9 rfl rfl rfl rfl rfl rfl (fun w h => h.os 5 rfl) (by simp only [List.length_cons, List.length_nil]; omega) (by simp only [List.length_cons, List.length_nil]; omega) gno rfl (fun A2 c2 => ?_)
           refine AV.next (bl 11 511) (by kernel_rfl) (fun _ h => h.sel [] rfl) ?_
           refine AV.u 9 (bl 11 1023) rfl gno (Step.fieldAddr rfl (F25_1 _ _)) rfl (fun _ h => h.sel [] rfl) ?_
           refine AV.all [10] (by kernel_rfl) (by decide) ?_
           refine ⟨⟨_, rfl, ?_⟩, trivial⟩
           ·
            refine OV.store 3 [_] #[_, _, _] I22 rfl rfl rfl rfl rfl (Nat.le_of_ble_eq_true rfl) (by simp [Value.oneCell']) rfl gno ?_
            refine AV.next (bl 11 2047) (by kernel_rfl) (fun _ h => h.sel [] rfl) ?_
            refine AV.done (by kernel_rfl) ?_
            refine KV.block_n (KV.then_n (KV.env [(1, _), (2, _), (3, _), (4, _), (8, _)] ⟨rfl, rfl, rfl, rfl, rfl, trivial⟩ ?_))
            refine KV.sel [3, 3, 0, 0, 0] [_, _, _, _, _] rfl ?_
            (first | exact KV.join4 (text) (d.sA) (d.sc) (d.ss) ⟨rfl, rfl, rfl, rfl, rfl, trivial⟩ (fun _ h => by first | exact h | (rw [List.length_set]; exact h)) | exact KV.join4 (d.name) (d.sA) (d.sc) (d.ss.set q text) ⟨rfl, rfl, rfl, rfl, rfl, trivial⟩ (fun _ h => by first | exact h | (rw [List.length_set]; exact h)) | exact KV.join4 (d.name) (A2) (c2) (d.ss ++ [d.ss.getD q strK.d]) ⟨rfl, rfl, rfl, rfl, rfl, trivial⟩ (fun _ h => by first | exact h | (rw [List.length_set]; exact h)) | exact KV.join4 (d.name) (d.sA) (d.sc) (d.ss) ⟨rfl, rfl, rfl, rfl, rfl, trivial⟩ (fun _ h => by first | exact h | (rw [List.length_set]; exact h)))
    ·
     refine RV.a rfl rfl ?_
     refine RV.nil (KV.then_n (KV.env [(1, _), (2, _), (3, _), (4, _), (8, _), (9, _), (29, _)] ⟨rfl, rfl, rfl, rfl, rfl, rfl, rfl, trivial⟩ (CV.cond_f rfl (CV.skip (KV.block_n ?_)))))
     refine KV.then_n (KV.env [(1, _), (2, _), (3, _), (4, _), (8, _)] ⟨rfl, rfl, rfl, rfl, rfl, trivial⟩ ?_)
     refine KV.sel [3, 3, 0, 0, 0] [_, _, _, _, _] rfl ?_
     (first | exact KV.join4 (text) (d.sA) (d.sc) (d.ss) ⟨rfl, rfl, rfl, rfl, rfl, trivial⟩ (fun _ h => by first | exact h | (rw [List.length_set]; exact h)) | exact KV.join4 (d.name) (d.sA) (d.sc) (d.ss.set q text) ⟨rfl, rfl, rfl, rfl, rfl, trivial⟩ (fun _ h => by first | exact h | (rw [List.length_set]; exact h)) | exact KV.join4 (d.name) (A2) (c2) (d.ss ++ [d.ss.getD q strK.d]) ⟨rfl, rfl, rfl, rfl, rfl, trivial⟩ (fun _ h => by first | exact h | (rw [List.length_set]; exact h)) | exact KV.join4 (d.name) (d.sA) (d.sc) (d.ss) ⟨rfl, rfl, rfl, rfl, rfl, trivial⟩ (fun _ h => by first | exact h | (rw [List.length_set]; exact h)))
 ·
  intro nm sA sc ss
  refine CV.seq (CV.seq (CV.region ?_))
  refine RV.s (Step.fieldAddr rfl (F25_2 _ _)) rfl (RV.s (Step.load Tryz.underlying23 rfl rfl (fun w h => h.cell 0 rfl rfl)) rfl (RV.s (Step.lenSl Tryz.underlying23 rfl) rfl ?_))
  refine RV.op (OV.split gno (Step.eql rfl rfl) rfl (fun x9_3 => ?_) (fun x9_3 => ?_))
  ·
   refine RV.nil (KV.then_n (KV.env [(1, _), (2, _), (3, _), (4, _), (8, _), (44, _)] ⟨rfl, rfl, rfl, rfl, rfl, rfl, trivial⟩ (CV.cond_t rfl (CV.seq (CV.region ?_)))))
   refine RV.s (Step.loadN _ Tryz.underlying25 rfl I25 rfl rfl (fun w h => h.cells 0 rfl)) rfl ?_
   refine RV.op (OV.store 1 [_, _, _] #[_, _, _] I25 rfl rfl rfl rfl rfl (Nat.le_of_ble_eq_true rfl) (by simp [Value.oneCell']) rfl gno ?_)
   refine RV.nil (KV.then_n (KV.env [(8, _)] ⟨rfl, trivial⟩ (CV.ret (KV.then_ret ?_))))
   refine KV.sel [1, 1, 1, 1] [_, _, _, _] rfl ?_
   exact KV.retC1 [_, _, _] rfl rfl Tryz.underlying25 rfl I25 rfl (fun w h => h.cells 0 rfl) _ (fun _ h => h.sel [1, 1, 1] rfl) ⟨⟨nm, sA, sc, ss, d.tA, d.tc, d.hs⟩, rfl, hrH, rfl⟩
  ·
   refine RV.nil (KV.then_n (KV.env [(1, _), (2, _), (3, _), (4, _), (8, _), (44, _)] ⟨rfl, rfl, rfl, rfl, rfl, rfl, trivial⟩ (CV.cond_f rfl (CV.skip (KV.then_n ?_)))))
   refine KV.env [(1, _), (2, _), (3, _), (4, _), (8, _)] ⟨rfl, rfl, rfl, rfl, rfl, trivial⟩ (CV.seq ?_)
   obtain ⟨k, hkq, hk⟩ := modN n (n := d.hs.length) (by omega)
   refine CV.region ?_
   refine RV.m rfl rfl (RV.s (Step.fieldAddr rfl (F25_2 _ _)) rfl (RV.s (Step.load Tryz.underlying23 rfl rfl (fun w h => h.cell 0 rfl rfl)) rfl (RV.s (Step.lenSl Tryz.underlying23 rfl) rfl ?_)))
   refine RV.op (OV.callP Tryz.func11 B11 N11 rfl (mod_fn n d.hs.length (by omega) (by omega)) gno rfl ?_)
   rw [hkq]
   refine RV.a rfl rfl ?_
   refine RV.nil (KV.then_n (KV.env [(1, _), (2, _), (3, _), (4, _), (8, _), (10, _)] ⟨rfl, rfl, rfl, rfl, rfl, rfl, trivial⟩ ?_))
   refine CV.join (fun (H : {H : List TH // ∀ x ∈ H, rgT x.t}) => [(4, .pointer (some ⟨b, 0, none⟩)), (8, .pointer (some ⟨p, 0, none⟩))]) (fun (H : {H : List TH // ∀ x ∈ H, rgT x.t}) => Hp I w [Blk b (.cells #[.string (bs nm), .slice sA ss.length sc, .slice d.tA H.1.length d.tc] 25 (0, 0)), Blk p (.cells #[.string (bs []), .slice none 0 0, .slice none 0 0] 25 (0, 0)), OS 9 strK sA sc ss, OS 48 thK d.tA d.tc H.1, Big opA H.1]) ?_ ?_
   ·
    skip
    refine CV.seq (CV.region ?_)
    refine RV.m rfl rfl ?_
    refine RV.op (OV.callP Tryz.func11 B11 N11 rfl (mod_fn how 9 (by omega) (by omega)) gno rfl ?_)
    refine RV.nil (KV.then_n (KV.env [(2, _), (3, _), (4, _), (8, _), (10, _), (52, _)] ⟨rfl, rfl, rfl, rfl, rfl, rfl, trivial⟩ (CV.block (CV.seq (CV.region ?_)))))
    refine RV.op (OV.split gno (Step.eql rfl rfl) rfl (fun x13_0 => ?_) (fun x13_0 => ?_))
    ·
     refine RV.a rfl rfl ?_
     refine RV.nil (KV.then_n (KV.env [(2, _), (3, _), (4, _), (8, _), (10, _), (52, _), (53, _)] ⟨rfl, rfl, rfl, rfl, rfl, rfl, rfl, trivial⟩ (CV.cond_t rfl (CV.region ?_))))
     refine RV.s (Step.fieldAddr rfl (F25_2 _ _)) rfl (RV.s (Step.load Tryz.underlying23 rfl rfl (fun w h => h.cell 0 rfl rfl)) rfl (RV.m rfl rfl (RV.m rfl rfl ?_)))
     refine RV.s (Step.idx Tryz.underlying23 I48 (fun w h => h.os 3 rfl) rfl rfl (rfl) _ rfl (by omega)) rfl ?_
     refine RV.s (Step.fieldAddr rfl (F48_0 _ _)) rfl ?_
     refine RV.op (OV.storeE 3 (k) ((spF (d.hs.getD k thK.d) n)) (j := 0) [_] I3 rfl rfl rfl rfl rfl rfl (by omega) rfl (Nat.le_of_ble_eq_true rfl) gno ?_)
     refine RV.nil (KV.block_n (KV.then_n (KV.env [(4, _), (8, _)] ⟨rfl, rfl, trivial⟩ ?_)))
     refine KV.sel [0, 0, 0, 0, 0] [_, _, _, _, _] rfl ?_
     (first | exact KV.join (⟨d.hs.set k (spF (d.hs.getD k thK.d) n), rg_set hrH ⟨(rg_get hrH hk).1, (rg_get hrH hk).2⟩⟩) ⟨rfl, rfl, trivial⟩ (fun _ h => by first | exact h | (rw [List.length_set]; exact Hp.spl h rfl) | (rw [List.length_set]; exact h)) | exact KV.join (⟨d.hs.set k (spT (d.hs.getD k thK.d) n), rg_set hrH ⟨(rg_get hrH hk).1, (rg_get hrH hk).2⟩⟩) ⟨rfl, rfl, trivial⟩ (fun _ h => by first | exact h | (rw [List.length_set]; exact Hp.spl h rfl) | (rw [List.length_set]; exact h)) | exact KV.join (⟨d.hs.set k (spE (d.hs.getD k thK.d) text), rg_set hrH ⟨(rg_get hrH hk).1, (rg_get hrH hk).2⟩⟩) ⟨rfl, rfl, trivial⟩ (fun _ h => by first | exact h | (rw [List.length_set]; exact Hp.spl h rfl) | (rw [List.length_set]; exact h)) | exact KV.join (⟨d.hs.set k (spG (d.hs.getD k thK.d)), rg_set hrH ⟨(rg_get hrH hk).1, (rg_get hrH hk).2⟩⟩) ⟨rfl, rfl, trivial⟩ (fun _ h => by first | exact h | (rw [List.length_set]; exact Hp.spl h rfl) | (rw [List.length_set]; exact h)) | exact KV.join (⟨d.hs.set k (spO (d.hs.getD k thK.d) n A2 c2), rg_set hrH (rg_spO (rg_get hrH hk) n A2 c2)⟩) ⟨rfl, rfl, trivial⟩ (fun _ h => by first | exact h | (rw [List.length_set]; exact Hp.spl h rfl) | (rw [List.length_set]; exact h)) | exact KV.join (⟨d.hs, hrH⟩) ⟨rfl, rfl, trivial⟩ (fun _ h => by first | exact h | (rw [List.length_set]; exact Hp.spl h rfl) | (rw [List.length_set]; exact h)))
    ·
     refine RV.a rfl rfl ?_
     refine RV.nil (KV.then_n (KV.env [(2, _), (3, _), (4, _), (8, _), (10, _), (52, _), (53, _)] ⟨rfl, rfl, rfl, rfl, rfl, rfl, rfl, trivial⟩ (CV.cond_f rfl (CV.seq (CV.region ?_)))))
     refine RV.op (OV.split gno (Step.eql rfl rfl) rfl (fun x15_0 => ?_) (fun x15_0 => ?_))
     ·
      refine RV.a rfl rfl ?_
      refine RV.nil (KV.then_n (KV.env [(2, _), (3, _), (4, _), (8, _), (10, _), (52, _), (61, _)] ⟨rfl, rfl, rfl, rfl, rfl, rfl, rfl, trivial⟩ (CV.cond_t rfl (CV.region ?_))))
      refine RV.s (Step.fieldAddr rfl (F25_2 _ _)) rfl (RV.s (Step.load Tryz.underlying23 rfl rfl (fun w h => h.cell 0 rfl rfl)) rfl (RV.m rfl rfl (RV.m rfl rfl ?_)))
      refine RV.s (Step.idx Tryz.underlying23 I48 (fun w h => h.os 3 rfl) rfl rfl (rfl) _ rfl (by omega)) rfl ?_
      refine RV.s (Step.fieldAddr rfl (F48_4 _ _)) rfl ?_
      refine RV.op (OV.storeE 3 (k) ((spT (d.hs.getD k thK.d) n)) (j := 7) [_] I3 rfl rfl rfl rfl rfl rfl (by omega) rfl (Nat.le_of_ble_eq_true rfl) gno ?_)
      refine RV.nil (KV.block_n (KV.then_n (KV.env [(4, _), (8, _)] ⟨rfl, rfl, trivial⟩ ?_)))
      refine KV.sel [0, 0, 0, 0, 0] [_, _, _, _, _] rfl ?_
      (first | exact KV.join (⟨d.hs.set k (spF (d.hs.getD k thK.d) n), rg_set hrH ⟨(rg_get hrH hk).1, (rg_get hrH hk).2⟩⟩) ⟨rfl, rfl, trivial⟩ (fun _ h => by first | exact h | (rw [List.length_set]; exact Hp.spl h rfl) | (rw [List.length_set]; exact h)) | exact KV.join (⟨d.hs.set k (spT (d.hs.getD k thK.d) n), rg_set hrH ⟨(rg_get hrH hk).1, (rg_get hrH hk).2⟩⟩) ⟨rfl, rfl, trivial⟩ (fun _ h => by first | exact h | (rw [List.length_set]; exact Hp.spl h rfl) | (rw [List.length_set]; exact h)) | exact KV.join (⟨d.hs.set k (spE (d.hs.getD k thK.d) text), rg_set hrH ⟨(rg_get hrH hk).1, (rg_get hrH hk).2⟩⟩) ⟨rfl, rfl, trivial⟩ (fun _ h => by first | exact h | (rw [List.length_set]; exact Hp.spl h rfl) | (rw [List.length_set]; exact h)) | exact KV.join (⟨d.hs.set k (spG (d.hs.getD k thK.d)), rg_set hrH ⟨(rg_get hrH hk).1, (rg_get hrH hk).2⟩⟩) ⟨rfl, rfl, trivial⟩ (fun _ h => by first | exact h | (rw [List.length_set]; exact Hp.spl h rfl) | (rw [List.length_set]; exact h)) | exact KV.join (⟨d.hs.set k (spO (d.hs.getD k thK.d) n A2 c2), rg_set hrH (rg_spO (rg_get hrH hk) n A2 c2)⟩) ⟨rfl, rfl, trivial⟩ (fun _ h => by first | exact h | (rw [List.length_set]; exact Hp.spl h rfl) | (rw [List.length_set]; exact h)) | exact KV.join (⟨d.hs, hrH⟩) ⟨rfl, rfl, trivial⟩ (fun _ h => by first | exact h | (rw [List.length_set]; exact Hp.spl h rfl) | (rw [List.length_set]; exact h)))
     ·
      refine RV.a rfl rfl ?_
      refine RV.nil (KV.then_n (KV.env [(2, _), (3, _), (4, _), (8, _), (10, _), (52, _), (61, _)] ⟨rfl, rfl, rfl, rfl, rfl, rfl, rfl, trivial⟩ (CV.cond_f rfl (CV.seq (CV.region ?_)))))
      refine RV.op (OV.split gno (Step.eql rfl rfl) rfl (fun x17_0 => ?_) (fun x17_0 => ?_))
      ·
       refine RV.a rfl rfl ?_
       refine RV.nil (KV.then_n (KV.env [(2, _), (3, _), (4, _), (8, _), (10, _), (52, _), (69, _)] ⟨rfl, rfl, rfl, rfl, rfl, rfl, rfl, trivial⟩ (CV.cond_t rfl (CV.region ?_))))
       refine RV.s (Step.fieldAddr rfl (F25_2 _ _)) rfl (RV.s (Step.load Tryz.underlying23 rfl rfl (fun w h => h.cell 0 rfl rfl)) rfl (RV.m rfl rfl (RV.m rfl rfl ?_)))
       refine RV.s (Step.idx Tryz.underlying23 I48 (fun w h => h.os 3 rfl) rfl rfl (rfl) _ rfl (by omega)) rfl ?_
       refine RV.s (Step.fieldAddr rfl (F48_1 _ _)) rfl ?_
       refine RV.op (OV.storeE 3 (k) ((spE (d.hs.getD k thK.d) text)) (j := 1) [_] I9 rfl rfl rfl rfl rfl rfl (by omega) rfl (Nat.le_of_ble_eq_true rfl) gno ?_)
       refine RV.nil (KV.block_n (KV.then_n (KV.env [(4, _), (8, _)] ⟨rfl, rfl, trivial⟩ ?_)))
       refine KV.sel [0, 0, 0, 0, 0] [_, _, _, _, _] rfl ?_
       (first | exact KV.join (⟨d.hs.set k (spF (d.hs.getD k thK.d) n), rg_set hrH ⟨(rg_get hrH hk).1, (rg_get hrH hk).2⟩⟩) ⟨rfl, rfl, trivial⟩ (fun _ h => by first | exact h | (rw [List.length_set]; exact Hp.spl h rfl) | (rw [List.length_set]; exact h)) | exact KV.join (⟨d.hs.set k (spT (d.hs.getD k thK.d) n), rg_set hrH ⟨(rg_get hrH hk).1, (rg_get hrH hk).2⟩⟩) ⟨rfl, rfl, trivial⟩ (fun _ h => by first | exact h | (rw [List.length_set]; exact Hp.spl h rfl) | (rw [List.length_set]; exact h)) | exact KV.join (⟨d.hs.set k (spE (d.hs.getD k thK.d) text), rg_set hrH ⟨(rg_get hrH hk).1, (rg_get hrH hk).2⟩⟩) ⟨rfl, rfl, trivial⟩ (fun _ h => by first | exact h | (rw [List.length_set]; exact Hp.spl h rfl) | (rw [List.length_set]; exact h)) | exact KV.join (⟨d.hs.set k (spG (d.hs.getD k thK.d)), rg_set hrH ⟨(rg_get hrH hk).1, (rg_get hrH hk).2⟩⟩) ⟨rfl, rfl, trivial⟩ (fun _ h => by first | exact h | (rw [List.length_set]; exact Hp.spl h rfl) | (rw [List.length_set]; exact h)) | exact KV.join (⟨d.hs.set k (spO (d.hs.getD k thK.d) n A2 c2), rg_set hrH (rg_spO (rg_get hrH hk) n A2 c2)⟩) ⟨rfl, rfl, trivial⟩ (fun _ h => by first | exact h | (rw [List.length_set]; exact Hp.spl h rfl) | (rw [List.length_set]; exact h)) | exact KV.join (⟨d.hs, hrH⟩) ⟨rfl, rfl, trivial⟩ (fun _ h => by first | exact h | (rw [List.length_set]; exact Hp.spl h rfl) | (rw [List.length_set]; exact h)))
      ·
       refine RV.a rfl rfl ?_
       refine RV.nil (KV.then_n (KV.env [(2, _), (3, _), (4, _), (8, _), (10, _), (52, _), (69, _)] ⟨rfl, rfl, rfl, rfl, rfl, rfl, rfl, trivial⟩ (CV.cond_f rfl (CV.seq (CV.region ?_)))))
       refine RV.op (OV.split gno (Step.eql rfl rfl) rfl (fun x19_0 => ?_) (fun x19_0 => ?_))
       ·
        refine RV.a rfl rfl ?_
        refine RV.nil (KV.then_n (KV.env [(2, _), (4, _), (8, _), (10, _), (52, _), (77, _)] ⟨rfl, rfl, rfl, rfl, rfl, rfl, trivial⟩ (CV.cond_t rfl (CV.region ?_))))
        refine RV.s (Step.fieldAddr rfl (F25_2 _ _)) rfl (RV.s (Step.load Tryz.underlying23 rfl rfl (fun w h => h.cell 0 rfl rfl)) rfl (RV.m rfl rfl ?_))
        refine RV.s (Step.idx Tryz.underlying23 I48 (fun w h => h.os 3 rfl) rfl rfl (rfl) _ rfl (by omega)) rfl ?_
        refine RV.s (Step.fieldAddr rfl (F48_2 _ _)) rfl (RV.s (Step.fieldAddr rfl (F45_0 _ _)) rfl ?_)
        refine RV.op (OV.storeE 3 (k) ((spG (d.hs.getD k thK.d))) (j := 2) [_] I4 rfl rfl rfl rfl rfl rfl (by omega) rfl (Nat.le_of_ble_eq_true rfl) gno ?_)
        refine RV.nil (KV.block_n (KV.then_n (KV.env [(4, _), (8, _)] ⟨rfl, rfl, trivial⟩ ?_)))
        refine KV.sel [0, 0, 0, 0, 0] [_, _, _, _, _] rfl ?_
        (first | exact KV.join (⟨d.hs.set k (spF (d.hs.getD k thK.d) n), rg_set hrH ⟨(rg_get hrH hk).1, (rg_get hrH hk).2⟩⟩) ⟨rfl, rfl, trivial⟩ (fun _ h => by first | exact h | (rw [List.length_set]; exact Hp.spl h rfl) | (rw [List.length_set]; exact h)) | exact KV.join (⟨d.hs.set k (spT (d.hs.getD k thK.d) n), rg_set hrH ⟨(rg_get hrH hk).1, (rg_get hrH hk).2⟩⟩) ⟨rfl, rfl, trivial⟩ (fun _ h => by first | exact h | (rw [List.length_set]; exact Hp.spl h rfl) | (rw [List.length_set]; exact h)) | exact KV.join (⟨d.hs.set k (spE (d.hs.getD k thK.d) text), rg_set hrH ⟨(rg_get hrH hk).1, (rg_get hrH hk).2⟩⟩) ⟨rfl, rfl, trivial⟩ (fun _ h => by first | exact h | (rw [List.length_set]; exact Hp.spl h rfl) | (rw [List.length_set]; exact h)) | exact KV.join (⟨d.hs.set k (spG (d.hs.getD k thK.d)), rg_set hrH ⟨(rg_get hrH hk).1, (rg_get hrH hk).2⟩⟩) ⟨rfl, rfl, trivial⟩ (fun _ h => by first | exact h | (rw [List.length_set]; exact Hp.spl h rfl) | (rw [List.length_set]; exact h)) | exact KV.join (⟨d.hs.set k (spO (d.hs.getD k thK.d) n A2 c2), rg_set hrH (rg_spO (rg_get hrH hk) n A2 c2)⟩) ⟨rfl, rfl, trivial⟩ (fun _ h => by first | exact h | (rw [List.length_set]; exact Hp.spl h rfl) | (rw [List.length_set]; exact h)) | exact KV.join (⟨d.hs, hrH⟩) ⟨rfl, rfl, trivial⟩ (fun _ h => by first | exact h | (rw [List.length_set]; exact Hp.spl h rfl) | (rw [List.length_set]; exact h)))
       ·
        refine RV.a rfl rfl ?_
        refine RV.nil (KV.then_n (KV.env [(2, _), (4, _), (8, _), (10, _), (52, _), (77, _)] ⟨rfl, rfl, rfl, rfl, rfl, rfl, trivial⟩ (CV.cond_f rfl (CV.seq (CV.region ?_)))))
        refine RV.op (OV.split gno (Step.eql rfl rfl) rfl (fun x21_0 => ?_) (fun x21_0 => ?_))
        ·
         refine RV.a rfl rfl ?_
         refine RV.nil (KV.then_n (KV.env [(2, _), (4, _), (8, _), (10, _), (85, _)] ⟨rfl, rfl, rfl, rfl, rfl, trivial⟩ (CV.cond_t rfl ?_)))
         refine KV.heap (fun w h => h.focus (k := 4) thD rfl hk) ?_
         refine CV.any (Hp I w [Blk b (.cells #[.string (bs nm), .slice sA ss.length sc, .slice d.tA d.hs.length d.tc] 25 (0, 0))]) (by kernel_rfl) (fun _ h => h.drew) 18 rfl ?_
         refine AV.u 0 (bl 18 1) rfl gno (Step.fieldAddr rfl (F25_2 _ _)) rfl (fun _ h => h.sel [0] rfl) ?_
         refine AV.u 1 (bl 18 3) rfl gno (Step.load Tryz.underlying23 rfl rfl (fun w h => h.cell 0 rfl rfl)) rfl (fun _ h => h.sel [0] rfl) ?_
         refine AV.u 2 (bl 18 7) rfl gno (Step.move rfl) rfl (fun _ h => h.sel [0] rfl) ?_
         refine AV.u 3 (bl 18 15) rfl gno (Step.fieldAddr rfl (F25_2 _ _)) rfl (fun _ h => h.sel [0] rfl) ?_
         refine AV.u 4 (bl 18 31) rfl gno (Step.load Tryz.underlying23 rfl rfl (fun w h => h.cell 0 rfl rfl)) rfl (fun _ h => h.sel [0] rfl) ?_
         refine AV.u 5 (bl 18 63) rfl gno (Step.move rfl) rfl (fun _ h => h.sel [0] rfl) ?_
         refine AV.u 9 (bl 18 575) rfl gno (Step.move rfl) rfl (fun _ h => h.sel [0] rfl) ?_
         refine AV.all [6, 10] (by kernel_rfl) (by decide) ?_
         refine ⟨⟨_, rfl, ?_⟩, ⟨⟨_, rfl, ?_⟩, trivial⟩⟩
         ·
          refine OV.step gno (Step.idx Tryz.underlying23 I48 (fun w h => h.os 3 rfl) rfl rfl (rfl) _ rfl (by omega)) rfl ?_
          refine AV.next (bl 18 639) (by kernel_rfl) (fun _ h => h.sel [0] rfl) ?_
          refine AV.u 7 (bl 18 767) rfl gno (Step.fieldAddr rfl (F48_3 _ _)) rfl (fun _ h => h.sel [0] rfl) ?_
          refine AV.all [8, 10] (by kernel_rfl) (by decide) ?_
          refine ⟨⟨_, rfl, ?_⟩, ⟨⟨_, rfl, ?_⟩, trivial⟩⟩
          ·
           refine OV.step gno (Step.load Tryz.underlying46 rfl rfl (fun w h => (h.os 3 rfl).cell (by omega) rfl)) rfl ?_
           refine AV.next (bl 18 1023) (by kernel_rfl) (fun _ h => h.sel [0] rfl) ?_
           refine AV.all [10] (by kernel_rfl) (by decide) ?_
           refine ⟨⟨_, rfl, ?_⟩, trivial⟩
           ·
            refine OV.callP Tryz.func11 B11 N11 rfl (mod_fn n 3 (by omega) (by omega)) gno rfl ?_
            refine AV.next (bl 18 2047) (by kernel_rfl) (fun _ h => h.sel [0] rfl) ?_
            refine AV.u 11 (bl 18 4095) rfl gno (Step.convI Tryz.underlying3 Tryz.underlying43 rfl (wU64 (by have := modM_lt n (n := 3) (by decide); omega) (by have := modM_lt n (n := 3) (by decide); omega))) rfl (fun _ h => h.sel [0] rfl) ?_
            refine AV.u 12 (bl 18 8191) rfl gno (Step.build rfl (Bd59_2 _)) rfl (fun _ h => h.sel [0] rfl) ?_
            refine AV.all [13] (by kernel_rfl) (by decide) ?_
            refine ⟨⟨_, rfl, ?_⟩, trivial⟩
            ·
             refine OV.buildSlice (K := roK) ([(⟨false, 0, modM n 3⟩ : Ro)]) rfl (Bs46_1_0 _ _ _) rfl rfl (by omega) gno rfl (fun z => ?_)
             refine AV.next (bl 18 16383) (by kernel_rfl) (fun _ h => h.sel [0] rfl) ?_
             refine AV.all [14] (by kernel_rfl) (by decide) ?_
             refine ⟨⟨_, rfl, ?_⟩, trivial⟩
             ·
              refine OV.append 4 Tryz.underlying46 I59 rfl rfl rfl rfl rfl rfl (fun w h => h.os 6 rfl) (by have := hl3 k hk; simp only [List.length_cons, List.length_nil]; omega) (by have := hl3 k hk; simp only [List.length_cons, List.length_nil]; omega) gno rfl (fun A2 c2 => ?_)
              refine AV.next (bl 18 32767) (by kernel_rfl) (fun _ h => h.sel [0] rfl) ?_
              refine AV.all [15] (by kernel_rfl) (by decide) ?_
              refine ⟨⟨_, rfl, ?_⟩, trivial⟩
              ·
               refine OV.step gno (Step.idx Tryz.underlying23 I48 (fun w h => h.os 3 rfl) rfl rfl (rfl) _ rfl (by omega)) rfl ?_
               refine AV.next (bl 18 65535) (by kernel_rfl) (fun _ h => h.sel [0] rfl) ?_
               refine AV.u 16 (bl 18 131071) rfl gno (Step.fieldAddr rfl (F48_3 _ _)) rfl (fun _ h => h.sel [0] rfl) ?_
               refine AV.all [17] (by kernel_rfl) (by decide) ?_
               refine ⟨⟨_, rfl, ?_⟩, trivial⟩
               ·
                refine OV.storeE 3 (k) ((spO (d.hs.getD k thK.d) n A2 c2)) (j := 6) [_] I46 rfl rfl rfl rfl rfl rfl (by omega) rfl (Nat.le_of_ble_eq_true rfl) gno ?_
                refine KV.sel [0, 0, 0, 0, 0, 0] [_, _, _, _, _, _] rfl ?_
                refine KV.heap (fun w h => Hp.unfocus (L := [_, _, _, _, _]) (k := 4) (h' := (spO (d.hs.getD k thK.d) n A2 c2)) h rfl hk) ?_
                refine AV.next (bl 18 262143) (by kernel_rfl) (fun _ h => h.sel [0] rfl) ?_
                refine AV.done (by kernel_rfl) ?_
                refine KV.block_n (KV.then_n (KV.env [(4, _), (8, _)] ⟨rfl, rfl, trivial⟩ ?_))
                refine KV.sel [0, 0, 0, 0, 0] [_, _, _, _, _] rfl ?_
                (first | exact KV.join (⟨d.hs.set k (spF (d.hs.getD k thK.d) n), rg_set hrH ⟨(rg_get hrH hk).1, (rg_get hrH hk).2⟩⟩) ⟨rfl, rfl, trivial⟩ (fun _ h => by first | exact h | (rw [List.length_set]; exact Hp.spl h rfl) | (rw [List.length_set]; exact h)) | exact KV.join (⟨d.hs.set k (spT (d.hs.getD k thK.d) n), rg_set hrH ⟨(rg_get hrH hk).1, (rg_get hrH hk).2⟩⟩) ⟨rfl, rfl, trivial⟩ (fun _ h => by first | exact h | (rw [List.length_set]; exact Hp.spl h rfl) | (rw [List.length_set]; exact h)) | exact KV.join (⟨d.hs.set k (spE (d.hs.getD k thK.d) text), rg_set hrH ⟨(rg_get hrH hk).1, (rg_get hrH hk).2⟩⟩) ⟨rfl, rfl, trivial⟩ (fun _ h => by first | exact h | (rw [List.length_set]; exact Hp.spl h rfl) | (rw [List.length_set]; exact h)) | exact KV.join (⟨d.hs.set k (spG (d.hs.getD k thK.d)), rg_set hrH ⟨(rg_get hrH hk).1, (rg_get hrH hk).2⟩⟩) ⟨rfl, rfl, trivial⟩ (fun _ h => by first | exact h | (rw [List.length_set]; exact Hp.spl h rfl) | (rw [List.length_set]; exact h)) | exact KV.join (⟨d.hs.set k (spO (d.hs.getD k thK.d) n A2 c2), rg_set hrH (rg_spO (rg_get hrH hk) n A2 c2)⟩) ⟨rfl, rfl, trivial⟩ (fun _ h => by first | exact h | (rw [List.length_set]; exact Hp.spl h rfl) | (rw [List.length_set]; exact h)) | exact KV.join (⟨d.hs, hrH⟩) ⟨rfl, rfl, trivial⟩ (fun _ h => by first | exact h | (rw [List.length_set]; exact Hp.spl h rfl) | (rw [List.length_set]; exact h)))
          ·
           refine OV.callP Tryz.func11 B11 N11 rfl (mod_fn n 3 (by omega) (by omega)) gno rfl ?_
           refine AV.next (bl 18 1791) (by kernel_rfl) (fun _ h => h.sel [0] rfl) ?_
           refine AV.u 11 (bl 18 3839) rfl gno (Step.convI Tryz.underlying3 Tryz.underlying43 rfl (wU64 (by have := modM_lt n (n := 3) (by decide); omega) (by have := modM_lt n (n := 3) (by decide); omega))) rfl (fun _ h => h.sel [0] rfl) ?_
           refine AV.u 12 (bl 18 7935) rfl gno (Step.build rfl (Bd59_2 _)) rfl (fun _ h => h.sel [0] rfl) ?_
           refine AV.all [8, 13] (by kernel_rfl) (by decide) ?_
           refine ⟨⟨_, rfl, ?_⟩, ⟨⟨_, rfl, ?_⟩, trivial⟩⟩
           ·
            refine OV.step gno (Step.load Tryz.underlying46 rfl rfl (fun w h => (h.os 3 rfl).cell (by omega) rfl)) rfl ?_
            refine AV.next (bl 18 8191) (by kernel_rfl) (fun _ h => h.sel [0] rfl) ?_
            refine AV.all [13] (by kernel_rfl) (by decide) ?_
            refine ⟨⟨_, rfl, ?_⟩, trivial⟩
            ·
             refine OV.buildSlice (K := roK) ([(⟨false, 0, modM n 3⟩ : Ro)]) rfl (Bs46_1_0 _ _ _) rfl rfl (by omega) gno rfl (fun z => ?_)
             refine AV.next (bl 18 16383) (by kernel_rfl) (fun _ h => h.sel [0] rfl) ?_
             refine AV.all [14] (by kernel_rfl) (by decide) ?_
             refine ⟨⟨_, rfl, ?_⟩, trivial⟩
             ·
              refine OV.append 4 Tryz.underlying46 I59 rfl rfl rfl rfl rfl rfl (fun w h => h.os 6 rfl) (by have := hl3 k hk; simp only [List.length_cons, List.length_nil]; omega) (by have := hl3 k hk; simp only [List.length_cons, List.length_nil]; omega) gno rfl (fun A2 c2 => ?_)
              refine AV.next (bl 18 32767) (by kernel_rfl) (fun _ h => h.sel [0] rfl) ?_
              refine AV.all [15] (by kernel_rfl) (by decide) ?_
              refine ⟨⟨_, rfl, ?_⟩, trivial⟩
              ·
               refine OV.step gno (Step.idx Tryz.underlying23 I48 (fun w h => h.os 3 rfl) rfl rfl (rfl) _ rfl (by omega)) rfl ?_
               refine AV.next (bl 18 65535) (by kernel_rfl) (fun _ h => h.sel [0] rfl) ?_
               refine AV.u 16 (bl 18 131071) rfl gno (Step.fieldAddr rfl (F48_3 _ _)) rfl (fun _ h => h.sel [0] rfl) ?_
               refine AV.all [17] (by kernel_rfl) (by decide) ?_
               refine ⟨⟨_, rfl, ?_⟩, trivial⟩
               ·
                refine OV.storeE 3 (k) ((spO (d.hs.getD k thK.d) n A2 c2)) (j := 6) [_] I46 rfl rfl rfl rfl rfl rfl (by omega) rfl (Nat.le_of_ble_eq_true rfl) gno ?_
                refine KV.sel [0, 0, 0, 0, 0, 0] [_, _, _, _, _, _] rfl ?_
                refine KV.heap (fun w h => Hp.unfocus (L := [_, _, _, _, _]) (k := 4) (h' := (spO (d.hs.getD k thK.d) n A2 c2)) h rfl hk) ?_
                refine AV.next (bl 18 262143) (by kernel_rfl) (fun _ h => h.sel [0] rfl) ?_
                refine AV.done (by kernel_rfl) ?_
                refine KV.block_n (KV.then_n (KV.env [(4, _), (8, _)] ⟨rfl, rfl, trivial⟩ ?_))
                refine KV.sel [0, 0, 0, 0, 0] [_, _, _, _, _] rfl ?_
                (first | exact KV.join (⟨d.hs.set k (spF (d.hs.getD k thK.d) n), rg_set hrH ⟨(rg_get hrH hk).1, (rg_get hrH hk).2⟩⟩) ⟨rfl, rfl, trivial⟩ (fun _ h => by first | exact h | (rw [List.length_set]; exact Hp.spl h rfl) | (rw [List.length_set]; exact h)) | exact KV.join (⟨d.hs.set k (spT (d.hs.getD k thK.d) n), rg_set hrH ⟨(rg_get hrH hk).1, (rg_get hrH hk).2⟩⟩) ⟨rfl, rfl, trivial⟩ (fun _ h => by first | exact h | (rw [List.length_set]; exact Hp.spl h rfl) | (rw [List.length_set]; exact h)) | exact KV.join (⟨d.hs.set k (spE (d.hs.getD k thK.d) text), rg_set hrH ⟨(rg_get hrH hk).1, (rg_get hrH hk).2⟩⟩) ⟨rfl, rfl, trivial⟩ (fun _ h => by first | exact h | (rw [List.length_set]; exact Hp.spl h rfl) | (rw [List.length_set]; exact h)) | exact KV.join (⟨d.hs.set k (spG (d.hs.getD k thK.d)), rg_set hrH ⟨(rg_get hrH hk).1, (rg_get hrH hk).2⟩⟩) ⟨rfl, rfl, trivial⟩ (fun _ h => by first | exact h | (rw [List.length_set]; exact Hp.spl h rfl) | (rw [List.length_set]; exact h)) | exact KV.join (⟨d.hs.set k (spO (d.hs.getD k thK.d) n A2 c2), rg_set hrH (rg_spO (rg_get hrH hk) n A2 c2)⟩) ⟨rfl, rfl, trivial⟩ (fun _ h => by first | exact h | (rw [List.length_set]; exact Hp.spl h rfl) | (rw [List.length_set]; exact h)) | exact KV.join (⟨d.hs, hrH⟩) ⟨rfl, rfl, trivial⟩ (fun _ h => by first | exact h | (rw [List.length_set]; exact Hp.spl h rfl) | (rw [List.length_set]; exact h)))
           ·
            refine OV.buildSlice (K := roK) ([(⟨false, 0, modM n 3⟩ : Ro)]) rfl (Bs46_1_0 _ _ _) rfl rfl (by omega) gno rfl (fun z => ?_)
            refine AV.next (bl 18 16127) (by kernel_rfl) (fun _ h => h.sel [0] rfl) ?_
            refine AV.all [8] (by kernel_rfl) (by decide) ?_
            refine ⟨⟨_, rfl, ?_⟩, trivial⟩
            ·
             refine OV.step gno (Step.load Tryz.underlying46 rfl rfl (fun w h => (h.os 3 rfl).cell (by omega) rfl)) rfl ?_
             refine AV.next (bl 18 16383) (by kernel_rfl) (fun _ h => h.sel [0] rfl) ?_
             refine AV.all [14] (by kernel_rfl) (by decide) ?_
             refine ⟨⟨_, rfl, ?_⟩, trivial⟩
             ·
              refine OV.append 4 Tryz.underlying46 I59 rfl rfl rfl rfl rfl rfl (fun w h => h.os 6 rfl) (by have := hl3 k hk; simp only [List.length_cons, List.length_nil]; omega) (by have := hl3 k hk; simp only [List.length_cons, List.length_nil]; omega) gno rfl (fun A2 c2 => ?_)
              refine AV.next (bl 18 32767) (by kernel_rfl) (fun _ h => h.sel [0] rfl) ?_
              refine AV.all [15] (by kernel_rfl) (by decide) ?_
              refine ⟨⟨_, rfl, ?_⟩, trivial⟩
              ·
               refine OV.step gno (Step.idx Tryz.underlying23 I48 (fun w h => h.os 3 rfl) rfl rfl (rfl) _ rfl (by omega)) rfl ?_
               refine AV.next (bl 18 65535) (by kernel_rfl) (fun _ h => h.sel [0] rfl) ?_
               refine AV.u 16 (bl 18 131071) rfl gno (Step.fieldAddr rfl (F48_3 _ _)) rfl (fun _ h => h.sel [0] rfl) ?_
               refine AV.all [17] (by kernel_rfl) (by decide) ?_
               refine ⟨⟨_, rfl, ?_⟩, trivial⟩
               ·
                refine OV.storeE 3 (k) ((spO (d.hs.getD k thK.d) n A2 c2)) (j := 6) [_] I46 rfl rfl rfl rfl rfl rfl (by omega) rfl (Nat.le_of_ble_eq_true rfl) gno ?_
                refine KV.sel [0, 0, 0, 0, 0, 0] [_, _, _, _, _, _] rfl ?_
                refine KV.heap (fun w h => Hp.unfocus (L := [_, _, _, _, _]) (k := 4) (h' := (spO (d.hs.getD k thK.d) n A2 c2)) h rfl hk) ?_
                refine AV.next (bl 18 262143) (by kernel_rfl) (fun _ h => h.sel [0] rfl) ?_
                refine AV.done (by kernel_rfl) ?_
                refine KV.block_n (KV.then_n (KV.env [(4, _), (8, _)] ⟨rfl, rfl, trivial⟩ ?_))
                refine KV.sel [0, 0, 0, 0, 0] [_, _, _, _, _] rfl ?_
                (first | exact KV.join (⟨d.hs.set k (spF (d.hs.getD k thK.d) n), rg_set hrH ⟨(rg_get hrH hk).1, (rg_get hrH hk).2⟩⟩) ⟨rfl, rfl, trivial⟩ (fun _ h => by first | exact h | (rw [List.length_set]; exact Hp.spl h rfl) | (rw [List.length_set]; exact h)) | exact KV.join (⟨d.hs.set k (spT (d.hs.getD k thK.d) n), rg_set hrH ⟨(rg_get hrH hk).1, (rg_get hrH hk).2⟩⟩) ⟨rfl, rfl, trivial⟩ (fun _ h => by first | exact h | (rw [List.length_set]; exact Hp.spl h rfl) | (rw [List.length_set]; exact h)) | exact KV.join (⟨d.hs.set k (spE (d.hs.getD k thK.d) text), rg_set hrH ⟨(rg_get hrH hk).1, (rg_get hrH hk).2⟩⟩) ⟨rfl, rfl, trivial⟩ (fun _ h => by first | exact h | (rw [List.length_set]; exact Hp.spl h rfl) | (rw [List.length_set]; exact h)) | exact KV.join (⟨d.hs.set k (spG (d.hs.getD k thK.d)), rg_set hrH ⟨(rg_get hrH hk).1, (rg_get hrH hk).2⟩⟩) ⟨rfl, rfl, trivial⟩ (fun _ h => by first | exact h | (rw [List.length_set]; exact Hp.spl h rfl) | (rw [List.length_set]; exact h)) | exact KV.join (⟨d.hs.set k (spO (d.hs.getD k thK.d) n A2 c2), rg_set hrH (rg_spO (rg_get hrH hk) n A2 c2)⟩) ⟨rfl, rfl, trivial⟩ (fun _ h => by first | exact h | (rw [List.length_set]; exact Hp.spl h rfl) | (rw [List.length_set]; exact h)) | exact KV.join (⟨d.hs, hrH⟩) ⟨rfl, rfl, trivial⟩ (fun _ h => by first | exact h | (rw [List.length_set]; exact Hp.spl h rfl) | (rw [List.length_set]; exact h)))
         ·
          refine OV.callP Tryz.func11 B11 N11 rfl (mod_fn n 3 (by omega) (by omega)) gno rfl ?_
          refine AV.next (bl 18 1599) (by kernel_rfl) (fun _ h => h.sel [0] rfl) ?_
          refine AV.u 11 (bl 18 3647) rfl gno (Step.convI Tryz.underlying3 Tryz.underlying43 rfl (wU64 (by have := modM_lt n (n := 3) (by decide); omega) (by have := modM_lt n (n := 3) (by decide); omega))) rfl (fun _ h => h.sel [0] rfl) ?_
          refine AV.u 12 (bl 18 7743) rfl gno (Step.build rfl (Bd59_2 _)) rfl (fun _ h => h.sel [0] rfl) ?_
          refine AV.all [6, 13] (by kernel_rfl) (by decide) ?_
          refine ⟨⟨_, rfl, ?_⟩, ⟨⟨_, rfl, ?_⟩, trivial⟩⟩
          ·
           refine OV.step gno (Step.idx Tryz.underlying23 I48 (fun w h => h.os 3 rfl) rfl rfl (rfl) _ rfl (by omega)) rfl ?_
           refine AV.next (bl 18 7807) (by kernel_rfl) (fun _ h => h.sel [0] rfl) ?_
           refine AV.u 7 (bl 18 7935) rfl gno (Step.fieldAddr rfl (F48_3 _ _)) rfl (fun _ h => h.sel [0] rfl) ?_
           refine AV.all [8, 13] (by kernel_rfl) (by decide) ?_
           refine ⟨⟨_, rfl, ?_⟩, ⟨⟨_, rfl, ?_⟩, trivial⟩⟩
           ·
            refine OV.step gno (Step.load Tryz.underlying46 rfl rfl (fun w h => (h.os 3 rfl).cell (by omega) rfl)) rfl ?_
            refine AV.next (bl 18 8191) (by kernel_rfl) (fun _ h => h.sel [0] rfl) ?_
            refine AV.all [13] (by kernel_rfl) (by decide) ?_
            refine ⟨⟨_, rfl, ?_⟩, trivial⟩
            ·
             refine OV.buildSlice (K := roK) ([(⟨false, 0, modM n 3⟩ : Ro)]) rfl (Bs46_1_0 _ _ _) rfl rfl (by omega) gno rfl (fun z => ?_)
             refine AV.next (bl 18 16383) (by kernel_rfl) (fun _ h => h.sel [0] rfl) ?_
             refine AV.all [14] (by kernel_rfl) (by decide) ?_
             refine ⟨⟨_, rfl, ?_⟩, trivial⟩
             ·
              refine OV.append 4 Tryz.underlying46 I59 rfl rfl rfl rfl rfl rfl (fun w h => h.os 6 rfl) (by have := hl3 k hk; simp only [List.length_cons, List.length_nil]; omega) (by have := hl3 k hk; simp only [List.length_cons, List.length_nil]; omega) gno rfl (fun A2 c2 => ?_)
              refine AV.next (bl 18 32767) (by kernel_rfl) (fun _ h => h.sel [0] rfl) ?_
              refine AV.all [15] (by kernel_rfl) (by decide) ?_
              refine ⟨⟨_, rfl, ?_⟩, trivial⟩
              ·
               refine OV.step gno (Step.idx Tryz.underlying23 I48 (fun w h => h.os 3 rfl) rfl rfl (rfl) _ rfl (by omega)) rfl ?_
               refine AV.next (bl 18 65535) (by kernel_rfl) (fun _ h => h.sel [0] rfl) ?_
               refine AV.u 16 (bl 18 131071) rfl gno (Step.fieldAddr rfl (F48_3 _ _)) rfl (fun _ h => h.sel [0] rfl) ?_
               refine AV.all [17] (by kernel_rfl) (by decide) ?_
               refine ⟨⟨_, rfl, ?_⟩, trivial⟩
               ·
                refine OV.storeE 3 (k) ((spO (d.hs.getD k thK.d) n A2 c2)) (j := 6) [_] I46 rfl rfl rfl rfl rfl rfl (by omega) rfl (Nat.le_of_ble_eq_true rfl) gno ?_
                refine KV.sel [0, 0, 0, 0, 0, 0] [_, _, _, _, _, _] rfl ?_
                refine KV.heap (fun w h => Hp.unfocus (L := [_, _, _, _, _]) (k := 4) (h' := (spO (d.hs.getD k thK.d) n A2 c2)) h rfl hk) ?_
                refine AV.next (bl 18 262143) (by kernel_rfl) (fun _ h => h.sel [0] rfl) ?_
                refine AV.done (by kernel_rfl) ?_
                refine KV.block_n (KV.then_n (KV.env [(4, _), (8, _)] ⟨rfl, rfl, trivial⟩ ?_))
                refine KV.sel [0, 0, 0, 0, 0] [_, _, _, _, _] rfl ?_
                (first | exact KV.join (⟨d.hs.set k (spF (d.hs.getD k thK.d) n), rg_set hrH ⟨(rg_get hrH hk).1, (rg_get hrH hk).2⟩⟩) ⟨rfl, rfl, trivial⟩ (fun _ h => by first | exact h | (rw [List.length_set]; exact Hp.spl h rfl) | (rw [List.length_set]; exact h)) | exact KV.join (⟨d.hs.set k (spT (d.hs.getD k thK.d) n), rg_set hrH ⟨(rg_get hrH hk).1, (rg_get hrH hk).2⟩⟩) ⟨rfl, rfl, trivial⟩ (fun _ h => by first | exact h | (rw [List.length_set]; exact Hp.spl h rfl) | (rw [List.length_set]; exact h)) | exact KV.join (⟨d.hs.set k (spE (d.hs.getD k thK.d) text), rg_set hrH ⟨(rg_get hrH hk).1, (rg_get hrH hk).2⟩⟩) ⟨rfl, rfl, trivial⟩ (fun _ h => by first | exact h | (rw [List.length_set]; exact Hp.spl h rfl) | (rw [List.length_set]; exact h)) | exact KV.join (⟨d.hs.set k (spG (d.hs.getD k thK.d)), rg_set hrH ⟨(rg_get hrH hk).1, (rg_get hrH hk).2⟩⟩) ⟨rfl, rfl, trivial⟩ (fun _ h => by first | exact h | (rw [List.length_set]; exact Hp.spl h rfl) | (rw [List.length_set]; exact h)) | exact KV.join (⟨d.hs.set k (spO (d.hs.getD k thK.d) n A2 c2), rg_set hrH (rg_spO (rg_get hrH hk) n A2 c2)⟩) ⟨rfl, rfl, trivial⟩ (fun _ h => by first | exact h | (rw [List.length_set]; exact Hp.spl h rfl) | (rw [List.length_set]; exact h)) | exact KV.join (⟨d.hs, hrH⟩) ⟨rfl, rfl, trivial⟩ (fun _ h => by first | exact h | (rw [List.length_set]; exact Hp.spl h rfl) | (rw [List.length_set]; exact h)))
           ·
            refine OV.buildSlice (K := roK) ([(⟨false, 0, modM n 3⟩ : Ro)]) rfl (Bs46_1_0 _ _ _) rfl rfl (by omega) gno rfl (fun z => ?_)
            refine AV.next (bl 18 16127) (by kernel_rfl) (fun _ h => h.sel [0] rfl) ?_
            refine AV.all [8] (by kernel_rfl) (by decide) ?_
            refine ⟨⟨_, rfl, ?_⟩, trivial⟩
            ·
             refine OV.step gno (Step.load Tryz.underlying46 rfl rfl (fun w h => (h.os 3 rfl).cell (by omega) rfl)) rfl ?_
             refine AV.next (bl 18 16383) (by kernel_rfl) (fun _ h => h.sel [0] rfl) ?_
             refine AV.all [14] (by kernel_rfl) (by decide) ?_
             refine ⟨⟨_, rfl, ?_⟩, trivial⟩
             ·
              refine OV.append 4 Tryz.underlying46 I59 rfl rfl rfl rfl rfl rfl (fun w h => h.os 6 rfl) (by have := hl3 k hk; simp only [List.length_cons, List.length_nil]; omega) (by have := hl3 k hk; simp only [List.length_cons, List.length_nil]; omega) gno rfl (fun A2 c2 => ?_)
              refine AV.next (bl 18 32767) (by kernel_rfl) (fun _ h => h.sel [0] rfl) ?_
              refine AV.all [15] (by kernel_rfl) (by decide) ?_
              refine ⟨⟨_, rfl, ?_⟩, trivial⟩
              ·
               refine OV.step gno (Step.idx Tryz.underlying23 I48 (fun w h => h.os 3 rfl) rfl rfl (rfl) _ rfl (by omega)) rfl ?_
               refine AV.next (bl 18 65535) (by kernel_rfl) (fun _ h => h.sel [0] rfl) ?_
               refine AV.u 16 (bl 18 131071) rfl gno (Step.fieldAddr rfl (F48_3 _ _)) rfl (fun _ h => h.sel [0] rfl) ?_
               refine AV.all [17] (by kernel_rfl) (by decide) ?_
               refine ⟨⟨_, rfl, ?_⟩, trivial⟩
               ·
                refine OV.storeE 3 (k) ((spO (d.hs.getD k thK.d) n A2 c2)) (j := 6) [_] I46 rfl rfl rfl rfl rfl rfl (by omega) rfl (Nat.le_of_ble_eq_true rfl) gno ?_
                refine KV.sel [0, 0, 0, 0, 0, 0] [_, _, _, _, _, _] rfl ?_
                refine KV.heap (fun w h => Hp.unfocus (L := [_, _, _, _, _]) (k := 4) (h' := (spO (d.hs.getD k thK.d) n A2 c2)) h rfl hk) ?_
                refine AV.next (bl 18 262143) (by kernel_rfl) (fun _ h => h.sel [0] rfl) ?_
                refine AV.done (by kernel_rfl) ?_
                refine KV.block_n (KV.then_n (KV.env [(4, _), (8, _)] ⟨rfl, rfl, trivial⟩ ?_))
                refine KV.sel [0, 0, 0, 0, 0] [_, _, _, _, _] rfl ?_
                (first | exact KV.join (⟨d.hs.set k (spF (d.hs.getD k thK.d) n), rg_set hrH ⟨(rg_get hrH hk).1, (rg_get hrH hk).2⟩⟩) ⟨rfl, rfl, trivial⟩ (fun _ h => by first | exact h | (rw [List.length_set]; exact Hp.spl h rfl) | (rw [List.length_set]; exact h)) | exact KV.join (⟨d.hs.set k (spT (d.hs.getD k thK.d) n), rg_set hrH ⟨(rg_get hrH hk).1, (rg_get hrH hk).2⟩⟩) ⟨rfl, rfl, trivial⟩ (fun _ h => by first | exact h | (rw [List.length_set]; exact Hp.spl h rfl) | (rw [List.length_set]; exact h)) | exact KV.join (⟨d.hs.set k (spE (d.hs.getD k thK.d) text), rg_set hrH ⟨(rg_get hrH hk).1, (rg_get hrH hk).2⟩⟩) ⟨rfl, rfl, trivial⟩ (fun _ h => by first | exact h | (rw [List.length_set]; exact Hp.spl h rfl) | (rw [List.length_set]; exact h)) | exact KV.join (⟨d.hs.set k (spG (d.hs.getD k thK.d)), rg_set hrH ⟨(rg_get hrH hk).1, (rg_get hrH hk).2⟩⟩) ⟨rfl, rfl, trivial⟩ (fun _ h => by first | exact h | (rw [List.length_set]; exact Hp.spl h rfl) | (rw [List.length_set]; exact h)) | exact KV.join (⟨d.hs.set k (spO (d.hs.getD k thK.d) n A2 c2), rg_set hrH (rg_spO (rg_get hrH hk) n A2 c2)⟩) ⟨rfl, rfl, trivial⟩ (fun _ h => by first | exact h | (rw [List.length_set]; exact Hp.spl h rfl) | (rw [List.length_set]; exact h)) | exact KV.join (⟨d.hs, hrH⟩) ⟨rfl, rfl, trivial⟩ (fun _ h => by first | exact h | (rw [List.length_set]; exact Hp.spl h rfl) | (rw [List.length_set]; exact h)))
          ·
           refine OV.buildSlice (K := roK) ([(⟨false, 0, modM n 3⟩ : Ro)]) rfl (Bs46_1_0 _ _ _) rfl rfl (by omega) gno rfl (fun z => ?_)
           refine AV.next (bl 18 15935) (by kernel_rfl) (fun _ h => h.sel [0] rfl) ?_
           refine AV.all [6] (by kernel_rfl) (by decide) ?_
           refine ⟨⟨_, rfl, ?_⟩, trivial⟩
           ·
            refine OV.step gno (Step.idx Tryz.underlying23 I48 (fun w h => h.os 3 rfl) rfl rfl (rfl) _ rfl (by omega)) rfl ?_
            refine AV.next (bl 18 15999) (by kernel_rfl) (fun _ h => h.sel [0] rfl) ?_
            refine AV.u 7 (bl 18 16127) rfl gno (Step.fieldAddr rfl (F48_3 _ _)) rfl (fun _ h => h.sel [0] rfl) ?_
            refine AV.all [8] (by kernel_rfl) (by decide) ?_
            refine ⟨⟨_, rfl, ?_⟩, trivial⟩
            ·
             refine OV.step gno (Step.load Tryz.underlying46 rfl rfl (fun w h => (h.os 3 rfl).cell (by omega) rfl)) rfl ?_
             refine AV.next (bl 18 16383) (by kernel_rfl) (fun _ h => h.sel [0] rfl) ?_
             refine AV.all [14] (by kernel_rfl) (by decide) ?_
             refine ⟨⟨_, rfl, ?_⟩, trivial⟩
             ·
              refine OV.append 4 Tryz.underlying46 I59 rfl rfl rfl rfl rfl rfl (fun w h => h.os 6 rfl) (by have := hl3 k hk; simp only [List.length_cons, List.length_nil]; omega) (by have := hl3 k hk; simp only [List.length_cons, List.length_nil]; omega) gno rfl (fun A2 c2 => ?_)
              refine AV.next (bl 18 32767) (by kernel_rfl) (fun _ h => h.sel [0] rfl) ?_
              refine AV.all [15] (by kernel_rfl) (by decide) ?_
              refine ⟨⟨_, rfl, ?_⟩, trivial⟩
              ·
               refine OV.step gno (Step.idx Tryz.underlying23 I48 (fun w h => h.os 3 rfl) rfl rfl (rfl) _ rfl (by omega)) rfl ?_
               refine AV.next (bl 18 65535) (by kernel_rfl) (fun _ h => h.sel [0] rfl) ?_
               refine AV.u 16 (bl 18 131071) rfl gno (Step.fieldAddr rfl (F48_3 _ _)) rfl (fun _ h => h.sel [0] rfl) ?_
               refine AV.all [17] (by kernel_rfl) (by decide) ?_
               refine ⟨⟨_, rfl, ?_⟩, trivial⟩
               ·
                refine OV.storeE 3 (k) ((spO (d.hs.getD k thK.d) n A2 c2)) (j := 6) [_] I46 rfl rfl rfl rfl rfl rfl (by omega) rfl (Nat.le_of_ble_eq_true rfl) gno ?_
                refine KV.sel [0, 0, 0, 0, 0, 0] [_, _, _, _, _, _] rfl ?_
                refine KV.heap (fun w h => Hp.unfocus (L := [_, _, _, _, _]) (k := 4) (h' := (spO (d.hs.getD k thK.d) n A2 c2)) h rfl hk) ?_
                refine AV.next (bl 18 262143) (by kernel_rfl) (fun _ h => h.sel [0] rfl) ?_
                refine AV.done (by kernel_rfl) ?_
                refine KV.block_n (KV.then_n (KV.env [(4, _), (8, _)] ⟨rfl, rfl, trivial⟩ ?_))
                refine KV.sel [0, 0, 0, 0, 0] [_, _, _, _, _] rfl ?_
                (first | exact KV.join (⟨d.hs.set k (spF (d.hs.getD k thK.d) n), rg_set hrH ⟨(rg_get hrH hk).1, (rg_get hrH hk).2⟩⟩) ⟨rfl, rfl, trivial⟩ (fun _ h => by first | exact h | (rw [List.length_set]; exact Hp.spl h rfl) | (rw [List.length_set]; exact h)) | exact KV.join (⟨d.hs.set k (spT (d.hs.getD k thK.d) n), rg_set hrH ⟨(rg_get hrH hk).1, (rg_get hrH hk).2⟩⟩) ⟨rfl, rfl, trivial⟩ (fun _ h => by first | exact h | (rw [List.length_set]; exact Hp.spl h rfl) | (rw [List.length_set]; exact h)) | exact KV.join (⟨d.hs.set k (spE (d.hs.getD k thK.d) text), rg_set hrH ⟨(rg_get hrH hk).1, (rg_get hrH hk).2⟩⟩) ⟨rfl, rfl, trivial⟩ (fun _ h => by first | exact h | (rw [List.length_set]; exact Hp.spl h rfl) | (rw [List.length_set]; exact h)) | exact KV.join (⟨d.hs.set k (spG (d.hs.getD k thK.d)), rg_set hrH ⟨(rg_get hrH hk).1, (rg_get hrH hk).2⟩⟩) ⟨rfl, rfl, trivial⟩ (fun _ h => by first | exact h | (rw [List.length_set]; exact Hp.spl h rfl) | (rw [List.length_set]; exact h)) | exact KV.join (⟨d.hs.set k (spO (d.hs.getD k thK.d) n A2 c2), rg_set hrH (rg_spO (rg_get hrH hk) n A2 c2)⟩) ⟨rfl, rfl, trivial⟩ (fun _ h => by first | exact h | (rw [List.length_set]; exact Hp.spl h rfl) | (rw [List.length_set]; exact h)) | exact KV.join (⟨d.hs, hrH⟩) ⟨rfl, rfl, trivial⟩ (fun _ h => by first | exact h | (rw [List.length_set]; exact Hp.spl h rfl) | (rw [List.length_set]; exact h)))
        ·
         refine RV.a rfl rfl ?_
         refine RV.nil (KV.then_n (KV.env [(2, _), (4, _), (8, _), (10, _), (85, _)] ⟨rfl, rfl, rfl, rfl, rfl, trivial⟩ (CV.cond_f rfl (CV.skip (KV.block_n ?_)))))
         refine KV.then_n (KV.env [(4, _), (8, _)] ⟨rfl, rfl, trivial⟩ ?_)
         refine KV.sel [0, 0, 0, 0, 0] [_, _, _, _, _] rfl ?_
         (first | exact KV.join (⟨d.hs.set k (spF (d.hs.getD k thK.d) n), rg_set hrH ⟨(rg_get hrH hk).1, (rg_get hrH hk).2⟩⟩) ⟨rfl, rfl, trivial⟩ (fun _ h => by first | exact h | (rw [List.length_set]; exact Hp.spl h rfl) | (rw [List.length_set]; exact h)) | exact KV.join (⟨d.hs.set k (spT (d.hs.getD k thK.d) n), rg_set hrH ⟨(rg_get hrH hk).1, (rg_get hrH hk).2⟩⟩) ⟨rfl, rfl, trivial⟩ (fun _ h => by first | exact h | (rw [List.length_set]; exact Hp.spl h rfl) | (rw [List.length_set]; exact h)) | exact KV.join (⟨d.hs.set k (spE (d.hs.getD k thK.d) text), rg_set hrH ⟨(rg_get hrH hk).1, (rg_get hrH hk).2⟩⟩) ⟨rfl, rfl, trivial⟩ (fun _ h => by first | exact h | (rw [List.length_set]; exact Hp.spl h rfl) | (rw [List.length_set]; exact h)) | exact KV.join (⟨d.hs.set k (spG (d.hs.getD k thK.d)), rg_set hrH ⟨(rg_get hrH hk).1, (rg_get hrH hk).2⟩⟩) ⟨rfl, rfl, trivial⟩ (fun _ h => by first | exact h | (rw [List.length_set]; exact Hp.spl h rfl) | (rw [List.length_set]; exact h)) | exact KV.join (⟨d.hs.set k (spO (d.hs.getD k thK.d) n A2 c2), rg_set hrH (rg_spO (rg_get hrH hk) n A2 c2)⟩) ⟨rfl, rfl, trivial⟩ (fun _ h => by first | exact h | (rw [List.length_set]; exact Hp.spl h rfl) | (rw [List.length_set]; exact h)) | exact KV.join (⟨d.hs, hrH⟩) ⟨rfl, rfl, trivial⟩ (fun _ h => by first | exact h | (rw [List.length_set]; exact Hp.spl h rfl) | (rw [List.length_set]; exact h)))
   ·
    intro H
    refine CV.seq (CV.region ?_)
    refine RV.s (Step.loadN _ Tryz.underlying25 rfl I25 rfl rfl (fun w h => h.cells 0 rfl)) rfl ?_
    refine RV.op (OV.store 1 [_, _, _] #[_, _, _] I25 rfl rfl rfl rfl rfl (Nat.le_of_ble_eq_true rfl) (by simp [Value.oneCell']) rfl gno ?_)
    refine RV.nil (KV.then_n (KV.env [(8, _)] ⟨rfl, trivial⟩ (CV.ret ?_)))
    refine KV.sel [1, 1, 1, 1] [_, _, _, _] rfl ?_
    exact KV.retC1 [_, _, _] rfl rfl Tryz.underlying25 rfl I25 rfl (fun w h => h.cells 0 rfl) _ (fun _ h => h.sel [1, 1, 1] rfl) ⟨⟨nm, sA, sc, ss, d.tA, d.tc, H.1⟩, rfl, H.2, rfl⟩
end Go.Proofs.YtplmfekhdaefaaaGreatDoor
