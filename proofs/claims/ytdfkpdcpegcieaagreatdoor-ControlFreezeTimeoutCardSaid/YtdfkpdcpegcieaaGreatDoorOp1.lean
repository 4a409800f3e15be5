/-
  Domains, links and steps that came in as arguments.
-/
import Derived.Test.YtdfkpdcpegcieaaGreatDoorTabA
import Derived.Test.YtdfkpdcpegcieaaGreatDoorObA
import Derived.OpenShut
import Derived.WideShapes
import Derived.ChangeShapes
import Derived.LaidLaws
set_option linter.unusedSimpArgs false
set_option linter.unusedVariables false
set_option maxRecDepth 100000
namespace Go.Proofs.YtdfkpdcpegcieaaGreatDoor
open Go Go.Sv Go.Perf Go.Ctl Go.ChangeShapes Go.WideShapes Go.Deep Go.RowKit
section
variable {H : Type} {enc : TypeId × Value → H} {w : World} {base : Nat} {spare : Nat → Bool} {held : Bool}
theorem list2 {α : Type} {l : List α} (h : l.length = 2) : ∃ a b, l = [a, b] := by
  match l, h with
  | [a, b], _ => exact ⟨a, b, rfl⟩
theorem list5 {α : Type} {l : List α} (h : l.length = 5) : ∃ a b c d e, l = [a, b, c, d, e] := by
  match l, h with
  | [a, b, c, d, e], _ => exact ⟨a, b, c, d, e, rfl⟩
theorem list7 {α : Type} {l : List α} (h : l.length = 7) : ∃ a b c d e f g, l = [a, b, c, d, e, f, g] := by
  match l, h with
  | [a, b, c, d, e, f, g], _ => exact ⟨a, b, c, d, e, f, g, rfl⟩
theorem k2 : Tryz.prog.cellsOf 2 = 1 := by kernel_rfl
theorem k3 : Tryz.prog.cellsOf 3 = 1 := by kernel_rfl
theorem k4 : Tryz.prog.cellsOf 4 = 1 := by kernel_rfl
theorem k24 : Tryz.prog.cellsOf 24 = 1 := by kernel_rfl
theorem k39 : Tryz.prog.cellsOf 39 = 3 := by kernel_rfl
theorem k41 : Tryz.prog.cellsOf 41 = 2 := by kernel_rfl
theorem k42 : Tryz.prog.cellsOf 42 = 1 := by kernel_rfl
theorem k43 : Tryz.prog.cellsOf 43 = 1 := by kernel_rfl
theorem k45 : Tryz.prog.cellsOf 45 = 7 := by kernel_rfl
theorem k50 : Tryz.prog.cellsOf 50 = 5 := by kernel_rfl
theorem k61 : Tryz.prog.cellsOf 61 = 3 := by kernel_rfl
theorem k190 : Tryz.prog.cellsOf 190 = 3 := by kernel_rfl
theorem k195 : Tryz.prog.cellsOf 195 = 3 := by kernel_rfl
theorem el_pt {n : Nat} {cs : List Value} {y : DataW H × List MemPlace} (h : DataW.trod enc Tryz.prog w base spare held n 61 cs = some y) : ∃ a : Pt, cs = ptK.f a ∧ fitP a := by
  obtain ⟨xs, m, _, _, hl, hx, hf⟩ := DataW.trod_struct Tryz.underlying61 h
  obtain ⟨c0, c1, c2, rfl⟩ := list3 (hl.trans k61)
  have f0 : DataW.trod enc Tryz.prog w base spare held m 24 (([c0, c1, c2].drop 0).take (Tryz.prog.cellsOf 24)) = xs[0]? := hf 0 _ rfl
  rw [k24] at f0
  have f1 : DataW.trod enc Tryz.prog w base spare held m 24 (([c0, c1, c2].drop 1).take (Tryz.prog.cellsOf 24)) = xs[1]? := hf 1 _ rfl
  rw [k24] at f1
  have f2 : DataW.trod enc Tryz.prog w base spare held m 24 (([c0, c1, c2].drop 2).take (Tryz.prog.cellsOf 24)) = xs[2]? := hf 2 _ rfl
  rw [k24] at f2
  have hx3 : xs.length = 3 := hx
  obtain ⟨x0, x1, x2, rfl⟩ := list3 hx3
  obtain ⟨b0, e0, _, w0⟩ := DataW.trod_int Tryz.underlying24 f0
  obtain ⟨b1, e1, _, w1⟩ := DataW.trod_int Tryz.underlying24 f1
  obtain ⟨b2, e2, _, w2⟩ := DataW.trod_int Tryz.underlying24 f2
  simp at e0 e1 e2
  subst e0 e1 e2
  exact ⟨⟨b0, b1, b2⟩, rfl, bounds_u64 w0, bounds_u64 w1, bounds_u64 w2⟩
theorem el_trp {n : Nat} {cs : List Value} {y : DataW H × List MemPlace} (h : DataW.trod enc Tryz.prog w base spare held n 190 cs = some y) : ∃ a : Trp, cs = trK.f a ∧ True := by
  obtain ⟨xs, m, _, _, hl, hx, hf⟩ := DataW.trod_struct Tryz.underlying190 h
  obtain ⟨c0, c1, c2, rfl⟩ := list3 (hl.trans k190)
  have f0 : DataW.trod enc Tryz.prog w base spare held m 3 (([c0, c1, c2].drop 0).take (Tryz.prog.cellsOf 3)) = xs[0]? := hf 0 _ rfl
  rw [k3] at f0
  have f1 : DataW.trod enc Tryz.prog w base spare held m 2 (([c0, c1, c2].drop 1).take (Tryz.prog.cellsOf 2)) = xs[1]? := hf 1 _ rfl
  rw [k2] at f1
  have f2 : DataW.trod enc Tryz.prog w base spare held m 2 (([c0, c1, c2].drop 2).take (Tryz.prog.cellsOf 2)) = xs[2]? := hf 2 _ rfl
  rw [k2] at f2
  have hx3 : xs.length = 3 := hx
  obtain ⟨x0, x1, x2, rfl⟩ := list3 hx3
  obtain ⟨b0, e0, _⟩ := DataW.trod_int Tryz.underlying3 f0
  obtain ⟨b1, e1, _⟩ := DataW.trod_int Tryz.underlying2 f1
  obtain ⟨b2, e2, _⟩ := DataW.trod_int Tryz.underlying2 f2
  simp at e0 e1 e2
  subst e0 e1 e2
  exact ⟨⟨b0, b1, b2⟩, rfl, trivial⟩
theorem el_hl {n : Nat} {cs : List Value} {y : DataW H × List MemPlace} (h : DataW.trod enc Tryz.prog w base spare held n 195 cs = some y) : ∃ a : HL, cs = hlK.f a ∧ True := by
  obtain ⟨xs, m, _, _, hl, hx, hf⟩ := DataW.trod_struct Tryz.underlying195 h
  obtain ⟨c0, c1, c2, rfl⟩ := list3 (hl.trans k195)
  have f0 : DataW.trod enc Tryz.prog w base spare held m 3 (([c0, c1, c2].drop 0).take (Tryz.prog.cellsOf 3)) = xs[0]? := hf 0 _ rfl
  rw [k3] at f0
  have f1 : DataW.trod enc Tryz.prog w base spare held m 3 (([c0, c1, c2].drop 1).take (Tryz.prog.cellsOf 3)) = xs[1]? := hf 1 _ rfl
  rw [k3] at f1
  have f2 : DataW.trod enc Tryz.prog w base spare held m 2 (([c0, c1, c2].drop 2).take (Tryz.prog.cellsOf 2)) = xs[2]? := hf 2 _ rfl
  rw [k2] at f2
  have hx3 : xs.length = 3 := hx
  obtain ⟨x0, x1, x2, rfl⟩ := list3 hx3
  obtain ⟨b0, e0, _⟩ := DataW.trod_int Tryz.underlying3 f0
  obtain ⟨b1, e1, _⟩ := DataW.trod_int Tryz.underlying3 f1
  obtain ⟨b2, e2, _⟩ := DataW.trod_int Tryz.underlying2 f2
  simp at e0 e1 e2
  subst e0 e1 e2
  exact ⟨⟨b0, b1, b2⟩, rfl, trivial⟩
theorem el_rn {n : Nat} {cs : List Value} {y : DataW H × List MemPlace} (h : DataW.trod enc Tryz.prog w base spare held n 50 cs = some y) : ∃ a : RN, cs = rnK.f a ∧ True := by
  obtain ⟨xs, m, _, _, hl, hx, hf⟩ := DataW.trod_struct Tryz.underlying50 h
  obtain ⟨c0, c1, c2, c3, c4, rfl⟩ := list5 (hl.trans k50)
  have f0 : DataW.trod enc Tryz.prog w base spare held m 3 (([c0, c1, c2, c3, c4].drop 0).take (Tryz.prog.cellsOf 3)) = xs[0]? := hf 0 _ rfl
  rw [k3] at f0
  have f1 : DataW.trod enc Tryz.prog w base spare held m 3 (([c0, c1, c2, c3, c4].drop 1).take (Tryz.prog.cellsOf 3)) = xs[1]? := hf 1 _ rfl
  rw [k3] at f1
  have f2 : DataW.trod enc Tryz.prog w base spare held m 3 (([c0, c1, c2, c3, c4].drop 2).take (Tryz.prog.cellsOf 3)) = xs[2]? := hf 2 _ rfl
  rw [k3] at f2
  have f3 : DataW.trod enc Tryz.prog w base spare held m 4 (([c0, c1, c2, c3, c4].drop 3).take (Tryz.prog.cellsOf 4)) = xs[3]? := hf 3 _ rfl
  rw [k4] at f3
  have f4 : DataW.trod enc Tryz.prog w base spare held m 4 (([c0, c1, c2, c3, c4].drop 4).take (Tryz.prog.cellsOf 4)) = xs[4]? := hf 4 _ rfl
  rw [k4] at f4
  have hx5 : xs.length = 5 := hx
  obtain ⟨x0, x1, x2, x3, x4, rfl⟩ := list5 hx5
  obtain ⟨b0, e0, _⟩ := DataW.trod_int Tryz.underlying3 f0
  obtain ⟨b1, e1, _⟩ := DataW.trod_int Tryz.underlying3 f1
  obtain ⟨b2, e2, _⟩ := DataW.trod_int Tryz.underlying3 f2
  obtain ⟨b3, e3, _⟩ := DataW.trod_bool Tryz.underlying4 f3
  obtain ⟨b4, e4, _⟩ := DataW.trod_bool Tryz.underlying4 f4
  simp at e0 e1 e2 e3 e4
  subst e0 e1 e2 e3 e4
  exact ⟨⟨b0, b1, b2, b3, b4⟩, rfl, trivial⟩
theorem el_hd {n : Nat} {cs : List Value} {y : DataW H × List MemPlace} (h : DataW.trod enc Tryz.prog w base spare held n 41 cs = some y) : ∃ a : HD, cs = [.int .i64 a.cap, .int .i64 a.amb] := by
  obtain ⟨xs, m, _, _, hl, hx, hf⟩ := DataW.trod_struct Tryz.underlying41 h
  obtain ⟨c0, c1, rfl⟩ := list2 (hl.trans k41)
  have f0 : DataW.trod enc Tryz.prog w base spare held m 2 (([c0, c1].drop 0).take (Tryz.prog.cellsOf 2)) = xs[0]? := hf 0 _ rfl
  rw [k2] at f0
  have f1 : DataW.trod enc Tryz.prog w base spare held m 2 (([c0, c1].drop 1).take (Tryz.prog.cellsOf 2)) = xs[1]? := hf 1 _ rfl
  rw [k2] at f1
  have hx2 : xs.length = 2 := hx
  obtain ⟨x0, x1, rfl⟩ := list2 hx2
  obtain ⟨b0, e0, _⟩ := DataW.trod_int Tryz.underlying2 f0
  obtain ⟨b1, e1, _⟩ := DataW.trod_int Tryz.underlying2 f1
  simp at e0 e1
  subst e0 e1
  exact ⟨⟨b0, b1⟩, rfl⟩
theorem el_gv {n : Nat} {cs : List Value} {y : DataW H × List MemPlace} (h : DataW.trod enc Tryz.prog w base spare held n 39 cs = some y) : ∃ a b c : Int, cs = [.int .i64 a, .int .i64 b, .int .i64 c] := by
  obtain ⟨xs, m, _, _, hl, hx, hf⟩ := DataW.trod_struct Tryz.underlying39 h
  obtain ⟨c0, c1, c2, rfl⟩ := list3 (hl.trans k39)
  have f0 : DataW.trod enc Tryz.prog w base spare held m 3 (([c0, c1, c2].drop 0).take (Tryz.prog.cellsOf 3)) = xs[0]? := hf 0 _ rfl
  rw [k3] at f0
  have f1 : DataW.trod enc Tryz.prog w base spare held m 3 (([c0, c1, c2].drop 1).take (Tryz.prog.cellsOf 3)) = xs[1]? := hf 1 _ rfl
  rw [k3] at f1
  have f2 : DataW.trod enc Tryz.prog w base spare held m 3 (([c0, c1, c2].drop 2).take (Tryz.prog.cellsOf 3)) = xs[2]? := hf 2 _ rfl
  rw [k3] at f2
  have hx3 : xs.length = 3 := hx
  obtain ⟨x0, x1, x2, rfl⟩ := list3 hx3
  obtain ⟨b0, e0, _⟩ := DataW.trod_int Tryz.underlying3 f0
  obtain ⟨b1, e1, _⟩ := DataW.trod_int Tryz.underlying3 f1
  obtain ⟨b2, e2, _⟩ := DataW.trod_int Tryz.underlying3 f2
  simp at e0 e1 e2
  subst e0 e1 e2
  exact ⟨b0, b1, b2, rfl⟩
theorem el_rb {n : Nat} {cs : List Value} {y : DataW H × List MemPlace} (h : DataW.trod enc Tryz.prog w base spare held n 45 cs = some y) : ∃ a : RB, cs = rbK.f a ∧ a.rs w ∧ fitT a.ys := by
  obtain ⟨xs, m, _, _, hl, hx, hf⟩ := DataW.trod_struct Tryz.underlying45 h
  obtain ⟨c0, c1, c2, c3, c4, c5, c6, rfl⟩ := list7 (hl.trans k45)
  have hx4 : xs.length = 4 := hx
  have hg : ∀ i, i < 4 → xs[i]? = some (xs.getD i (.nil, [])) := fun i hi => getD_get (by omega) _
  have f0 : DataW.trod enc Tryz.prog w base spare held m 41 (([c0, c1, c2, c3, c4, c5, c6].drop 0).take (Tryz.prog.cellsOf 41)) = xs[0]? := hf 0 _ rfl
  rw [k41] at f0
  rw [hg 0 (by decide)] at f0
  have f1 : DataW.trod enc Tryz.prog w base spare held m 42 (([c0, c1, c2, c3, c4, c5, c6].drop 2).take (Tryz.prog.cellsOf 42)) = xs[1]? := hf 1 _ rfl
  rw [k42] at f1
  rw [hg 1 (by decide)] at f1
  have f2 : DataW.trod enc Tryz.prog w base spare held m 39 (([c0, c1, c2, c3, c4, c5, c6].drop 3).take (Tryz.prog.cellsOf 39)) = xs[2]? := hf 2 _ rfl
  rw [k39] at f2
  rw [hg 2 (by decide)] at f2
  have f3 : DataW.trod enc Tryz.prog w base spare held m 43 (([c0, c1, c2, c3, c4, c5, c6].drop 6).take (Tryz.prog.cellsOf 43)) = xs[3]? := hf 3 _ rfl
  rw [k43] at f3
  rw [hg 3 (by decide)] at f3
  obtain ⟨a, e0⟩ := el_hd f0
  obtain ⟨A1, k1, n1, ys, e1, hl1, hr1, hG⟩ := open_rs ptK fitP Tryz.underlying42 k61 (fun _ _ _ h => el_pt h) f1
  obtain ⟨u, d, s, e2⟩ := el_gv f2
  obtain ⟨A2, k2', n2, tr, e3, hl3, hr3, _⟩ := open_rs trK (fun _ => True) Tryz.underlying43 k190 (fun _ _ _ h => el_trp h) f3
  simp at e0 e1 e2 e3
  obtain ⟨rfl, rfl⟩ := e0
  obtain ⟨rfl, rfl, rfl⟩ := e2
  subst e1 e3 hl1 hl3
  exact ⟨⟨a, A1, n1, ys, u, d, s, A2, n2, tr⟩, rfl, ⟨hr1, hr3⟩, fitT_of fun i hi => hG i hi⟩
/-- A slice that came in. -/
theorem open_sl {α : Type} (K : Enc α) (G : α → Prop) {t e : TypeId} {r : Reach} {b0 : Nat} {v : Value} {d : DataW H} {ps : List MemPlace} (ht : Tryz.prog.underlying t = some (.slice e)) (hsz : Tryz.prog.cellsOf e = K.sz)
    (hel : ∀ n cs' y, DataW.trod enc Tryz.prog w base spare held n e cs' = some y → ∃ a : α, cs' = K.f a ∧ G a) (hval : Value.okWide Tryz.prog w r b0 t v) (hd : DataW.Trod enc Tryz.prog w base spare held t v d ps) :
    ∃ (A : Option Addr) (c : Nat) (ys : List α), v = .slice A ys.length c ∧ RS w K A ys ∧ ys.length ≤ 9223372036854775807 ∧ ∀ i, i < ys.length → G (ys.getD i K.d) := by
  obtain ⟨A, n, c, rfl⟩ := okWide_slice ht hval
  obtain ⟨fuel, hf⟩ := hd
  obtain ⟨A1, n1, c1, ys, e1, hl1, hr1, hG⟩ := open_rs K G ht hsz hel hf
  simp [Value.cells] at e1
  obtain ⟨rfl, rfl, rfl⟩ := e1
  subst hl1
  refine ⟨_, _, ys, rfl, hr1, ?_, hG⟩
  rcases open_slice ht hf with ⟨h0, _⟩ | ⟨a, len, cap, m, n, D, Pl, hcs, hb, hl, hm, hmm, hx, hi⟩
  · simp [Value.cells] at h0
    have := h0.2.1
    simp [this]
  · simp [Value.cells] at hcs
    have h1 := hcs.2.1
    have h2 : maxLen = 9223372036854775807 := rfl
    omega
end
end Go.Proofs.YtdfkpdcpegcieaaGreatDoor
