/-
  A driver that came in as an argument.
-/
import Derived.Test.YtplmfekhdaefaaaDoorW10
import Derived.Test.YtplmfekhdaefaaaDoorSvC
import Derived.Lib.LaidU8
import Derived.LaidLaws
set_option linter.unusedSimpArgs false
set_option linter.unusedVariables false
set_option maxRecDepth 100000
namespace Go.Proofs.YtplmfekhdaefaaaDoor
open Go Go.Sv Go.Drv Go.ChangeShapes Go.WideShapes Go.Deep Go.RowKit
section
variable {H : Type} {enc : TypeId × Value → H} {w : World} {base : Nat} {spare : Nat → Bool} {held : Bool}
theorem list4 {α : Type} {l : List α} (h : l.length = 4) : ∃ a b c d, l = [a, b, c, d] := by
  match l, h with
  | [a, b, c, d], _ => exact ⟨a, b, c, d, rfl⟩
theorem list8 {α : Type} {l : List α} (h : l.length = 8) : ∃ a b c d e f g i, l = [a, b, c, d, e, f, g, i] := by
  match l, h with
  | [a, b, c, d, e, f, g, i], _ => exact ⟨a, b, c, d, e, f, g, i, rfl⟩
theorem c71 : Tryd.prog.cellsOf 71 = 3 := by kernel_rfl
theorem c61 : Tryd.prog.cellsOf 61 = 8 := by kernel_rfl
theorem c59 : Tryd.prog.cellsOf 59 = 4 := by kernel_rfl
theorem c26 : Tryd.prog.cellsOf 26 = 3 := by kernel_rfl
theorem c9 : Tryd.prog.cellsOf 9 = 1 := by kernel_rfl
theorem c4 : Tryd.prog.cellsOf 4 = 1 := by kernel_rfl
theorem c3 : Tryd.prog.cellsOf 3 = 1 := by kernel_rfl
theorem c51 : Tryd.prog.cellsOf 51 = 1 := by kernel_rfl
theorem c46 : Tryd.prog.cellsOf 46 = 1 := by kernel_rfl
theorem c23 : Tryd.prog.cellsOf 23 = 1 := by kernel_rfl
theorem c24 : Tryd.prog.cellsOf 24 = 1 := by kernel_rfl
theorem bs_of (s : ByteArray) : s = bs s.data.toList := by cases s; rfl
theorem el_str {n : Nat} {cs : List Value} {y : DataW H × List MemPlace} (h : DataW.trod enc Tryd.prog w base spare held n 9 cs = some y) : ∃ a : Bs, cs = strK.f a ∧ True := by
  obtain ⟨s, h1, _⟩ := DataW.trod_string Tryd.underlying9 h
  exact ⟨s.data.toList, by rw [h1, bs_of s]; rfl, trivial⟩
theorem el_ro {n : Nat} {cs : List Value} {y : DataW H × List MemPlace} (h : DataW.trod enc Tryd.prog w base spare held n 71 cs = some y) : ∃ a : Ro, cs = roK.f a ∧ True := by
  obtain ⟨xs, m, _, _, hl, _, hf⟩ := DataW.trod_struct Tryd.underlying71 h
  obtain ⟨c0, c1, c2, rfl⟩ := list3 (hl.trans c71)
  have f0 : DataW.trod enc Tryd.prog w base spare held m 4 (([c0, c1, c2].drop 0).take (Tryd.prog.cellsOf 4)) = xs[0]? := hf 0 _ rfl
  rw [c4] at f0
  have f1 : DataW.trod enc Tryd.prog w base spare held m 51 (([c0, c1, c2].drop 1).take (Tryd.prog.cellsOf 51)) = xs[1]? := hf 1 _ rfl
  rw [c51] at f1
  have f2 : DataW.trod enc Tryd.prog w base spare held m 51 (([c0, c1, c2].drop 2).take (Tryd.prog.cellsOf 51)) = xs[2]? := hf 2 _ rfl
  rw [c51] at f2
  have hx : xs.length = 3 := by assumption
  obtain ⟨x0, x1, x2, rfl⟩ := list3 hx
  obtain ⟨b0, e0, _⟩ := DataW.trod_bool Tryd.underlying4 f0
  obtain ⟨b1, e1, _⟩ := DataW.trod_int Tryd.underlying51 f1
  obtain ⟨b2, e2, _⟩ := DataW.trod_int Tryd.underlying51 f2
  simp at e0 e1 e2
  subst e0 e1 e2
  exact ⟨⟨b0, b1, b2⟩, rfl, trivial⟩
theorem el_gd {n : Nat} {cs : List Value} {y : DataW H × List MemPlace} (h : DataW.trod enc Tryd.prog w base spare held n 59 cs = some y) : ∃ g : Gd, cs = [.bool g.used, .int .u64 g.reg, .int .u64 g.mask, .int .u64 g.val] := by
  obtain ⟨xs, m, _, _, hl, hx, hf⟩ := DataW.trod_struct Tryd.underlying59 h
  obtain ⟨c0, c1, c2, c3, rfl⟩ := list4 (hl.trans c59)
  have f0 : DataW.trod enc Tryd.prog w base spare held m 4 (([c0, c1, c2, c3].drop 0).take (Tryd.prog.cellsOf 4)) = xs[0]? := hf 0 _ rfl
  rw [c4] at f0
  have f1 : DataW.trod enc Tryd.prog w base spare held m 51 (([c0, c1, c2, c3].drop 1).take (Tryd.prog.cellsOf 51)) = xs[1]? := hf 1 _ rfl
  rw [c51] at f1
  have f2 : DataW.trod enc Tryd.prog w base spare held m 51 (([c0, c1, c2, c3].drop 2).take (Tryd.prog.cellsOf 51)) = xs[2]? := hf 2 _ rfl
  rw [c51] at f2
  have f3 : DataW.trod enc Tryd.prog w base spare held m 51 (([c0, c1, c2, c3].drop 3).take (Tryd.prog.cellsOf 51)) = xs[3]? := hf 3 _ rfl
  rw [c51] at f3
  obtain ⟨x0, x1, x2, x3, rfl⟩ := list4 (hx.trans (by kernel_rfl))
  obtain ⟨b0, e0, _⟩ := DataW.trod_bool Tryd.underlying4 f0
  obtain ⟨b1, e1, _⟩ := DataW.trod_int Tryd.underlying51 f1
  obtain ⟨b2, e2, _⟩ := DataW.trod_int Tryd.underlying51 f2
  obtain ⟨b3, e3, _⟩ := DataW.trod_int Tryd.underlying51 f3
  simp at e0 e1 e2 e3
  subst e0 e1 e2 e3
  exact ⟨⟨b0, b1, b2, b3⟩, rfl⟩
theorem el_tr {n : Nat} {cs : List Value} {y : DataW H × List MemPlace} (h : DataW.trod enc Tryd.prog w base spare held n 61 cs = some y) : ∃ a : TH, cs = thK.f a ∧ RS w roK a.A a.t.ops := by
  obtain ⟨xs, m, _, _, hl, hx, hf⟩ := DataW.trod_struct Tryd.underlying61 h
  obtain ⟨c0, c1, c2, c3, c4, c5, c6, c7, rfl⟩ := list8 (hl.trans c61)
  have hx5 : xs.length = 5 := hx
  have hg : ∀ i, i < 5 → xs[i]? = some (xs.getD i (.nil, [])) := fun i hi => getD_get (by omega) _
  have f0 : DataW.trod enc Tryd.prog w base spare held m 3 (([c0, c1, c2, c3, c4, c5, c6, c7].drop 0).take (Tryd.prog.cellsOf 3)) = xs[0]? := hf 0 _ rfl
  rw [Go.Proofs.YtplmfekhdaefaaaDoor.c3] at f0
  rw [hg 0 (by decide)] at f0
  have f1 : DataW.trod enc Tryd.prog w base spare held m 9 (([c0, c1, c2, c3, c4, c5, c6, c7].drop 1).take (Tryd.prog.cellsOf 9)) = xs[1]? := hf 1 _ rfl
  rw [c9] at f1
  rw [hg 1 (by decide)] at f1
  have f2 : DataW.trod enc Tryd.prog w base spare held m 59 (([c0, c1, c2, c3, c4, c5, c6, c7].drop 2).take (Tryd.prog.cellsOf 59)) = xs[2]? := hf 2 _ rfl
  rw [c59] at f2
  rw [hg 2 (by decide)] at f2
  have f3 : DataW.trod enc Tryd.prog w base spare held m 46 (([c0, c1, c2, c3, c4, c5, c6, c7].drop 6).take (Tryd.prog.cellsOf 46)) = xs[3]? := hf 3 _ rfl
  rw [c46] at f3
  rw [hg 3 (by decide)] at f3
  have f4 : DataW.trod enc Tryd.prog w base spare held m 3 (([c0, c1, c2, c3, c4, c5, c6, c7].drop 7).take (Tryd.prog.cellsOf 3)) = xs[4]? := hf 4 _ rfl
  rw [Go.Proofs.YtplmfekhdaefaaaDoor.c3] at f4
  rw [hg 4 (by decide)] at f4
  obtain ⟨b0, e0, _⟩ := DataW.trod_int Tryd.underlying3 f0
  obtain ⟨b1, e1, _⟩ := DataW.trod_string Tryd.underlying9 f1
  obtain ⟨g, e2⟩ := el_gd f2
  obtain ⟨A, k, c, ys, e3, hlen, hrs, _⟩ := open_rs roK (fun _ => True) Tryd.underlying46 c71 (fun _ _ _ h => el_ro h) f3
  obtain ⟨b4, e4, _⟩ := DataW.trod_int Tryd.underlying3 f4
  simp at e0 e1 e2 e3 e4
  obtain ⟨rfl, rfl, rfl, rfl⟩ := e2
  subst e0 e1 e3 e4 hlen
  refine ⟨⟨⟨b0, b1.data.toList, g, ys, b4⟩, A, c⟩, ?_, hrs⟩
  show _ = [Value.int .i64 b0, .string (bs b1.data.toList), _, _, _, _, _, _]
  rw [← bs_of b1]
theorem open_drv {r : Reach} {b0 : Nat} {v : Value} {d : DataW H} {ps : List MemPlace} (hval : Value.okWide Tryd.prog w r b0 26 v) (hd : DataW.Trod enc Tryd.prog w base spare held 26 v d ps) :
    ∃ raw : DH, v = .agg #[.string (bs raw.name), .slice raw.sA raw.ss.length raw.sc, .slice raw.tA raw.hs.length raw.tc] ∧ DR w raw := by
  simp only [Value.okWide, Tryd.underlying26] at hval
  obtain ⟨cs, rfl, hsz, _⟩ := hval
  obtain ⟨fuel, h⟩ := hd
  have hcells : (Value.agg cs).cells.toList = cs.toList := by simp [Value.cells]
  rw [hcells] at h
  obtain ⟨xs, m, _, _, hl, hx, hf⟩ := DataW.trod_struct Tryd.underlying26 h
  obtain ⟨x0, x1, x2, hcs⟩ := list3 (hl.trans c26)
  rw [hcs] at hf
  have hx3 : xs.length = 3 := hx
  have hg : ∀ i, i < 3 → xs[i]? = some (xs.getD i (.nil, [])) := fun i hi => getD_get (by omega) _
  have f0 : DataW.trod enc Tryd.prog w base spare held m 9 (([x0, x1, x2].drop 0).take (Tryd.prog.cellsOf 9)) = xs[0]? := hf 0 _ rfl
  rw [c9] at f0
  rw [hg 0 (by decide)] at f0
  have f1 : DataW.trod enc Tryd.prog w base spare held m 23 (([x0, x1, x2].drop 1).take (Tryd.prog.cellsOf 23)) = xs[1]? := hf 1 _ rfl
  rw [c23] at f1
  rw [hg 1 (by decide)] at f1
  have f2 : DataW.trod enc Tryd.prog w base spare held m 24 (([x0, x1, x2].drop 2).take (Tryd.prog.cellsOf 24)) = xs[2]? := hf 2 _ rfl
  rw [c24] at f2
  rw [hg 2 (by decide)] at f2
  obtain ⟨b0, e0, _⟩ := DataW.trod_string Tryd.underlying9 f0
  obtain ⟨A1, k1, c1, ss, e1, hl1, hr1, _⟩ := open_rs strK (fun _ => True) Tryd.underlying23 c9 (fun _ _ _ h => el_str h) f1
  obtain ⟨A2, k2, c2, hs, e2, hl2, hr2, hG⟩ := open_rs thK (fun a => RS w roK a.A a.t.ops) Tryd.underlying24 c61 (fun _ _ _ h => el_tr h) f2
  simp at e0 e1 e2
  subst e0 e1 e2 hl1 hl2
  refine ⟨⟨b0.data.toList, A1, c1, ss, A2, c2, hs⟩, ?_, hr1, hr2, hG⟩
  show _ = Value.agg #[.string (bs b0.data.toList), _, _]
  rw [← bs_of b0]
  have : cs = cs.toList.toArray := by simp
  rw [this, hcs]
end
/-- What the row lists gives the error value. -/
theorem evR_of {l : List (String × DataW Unit)} {n : String} {d : DataW Unit} {W : World} (h : laidMet Tryd.prog l W) (hm : ("strconv.ErrRange", DataW.iface n d) ∈ l) : EvR W := by
  obtain ⟨g, t, cs, fuel, p, h1, h2, h3, h4⟩ := Lib.laidMet.reads h hm
  obtain rfl : g = 4 := Option.some.inj (h1.symm.trans (show Tryd.prog.globalNamed "strconv.ErrRange" = some 4 by kernel_rfl))
  have ht : (Tryd.prog.globals[4]?).map (·.type) = some 144 := by kernel_rfl
  obtain rfl := Option.some.inj (h2.symm.trans ht)
  obtain ⟨f2, u, v, e, _⟩ := iface_of_trod Tryd.underlying144 h4
  have h5 := World.var?_cell h1 h3 0
  refine ⟨u, v, h5.trans ?_⟩
  rw [← Array.getElem?_toList, e]; rfl
end Go.Proofs.YtplmfekhdaefaaaDoor
