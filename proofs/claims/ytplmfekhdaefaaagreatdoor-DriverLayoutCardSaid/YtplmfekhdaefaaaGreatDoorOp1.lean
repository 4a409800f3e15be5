/-
  A driver that came in as an argument.
-/
import Derived.Test.YtplmfekhdaefaaaGreatDoorW10
import Derived.Test.YtplmfekhdaefaaaGreatDoorW34
import Derived.Test.YtplmfekhdaefaaaGreatDoorDmD
import Derived.Test.YtplmfekhdaefaaaGreatDoorSvC
import Derived.Lib.LaidU8
import Derived.Lib.LaidTab
import Derived.LaidLaws
set_option linter.unusedSimpArgs false
set_option linter.unusedVariables false
set_option maxRecDepth 100000
namespace Go.Proofs.YtplmfekhdaefaaaGreatDoor
open Go Go.Sv Go.Drv Go.ChangeShapes Go.WideShapes Go.Deep Go.RowKit
section
variable {H : Type} {enc : TypeId × Value → H} {w : World} {base : Nat} {spare : Nat → Bool} {held : Bool}
theorem u64_wf {n : Int} (h : (Lit.int .u64 n).wf = true) : u64 n := by
  simp only [Lit.wf, Bool.and_eq_true, decide_eq_true_eq] at h
  have h1 : (0 : Int) ≤ n := h.1
  have h2 : n ≤ 18446744073709551615 := h.2
  exact ⟨h1, by omega⟩
theorem list4 {α : Type} {l : List α} (h : l.length = 4) : ∃ a b c d, l = [a, b, c, d] := by
  match l, h with
  | [a, b, c, d], _ => exact ⟨a, b, c, d, rfl⟩
theorem list8 {α : Type} {l : List α} (h : l.length = 8) : ∃ a b c d e f g i, l = [a, b, c, d, e, f, g, i] := by
  match l, h with
  | [a, b, c, d, e, f, g, i], _ => exact ⟨a, b, c, d, e, f, g, i, rfl⟩
theorem c71 : Tryz.prog.cellsOf 59 = 3 := by kernel_rfl
theorem c61 : Tryz.prog.cellsOf 48 = 8 := by kernel_rfl
theorem c59 : Tryz.prog.cellsOf 45 = 4 := by kernel_rfl
theorem c26 : Tryz.prog.cellsOf 25 = 3 := by kernel_rfl
theorem c9 : Tryz.prog.cellsOf 9 = 1 := by kernel_rfl
theorem c4 : Tryz.prog.cellsOf 4 = 1 := by kernel_rfl
theorem c3 : Tryz.prog.cellsOf 3 = 1 := by kernel_rfl
theorem c51 : Tryz.prog.cellsOf 43 = 1 := by kernel_rfl
theorem c46 : Tryz.prog.cellsOf 46 = 1 := by kernel_rfl
theorem c23 : Tryz.prog.cellsOf 22 = 1 := by kernel_rfl
theorem c24 : Tryz.prog.cellsOf 23 = 1 := by kernel_rfl
theorem bs_of (s : ByteArray) : s = bs s.data.toList := by cases s; rfl
theorem el_str {n : Nat} {cs : List Value} {y : DataW H × List MemPlace} (h : DataW.trod enc Tryz.prog w base spare held n 9 cs = some y) : ∃ a : Bs, cs = strK.f a ∧ True := by
  obtain ⟨s, h1, _⟩ := DataW.trod_string Tryz.underlying9 h
  exact ⟨s.data.toList, by rw [h1, bs_of s]; rfl, trivial⟩
theorem el_ro {n : Nat} {cs : List Value} {y : DataW H × List MemPlace} (h : DataW.trod enc Tryz.prog w base spare held n 59 cs = some y) : ∃ a : Ro, cs = roK.f a ∧ rgO a := by
  obtain ⟨xs, m, _, _, hl, _, hf⟩ := DataW.trod_struct Tryz.underlying59 h
  obtain ⟨c0, c1, c2, rfl⟩ := list3 (hl.trans c71)
  have f0 : DataW.trod enc Tryz.prog w base spare held m 4 (([c0, c1, c2].drop 0).take (Tryz.prog.cellsOf 4)) = xs[0]? := hf 0 _ rfl
  rw [c4] at f0
  have f1 : DataW.trod enc Tryz.prog w base spare held m 43 (([c0, c1, c2].drop 1).take (Tryz.prog.cellsOf 43)) = xs[1]? := hf 1 _ rfl
  rw [c51] at f1
  have f2 : DataW.trod enc Tryz.prog w base spare held m 43 (([c0, c1, c2].drop 2).take (Tryz.prog.cellsOf 43)) = xs[2]? := hf 2 _ rfl
  rw [c51] at f2
  have hx : xs.length = 3 := by assumption
  obtain ⟨x0, x1, x2, rfl⟩ := list3 hx
  obtain ⟨b0, e0, _⟩ := DataW.trod_bool Tryz.underlying4 f0
  obtain ⟨b1, e1, _, g1⟩ := DataW.trod_int Tryz.underlying43 f1
  obtain ⟨b2, e2, _, g2⟩ := DataW.trod_int Tryz.underlying43 f2
  simp at e0 e1 e2
  subst e0 e1 e2
  exact ⟨⟨b0, b1, b2⟩, rfl, u64_wf g1, u64_wf g2⟩
theorem el_gd {n : Nat} {cs : List Value} {y : DataW H × List MemPlace} (h : DataW.trod enc Tryz.prog w base spare held n 45 cs = some y) : ∃ g : Gd, cs = [.bool g.used, .int .u64 g.reg, .int .u64 g.mask, .int .u64 g.val] ∧ rgG g := by
  obtain ⟨xs, m, _, _, hl, hx, hf⟩ := DataW.trod_struct Tryz.underlying45 h
  obtain ⟨c0, c1, c2, c3, rfl⟩ := list4 (hl.trans c59)
  have f0 : DataW.trod enc Tryz.prog w base spare held m 4 (([c0, c1, c2, c3].drop 0).take (Tryz.prog.cellsOf 4)) = xs[0]? := hf 0 _ rfl
  rw [c4] at f0
  have f1 : DataW.trod enc Tryz.prog w base spare held m 43 (([c0, c1, c2, c3].drop 1).take (Tryz.prog.cellsOf 43)) = xs[1]? := hf 1 _ rfl
  rw [c51] at f1
  have f2 : DataW.trod enc Tryz.prog w base spare held m 43 (([c0, c1, c2, c3].drop 2).take (Tryz.prog.cellsOf 43)) = xs[2]? := hf 2 _ rfl
  rw [c51] at f2
  have f3 : DataW.trod enc Tryz.prog w base spare held m 43 (([c0, c1, c2, c3].drop 3).take (Tryz.prog.cellsOf 43)) = xs[3]? := hf 3 _ rfl
  rw [c51] at f3
  obtain ⟨x0, x1, x2, x3, rfl⟩ := list4 (hx.trans (by kernel_rfl))
  obtain ⟨b0, e0, _⟩ := DataW.trod_bool Tryz.underlying4 f0
  obtain ⟨b1, e1, _, g1⟩ := DataW.trod_int Tryz.underlying43 f1
  obtain ⟨b2, e2, _, g2⟩ := DataW.trod_int Tryz.underlying43 f2
  obtain ⟨b3, e3, _, g3⟩ := DataW.trod_int Tryz.underlying43 f3
  simp at e0 e1 e2 e3
  subst e0 e1 e2 e3
  exact ⟨⟨b0, b1, b2, b3⟩, rfl, u64_wf g1, u64_wf g2, u64_wf g3⟩
theorem el_tr {n : Nat} {cs : List Value} {y : DataW H × List MemPlace} (h : DataW.trod enc Tryz.prog w base spare held n 48 cs = some y) : ∃ a : TH, cs = thK.f a ∧ RS w roK a.A a.t.ops ∧ rgT a.t := by
  obtain ⟨xs, m, _, _, hl, hx, hf⟩ := DataW.trod_struct Tryz.underlying48 h
  obtain ⟨c0, c1, c2, c3, c4, c5, c6, c7, rfl⟩ := list8 (hl.trans c61)
  have hx5 : xs.length = 5 := hx
  have hg : ∀ i, i < 5 → xs[i]? = some (xs.getD i (.nil, [])) := fun i hi => getD_get (by omega) _
  have f0 : DataW.trod enc Tryz.prog w base spare held m 3 (([c0, c1, c2, c3, c4, c5, c6, c7].drop 0).take (Tryz.prog.cellsOf 3)) = xs[0]? := hf 0 _ rfl
  rw [Go.Proofs.YtplmfekhdaefaaaGreatDoor.c3] at f0
  rw [hg 0 (by decide)] at f0
  have f1 : DataW.trod enc Tryz.prog w base spare held m 9 (([c0, c1, c2, c3, c4, c5, c6, c7].drop 1).take (Tryz.prog.cellsOf 9)) = xs[1]? := hf 1 _ rfl
  rw [c9] at f1
  rw [hg 1 (by decide)] at f1
  have f2 : DataW.trod enc Tryz.prog w base spare held m 45 (([c0, c1, c2, c3, c4, c5, c6, c7].drop 2).take (Tryz.prog.cellsOf 45)) = xs[2]? := hf 2 _ rfl
  rw [c59] at f2
  rw [hg 2 (by decide)] at f2
  have f3 : DataW.trod enc Tryz.prog w base spare held m 46 (([c0, c1, c2, c3, c4, c5, c6, c7].drop 6).take (Tryz.prog.cellsOf 46)) = xs[3]? := hf 3 _ rfl
  rw [c46] at f3
  rw [hg 3 (by decide)] at f3
  have f4 : DataW.trod enc Tryz.prog w base spare held m 3 (([c0, c1, c2, c3, c4, c5, c6, c7].drop 7).take (Tryz.prog.cellsOf 3)) = xs[4]? := hf 4 _ rfl
  rw [Go.Proofs.YtplmfekhdaefaaaGreatDoor.c3] at f4
  rw [hg 4 (by decide)] at f4
  obtain ⟨b0, e0, _⟩ := DataW.trod_int Tryz.underlying3 f0
  obtain ⟨b1, e1, _⟩ := DataW.trod_string Tryz.underlying9 f1
  obtain ⟨g, e2, hg2⟩ := el_gd f2
  obtain ⟨A, k, c, ys, e3, hlen, hrs, hro⟩ := open_rs roK rgO Tryz.underlying46 c71 (fun _ _ _ h => el_ro h) f3
  obtain ⟨b4, e4, _⟩ := DataW.trod_int Tryz.underlying3 f4
  simp at e0 e1 e2 e3 e4
  obtain ⟨rfl, rfl, rfl, rfl⟩ := e2
  subst e0 e1 e3 e4 hlen
  refine ⟨⟨⟨b0, b1.data.toList, g, ys, b4⟩, A, c⟩, ?_, hrs, hg2, fun o ho => by
    obtain ⟨i, hi, rfl⟩ := List.getElem_of_mem ho
    have := hro i hi
    simpa [List.getD, hi] using this⟩
  show _ = [Value.int .i64 b0, .string (bs b1.data.toList), _, _, _, _, _, _]
  rw [← bs_of b1]
theorem open_drv {r : Reach} {b0 : Nat} {v : Value} {d : DataW H} {ps : List MemPlace} (hval : Value.okWide Tryz.prog w r b0 25 v) (hd : DataW.Trod enc Tryz.prog w base spare held 25 v d ps) :
    ∃ raw : DH, v = .agg #[.string (bs raw.name), .slice raw.sA raw.ss.length raw.sc, .slice raw.tA raw.hs.length raw.tc] ∧ DR w raw ∧ rgD raw.d := by
  simp only [Value.okWide, Tryz.underlying25] at hval
  obtain ⟨cs, rfl, hsz, _⟩ := hval
  obtain ⟨fuel, h⟩ := hd
  have hcells : (Value.agg cs).cells.toList = cs.toList := by simp [Value.cells]
  rw [hcells] at h
  obtain ⟨xs, m, _, _, hl, hx, hf⟩ := DataW.trod_struct Tryz.underlying25 h
  obtain ⟨x0, x1, x2, hcs⟩ := list3 (hl.trans c26)
  rw [hcs] at hf
  have hx3 : xs.length = 3 := hx
  have hg : ∀ i, i < 3 → xs[i]? = some (xs.getD i (.nil, [])) := fun i hi => getD_get (by omega) _
  have f0 : DataW.trod enc Tryz.prog w base spare held m 9 (([x0, x1, x2].drop 0).take (Tryz.prog.cellsOf 9)) = xs[0]? := hf 0 _ rfl
  rw [c9] at f0
  rw [hg 0 (by decide)] at f0
  have f1 : DataW.trod enc Tryz.prog w base spare held m 22 (([x0, x1, x2].drop 1).take (Tryz.prog.cellsOf 22)) = xs[1]? := hf 1 _ rfl
  rw [c23] at f1
  rw [hg 1 (by decide)] at f1
  have f2 : DataW.trod enc Tryz.prog w base spare held m 23 (([x0, x1, x2].drop 2).take (Tryz.prog.cellsOf 23)) = xs[2]? := hf 2 _ rfl
  rw [c24] at f2
  rw [hg 2 (by decide)] at f2
  obtain ⟨b0, e0, _⟩ := DataW.trod_string Tryz.underlying9 f0
  obtain ⟨A1, k1, c1, ss, e1, hl1, hr1, _⟩ := open_rs strK (fun _ => True) Tryz.underlying22 c9 (fun _ _ _ h => el_str h) f1
  obtain ⟨A2, k2, c2, hs, e2, hl2, hr2, hG⟩ := open_rs thK (fun a => RS w roK a.A a.t.ops ∧ rgT a.t) Tryz.underlying23 c61 (fun _ _ _ h => el_tr h) f2
  simp at e0 e1 e2
  subst e0 e1 e2 hl1 hl2
  refine ⟨⟨b0.data.toList, A1, c1, ss, A2, c2, hs⟩, ?_, ⟨hr1, hr2, fun i hi => (hG i hi).1⟩, fun t ht => by
    obtain ⟨x, hx, rfl⟩ := List.mem_map.1 ht
    obtain ⟨i, hi, rfl⟩ := List.getElem_of_mem hx
    have := (hG i hi).2
    simpa [List.getD, hi] using this⟩
  show _ = Value.agg #[.string (bs b0.data.toList), _, _]
  rw [← bs_of b0]
  have : cs = cs.toList.toArray := by simp
  rw [this, hcs]
end
/-- What the row lists gives the error value. -/
theorem evR_of {l : List (String × DataW Unit)} {n : String} {d : DataW Unit} {W : World} (h : laidMet Tryz.prog l W) (hm : ("strconv.ErrRange", DataW.iface n d) ∈ l) : EvR W := by
  obtain ⟨g, t, cs, fuel, p, h1, h2, h3, h4⟩ := Lib.laidMet.reads h hm
  obtain rfl : g = 4 := Option.some.inj (h1.symm.trans (show Tryz.prog.globalNamed "strconv.ErrRange" = some 4 by kernel_rfl))
  have ht : (Tryz.prog.globals[4]?).map (·.type) = some 97 := by kernel_rfl
  obtain rfl := Option.some.inj (h2.symm.trans ht)
  obtain ⟨f2, u, v, e, _⟩ := iface_of_trod Tryz.underlying97 h4
  have h5 := World.var?_cell h1 h3 0
  refine ⟨u, v, h5.trans ?_⟩
  rw [← Array.getElem?_toList, e]; rfl
/-- What the row lists gives the table of the powers of ten. -/
theorem powR_of {l : List (String × DataW Unit)} {d : DataW Unit} {W : World} (h : laidMet Tryz.prog l W) (hm : ("internal/strconv.uint64pow10", d) ∈ l) (hd : d = Lib.tabData .u64 Lib.pow10Tab) : PowR W := by
  subst hd
  obtain ⟨g, t, cs, fuel, p, h1, h2, h3, h4⟩ := Lib.laidMet.reads h hm
  obtain rfl : g = 5 := Option.some.inj (h1.symm.trans glob5)
  have ht : (Tryz.prog.globals[5]?).map (·.type) = some 188 := by kernel_rfl
  obtain rfl := Option.some.inj (h2.symm.trans ht)
  unfold PowR Lib.TabIs
  rw [h3, ← Lib.cells_of_tab Tryz.underlying188 Tryz.underlying43 (by kernel_rfl) (by kernel_rfl) h4]
theorem u8_nn {n : Int} (h : (Lit.int .u8 n).wf = true) : 0 ≤ n := by
  simp only [Lit.wf, Bool.and_eq_true, decide_eq_true_eq] at h
  exact h.1
end Go.Proofs.YtplmfekhdaefaaaGreatDoor
