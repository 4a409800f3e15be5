/-
  Changing one transition; three drivers; what Reachable answers in both cases.
-/
import Derived.Test.YtplmfekhdaefaaaGreatDoorDm18
set_option linter.unusedSimpArgs false
set_option linter.unusedVariables false
namespace Go.Drv
open Go.Sv
theorem Big_set {hs : List TH} {k : Nat} {y : TH} (e : opA y = opA (hs.getD k thK.d)) : Big opA hs = Big opA (hs.set k y) := by
  apply Big_congr
  apply List.ext_getElem?
  intro i
  rw [List.getElem?_map, List.getElem?_map, List.getElem?_set]
  split
  · rename_i hi; subst hi
    split
    · rename_i hl
      rw [List.getElem?_eq_getElem hl]
      simp only [Option.map_some]
      rw [e]; simp [List.getD, hl]
    · rename_i hl; rw [List.getElem?_eq_none (by omega)]
  · rfl
theorem Hp.spl {I0 : Ids} {w0 w : World} {A1 A2 A3 A4 : Assn} {hs : List TH} {k : Nat} {y : TH} (h : Hp I0 w0 [A1, A2, A3, A4, Big opA hs] w) (e : opA y = opA (hs.getD k thK.d)) : Hp I0 w0 [A1, A2, A3, A4, Big opA (hs.set k y)] w := by
  rw [← Big_set e]; exact h
def spF (h : TH) (n : Int) : TH := ⟨{ h.t with frm := n }, h.A, h.c⟩
def spT (h : TH) (n : Int) : TH := ⟨{ h.t with to := n }, h.A, h.c⟩
def spE (h : TH) (e : Bs) : TH := ⟨{ h.t with ev := e }, h.A, h.c⟩
def spG (h : TH) : TH := ⟨{ h.t with gd := { h.t.gd with used := false } }, h.A, h.c⟩
def spO (h : TH) (n : Int) (A : Option Addr) (c : Nat) : TH := ⟨{ h.t with ops := h.t.ops ++ [⟨false, 0, modM n 3⟩] }, A, c⟩
theorem dr3 {w : World} {a b c : DH} (h1 : DR w a) (h2 : DR w b) (h3 : DR w c) : ∀ {i : Nat}, i < 3 → DR w ([a, b, c].getD i dh0)
  | 0, _ => h1
  | 1, _ => h2
  | 2, _ => h3
  | n + 3, h => by omega
def rcl (d : Dv) : List Int := if chkM d = 0 then outR (rchM d) d.ss.length else []
theorem rcl_t {d : Dv} (h : chkM d = 0) : rcl d = outR (rchM d) d.ss.length := if_pos h
theorem rcl_f {d : Dv} (h : chkM d ≠ 0) : rcl d = [] := if_neg h
theorem rcl_le (d : Dv) : (rcl d).length ≤ 1000000 := by
  by_cases h : chkM d = 0
  · rw [rcl_t h]
    have h1 := outR_len (rchM d) d.ss.length
    have h2 := chk_s h
    omega
  · rw [rcl_f h]; exact Nat.zero_le _
theorem Fx.monoH {P : Program} {f : FuncId} {vs : List Value} {w : World} {Own : List Assn} {ro : Ids} {post post' : Value → List Assn → Prop} (h : Fx P f vs w Own ro post)
    (hp : ∀ I v L w', post v L → Hp I w L w' → ∃ L', post' v L' ∧ Hp I w L' w') : Fx P f vs w Own ro post' := fun I hI hro => by
  refine (h I hI hro).mono ?_
  rintro e w' ⟨v, L, rfl, hv, hh⟩
  obtain ⟨L', h1, h2⟩ := hp I v L w' hv hh
  exact ⟨v, L', rfl, h1, h2⟩
end Go.Drv
