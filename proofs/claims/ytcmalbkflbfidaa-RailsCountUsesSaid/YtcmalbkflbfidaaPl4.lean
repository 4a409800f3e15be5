/-
  Plain: facts that the walks of the statements use.
-/
import Derived.Test.YtcmalbkflbfidaaPl3
set_option linter.unusedSimpArgs false
set_option linter.unusedVariables false
namespace Go.Rails
open Go.Sv
/-- A call that is not raw. -/
def cf (c : RCall) : RCall := { c with raw := false }
theorem tmod80 {x : Int} (h : 0 ≤ x) : 0 ≤ x.tmod 80 ∧ x.tmod 80 < 80 := ⟨Int.tmod_nonneg _ h, Int.tmod_lt_of_pos _ (by omega)⟩
theorem tmod60 {x : Int} (h : 0 ≤ x) : 0 ≤ x.tmod 60 ∧ x.tmod 60 < 60 := ⟨Int.tmod_nonneg _ h, Int.tmod_lt_of_pos _ (by omega)⟩
theorem Good.acy' {s : List Rail} {rk : Nat → Nat} (G : Good s rk) {st : St} (h : st.rails = s) : Acy st.rails rk := by rw [h]; exact G.acy
theorem Good.rank' {s : List Rail} {rk : Nat → Nat} (G : Good s rk) {st : St} (h : st.rails = s) : ∀ i, i < st.rails.length → rk i < 8 := by
  rw [h]; intro i hi; have := G.rank i hi; have := G.len; omega
/-- A rail in use: its supply is in use, and not later. -/
theorem IN.supply {s : List Rail} {m : Nat} {st : St} (h : IN s m st) {k p : Nat} (hk : k < s.length) (hp : p < s.length) (hs : sp s k = p) (hc : ¬ st.c k = 0) : ¬ st.c p = 0 ∧ st.t p ≤ st.t k := by
  have h0 := h.inv.c0 hk
  exact ⟨fun e => h.inv.fed hp (.inl e) k hk hs (by omega), h.inv.ord k hk (by omega) p hs⟩
theorem IN.pow {s : List Rail} {m : Nat} {st : St} (h : IN s m st) (k T : Int) : (((0 ≤ k ∧ k < st.rails.length) ∧ ¬ st.c k.toNat = 0) ∧ st.t k.toNat ≤ T) ↔ (((0 ≤ k ∧ k < st.rails.length) ∧ 0 < st.c k.toNat) ∧ st.t k.toNat ≤ T) := by
  have h0 : 0 ≤ k ∧ k < st.rails.length → 0 ≤ st.c k.toNat := fun hk => h.inv.c0 (by rw [h.inv.rails] at hk; omega)
  constructor
  · rintro ⟨⟨h1, h2⟩, h3⟩; have := h0 h1; exact ⟨⟨h1, by omega⟩, h3⟩
  · rintro ⟨⟨h1, h2⟩, h3⟩; exact ⟨⟨h1, by omega⟩, h3⟩
theorem do_len (f : Nat) (st : St) (c : RCall) (n : Nat) (now : Int) : (doM f st c n now).ops.length ≤ f := by
  unfold doM
  split
  · unfold relM; split
    · split
      · simp
      · have := (remP_keep f (st.tick (atM c n now).2) (atM c n now).1.toNat (atM c n now).2 []).2.2.2.2; simpa using this
    · simp
  · unfold acqM; split
    · have := (addP_keep f (st.tick (atM c n now).2) (atM c n now).1.toNat (atM c n now).2 []).2.2.2.2; simpa using this
    · simp
end Go.Rails
