/-
  Joins with two and three ghost values.
-/
import Derived.Test.YthdpojggdodpfaaSv5
set_option linter.unusedSimpArgs false
set_option linter.unusedVariables false
namespace Go.Sv
section
variable {P : Program} {N : Nat} {Q : Exit → Act → World → Prop} {E : Env} {S : World → Prop}
theorem CV.join2 {α β : Type} {x y : Code} (G : α → β → Env) (T : α → β → World → Prop)
    (h1 : CV P N x (Exit.then (fun a w => ∃ p q, Fits N a (G p q) ∧ T p q w) Q) E S) (h2 : ∀ p q, CV P N y Q (G p q) (T p q)) : CV P N (.seq x y) Q E S :=
  fun a w hf hs => wp_seq (wp_mono (h1 a w hf hs) fun e a' w' hq => by
    cases e <;> first | exact hq | (obtain ⟨p, q, hz, ht⟩ := hq; exact h2 p q a' w' hz ht))
theorem KV.join2 {α β : Type} {G : α → β → Env} {T : α → β → World → Prop} (p : α) (q : β) (hE : Sub (G p q) E) (hT : ∀ w, S w → T p q w) : KV N (fun a w => ∃ p q, Fits N a (G p q) ∧ T p q w) E S :=
  fun _ w hf hs => ⟨p, q, hf.sub hE, hT w hs⟩
theorem CV.join3 {α β γ : Type} {x y : Code} (G : α → β → γ → Env) (T : α → β → γ → World → Prop)
    (h1 : CV P N x (Exit.then (fun a w => ∃ p q r, Fits N a (G p q r) ∧ T p q r w) Q) E S) (h2 : ∀ p q r, CV P N y Q (G p q r) (T p q r)) : CV P N (.seq x y) Q E S :=
  fun a w hf hs => wp_seq (wp_mono (h1 a w hf hs) fun e a' w' hq => by
    cases e <;> first | exact hq | (obtain ⟨p, q, r, hz, ht⟩ := hq; exact h2 p q r a' w' hz ht))
theorem KV.join3 {α β γ : Type} {G : α → β → γ → Env} {T : α → β → γ → World → Prop} (p : α) (q : β) (r : γ) (hE : Sub (G p q r) E) (hT : ∀ w, S w → T p q r w) : KV N (fun a w => ∃ p q r, Fits N a (G p q r) ∧ T p q r w) E S :=
  fun _ w hf hs => ⟨p, q, r, hf.sub hE, hT w hs⟩
theorem CV.join4 {α β γ δ : Type} {x y : Code} (G : α → β → γ → δ → Env) (T : α → β → γ → δ → World → Prop)
    (h1 : CV P N x (Exit.then (fun a w => ∃ p q r s, Fits N a (G p q r s) ∧ T p q r s w) Q) E S) (h2 : ∀ p q r s, CV P N y Q (G p q r s) (T p q r s)) : CV P N (.seq x y) Q E S :=
  fun a w hf hs => wp_seq (wp_mono (h1 a w hf hs) fun e a' w' hq => by
    cases e <;> first | exact hq | (obtain ⟨p, q, r, s, hz, ht⟩ := hq; exact h2 p q r s a' w' hz ht))
theorem KV.join4 {α β γ δ : Type} {G : α → β → γ → δ → Env} {T : α → β → γ → δ → World → Prop} (p : α) (q : β) (r : γ) (s : δ) (hE : Sub (G p q r s) E) (hT : ∀ w, S w → T p q r s w) : KV N (fun a w => ∃ p q r s, Fits N a (G p q r s) ∧ T p q r s w) E S :=
  fun _ w hf hs => ⟨p, q, r, s, hf.sub hE, hT w hs⟩
end
end Go.Sv
