/-
  Plain: all operations of a sequence of calls.
-/
import Derived.Test.YtcmalbkflbfidaaPl6
set_option linter.unusedSimpArgs false
set_option linter.unusedVariables false
namespace Go.Rails
open Go.Sv
def logM (s : List Rail) (l : List RCall) : Nat → St × List ROp
  | 0 => (new0 s, [])
  | k + 1 => ((doM 8 (logM s l k).1 (cf (l.getD k callK.d)) s.length (logM s l k).1.clock).st, (logM s l k).2 ++ (doM 8 (logM s l k).1 (cf (l.getD k callK.d)) s.length (logM s l k).1.clock).ops)
theorem logM_succ {s : List Rail} {l : List RCall} {k : Nat} {st2 : St} {op2 : List ROp} {er : Int} (h : doM 8 (logM s l k).1 (cf (l.getD k callK.d)) s.length (logM s l k).1.clock = ⟨st2, op2, er⟩) : logM s l (k + 1) = (st2, (logM s l k).2 ++ op2) := by
  rw [logM, h]
theorem logM_IN {s : List Rail} {rk : Nat → Nat} (G : Good s rk) (l : List RCall) : ∀ k, k ≤ 1000 → IN s k (logM s l k).1 ∧ Tr s (new0 s).sg (logM s l k).2 (logM s l k).1.sg ∧ (logM s l k).2.length ≤ 8 * k
  | 0, _ => ⟨IN.start s, rfl, by simp [logM]⟩
  | k + 1, hk => by
    obtain ⟨h1, h2, h3⟩ := logM_IN G l k (by omega)
    have D := do_did G (by omega) h1 (cf (l.getD k callK.d)) s.length (logM s l k).1.clock
    have hl := do_len 8 (logM s l k).1 (cf (l.getD k callK.d)) s.length (logM s l k).1.clock
    refine ⟨D.inn, h2.append D.tr, ?_⟩
    simp only [logM, List.length_append]; omega
def boolK : Enc Bool where
  f b := [.bool b]
  sz := 1
  d := false
  len _ := rfl
  pos := by decide
  one r v hv := by simp at hv; subst hv; rfl
def sg0 (n : Nat) : Sg := (List.replicate n false, List.replicate n 0)
theorem new_sg (s : List Rail) : (new0 s).sg = sg0 s.length := by simp [St.sg, new0, sg0]
theorem sg0_len (n : Nat) (ops : List ROp) (k : Nat) : (trS (sg0 n) ops k).1.length = n ∧ (trS (sg0 n) ops k).2.length = n := by
  have := trS_len (sg0 n) ops k
  simpa [sg0] using this
end Go.Rails
