/- Helper lemmas for the claim's theorem: an abstract machine over the model, proved sound; no condition beyond each lemma's own. -/
import Derived.Test.YtdlpecjbafadkaaL04c
set_option linter.unusedVariables false
set_option linter.unusedSimpArgs false
set_option linter.unnecessarySimpa false
set_option linter.unusedSectionVars false
/- Plain laws on the printed functions. -/
namespace Go.Proofs.Ytdlpecjbafadkaa
open Go Go.AM
set_option maxRecDepth 100000
set_option maxHeartbeats 1000000
set_option linter.unusedVariables false
set_option linter.unusedSimpArgs false
noncomputable def tk (l : List (List api_Instr)) (j : Int) : Int × Int := (go_code_Tasks l j).getD (0, 0)
theorem few_poks {l : List (List api_Instr)} (hl : l.length ≤ 9223372036854775807) (ha : ∀ p ∈ l, ∀ x ∈ p, i64ok x.A) : ∃ r, go_ravelref04_Few l = some r ∧ (r = true → poks l ∧ (∀ p ∈ l, p.length ≤ 100) ∧ l.length ≤ 100) := by
  rw [few_eq hl]
  refine ⟨_, rfl, fun h => ?_⟩
  split at h
  · cases h
  · rename_i hn
    rw [Bool.not_eq_true, List.any_eq_false] at hn
    simp only [decide_eq_true_eq] at h
    have h1 : ∀ p ∈ l, p.length ≤ 100 := fun p hp => by
      have := hn p hp
      simp at this; omega
    exact ⟨⟨by omega, fun p hp => ⟨by have := h1 p hp; omega, by have := h1 p hp; omega, ha p hp⟩⟩, h1, by omega⟩
end Go.Proofs.Ytdlpecjbafadkaa
