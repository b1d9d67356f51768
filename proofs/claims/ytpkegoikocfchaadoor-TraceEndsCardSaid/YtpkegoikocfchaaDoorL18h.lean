/- Helper lemmas for the claim's theorem: an abstract machine over the model, proved sound; no condition beyond each lemma's own. -/
import Derived.Test.YtpkegoikocfchaaDoorL18g
set_option linter.unusedVariables false
set_option linter.unusedSimpArgs false
set_option linter.unnecessarySimpa false
set_option linter.unusedSectionVars false
/- Plain laws on the printed functions. -/
namespace Go.Proofs.YtpkegoikocfchaaDoor
open Go Go.AM
set_option maxRecDepth 100000
set_option maxHeartbeats 1000000
set_option linter.unusedVariables false
set_option linter.unusedSimpArgs false
/-- The state of the reference's loop. -/
abbrev OnS := Int × Int × Int × Int × Int × Int × Int × Int × Int × Int × Int × Int
theorem held_eq (n : Int) : go_trace_Held n = go_ravelref18_Held n := by
  unfold go_trace_Held go_ravelref18_Held
  by_cases h : 4 ≤ n ∧ n ≤ 7
  · have : n = 4 ∨ n = 5 ∨ n = 6 ∨ n = 7 := by omega
    rcases this with rfl | rfl | rfl | rfl <;> rfl
  · rw [if_neg (by simp; omega), if_neg (by simp; omega), if_neg (by simp; omega), if_neg (by simp; omega), if_neg (by simp; omega)]
end Go.Proofs.YtpkegoikocfchaaDoor
