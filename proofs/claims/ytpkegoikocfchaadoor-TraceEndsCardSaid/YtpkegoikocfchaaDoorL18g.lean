/- Helper lemmas for the claim's theorem: an abstract machine over the model, proved sound; no condition beyond each lemma's own. -/
import Derived.Test.YtpkegoikocfchaaDoorL18f
set_option linter.unusedVariables false
set_option linter.unusedSimpArgs false
set_option linter.unnecessarySimpa false
set_option linter.unusedSectionVars false
/- Plain laws on the printed functions. -/
namespace Go.Proofs.YtpkegoikocfchaaDoor
open Go Go.AM
set_option maxRecDepth 100000
set_option maxHeartbeats 1000000
set_option linter.unusedVariables false
set_option linter.unusedSimpArgs false
theorem chk_new {i p : Int} : chk (newT i 0 p) = true ↔ 0 ≤ i ∧ 0 ≤ p ∧ p < 16 := by
  unfold chk newT kept
  simp [go_life_below, go_life_state]
end Go.Proofs.YtpkegoikocfchaaDoor
