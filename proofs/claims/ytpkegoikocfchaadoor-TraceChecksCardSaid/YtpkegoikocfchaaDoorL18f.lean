/- Helper lemmas for the claim's theorem: an abstract machine over the model, proved sound; no condition beyond each lemma's own. -/
import Derived.Test.YtpkegoikocfchaaDoorL18e
set_option linter.unusedVariables false
set_option linter.unusedSimpArgs false
set_option linter.unnecessarySimpa false
set_option linter.unusedSectionVars false
/- Plain laws on the printed functions. -/
namespace Go.Proofs.YtpkegoikocfchaaDoor
open Go Go.AM
set_option maxRecDepth 100000
set_option maxHeartbeats 1000000
set_option linter.unusedVariables false
set_option linter.unusedSimpArgs false
theorem ckR_if {ps : List (List api_Instr)} {l : List api_Event} (hl : l.length ≤ 65536) : ckR ps l = if ckAll ps = true then (((runN ps [] l : Nat) : Int), 0) else (0, 1) := by
  unfold ckR
  cases ckAll ps with
  | true => rw [if_pos ⟨rfl, hl⟩, if_pos rfl]
  | false => rfl
theorem ofL_le (l : List api_Event) (id : Int) : (ofL l id).length ≤ l.length := List.length_filter_le _ _
end Go.Proofs.YtpkegoikocfchaaDoor
