/- Helper lemmas for the claim's theorem: an abstract machine over the model, proved sound; no condition beyond each lemma's own. -/
import Derived.Test.YtpkegoikocfchaaDoorT1
set_option linter.unusedVariables false
set_option linter.unusedSimpArgs false
set_option linter.unnecessarySimpa false
set_option linter.unusedSectionVars false
namespace Go.Proofs.YtpkegoikocfchaaDoor
open Go Go.AM
set_option maxRecDepth 100000
set_option maxHeartbeats 1000000
set_option linter.unusedVariables false
set_option linter.unusedSimpArgs false
def go_ravelref04_in (a125 : Int) (a126 : Int) (a127 : Int) : Bool :=
 ((decide (a125 ≥ a126)) && (decide (a125 ≤ a127)))

def go_ravelref04_may (a128 : api_Instr) : Bool :=
 if (a128.Op == 1) = true then
  ((go_ravelref04_in a128.A 1 100) && (a128.B == 0))
 else
  if (a128.Op == 2) = true then
   ((go_ravelref04_in a128.A 0 15) && (go_ravelref04_in a128.B 0 3))
  else
   if ((a128.Op == 3) || (a128.Op == 9)) = true then
    ((a128.A == 0) && (a128.B == 0))
   else
    if (a128.Op == 4) = true then
     ((go_ravelref04_in a128.A 1 1000) && (a128.B == 0))
    else
     if (a128.Op == 5) = true then
      ((go_ravelref04_in a128.A 0 15) && (a128.B == 0))
     else
      if (a128.Op == 6) = true then
       ((go_ravelref04_in a128.A 0 3) && (a128.B == 0))
      else
       ((((a128.Op == 7) || (a128.Op == 8)) && (go_ravelref04_in a128.A 0 7)) && (a128.B == 0))

def go_ravelref18_Held (a164 : Int) : Int :=
 if ((decide (a164 ≥ 4)) && (decide (a164 ≤ 7))) = true then
  IntKind.i64.wrap (a164 - 1)
 else
  0

end Go.Proofs.YtpkegoikocfchaaDoor
