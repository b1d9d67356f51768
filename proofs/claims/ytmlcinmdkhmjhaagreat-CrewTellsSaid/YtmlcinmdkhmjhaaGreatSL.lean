/- Helper lemmas for the claim's theorem: an abstract machine over the model, proved sound; no condition beyond each lemma's own. -/
import Derived.Test.YtmlcinmdkhmjhaaGreatAmE
import Derived.Test.YtmlcinmdkhmjhaaGreatSEnv
import Derived.Test.YtmlcinmdkhmjhaaGreatRows
import Derived.FnData
set_option linter.unusedVariables false
set_option linter.unusedSimpArgs false
set_option linter.unnecessarySimpa false
set_option linter.unusedSectionVars false
namespace Go.Proofs.YtmlcinmdkhmjhaaGreat
open Go Go.AM Go.ChangeShapes Go.WideShapes Go.ChangeAt Go.RowKit
set_option maxRecDepth 100000
theorem own:ownKnob Tryz.prog.godebug=none:=by kernel_rfl
theorem laidOut:laidOutB Tryz.prog=true:=by kernel_rfl
theorem undb:Tryz.prog.underlying 4=some .bool:=by kernel_rfl
end Go.Proofs.YtmlcinmdkhmjhaaGreat
