/- What a row asks of the program itself, looked up by the kernel: of CrewTells. No condition. -/
import Derived.Test.YtmlcinmdkhmjhaaGreatSL
import Derived.Test.YtmlcinmdkhmjhaaGreatSV
set_option linter.unusedVariables false
set_option linter.unusedSimpArgs false
set_option linter.unnecessarySimpa false
set_option linter.unusedSectionVars false
namespace Go.Proofs.YtmlcinmdkhmjhaaGreat
open Go Go.AM Go.ChangeShapes Go.WideShapes Go.ChangeAt Go.RowKit
set_option maxRecDepth 100000
theorem crewTells_facts:joinedFacts Tryz.pinned.checked.prog 3 Tryz.f3 Rows.crewTellsSpec Rows.crewTellsRow=true:=by kernel_rfl
end Go.Proofs.YtmlcinmdkhmjhaaGreat
