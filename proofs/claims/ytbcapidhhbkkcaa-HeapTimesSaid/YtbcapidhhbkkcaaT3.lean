/- Helper lemmas for the claim's theorem: an abstract machine over the model, proved sound; no condition beyond each lemma's own. -/
import Derived.Test.YtbcapidhhbkkcaaT2
set_option linter.unusedVariables false
set_option linter.unusedSimpArgs false
set_option linter.unnecessarySimpa false
set_option linter.unusedSectionVars false
namespace Go.Proofs.Ytbcapidhhbkkcaa
open Go Go.AM
set_option maxRecDepth 100000
set_option maxHeartbeats 1000000
set_option linter.unusedVariables false
set_option linter.unusedSimpArgs false
variable {gl : List (Nat × List V)}
@[ext] structure ravellaw08_Op where
  Kind : Int
  Id : Int
  At : Int
  deriving Inhabited
def ravellaw08_Op.cells (x : ravellaw08_Op) : List V := [V.int .i64 x.Kind, V.int .i64 x.Id, V.int .i64 x.At]
def ravellaw08_Op.zero : ravellaw08_Op := ⟨0, 0, 0⟩
def ravellaw08_Op.beq (x y : ravellaw08_Op) : Bool := ((x.Kind == y.Kind) && ((x.Id == y.Id) && ((x.At == y.At) && true)))
end Go.Proofs.Ytbcapidhhbkkcaa
