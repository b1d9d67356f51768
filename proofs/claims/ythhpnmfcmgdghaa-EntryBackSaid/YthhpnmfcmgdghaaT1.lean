/- Helper lemmas for the claim's theorem: an abstract machine over the model, proved sound; no condition beyond each lemma's own. -/
import Derived.Test.YthhpnmfcmgdghaaT0
set_option linter.unusedVariables false
set_option linter.unusedSimpArgs false
set_option linter.unnecessarySimpa false
set_option linter.unusedSectionVars false
namespace Go.Proofs.Ythhpnmfcmgdghaa
open Go Go.AM
set_option maxRecDepth 100000
set_option maxHeartbeats 1000000
set_option linter.unusedVariables false
set_option linter.unusedSimpArgs false
variable {gl : List (Nat × List V)}
@[ext] structure api_Tenant where
  Weight : Int
  Quota : Int
  Live : Int
  Tag : Int
  Ran : Int
  deriving Inhabited
def api_Tenant.cells (x : api_Tenant) : List V := [V.int .i64 x.Weight, V.int .i64 x.Quota, V.int .i64 x.Live, V.int .i64 x.Tag, V.int .i64 x.Ran]
def api_Tenant.zero : api_Tenant := ⟨0, 0, 0, 0, 0⟩
def api_Tenant.beq (x y : api_Tenant) : Bool := ((x.Weight == y.Weight) && ((x.Quota == y.Quota) && ((x.Live == y.Live) && ((x.Tag == y.Tag) && ((x.Ran == y.Ran) && true)))))

@[ext] structure api_Sem where
  Free : Int
  Wait : List Int
  deriving Inhabited
def api_Sem.cells (x : api_Sem) : List V := [V.int .i64 x.Free, V.sl 1 (rws (fun n => [V.int .i64 n]) x.Wait)]
def api_Sem.zero : api_Sem := ⟨0, []⟩

end Go.Proofs.Ythhpnmfcmgdghaa
