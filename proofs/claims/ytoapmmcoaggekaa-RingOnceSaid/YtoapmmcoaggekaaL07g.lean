/- Helper lemmas for the claim's theorem: an abstract machine over the model, proved sound; no condition beyond each lemma's own. -/
import Derived.Test.YtoapmmcoaggekaaL07f
set_option linter.unusedVariables false
set_option linter.unusedSimpArgs false
set_option linter.unnecessarySimpa false
set_option linter.unusedSectionVars false
/- Plain laws on the printed functions. -/
namespace Go.Proofs.Ytoapmmcoaggekaa
open Go Go.AM
set_option maxRecDepth 100000
set_option maxHeartbeats 1000000
set_option linter.unusedVariables false
set_option linter.unusedSimpArgs false
structure Inv7 (q : api_Deque) (m l : List Int) (t j : Int) : Prop where
  has : Has7 m q t (t + l.length)
  at_ : ∀ k : Nat, k < l.length → gt m (slot q (t + k)) = gt l k
  base : q.Base = 1
  len : (m.length : Int) = q.Cap + 4
  z0 : gt m 0 = 0
  z1 : gt m (q.Cap + 3) = 0
  bnd : t + l.length ≤ 1073741824 + j
  room : q.Cap ≤ 8
end Go.Proofs.Ytoapmmcoaggekaa
