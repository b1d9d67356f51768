/- Helper lemmas for the claim's theorem: an abstract machine over the model, proved sound; no condition beyond each lemma's own. -/
import Derived.Test.YtoapmmcoaggekaaL07d
set_option linter.unusedVariables false
set_option linter.unusedSimpArgs false
set_option linter.unnecessarySimpa false
set_option linter.unusedSectionVars false
/- Plain laws on the printed functions. -/
namespace Go.Proofs.Ytoapmmcoaggekaa
open Go Go.AM
set_option maxRecDepth 100000
set_option maxHeartbeats 1000000
set_option linter.unusedVariables false
set_option linter.unusedSimpArgs false
theorem gt_st_ne {m : List Int} {i j x : Int} (hi : 0 ≤ i) (hj : 0 ≤ j) (h : i ≠ j) : gt (st m i x) j = gt m j := by
  unfold gt st
  rw [List.getD_eq_getElem?_getD, List.getD_eq_getElem?_getD, List.getElem?_set_ne (by omega)]
theorem gt_st_eq {m : List Int} {i x : Int} (hi : 0 ≤ i ∧ i < m.length) : gt (st m i x) i = x := by
  unfold gt st
  rw [List.getD_eq_getElem?_getD, List.getElem?_set_self (by omega)]; rfl
theorem may_yes {K Pc V T B : Int} {W : Bool} (hk : ((K = 1 ∨ K = 3) ∧ 0 ≤ Pc ∧ Pc < 4) ∨ (K = 2 ∧ 0 ≤ Pc ∧ Pc < 7)) (hT : -1 ≤ T ∧ T ≤ 1099511627776) (hB : -1 ≤ B ∧ B ≤ 1099511627776) : go_ravelref07_May ⟨K, Pc, V, T, B, W, 0⟩ = true := by
  unfold go_ravelref07_May go_ravelref07_count go_ravelref07_pcs
  rcases hk with ⟨rfl | rfl, h⟩ | ⟨rfl, h⟩ <;> simp <;> omega
/-- A deque that holds so many from t on. -/
structure Has7 (m : List Int) (q : api_Deque) (t b : Int) : Prop where
  ok : QOk m q
  top : gt m q.Base = t
  bot : gt m (q.Base + 1) = b
  t0 : 0 ≤ t
  tb : t ≤ b
  big : b ≤ 1099511627000
  cap : b - t ≤ q.Cap
end Go.Proofs.Ytoapmmcoaggekaa
