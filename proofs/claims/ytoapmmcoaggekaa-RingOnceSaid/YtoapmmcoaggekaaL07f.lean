/- Helper lemmas for the claim's theorem: an abstract machine over the model, proved sound; no condition beyond each lemma's own. -/
import Derived.Test.YtoapmmcoaggekaaL07e
set_option linter.unusedVariables false
set_option linter.unusedSimpArgs false
set_option linter.unnecessarySimpa false
set_option linter.unusedSectionVars false
/- Plain laws on the printed functions. -/
namespace Go.Proofs.Ytoapmmcoaggekaa
open Go Go.AM
set_option maxRecDepth 100000
set_option maxHeartbeats 1000000
set_option linter.unusedVariables false
set_option linter.unusedSimpArgs false
theorem slot_ne {m : List Int} {q : api_Deque} (h : QOk m q) {x y : Int} (hx : 0 ≤ x) (hy : x < y) (hc : y - x < q.Cap) : slot q x ≠ slot q y := by
  unfold slot
  rw [Int.tmod_eq_emod_of_nonneg hx, Int.tmod_eq_emod_of_nonneg (by omega)]
  intro e
  have e1 : x % q.Cap = y % q.Cap := by omega
  have e2 : (y - x) % q.Cap = 0 := Int.emod_eq_emod_iff_emod_sub_eq_zero.1 e1.symm
  rw [Int.emod_eq_of_lt (by omega) hc] at e2
  omega
theorem lst_has {m l : List Int} {q : api_Deque} {t : Int} (h : Has7 m q t (t + l.length)) (hl : ∀ k : Nat, k < l.length → gt m (slot q (t + k)) = gt l k) : lst m q = (l, 0) := by
  obtain ⟨hq, h1, h2, h3, h4, h5, h6⟩ := h
  unfold lst
  rw [h1, h2, if_pos (by omega), show (t + (l.length : Int) - t).toNat = l.length by omega]
  congr 1
  refine List.ext_getElem (by simp) (fun i i1 i2 => ?_)
  rw [List.getElem_map, List.getElem_range, hl i i2]
  unfold gt
  simp [i2]
end Go.Proofs.Ytoapmmcoaggekaa
