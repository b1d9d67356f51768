/- The statement: HeapOrders answers true of whatever it is called with, and leaves alone what was there before. Conditions: none beyond those of the given row. -/
import Derived.Test.YtbcapidhhbkkcaaSL
import Derived.Test.YtbcapidhhbkkcaaSV
import Derived.Test.YtbcapidhhbkkcaaL08e
set_option linter.unusedVariables false
set_option linter.unusedSimpArgs false
set_option linter.unnecessarySimpa false
set_option linter.unusedSectionVars false
namespace Go.Proofs.Ytbcapidhhbkkcaa
open Go Go.AM Go.ChangeShapes Go.WideShapes Go.ChangeAt Go.RowKit
set_option maxRecDepth 100000
theorem heapOrders_any : ∀ us, VArgs E [22, 53, 2, 2] us → SC Try.prog [] 9 us (.bool true) := by
  intro us h
  obtain ⟨v0, us, rfl, h0, h⟩ := h.cons_inv
  obtain ⟨v1, us, rfl, h1, h⟩ := h.cons_inv
  obtain ⟨v2, us, rfl, h2, h⟩ := h.cons_inv
  obtain ⟨v3, us, rfl, h3, h⟩ := h.cons_inv
  obtain rfl := h.nil_inv
  obtain ⟨x0, rfl, w0⟩ := arg_22 h0
  obtain ⟨x1, rfl, w1⟩ := arg_53 h1
  obtain ⟨x2, rfl, w2⟩ := arg_2 h2
  obtain ⟨x3, rfl, w3⟩ := arg_2 h3
  exact go_ravellaw08_HeapOrders_sc x0 x1 x2 x3 true (heapOrders_true w1.2)
theorem heapOrders_lifted (os : Os) (started : os.Started) (H : Type) (enc : TypeId × Value → H) :
    ReturnsInHanded {} Try.checked os 9 .any (Rows.heapOrdersSpec.pre6 enc Try.prog Try.f9 Rows.heapOrdersRow.domain false)
      (Rows.heapOrdersSpec.post enc Try.prog Try.f9 false true false false) := by
  refine law_lifted (C := Try.checked) (tb := 4) own started (by kernel_rfl) Try.func9 laidOut (by kernel_rfl) rfl rfl undb ?_ ?_ ?_
  · intro ds hds
    match ds, hds with
    | [_, _, _, _], _ => rfl
  · exact ChangeSpec.witness6 (enc := enc) (C := Try.checked) false ⟨#[], #[.slice none 0 0, .slice none 0 0, .int .i64 0, .int .i64 0], []⟩ 8 (by kernel_rfl) (by kernel_rfl) (by kernel_rfl) (by kernel_rfl)
  · intro W base args ds ps hval hA hlt
    exact law_walk (C := Try.checked) E_good 30 (by kernel_rfl) (fun us hus => heapOrders_any us hus) (globAt_nil W) hval hA
theorem heapOrders_row : Rows.HeapOrdersSaid :=
  OpenClaim.holds_of_wide 9 Try.f9 rfl rfl rfl rfl rfl rfl rfl ⟨rfl, rfl, rfl, rfl, rfl⟩ rfl rfl rfl rfl rfl (by kernel_rfl) Try.func9 (by kernel_rfl)
    (of_decide_eq_true (by kernel_rfl)) (by unfold Func.isWrapper; first | (rw [if_pos (by decide +kernel)]; kernel_rfl) | (rw [if_neg (by decide +kernel)]; exact ⟨rfl, rfl⟩))
    (fun os started H enc _ => heapOrders_lifted os started H enc)
#print axioms heapOrders_row
end Go.Proofs.Ytbcapidhhbkkcaa
