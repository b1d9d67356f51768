/- The statement: RingOnce answers true of whatever it is called with, and leaves alone what was there before. Conditions: none beyond those of the given row. -/
import Derived.Test.YtoapmmcoaggekaaSL
import Derived.Test.YtoapmmcoaggekaaSV
import Derived.Test.YtoapmmcoaggekaaL07m
set_option linter.unusedVariables false
set_option linter.unusedSimpArgs false
set_option linter.unnecessarySimpa false
set_option linter.unusedSectionVars false
namespace Go.Proofs.Ytoapmmcoaggekaa
open Go Go.AM Go.ChangeShapes Go.WideShapes Go.ChangeAt Go.RowKit
set_option maxRecDepth 100000
theorem ringOnce_any : ∀ us, VArgs E [3, 3, 45] us → SC Try.prog [] 6 us (.bool true) := by
  intro us h
  obtain ⟨v0, us, rfl, h0, h⟩ := h.cons_inv
  obtain ⟨v1, us, rfl, h1, h⟩ := h.cons_inv
  obtain ⟨v2, us, rfl, h2, h⟩ := h.cons_inv
  obtain rfl := h.nil_inv
  obtain ⟨x0, rfl, w0⟩ := arg_3 h0
  obtain ⟨x1, rfl, w1⟩ := arg_3 h1
  obtain ⟨x2, rfl, w2⟩ := arg_45 h2
  exact go_ravellaw07_RingOnce_sc x0 x1 x2 true (ringOnce_true)
theorem ringOnce_lifted (os : Os) (started : os.Started) (H : Type) (enc : TypeId × Value → H) :
    ReturnsInHanded {} Try.checked os 6 .any (Rows.ringOnceSpec.pre6 enc Try.prog Try.f6 Rows.ringOnceRow.domain false)
      (Rows.ringOnceSpec.post enc Try.prog Try.f6 false true false false) := by
  refine law_lifted (C := Try.checked) (tb := 4) own started (by kernel_rfl) Try.func6 laidOut (by kernel_rfl) rfl rfl undb ?_ ?_ ?_
  · intro ds hds
    match ds, hds with
    | [_, _, _], _ => rfl
  · exact ChangeSpec.witness6 (enc := enc) (C := Try.checked) false ⟨#[], #[.int .i64 0, .int .i64 0, .slice none 0 0], []⟩ 8 (by kernel_rfl) (by kernel_rfl) (by kernel_rfl) (by kernel_rfl)
  · intro W base args ds ps hval hA hlt
    exact law_walk (C := Try.checked) E_good 30 (by kernel_rfl) (fun us hus => ringOnce_any us hus) (globAt_nil W) hval hA
theorem ringOnce_row : Rows.RingOnceSaid :=
  OpenClaim.holds_of_wide 6 Try.f6 rfl rfl rfl rfl rfl rfl rfl ⟨rfl, rfl, rfl, rfl, rfl⟩ rfl rfl rfl rfl rfl (by kernel_rfl) Try.func6 (by kernel_rfl)
    (of_decide_eq_true (by kernel_rfl)) (by unfold Func.isWrapper; first | (rw [if_pos (by decide +kernel)]; kernel_rfl) | (rw [if_neg (by decide +kernel)]; exact ⟨rfl, rfl⟩))
    (fun os started H enc _ => ringOnce_lifted os started H enc)
#print axioms ringOnce_row
end Go.Proofs.Ytoapmmcoaggekaa
