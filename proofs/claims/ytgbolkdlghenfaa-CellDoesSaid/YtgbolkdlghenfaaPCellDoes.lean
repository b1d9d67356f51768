/- The statement: CellDoes answers true of whatever it is called with, and leaves alone what was there before. Conditions: none beyond those of the given row. -/
import Derived.Test.YtgbolkdlghenfaaSL
import Derived.Test.YtgbolkdlghenfaaSV
import Derived.Test.YtgbolkdlghenfaaL01c
import Derived.Test.YtgbolkdlghenfaaAmE
set_option linter.unusedVariables false
set_option linter.unusedSimpArgs false
set_option linter.unnecessarySimpa false
set_option linter.unusedSectionVars false
namespace Go.Proofs.Ytgbolkdlghenfaa
open Go Go.AM Go.ChangeShapes Go.WideShapes Go.ChangeAt Go.RowKit
set_option maxRecDepth 100000
theorem cellDoes_any : ∀ us, VArgs E [23, 23, 31, 3] us → Sized E [23, 23, 31, 3] us → SC Try.prog [] 6 us (.bool true) := by
  intro us h hsz
  obtain ⟨v0, us, rfl, h0, h⟩ := h.cons_inv
  obtain ⟨v1, us, rfl, h1, h⟩ := h.cons_inv
  obtain ⟨v2, us, rfl, h2, h⟩ := h.cons_inv
  obtain ⟨v3, us, rfl, h3, h⟩ := h.cons_inv
  obtain rfl := h.nil_inv
  obtain ⟨x0, rfl, w0⟩ := arg_23 h0
  obtain ⟨x1, rfl, w1⟩ := arg_23 h1
  obtain ⟨x2, rfl, w2⟩ := arg_31 h2
  obtain ⟨x3, rfl, w3⟩ := arg_3 h3
  exact go_ravellaw01_CellDoes_sc x0 x1 x2 x3 true (cellDoes_true w0.2 w0.1 (by have := hsz.1 _ _ _ _ _ _ _ rfl rfl rfl; simpa [rws] using this) w2.2.2.1)
theorem cellDoes_lifted (os : Os) (started : os.Started) (H : Type) (enc : TypeId × Value → H) :
    ReturnsInHanded {} Try.checked os 6 .any (Rows.cellDoesSpec.pre6 enc Try.prog Try.f6 Rows.cellDoesRow.domain false)
      (Rows.cellDoesSpec.post enc Try.prog Try.f6 false true false false) := by
  refine law_liftedW (C := Try.checked) (tb := 4) own started (by kernel_rfl) Try.func6 laidOut (by kernel_rfl) rfl rfl undb ?_ ?_ ?_
  · intro ds hds
    match ds, hds with
    | [_, _, _, _], _ => rfl
  · exact ChangeSpec.witness6 (enc := enc) (C := Try.checked) false ⟨#[], #[.slice none 0 0, .slice none 0 0, .agg #[.int .i64 0, .int .i64 0, .int .i64 0, .int .i64 0], .int .i64 0], []⟩ 8 (by kernel_rfl) (by kernel_rfl) (by kernel_rfl) (by kernel_rfl)
  · intro W base args ds ps hval hA hlt hwt
    exact law_walkW (C := Try.checked) E_good 30 (by kernel_rfl) (fun us hus hsz => cellDoes_any us hus hsz) (globAt_nil W) hval hA hwt
theorem cellDoes_row : Rows.CellDoesSaid :=
  OpenClaim.holds_of_wide 6 Try.f6 rfl rfl rfl rfl rfl rfl rfl ⟨rfl, rfl, rfl, rfl, rfl⟩ rfl rfl rfl rfl rfl (by kernel_rfl) Try.func6 (by kernel_rfl)
    (of_decide_eq_true (by kernel_rfl)) (by unfold Func.isWrapper; first | (rw [if_pos (by decide +kernel)]; kernel_rfl) | (rw [if_neg (by decide +kernel)]; exact ⟨rfl, rfl⟩))
    (fun os started H enc _ => cellDoes_lifted os started H enc)
#print axioms cellDoes_row
end Go.Proofs.Ytgbolkdlghenfaa
