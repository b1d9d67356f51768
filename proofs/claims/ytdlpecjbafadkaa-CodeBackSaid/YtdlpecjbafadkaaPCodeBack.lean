/- The statement: CodeBack answers true of whatever it is called with, and leaves alone what was there before. Conditions: none beyond those of the given row. -/
import Derived.Test.YtdlpecjbafadkaaSL
import Derived.Test.YtdlpecjbafadkaaSV
import Derived.Test.YtdlpecjbafadkaaL04i
set_option linter.unusedVariables false
set_option linter.unusedSimpArgs false
set_option linter.unnecessarySimpa false
set_option linter.unusedSectionVars false
namespace Go.Proofs.Ytdlpecjbafadkaa
open Go Go.AM Go.ChangeShapes Go.WideShapes Go.ChangeAt Go.RowKit
set_option maxRecDepth 100000
theorem codeBack_any : ∀ us, VArgs E [22, 40] us → SC Try.prog [] 9 us (.bool true) := by
  intro us h
  obtain ⟨v0, us, rfl, h0, h⟩ := h.cons_inv
  obtain ⟨v1, us, rfl, h1, h⟩ := h.cons_inv
  obtain rfl := h.nil_inv
  obtain ⟨x0, rfl, w0⟩ := arg_22 h0
  obtain ⟨x1, rfl, w1⟩ := arg_40 h1
  exact go_ravellaw04_CodeBack_sc x0 x1 true (codeBack_true w0.1 (fun p hp x hx => ((w0.2 p hp).2 x hx).2.1) w1.2)
theorem codeBack_lifted (os : Os) (started : os.Started) (H : Type) (enc : TypeId × Value → H) :
    ReturnsInHanded {} Try.checked os 9 .any (Rows.codeBackSpec.pre6 enc Try.prog Try.f9 Rows.codeBackRow.domain false)
      (Rows.codeBackSpec.post enc Try.prog Try.f9 false true false false) := by
  refine law_lifted (C := Try.checked) (tb := 4) own started (by kernel_rfl) Try.func9 laidOut (by kernel_rfl) rfl rfl undb ?_ ?_ ?_
  · intro ds hds
    match ds, hds with
    | [_, _], _ => rfl
  · exact ChangeSpec.witness6 (enc := enc) (C := Try.checked) false ⟨#[], #[.slice none 0 0, .slice none 0 0], []⟩ 8 (by kernel_rfl) (by kernel_rfl) (by kernel_rfl) (by kernel_rfl)
  · intro W base args ds ps hval hA hlt
    exact law_walk (C := Try.checked) E_good 30 (by kernel_rfl) (fun us hus => codeBack_any us hus) (globAt_nil W) hval hA
theorem codeBack_row : Rows.CodeBackSaid :=
  OpenClaim.holds_of_wide 9 Try.f9 rfl rfl rfl rfl rfl rfl rfl ⟨rfl, rfl, rfl, rfl, rfl⟩ rfl rfl rfl rfl rfl (by kernel_rfl) Try.func9 (by kernel_rfl)
    (of_decide_eq_true (by kernel_rfl)) (by unfold Func.isWrapper; first | (rw [if_pos (by decide +kernel)]; kernel_rfl) | (rw [if_neg (by decide +kernel)]; exact ⟨rfl, rfl⟩))
    (fun os started H enc _ => codeBack_lifted os started H enc)
#print axioms codeBack_row
end Go.Proofs.Ytdlpecjbafadkaa
