/- The statement: LifeTrace answers true of whatever states, and one more, it is called with, and leaves alone what was there before; tied to the program text by its card. Conditions: none beyond those of the given row and card. -/
import Derived.Test.YtechkmappabefaaDoorSL
import Derived.Test.YtechkmappabefaaDoorSE
set_option linter.unusedVariables false
set_option linter.unusedSimpArgs false
set_option linter.unnecessarySimpa false
set_option linter.unusedSectionVars false
namespace Go.Proofs.YtechkmappabefaaDoor
open Go Go.AM Go.ChangeShapes Go.WideShapes Go.ChangeAt Go.RowKit
set_option maxRecDepth 100000
theorem lifeTrace_any : ∀ us, VArgs E [22, 3] us → SC Tryd.prog gl 4 us (.bool true) := by
  intro us h
  obtain ⟨v0, us, rfl, h0, h⟩ := h.cons_inv
  obtain ⟨v1, us, rfl, h1, h⟩ := h.cons_inv
  obtain rfl := h.nil_inv
  obtain ⟨xs, rfl, hl⟩ := ints_arg h0
  obtain ⟨m, rfl, hm⟩ := int_arg h1
  exact lifeTrace_sc xs m hl
theorem lifeTrace_lifted (os : Os) (started : os.Started) (H : Type) (enc : TypeId × Value → H) :
    ReturnsInHanded {} Tryd.checked os 4 .any (fun w args => (Rows.lifeTraceSpec.pre enc Tryd.prog Tryd.f4 [] false w args ∧ laidMet Tryd.prog [("ravel/life.follows", Rows.laid_ravel_life_follows)] w) ∧ sizedMet enc Tryd.prog Tryd.f4 (OpenSpec.ofChange Rows.lifeTraceSpec) false w args)
      (Rows.lifeTraceSpec.post enc Tryd.prog Tryd.f4 false true false false) := by
  refine law_lifted_laid (C := Tryd.checked) (tb := 4) own started (by kernel_rfl) Tryd.func4 laidOut (by kernel_rfl) rfl rfl und4 ?_ ?_ ?_
  · intro ds hds
    match ds, hds with
    | [_, _], _ => rfl
  · exact ChangeSpec.witness_at (enc := enc) (C := Tryd.checked) (os := os) (X := fun w _ => laidMet Tryd.prog [("ravel/life.follows", Rows.laid_ravel_life_follows)] w) false (laidWorld os) #[.slice none 0 0, .int .i64 0] 8 rfl (by kernel_rfl) (by kernel_rfl) (by kernel_rfl) (by kernel_rfl) (by kernel_rfl) (laidWorld_met os _)
  · intro W base args ds ps hval hA hlt hw hL
    exact law_walk (C := Tryd.checked) E_good 30 (by kernel_rfl) (fun us hus => lifeTrace_any us hus) (globAt_laid hL) hval hA
theorem lifeTrace_row : Rows.LifeTraceSaid :=
  OpenClaim.holds_of_wide 4 Tryd.f4 rfl rfl rfl rfl rfl rfl rfl ⟨rfl, rfl, rfl, rfl, rfl⟩ rfl rfl rfl rfl rfl (by kernel_rfl) Tryd.func4 (by kernel_rfl)
    (of_decide_eq_true (by kernel_rfl)) (by unfold Func.isWrapper; first | (rw [if_pos (by decide +kernel)]; kernel_rfl) | (rw [if_neg (by decide +kernel)]; exact ⟨rfl, rfl⟩))
    (fun os started H enc _ => lifeTrace_lifted os started H enc)
theorem lifeTrace_card : Rows.LifeTraceCardSaid :=
  Claim7.holds_tied_plain_at .later [] [.data] true (true, "923f69615a1beaee2fd4e110d847d9d54db0c86f50a656932aee0cb630b01994") false
    lifeTrace_row (fun _ h => by cases h) (by kernel_rfl) (fun _ h => by cases h) lifeTrace_row_tie rfl ⟨rfl, rfl⟩ (by kernel_rfl) rfl
    (fun f fn hf hfn => by
      obtain rfl : f = 4 := Option.some.inj ((show Tryd.prog.funcNamed "ravel/ravellaw12.LifeTrace" = some 4 by kernel_rfl).symm.trans hf) |>.symm
      obtain rfl : fn = Tryd.f4 := (Option.some.inj (Tryd.func4.symm.trans hfn)).symm
      exact ⟨by kernel_rfl, fun j t ht => by
        have hp : Tryd.f4.params = #[22, 3] := rfl
        rw [hp] at ht
        have hall : (#[22, 3] : Array Nat).all (fun t => !Tryd.prog.wantsStandIn t) = true := by kernel_rfl
        rw [Array.all_eq_true_iff_forall_mem] at hall
        have h1 : Tryd.prog.wantsStandIn t = false := by simpa using hall t (Array.mem_of_getElem? ht)
        exact h1⟩)
    (by kernel_rfl)
#print axioms lifeTrace_card
end Go.Proofs.YtechkmappabefaaDoor
