/- The statement: LifeTraces answers true of whatever states it is called with, and leaves alone what was there before; tied to the program text by its card. Conditions: none beyond those of the given row and card. -/
import Derived.Test.YtechkmappabefaaDoorSL
import Derived.Test.YtechkmappabefaaDoorSD
set_option linter.unusedVariables false
set_option linter.unusedSimpArgs false
namespace Go.Proofs.YtechkmappabefaaDoor
open Go Go.AM Go.ChangeShapes Go.WideShapes Go.ChangeAt Go.RowKit
set_option maxRecDepth 100000
theorem lifeTraces_any : ∀ us, VArgs E [22] us → SC Tryd.prog gl 3 us (.bool true) := by
  intro us h
  obtain ⟨v0, us, rfl, h0, h⟩ := h.cons_inv
  obtain rfl := h.nil_inv
  obtain ⟨xs, rfl, hl⟩ := ints_arg h0
  exact lifeTraces_sc xs hl
theorem lifeTraces_lifted (os : Os) (started : os.Started) (H : Type) (enc : TypeId × Value → H) :
    ReturnsInHanded {} Tryd.checked os 3 .any (fun w args => (Rows.lifeTracesSpec.pre enc Tryd.prog Tryd.f3 [] false w args ∧ laidMet Tryd.prog [("ravel/life.follows", Rows.laid_ravel_life_follows)] w) ∧ sizedMet enc Tryd.prog Tryd.f3 (OpenSpec.ofChange Rows.lifeTracesSpec) false w args)
      (Rows.lifeTracesSpec.post enc Tryd.prog Tryd.f3 false true false false) := by
  refine law_lifted_laid (C := Tryd.checked) (tb := 4) own started (by kernel_rfl) Tryd.func3 laidOut (by kernel_rfl) rfl rfl und4 ?_ ?_ ?_
  · intro ds hds
    match ds, hds with
    | [_], _ => rfl
  · exact ChangeSpec.witness_at (enc := enc) (C := Tryd.checked) (os := os) (X := fun w _ => laidMet Tryd.prog [("ravel/life.follows", Rows.laid_ravel_life_follows)] w) false (laidWorld os) #[.slice none 0 0] 8 rfl (by kernel_rfl) (by kernel_rfl) (by kernel_rfl) (by kernel_rfl) (by kernel_rfl) (laidWorld_met os _)
  · intro W base args ds ps hval hA hlt hw hL
    exact law_walk (C := Tryd.checked) E_good 30 (by kernel_rfl) (fun us hus => lifeTraces_any us hus) (globAt_laid hL) hval hA
theorem lifeTraces_row : Rows.LifeTracesSaid :=
  OpenClaim.holds_of_wide 3 Tryd.f3 rfl rfl rfl rfl rfl rfl rfl ⟨rfl, rfl, rfl, rfl, rfl⟩ rfl rfl rfl rfl rfl (by kernel_rfl) Tryd.func3 (by kernel_rfl)
    (of_decide_eq_true (by kernel_rfl)) (by unfold Func.isWrapper; first | (rw [if_pos (by decide +kernel)]; kernel_rfl) | (rw [if_neg (by decide +kernel)]; exact ⟨rfl, rfl⟩))
    (fun os started H enc _ => lifeTraces_lifted os started H enc)
theorem lifeTraces_card : Rows.LifeTracesCardSaid :=
  Claim7.holds_tied_plain_at .later [] [.data] true (true, "923f69615a1beaee2fd4e110d847d9d54db0c86f50a656932aee0cb630b01994") false
    lifeTraces_row (fun _ h => by cases h) (by kernel_rfl) (fun _ h => by cases h) lifeTraces_row_tie rfl ⟨rfl, rfl⟩ (by kernel_rfl) rfl
    (fun f fn hf hfn => by
      obtain rfl : f = 3 := Option.some.inj ((show Tryd.prog.funcNamed "ravel/ravellaw12.LifeTraces" = some 3 by kernel_rfl).symm.trans hf) |>.symm
      obtain rfl : fn = Tryd.f3 := (Option.some.inj (Tryd.func3.symm.trans hfn)).symm
      exact ⟨by kernel_rfl, fun j t ht => by
        have hp : Tryd.f3.params = #[22] := rfl
        rw [hp] at ht
        have hall : (#[22] : Array Nat).all (fun t => !Tryd.prog.wantsStandIn t) = true := by kernel_rfl
        rw [Array.all_eq_true_iff_forall_mem] at hall
        have h1 : Tryd.prog.wantsStandIn t = false := by simpa using hall t (Array.mem_of_getElem? ht)
        exact h1⟩)
    (by kernel_rfl)
#print axioms lifeTraces_card
end Go.Proofs.YtechkmappabefaaDoor
