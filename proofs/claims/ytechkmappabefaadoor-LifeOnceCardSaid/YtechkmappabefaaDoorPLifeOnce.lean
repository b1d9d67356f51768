/- The statement: LifeOnce answers true of whatever it is called with, and leaves alone what was there before; tied to the program text by its card. Conditions: none beyond those of the given row and card. -/
import Derived.Test.YtechkmappabefaaDoorSL
import Derived.Test.YtechkmappabefaaDoorSV
import Derived.Test.YtechkmappabefaaDoorL12b
set_option linter.unusedVariables false
set_option linter.unusedSimpArgs false
set_option linter.unnecessarySimpa false
set_option linter.unusedSectionVars false
namespace Go.Proofs.YtechkmappabefaaDoor
open Go Go.AM Go.ChangeShapes Go.WideShapes Go.ChangeAt Go.RowKit
set_option maxRecDepth 100000
theorem lifeOnce_any : ∀ us, VArgs E [2, 3, 3, 22] us → SC Tryd.prog gl 7 us (.bool true) := by
  intro us h
  obtain ⟨v0, us, rfl, h0, h⟩ := h.cons_inv
  obtain ⟨v1, us, rfl, h1, h⟩ := h.cons_inv
  obtain ⟨v2, us, rfl, h2, h⟩ := h.cons_inv
  obtain ⟨v3, us, rfl, h3, h⟩ := h.cons_inv
  obtain rfl := h.nil_inv
  obtain ⟨x0, rfl, w0⟩ := arg_2 h0
  obtain ⟨x1, rfl, w1⟩ := arg_3 h1
  obtain ⟨x2, rfl, w2⟩ := arg_3 h2
  obtain ⟨x3, rfl, w3⟩ := arg_22 h3
  exact go_ravellaw12_LifeOnce_sc x0 x1 x2 x3 true (lifeOnce_true x0 x1 x2 x3)
theorem lifeOnce_lifted (os : Os) (started : os.Started) (H : Type) (enc : TypeId × Value → H) :
    ReturnsInHanded {} Tryd.checked os 7 .any (fun w args => (Rows.lifeOnceSpec.pre enc Tryd.prog Tryd.f7 [] false w args ∧ laidMet Tryd.prog [("ravel/life.follows", Rows.laid_ravel_life_follows)] w) ∧ sizedMet enc Tryd.prog Tryd.f7 (OpenSpec.ofChange Rows.lifeOnceSpec) false w args)
      (Rows.lifeOnceSpec.post enc Tryd.prog Tryd.f7 false true false false) := by
  refine law_lifted_laid (C := Tryd.checked) (tb := 4) own started (by kernel_rfl) Tryd.func7 laidOut (by kernel_rfl) rfl rfl undb ?_ ?_ ?_
  · intro ds hds
    match ds, hds with
    | [_, _, _, _], _ => rfl
  · exact ChangeSpec.witness_at (enc := enc) (C := Tryd.checked) (os := os) (X := fun w _ => laidMet Tryd.prog [("ravel/life.follows", Rows.laid_ravel_life_follows)] w) false (laidWorld os) #[.int .i64 0, .int .i64 0, .int .i64 0, .slice none 0 0] 8 rfl (by kernel_rfl) (by kernel_rfl) (by kernel_rfl) (by kernel_rfl) (by kernel_rfl) (laidWorld_met os _)
  · intro W base args ds ps hval hA hlt hw hL
    exact law_walk (C := Tryd.checked) E_good 30 (by kernel_rfl) (fun us hus => lifeOnce_any us hus) (globAt_laid hL) hval hA
theorem lifeOnce_row : Rows.LifeOnceSaid :=
  OpenClaim.holds_of_wide 7 Tryd.f7 rfl rfl rfl rfl rfl rfl rfl ⟨rfl, rfl, rfl, rfl, rfl⟩ rfl rfl rfl rfl rfl (by kernel_rfl) Tryd.func7 (by kernel_rfl)
    (of_decide_eq_true (by kernel_rfl)) (by unfold Func.isWrapper; first | (rw [if_pos (by decide +kernel)]; kernel_rfl) | (rw [if_neg (by decide +kernel)]; exact ⟨rfl, rfl⟩))
    (fun os started H enc _ => lifeOnce_lifted os started H enc)
theorem lifeOnce_card : Rows.LifeOnceCardSaid :=
  Claim7.holds_tied_plain_at .later [] [.data] true (true, "923f69615a1beaee2fd4e110d847d9d54db0c86f50a656932aee0cb630b01994") false
    lifeOnce_row (fun _ h => by cases h) (by kernel_rfl) (fun _ h => by cases h) lifeOnce_row_tie rfl ⟨rfl, rfl⟩ (by kernel_rfl) rfl
    (fun f fn hf hfn => by
      obtain rfl : f = 7 := Option.some.inj ((show Tryd.prog.funcNamed "ravel/ravellaw12.LifeOnce" = some 7 by kernel_rfl).symm.trans hf) |>.symm
      obtain rfl : fn = Tryd.f7 := (Option.some.inj (Tryd.func7.symm.trans hfn)).symm
      exact ⟨by kernel_rfl, fun j t ht => by
        have hp : Tryd.f7.params = #[2, 3, 3, 22] := rfl
        rw [hp] at ht
        have hall : (#[2, 3, 3, 22] : Array Nat).all (fun t => !Tryd.prog.wantsStandIn t) = true := by kernel_rfl
        rw [Array.all_eq_true_iff_forall_mem] at hall
        have h1 : Tryd.prog.wantsStandIn t = false := by simpa using hall t (Array.mem_of_getElem? ht)
        exact h1⟩)
    (by kernel_rfl)
#print axioms lifeOnce_card
end Go.Proofs.YtechkmappabefaaDoor
