/- The statement: TraceChecks answers true of whatever it is called with, and leaves alone what was there before; tied to the program text by its card. Conditions: none beyond those of the given row and card. -/
import Derived.Test.YtpkegoikocfchaaDoorSL
import Derived.Test.YtpkegoikocfchaaDoorSV
import Derived.Test.YtpkegoikocfchaaDoorL18i
set_option linter.unusedVariables false
set_option linter.unusedSimpArgs false
set_option linter.unnecessarySimpa false
set_option linter.unusedSectionVars false
namespace Go.Proofs.YtpkegoikocfchaaDoor
open Go Go.AM Go.ChangeShapes Go.WideShapes Go.ChangeAt Go.RowKit
set_option maxRecDepth 100000
theorem traceChecks_any : ∀ us, VArgs E [22, 23, 2, 3] us → SC Tryd.prog gl 6 us (.bool true) := by
  intro us h
  obtain ⟨v0, us, rfl, h0, h⟩ := h.cons_inv
  obtain ⟨v1, us, rfl, h1, h⟩ := h.cons_inv
  obtain ⟨v2, us, rfl, h2, h⟩ := h.cons_inv
  obtain ⟨v3, us, rfl, h3, h⟩ := h.cons_inv
  obtain rfl := h.nil_inv
  obtain ⟨x0, rfl, w0⟩ := arg_22 h0
  obtain ⟨x1, rfl, w1⟩ := arg_23 h1
  obtain ⟨x2, rfl, w2⟩ := arg_2 h2
  obtain ⟨x3, rfl, w3⟩ := arg_3 h3
  exact go_ravellaw18_TraceChecks_sc x0 x1 x2 x3 true (traceChecks_true w0.1 (fun p hp x hx => ((w0.2 p hp).2 x hx).2.1) w1.1)
theorem traceChecks_lifted (os : Os) (started : os.Started) (H : Type) (enc : TypeId × Value → H) :
    ReturnsInHanded {} Tryd.checked os 6 .any (fun w args => (Rows.traceChecksSpec.pre enc Tryd.prog Tryd.f6 [] false w args ∧ laidMet Tryd.prog [("ravel/life.follows", Rows.laid_ravel_life_follows)] w) ∧ sizedMet enc Tryd.prog Tryd.f6 (OpenSpec.ofChange Rows.traceChecksSpec) false w args)
      (Rows.traceChecksSpec.post enc Tryd.prog Tryd.f6 false true false false) := by
  refine law_lifted_laid (C := Tryd.checked) (tb := 4) own started (by kernel_rfl) Tryd.func6 laidOut (by kernel_rfl) rfl rfl undb ?_ ?_ ?_
  · intro ds hds
    match ds, hds with
    | [_, _, _, _], _ => rfl
  · exact ChangeSpec.witness_at (enc := enc) (C := Tryd.checked) (os := os) (X := fun w _ => laidMet Tryd.prog [("ravel/life.follows", Rows.laid_ravel_life_follows)] w) false (laidWorld os) #[.slice none 0 0, .slice none 0 0, .int .i64 0, .int .i64 0] 8 rfl (by kernel_rfl) (by kernel_rfl) (by kernel_rfl) (by kernel_rfl) (by kernel_rfl) (laidWorld_met os _)
  · intro W base args ds ps hval hA hlt hw hL
    exact law_walk (C := Tryd.checked) E_good 30 (by kernel_rfl) (fun us hus => traceChecks_any us hus) (globAt_laid hL) hval hA
theorem traceChecks_row : Rows.TraceChecksSaid :=
  OpenClaim.holds_of_wide 6 Tryd.f6 rfl rfl rfl rfl rfl rfl rfl ⟨rfl, rfl, rfl, rfl, rfl⟩ rfl rfl rfl rfl rfl (by kernel_rfl) Tryd.func6 (by kernel_rfl)
    (of_decide_eq_true (by kernel_rfl)) (by unfold Func.isWrapper; first | (rw [if_pos (by decide +kernel)]; kernel_rfl) | (rw [if_neg (by decide +kernel)]; exact ⟨rfl, rfl⟩))
    (fun os started H enc _ => traceChecks_lifted os started H enc)
theorem traceChecks_card : Rows.TraceChecksCardSaid :=
  Claim7.holds_tied_plain_at .later [] [.data] true (true, "b53fa7c9b4bcfb7151fdf4c9d70f8a8f0100cee5cf98946a3dbbfbff25e28e7d") false
    traceChecks_row (fun _ h => by cases h) (by kernel_rfl) (fun _ h => by cases h) traceChecks_row_tie rfl ⟨rfl, rfl⟩ (by kernel_rfl) rfl
    (fun f fn hf hfn => by
      obtain rfl : f = 6 := Option.some.inj ((show Tryd.prog.funcNamed "ravel/ravellaw18.TraceChecks" = some 6 by kernel_rfl).symm.trans hf) |>.symm
      obtain rfl : fn = Tryd.f6 := (Option.some.inj (Tryd.func6.symm.trans hfn)).symm
      exact ⟨by kernel_rfl, fun j t ht => by
        have hp : Tryd.f6.params = #[22, 23, 2, 3] := rfl
        rw [hp] at ht
        have hall : (#[22, 23, 2, 3] : Array Nat).all (fun t => !Tryd.prog.wantsStandIn t) = true := by kernel_rfl
        rw [Array.all_eq_true_iff_forall_mem] at hall
        have h1 : Tryd.prog.wantsStandIn t = false := by simpa using hall t (Array.mem_of_getElem? ht)
        exact h1⟩)
    (by kernel_rfl)
#print axioms traceChecks_card
end Go.Proofs.YtpkegoikocfchaaDoor
