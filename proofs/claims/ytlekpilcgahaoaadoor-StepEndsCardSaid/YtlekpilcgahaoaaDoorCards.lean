/-
  DERIVED. GIVEN WITH THE SEED: THE CARDS: each row of YtlekpilcgahaoaaDoorRows.lean that lists a variable, with what it lists TIED to the program's text (the seventh form; the later family's looks); each row that meets fmt, with fmt's text TOLD by the authors' own Lean function (tested against real Go, not proved from fmt's source: count such statements apart). THE CARD IS WHAT COUNTS. Prove the row's statement (the work); the ties are given (YtlekpilcgahaoaaDoorTie.lean); close each card by the builder's one call (the guide's Derived/Test/ToyasCard.lean, 'card_holds'). Laid BY PROGRAM, IN A SANDBOX (cutbox-door.mjs). By AI agents, Wed Nov 11 2026. No macro, syntax, notation, axiom, sorry.
-/
import Derived.Test.YtlekpilcgahaoaaDoorRows
import GoSem.ClaimSeven
namespace Go.Proofs.YtlekpilcgahaoaaDoor
namespace Rows

/-- THE TIED CARD OF 'ravellaw13.StepSlices'. -/
def stepSlicesCard : Claim7 := { stood := { row := stepSlicesRow, standIns := [], harness := (true, "4b39d6131097ab2781909aacc7655ef933988a408929b3919e0f6b1a4239c58d"), looks := false }, kinds := [], alts := [], laidByText := true, laidKinds := [.data], laidTests := true, laidLooks := .later }
def StepSlicesCardSaid : Prop := Claim7.holds Tryd.pinned (.plain (OpenSpec.ofChange stepSlicesSpec)) stepSlicesCard

/-- THE TIED CARD OF 'ravellaw13.StepNext'. -/
def stepNextCard : Claim7 := { stood := { row := stepNextRow, standIns := [], harness := (true, "4b39d6131097ab2781909aacc7655ef933988a408929b3919e0f6b1a4239c58d"), looks := false }, kinds := [], alts := [], laidByText := true, laidKinds := [.data], laidTests := true, laidLooks := .later }
def StepNextCardSaid : Prop := Claim7.holds Tryd.pinned (.plain (OpenSpec.ofChange stepNextSpec)) stepNextCard

/-- THE TIED CARD OF 'ravellaw13.StepDoes'. -/
def stepDoesCard : Claim7 := { stood := { row := stepDoesRow, standIns := [], harness := (true, "4b39d6131097ab2781909aacc7655ef933988a408929b3919e0f6b1a4239c58d"), looks := false }, kinds := [], alts := [], laidByText := true, laidKinds := [.data], laidTests := true, laidLooks := .later }
def StepDoesCardSaid : Prop := Claim7.holds Tryd.pinned (.plain (OpenSpec.ofChange stepDoesSpec)) stepDoesCard

/-- THE TIED CARD OF 'ravellaw13.StepOrder'. -/
def stepOrderCard : Claim7 := { stood := { row := stepOrderRow, standIns := [], harness := (true, "4b39d6131097ab2781909aacc7655ef933988a408929b3919e0f6b1a4239c58d"), looks := false }, kinds := [], alts := [], laidByText := true, laidKinds := [.data], laidTests := true, laidLooks := .later }
def StepOrderCardSaid : Prop := Claim7.holds Tryd.pinned (.plain (OpenSpec.ofChange stepOrderSpec)) stepOrderCard

/-- THE TIED CARD OF 'ravellaw13.StepEnds'. -/
def stepEndsCard : Claim7 := { stood := { row := stepEndsRow, standIns := [], harness := (true, "4b39d6131097ab2781909aacc7655ef933988a408929b3919e0f6b1a4239c58d"), looks := false }, kinds := [], alts := [], laidByText := true, laidKinds := [.data], laidTests := true, laidLooks := .later }
def StepEndsCardSaid : Prop := Claim7.holds Tryd.pinned (.plain (OpenSpec.ofChange stepEndsSpec)) stepEndsCard

/-- THE TIED CARD OF 'ravellaw13.StepBudget'. -/
def stepBudgetCard : Claim7 := { stood := { row := stepBudgetRow, standIns := [], harness := (true, "4b39d6131097ab2781909aacc7655ef933988a408929b3919e0f6b1a4239c58d"), looks := false }, kinds := [], alts := [], laidByText := true, laidKinds := [.data], laidTests := true, laidLooks := .later }
def StepBudgetCardSaid : Prop := Claim7.holds Tryd.pinned (.plain (OpenSpec.ofChange stepBudgetSpec)) stepBudgetCard

/-- THE SECOND FORM's CARD OF 'ravellaw13.StepSlices'. -/
def stepSlicesUptoCard : Claim7 := { stood := { row := stepSlicesUptoRow, standIns := [], harness := (true, "4b39d6131097ab2781909aacc7655ef933988a408929b3919e0f6b1a4239c58d"), looks := false }, kinds := [], alts := [], laidByText := true, laidKinds := [.data], laidTests := true, laidLooks := .later }
def StepSlicesUptoCardSaid : Prop := Claim7.holds Tryd.pinned (.plain (OpenSpec.upto stepSlicesSpec)) stepSlicesUptoCard

/-- THE SECOND FORM's CARD OF 'ravellaw13.StepNext'. -/
def stepNextUptoCard : Claim7 := { stood := { row := stepNextUptoRow, standIns := [], harness := (true, "4b39d6131097ab2781909aacc7655ef933988a408929b3919e0f6b1a4239c58d"), looks := false }, kinds := [], alts := [], laidByText := true, laidKinds := [.data], laidTests := true, laidLooks := .later }
def StepNextUptoCardSaid : Prop := Claim7.holds Tryd.pinned (.plain (OpenSpec.upto stepNextSpec)) stepNextUptoCard

/-- THE SECOND FORM's CARD OF 'ravellaw13.StepDoes'. -/
def stepDoesUptoCard : Claim7 := { stood := { row := stepDoesUptoRow, standIns := [], harness := (true, "4b39d6131097ab2781909aacc7655ef933988a408929b3919e0f6b1a4239c58d"), looks := false }, kinds := [], alts := [], laidByText := true, laidKinds := [.data], laidTests := true, laidLooks := .later }
def StepDoesUptoCardSaid : Prop := Claim7.holds Tryd.pinned (.plain (OpenSpec.upto stepDoesSpec)) stepDoesUptoCard

/-- THE SECOND FORM's CARD OF 'ravellaw13.StepOrder'. -/
def stepOrderUptoCard : Claim7 := { stood := { row := stepOrderUptoRow, standIns := [], harness := (true, "4b39d6131097ab2781909aacc7655ef933988a408929b3919e0f6b1a4239c58d"), looks := false }, kinds := [], alts := [], laidByText := true, laidKinds := [.data], laidTests := true, laidLooks := .later }
def StepOrderUptoCardSaid : Prop := Claim7.holds Tryd.pinned (.plain (OpenSpec.upto stepOrderSpec)) stepOrderUptoCard

/-- THE SECOND FORM's CARD OF 'ravellaw13.StepEnds'. -/
def stepEndsUptoCard : Claim7 := { stood := { row := stepEndsUptoRow, standIns := [], harness := (true, "4b39d6131097ab2781909aacc7655ef933988a408929b3919e0f6b1a4239c58d"), looks := false }, kinds := [], alts := [], laidByText := true, laidKinds := [.data], laidTests := true, laidLooks := .later }
def StepEndsUptoCardSaid : Prop := Claim7.holds Tryd.pinned (.plain (OpenSpec.upto stepEndsSpec)) stepEndsUptoCard

/-- THE SECOND FORM's CARD OF 'ravellaw13.StepBudget'. -/
def stepBudgetUptoCard : Claim7 := { stood := { row := stepBudgetUptoRow, standIns := [], harness := (true, "4b39d6131097ab2781909aacc7655ef933988a408929b3919e0f6b1a4239c58d"), looks := false }, kinds := [], alts := [], laidByText := true, laidKinds := [.data], laidTests := true, laidLooks := .later }
def StepBudgetUptoCardSaid : Prop := Claim7.holds Tryd.pinned (.plain (OpenSpec.upto stepBudgetSpec)) stepBudgetUptoCard
end Rows
end Go.Proofs.YtlekpilcgahaoaaDoor
