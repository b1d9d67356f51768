/-
  DERIVED. GIVEN WITH THE SEED: THE CARDS: each row of YtechkmappabefaaDoorRows.lean that lists a variable, with what it lists TIED to the program's text (the seventh form; the later family's looks); each row that meets fmt, with fmt's text TOLD by the authors' own Lean function (tested against real Go, not proved from fmt's source: count such statements apart). THE CARD IS WHAT COUNTS. Prove the row's statement (the work); the ties are given (YtechkmappabefaaDoorTie.lean); close each card by the builder's one call (the guide's Derived/Test/ToyasCard.lean, 'card_holds'). Laid BY PROGRAM, IN A SANDBOX (cutbox-door.mjs). By AI agents, Wed Nov 11 2026. No macro, syntax, notation, axiom, sorry.
-/
import Derived.Test.YtechkmappabefaaDoorRows
import GoSem.ClaimSeven
namespace Go.Proofs.YtechkmappabefaaDoor
namespace Rows

/-- THE TIED CARD OF 'ravellaw12.LifeTraces'. -/
def lifeTracesCard : Claim7 := { stood := { row := lifeTracesRow, standIns := [], harness := (true, "923f69615a1beaee2fd4e110d847d9d54db0c86f50a656932aee0cb630b01994"), looks := false }, kinds := [], alts := [], laidByText := true, laidKinds := [.data], laidTests := true, laidLooks := .later }
def LifeTracesCardSaid : Prop := Claim7.holds Tryd.pinned (.plain (OpenSpec.ofChange lifeTracesSpec)) lifeTracesCard

/-- THE TIED CARD OF 'ravellaw12.LifeTrace'. -/
def lifeTraceCard : Claim7 := { stood := { row := lifeTraceRow, standIns := [], harness := (true, "923f69615a1beaee2fd4e110d847d9d54db0c86f50a656932aee0cb630b01994"), looks := false }, kinds := [], alts := [], laidByText := true, laidKinds := [.data], laidTests := true, laidLooks := .later }
def LifeTraceCardSaid : Prop := Claim7.holds Tryd.pinned (.plain (OpenSpec.ofChange lifeTraceSpec)) lifeTraceCard

/-- THE TIED CARD OF 'ravellaw12.LifeLegal'. -/
def lifeLegalCard : Claim7 := { stood := { row := lifeLegalRow, standIns := [], harness := (true, "923f69615a1beaee2fd4e110d847d9d54db0c86f50a656932aee0cb630b01994"), looks := false }, kinds := [], alts := [], laidByText := true, laidKinds := [.data], laidTests := true, laidLooks := .later }
def LifeLegalCardSaid : Prop := Claim7.holds Tryd.pinned (.plain (OpenSpec.ofChange lifeLegalSpec)) lifeLegalCard

/-- THE TIED CARD OF 'ravellaw12.LifeKeeps'. -/
def lifeKeepsCard : Claim7 := { stood := { row := lifeKeepsRow, standIns := [], harness := (true, "923f69615a1beaee2fd4e110d847d9d54db0c86f50a656932aee0cb630b01994"), looks := false }, kinds := [], alts := [], laidByText := true, laidKinds := [.data], laidTests := true, laidLooks := .later }
def LifeKeepsCardSaid : Prop := Claim7.holds Tryd.pinned (.plain (OpenSpec.ofChange lifeKeepsSpec)) lifeKeepsCard

/-- THE TIED CARD OF 'ravellaw12.LifeOnce'. -/
def lifeOnceCard : Claim7 := { stood := { row := lifeOnceRow, standIns := [], harness := (true, "923f69615a1beaee2fd4e110d847d9d54db0c86f50a656932aee0cb630b01994"), looks := false }, kinds := [], alts := [], laidByText := true, laidKinds := [.data], laidTests := true, laidLooks := .later }
def LifeOnceCardSaid : Prop := Claim7.holds Tryd.pinned (.plain (OpenSpec.ofChange lifeOnceSpec)) lifeOnceCard

/-- THE TIED CARD OF 'ravellaw12.LifeMoves'. -/
def lifeMovesCard : Claim7 := { stood := { row := lifeMovesRow, standIns := [], harness := (true, "923f69615a1beaee2fd4e110d847d9d54db0c86f50a656932aee0cb630b01994"), looks := false }, kinds := [], alts := [], laidByText := true, laidKinds := [.data], laidTests := true, laidLooks := .later }
def LifeMovesCardSaid : Prop := Claim7.holds Tryd.pinned (.plain (OpenSpec.ofChange lifeMovesSpec)) lifeMovesCard

/-- THE SECOND FORM's CARD OF 'ravellaw12.LifeTraces'. -/
def lifeTracesUptoCard : Claim7 := { stood := { row := lifeTracesUptoRow, standIns := [], harness := (true, "923f69615a1beaee2fd4e110d847d9d54db0c86f50a656932aee0cb630b01994"), looks := false }, kinds := [], alts := [], laidByText := true, laidKinds := [.data], laidTests := true, laidLooks := .later }
def LifeTracesUptoCardSaid : Prop := Claim7.holds Tryd.pinned (.plain (OpenSpec.upto lifeTracesSpec)) lifeTracesUptoCard

/-- THE SECOND FORM's CARD OF 'ravellaw12.LifeTrace'. -/
def lifeTraceUptoCard : Claim7 := { stood := { row := lifeTraceUptoRow, standIns := [], harness := (true, "923f69615a1beaee2fd4e110d847d9d54db0c86f50a656932aee0cb630b01994"), looks := false }, kinds := [], alts := [], laidByText := true, laidKinds := [.data], laidTests := true, laidLooks := .later }
def LifeTraceUptoCardSaid : Prop := Claim7.holds Tryd.pinned (.plain (OpenSpec.upto lifeTraceSpec)) lifeTraceUptoCard

/-- THE SECOND FORM's CARD OF 'ravellaw12.LifeLegal'. -/
def lifeLegalUptoCard : Claim7 := { stood := { row := lifeLegalUptoRow, standIns := [], harness := (true, "923f69615a1beaee2fd4e110d847d9d54db0c86f50a656932aee0cb630b01994"), looks := false }, kinds := [], alts := [], laidByText := true, laidKinds := [.data], laidTests := true, laidLooks := .later }
def LifeLegalUptoCardSaid : Prop := Claim7.holds Tryd.pinned (.plain (OpenSpec.upto lifeLegalSpec)) lifeLegalUptoCard

/-- THE SECOND FORM's CARD OF 'ravellaw12.LifeKeeps'. -/
def lifeKeepsUptoCard : Claim7 := { stood := { row := lifeKeepsUptoRow, standIns := [], harness := (true, "923f69615a1beaee2fd4e110d847d9d54db0c86f50a656932aee0cb630b01994"), looks := false }, kinds := [], alts := [], laidByText := true, laidKinds := [.data], laidTests := true, laidLooks := .later }
def LifeKeepsUptoCardSaid : Prop := Claim7.holds Tryd.pinned (.plain (OpenSpec.upto lifeKeepsSpec)) lifeKeepsUptoCard

/-- THE SECOND FORM's CARD OF 'ravellaw12.LifeOnce'. -/
def lifeOnceUptoCard : Claim7 := { stood := { row := lifeOnceUptoRow, standIns := [], harness := (true, "923f69615a1beaee2fd4e110d847d9d54db0c86f50a656932aee0cb630b01994"), looks := false }, kinds := [], alts := [], laidByText := true, laidKinds := [.data], laidTests := true, laidLooks := .later }
def LifeOnceUptoCardSaid : Prop := Claim7.holds Tryd.pinned (.plain (OpenSpec.upto lifeOnceSpec)) lifeOnceUptoCard

/-- THE SECOND FORM's CARD OF 'ravellaw12.LifeMoves'. -/
def lifeMovesUptoCard : Claim7 := { stood := { row := lifeMovesUptoRow, standIns := [], harness := (true, "923f69615a1beaee2fd4e110d847d9d54db0c86f50a656932aee0cb630b01994"), looks := false }, kinds := [], alts := [], laidByText := true, laidKinds := [.data], laidTests := true, laidLooks := .later }
def LifeMovesUptoCardSaid : Prop := Claim7.holds Tryd.pinned (.plain (OpenSpec.upto lifeMovesSpec)) lifeMovesUptoCard
end Rows
end Go.Proofs.YtechkmappabefaaDoor
