/-
  DERIVED. GIVEN WITH THE SEED: THE CARDS: each row of YtpkegoikocfchaaDoorRows.lean that lists a variable, with what it lists TIED to the program's text (the seventh form; the later family's looks); each row that meets fmt, with fmt's text TOLD by the authors' own Lean function (tested against real Go, not proved from fmt's source: count such statements apart). THE CARD IS WHAT COUNTS. Prove the row's statement (the work); the ties are given (YtpkegoikocfchaaDoorTie.lean); close each card by the builder's one call (the guide's Derived/Test/ToyasCard.lean, 'card_holds'). Laid BY PROGRAM, IN A SANDBOX (cutbox-door.mjs). By AI agents, Wed Nov 11 2026. No macro, syntax, notation, axiom, sorry.
-/
import Derived.Test.YtpkegoikocfchaaDoorRows
import GoSem.ClaimSeven
namespace Go.Proofs.YtpkegoikocfchaaDoor
namespace Rows

/-- THE TIED CARD OF 'ravellaw18.TracePrefix'. -/
def tracePrefixCard : Claim7 := { stood := { row := tracePrefixRow, standIns := [], harness := (true, "b53fa7c9b4bcfb7151fdf4c9d70f8a8f0100cee5cf98946a3dbbfbff25e28e7d"), looks := false }, kinds := [], alts := [], laidByText := true, laidKinds := [.data], laidTests := true, laidLooks := .later }
def TracePrefixCardSaid : Prop := Claim7.holds Tryd.pinned (.plain (OpenSpec.ofChange tracePrefixSpec)) tracePrefixCard

/-- THE TIED CARD OF 'ravellaw18.TraceAlone'. -/
def traceAloneCard : Claim7 := { stood := { row := traceAloneRow, standIns := [], harness := (true, "b53fa7c9b4bcfb7151fdf4c9d70f8a8f0100cee5cf98946a3dbbfbff25e28e7d"), looks := false }, kinds := [], alts := [], laidByText := true, laidKinds := [.data], laidTests := true, laidLooks := .later }
def TraceAloneCardSaid : Prop := Claim7.holds Tryd.pinned (.plain (OpenSpec.ofChange traceAloneSpec)) traceAloneCard

/-- THE TIED CARD OF 'ravellaw18.TraceMore'. -/
def traceMoreCard : Claim7 := { stood := { row := traceMoreRow, standIns := [], harness := (true, "b53fa7c9b4bcfb7151fdf4c9d70f8a8f0100cee5cf98946a3dbbfbff25e28e7d"), looks := false }, kinds := [], alts := [], laidByText := true, laidKinds := [.data], laidTests := true, laidLooks := .later }
def TraceMoreCardSaid : Prop := Claim7.holds Tryd.pinned (.plain (OpenSpec.ofChange traceMoreSpec)) traceMoreCard

/-- THE TIED CARD OF 'ravellaw18.TraceChecks'. -/
def traceChecksCard : Claim7 := { stood := { row := traceChecksRow, standIns := [], harness := (true, "b53fa7c9b4bcfb7151fdf4c9d70f8a8f0100cee5cf98946a3dbbfbff25e28e7d"), looks := false }, kinds := [], alts := [], laidByText := true, laidKinds := [.data], laidTests := true, laidLooks := .later }
def TraceChecksCardSaid : Prop := Claim7.holds Tryd.pinned (.plain (OpenSpec.ofChange traceChecksSpec)) traceChecksCard

/-- THE TIED CARD OF 'ravellaw18.TraceWaits'. -/
def traceWaitsCard : Claim7 := { stood := { row := traceWaitsRow, standIns := [], harness := (true, "b53fa7c9b4bcfb7151fdf4c9d70f8a8f0100cee5cf98946a3dbbfbff25e28e7d"), looks := false }, kinds := [], alts := [], laidByText := true, laidKinds := [.data], laidTests := true, laidLooks := .later }
def TraceWaitsCardSaid : Prop := Claim7.holds Tryd.pinned (.plain (OpenSpec.ofChange traceWaitsSpec)) traceWaitsCard

/-- THE TIED CARD OF 'ravellaw18.TraceEnds'. -/
def traceEndsCard : Claim7 := { stood := { row := traceEndsRow, standIns := [], harness := (true, "b53fa7c9b4bcfb7151fdf4c9d70f8a8f0100cee5cf98946a3dbbfbff25e28e7d"), looks := false }, kinds := [], alts := [], laidByText := true, laidKinds := [.data], laidTests := true, laidLooks := .later }
def TraceEndsCardSaid : Prop := Claim7.holds Tryd.pinned (.plain (OpenSpec.ofChange traceEndsSpec)) traceEndsCard

/-- THE SECOND FORM's CARD OF 'ravellaw18.TracePrefix'. -/
def tracePrefixUptoCard : Claim7 := { stood := { row := tracePrefixUptoRow, standIns := [], harness := (true, "b53fa7c9b4bcfb7151fdf4c9d70f8a8f0100cee5cf98946a3dbbfbff25e28e7d"), looks := false }, kinds := [], alts := [], laidByText := true, laidKinds := [.data], laidTests := true, laidLooks := .later }
def TracePrefixUptoCardSaid : Prop := Claim7.holds Tryd.pinned (.plain (OpenSpec.upto tracePrefixSpec)) tracePrefixUptoCard

/-- THE SECOND FORM's CARD OF 'ravellaw18.TraceAlone'. -/
def traceAloneUptoCard : Claim7 := { stood := { row := traceAloneUptoRow, standIns := [], harness := (true, "b53fa7c9b4bcfb7151fdf4c9d70f8a8f0100cee5cf98946a3dbbfbff25e28e7d"), looks := false }, kinds := [], alts := [], laidByText := true, laidKinds := [.data], laidTests := true, laidLooks := .later }
def TraceAloneUptoCardSaid : Prop := Claim7.holds Tryd.pinned (.plain (OpenSpec.upto traceAloneSpec)) traceAloneUptoCard

/-- THE SECOND FORM's CARD OF 'ravellaw18.TraceMore'. -/
def traceMoreUptoCard : Claim7 := { stood := { row := traceMoreUptoRow, standIns := [], harness := (true, "b53fa7c9b4bcfb7151fdf4c9d70f8a8f0100cee5cf98946a3dbbfbff25e28e7d"), looks := false }, kinds := [], alts := [], laidByText := true, laidKinds := [.data], laidTests := true, laidLooks := .later }
def TraceMoreUptoCardSaid : Prop := Claim7.holds Tryd.pinned (.plain (OpenSpec.upto traceMoreSpec)) traceMoreUptoCard

/-- THE SECOND FORM's CARD OF 'ravellaw18.TraceChecks'. -/
def traceChecksUptoCard : Claim7 := { stood := { row := traceChecksUptoRow, standIns := [], harness := (true, "b53fa7c9b4bcfb7151fdf4c9d70f8a8f0100cee5cf98946a3dbbfbff25e28e7d"), looks := false }, kinds := [], alts := [], laidByText := true, laidKinds := [.data], laidTests := true, laidLooks := .later }
def TraceChecksUptoCardSaid : Prop := Claim7.holds Tryd.pinned (.plain (OpenSpec.upto traceChecksSpec)) traceChecksUptoCard

/-- THE SECOND FORM's CARD OF 'ravellaw18.TraceWaits'. -/
def traceWaitsUptoCard : Claim7 := { stood := { row := traceWaitsUptoRow, standIns := [], harness := (true, "b53fa7c9b4bcfb7151fdf4c9d70f8a8f0100cee5cf98946a3dbbfbff25e28e7d"), looks := false }, kinds := [], alts := [], laidByText := true, laidKinds := [.data], laidTests := true, laidLooks := .later }
def TraceWaitsUptoCardSaid : Prop := Claim7.holds Tryd.pinned (.plain (OpenSpec.upto traceWaitsSpec)) traceWaitsUptoCard

/-- THE SECOND FORM's CARD OF 'ravellaw18.TraceEnds'. -/
def traceEndsUptoCard : Claim7 := { stood := { row := traceEndsUptoRow, standIns := [], harness := (true, "b53fa7c9b4bcfb7151fdf4c9d70f8a8f0100cee5cf98946a3dbbfbff25e28e7d"), looks := false }, kinds := [], alts := [], laidByText := true, laidKinds := [.data], laidTests := true, laidLooks := .later }
def TraceEndsUptoCardSaid : Prop := Claim7.holds Tryd.pinned (.plain (OpenSpec.upto traceEndsSpec)) traceEndsUptoCard
end Rows
end Go.Proofs.YtpkegoikocfchaaDoor
