/-
  NARROWER THAN 'FOR EVERY INPUT', by the rows' own cells (each row's printed sentence says how): StepSlices: laid · StepNext: laid · StepDoes: laid · StepOrder: laid · StepEnds: laid · StepBudget: laid.
  DERIVED. THE GIVEN ROWS OF THIS SEAT. 6 by the template 'for every input the law returns true; each argument reads behind the call as it read before'; 0 by the template 'total and deterministic' (their statements: YtlekpilcgahaoaaDoorTotals.lean).
  GIVEN WITH THE SEED: the statements are not yours to turn. If you find one false, say at which input.
  Laid BY PROGRAM, IN A SANDBOX (cutbox-rows.mjs): the forced cells as the released guide's own fill.sh prints them over the translation 654be6725ec4ce33… (all of the seat's roots in one cut). By AI agents, Wed Nov 11 2026. No macro, syntax, notation, axiom, sorry.
-/
import Derived.Test.YtlekpilcgahaoaaDoorChecked
import GoSem.Claim
import GoSem.ClaimJoined
import GoSem.ClaimMapViews
import Derived.JoinedTies
import Derived.KernelRfl
namespace Go.Proofs.YtlekpilcgahaoaaDoor
/- THE CELL 'sum', in the pinned program and in every row, IS THE sha256 OF THE DUMP (.gsa) THAT YtlekpilcgahaoaaDoorProg.lean LOADS. Nothing in Lean hashes anything: it is a label: what it is worth is what the hold of that sum in a sandbox is worth. -/
noncomputable def Tryd.pinned : Pinned := { name := "ytlekpilcgahaoaadoor", sum := "654be6725ec4ce3347b626f1c10d4dcd5cc603a85454386bbf33a6adcf4903fe", checked := Tryd.checked }
namespace Rows
def none {H : Type} : Left H := { results := [], args := [] }

/- WHAT THE LISTED PACKAGE-LEVEL VARIABLES READ AS WHEN THE CALL BEGINS. Each datum BY PROGRAM (the guide's laid-datum.mjs) off the statement by which the dump's own 'gosem.cut.vars' lays the variable. In a bare row this is a premise. The card (YtlekpilcgahaoaaDoorCards.lean) ties it to the program's text. -/
def laid_ravel_life_follows {H : Type} : DataW H := .agg [.lit (.int .u8 0), .lit (.int .u8 132), .lit (.int .u8 250), .lit (.int .u8 130), .lit (.int .u8 130), .lit (.int .u8 130), .lit (.int .u8 130), .lit (.int .u8 0)]

/-- 'ravellaw13.StepSlices': WHATEVER THE INPUT: true; the input reads as it did. -/
def stepSlicesSpec : ChangeSpec := { name := "stepSlices", fn := fun _ => fun
  | [d1, d2, d3] => { results := [.lit (.bool true)], args := [d1, d2, d3] }
  | _ => none }
def stepSlicesRow : OpenClaim := { program := "ytlekpilcgahaoaadoor", sum := "654be6725ec4ce3347b626f1c10d4dcd5cc603a85454386bbf33a6adcf4903fe", func := "ravel/ravellaw13.StepSlices", spec := "stepSlices", unfollowed := true, recurses := true, named := ["ravel/life.follows"], apart := false, laid := [("ravel/life.follows", laid_ravel_life_follows)] }
def StepSlicesSaid : Prop := stepSlicesRow.holds Tryd.pinned (OpenSpec.ofChange stepSlicesSpec)

/-- ITS FALSE NEIGHBOUR: 'it returns false'. Refute it at one input. -/
def stepSlicesWrong : ChangeSpec := { name := "stepSlices", fn := fun _ => fun
  | [d1, d2, d3] => { results := [.lit (.bool false)], args := [d1, d2, d3] }
  | _ => none }
def StepSlicesWrongFalsely : Prop := stepSlicesRow.holds Tryd.pinned (OpenSpec.ofChange stepSlicesWrong)

/-- 'ravellaw13.StepNext': WHATEVER THE INPUT: true; the input reads as it did. -/
def stepNextSpec : ChangeSpec := { name := "stepNext", fn := fun _ => fun
  | [d1, d2, d3, d4] => { results := [.lit (.bool true)], args := [d1, d2, d3, d4] }
  | _ => none }
def stepNextRow : OpenClaim := { program := "ytlekpilcgahaoaadoor", sum := "654be6725ec4ce3347b626f1c10d4dcd5cc603a85454386bbf33a6adcf4903fe", func := "ravel/ravellaw13.StepNext", spec := "stepNext", unfollowed := true, recurses := true, named := ["ravel/life.follows"], apart := false, laid := [("ravel/life.follows", laid_ravel_life_follows)] }
def StepNextSaid : Prop := stepNextRow.holds Tryd.pinned (OpenSpec.ofChange stepNextSpec)

/-- ITS FALSE NEIGHBOUR: 'it returns false'. Refute it at one input. -/
def stepNextWrong : ChangeSpec := { name := "stepNext", fn := fun _ => fun
  | [d1, d2, d3, d4] => { results := [.lit (.bool false)], args := [d1, d2, d3, d4] }
  | _ => none }
def StepNextWrongFalsely : Prop := stepNextRow.holds Tryd.pinned (OpenSpec.ofChange stepNextWrong)

/-- 'ravellaw13.StepDoes': WHATEVER THE INPUT: true; the input reads as it did. -/
def stepDoesSpec : ChangeSpec := { name := "stepDoes", fn := fun _ => fun
  | [d1, d2, d3] => { results := [.lit (.bool true)], args := [d1, d2, d3] }
  | _ => none }
def stepDoesRow : OpenClaim := { program := "ytlekpilcgahaoaadoor", sum := "654be6725ec4ce3347b626f1c10d4dcd5cc603a85454386bbf33a6adcf4903fe", func := "ravel/ravellaw13.StepDoes", spec := "stepDoes", unfollowed := true, recurses := true, named := ["ravel/life.follows"], apart := false, laid := [("ravel/life.follows", laid_ravel_life_follows)] }
def StepDoesSaid : Prop := stepDoesRow.holds Tryd.pinned (OpenSpec.ofChange stepDoesSpec)

/-- ITS FALSE NEIGHBOUR: 'it returns false'. Refute it at one input. -/
def stepDoesWrong : ChangeSpec := { name := "stepDoes", fn := fun _ => fun
  | [d1, d2, d3] => { results := [.lit (.bool false)], args := [d1, d2, d3] }
  | _ => none }
def StepDoesWrongFalsely : Prop := stepDoesRow.holds Tryd.pinned (OpenSpec.ofChange stepDoesWrong)

/-- 'ravellaw13.StepOrder': WHATEVER THE INPUT: true; the input reads as it did. -/
def stepOrderSpec : ChangeSpec := { name := "stepOrder", fn := fun _ => fun
  | [d1, d2] => { results := [.lit (.bool true)], args := [d1, d2] }
  | _ => none }
def stepOrderRow : OpenClaim := { program := "ytlekpilcgahaoaadoor", sum := "654be6725ec4ce3347b626f1c10d4dcd5cc603a85454386bbf33a6adcf4903fe", func := "ravel/ravellaw13.StepOrder", spec := "stepOrder", unfollowed := true, recurses := true, named := ["ravel/life.follows"], apart := false, laid := [("ravel/life.follows", laid_ravel_life_follows)] }
def StepOrderSaid : Prop := stepOrderRow.holds Tryd.pinned (OpenSpec.ofChange stepOrderSpec)

/-- ITS FALSE NEIGHBOUR: 'it returns false'. Refute it at one input. -/
def stepOrderWrong : ChangeSpec := { name := "stepOrder", fn := fun _ => fun
  | [d1, d2] => { results := [.lit (.bool false)], args := [d1, d2] }
  | _ => none }
def StepOrderWrongFalsely : Prop := stepOrderRow.holds Tryd.pinned (OpenSpec.ofChange stepOrderWrong)

/-- 'ravellaw13.StepEnds': WHATEVER THE INPUT: true; the input reads as it did. -/
def stepEndsSpec : ChangeSpec := { name := "stepEnds", fn := fun _ => fun
  | [d1, d2] => { results := [.lit (.bool true)], args := [d1, d2] }
  | _ => none }
def stepEndsRow : OpenClaim := { program := "ytlekpilcgahaoaadoor", sum := "654be6725ec4ce3347b626f1c10d4dcd5cc603a85454386bbf33a6adcf4903fe", func := "ravel/ravellaw13.StepEnds", spec := "stepEnds", unfollowed := true, recurses := true, named := ["ravel/life.follows"], apart := false, laid := [("ravel/life.follows", laid_ravel_life_follows)] }
def StepEndsSaid : Prop := stepEndsRow.holds Tryd.pinned (OpenSpec.ofChange stepEndsSpec)

/-- ITS FALSE NEIGHBOUR: 'it returns false'. Refute it at one input. -/
def stepEndsWrong : ChangeSpec := { name := "stepEnds", fn := fun _ => fun
  | [d1, d2] => { results := [.lit (.bool false)], args := [d1, d2] }
  | _ => none }
def StepEndsWrongFalsely : Prop := stepEndsRow.holds Tryd.pinned (OpenSpec.ofChange stepEndsWrong)

/-- 'ravellaw13.StepBudget': WHATEVER THE INPUT: true; the input reads as it did. -/
def stepBudgetSpec : ChangeSpec := { name := "stepBudget", fn := fun _ => fun
  | [d1, d2, d3] => { results := [.lit (.bool true)], args := [d1, d2, d3] }
  | _ => none }
def stepBudgetRow : OpenClaim := { program := "ytlekpilcgahaoaadoor", sum := "654be6725ec4ce3347b626f1c10d4dcd5cc603a85454386bbf33a6adcf4903fe", func := "ravel/ravellaw13.StepBudget", spec := "stepBudget", unfollowed := true, recurses := true, named := ["ravel/life.follows"], apart := false, laid := [("ravel/life.follows", laid_ravel_life_follows)] }
def StepBudgetSaid : Prop := stepBudgetRow.holds Tryd.pinned (OpenSpec.ofChange stepBudgetSpec)

/-- ITS FALSE NEIGHBOUR: 'it returns false'. Refute it at one input. -/
def stepBudgetWrong : ChangeSpec := { name := "stepBudget", fn := fun _ => fun
  | [d1, d2, d3] => { results := [.lit (.bool false)], args := [d1, d2, d3] }
  | _ => none }
def StepBudgetWrongFalsely : Prop := stepBudgetRow.holds Tryd.pinned (OpenSpec.ofChange stepBudgetWrong)

/- THE SECOND FORM. 'bulk': how many values and letters a reading holds, each counted each time it is reached (what is shared counts as often as it is met; a slice's spare places count too). A statement '..UptoSaid' is the law's where the arguments, and the package variables that the reading takes, are together of bulk at most 1048576: NARROWER than '..Said'. Prove '..Said' where nothing that the law and all that it calls make is longer than what came in: it says more and counts as full. Else prove '..UptoSaid'. A law counts once. -/
mutual
def uptoBulk {H : Type} : DataW H → Nat
  | .lit (.string bytes) => bytes.length + 1
  | .lit _ => 1
  | .nil => 1
  | .ptr d => uptoBulk d + 1
  | .slice elems spare => uptoBulkAll elems + uptoBulkAll spare + 1
  | .agg parts => uptoBulkAll parts + 1
  | .iface _ d => uptoBulk d + 1
  | .map entries => uptoBulkEntries entries + 1
  | .held _ => 1
def uptoBulkAll {H : Type} : List (DataW H) → Nat
  | [] => 0
  | d :: r => uptoBulk d + uptoBulkAll r
def uptoBulkEntries {H : Type} : List (Lit × DataW H) → Nat
  | [] => 0
  | x :: r => uptoBulkEntry x + uptoBulkEntries r
def uptoBulkEntry {H : Type} : Lit × DataW H → Nat
  | (.string bytes, d) => bytes.length + uptoBulk d + 1
  | (_, d) => uptoBulk d + 1
 end
def uptoSmall : (H : Type) → List (DataW H) → Bool := fun _ ds => decide (uptoBulkAll ds ≤ 1048576)
def OpenSpec.upto (s : _root_.Go.ChangeSpec) : _root_.Go.OpenSpec := { _root_.Go.OpenSpec.ofChange s with cond := some uptoSmall }

/-- 'ravellaw13.StepSlices', WHERE WHAT IT READS IS OF BULK AT MOST 1048576: true; the input reads as it did. -/
def stepSlicesUptoRow : OpenClaim := { program := "ytlekpilcgahaoaadoor", sum := "654be6725ec4ce3347b626f1c10d4dcd5cc603a85454386bbf33a6adcf4903fe", func := "ravel/ravellaw13.StepSlices", spec := "stepSlices", unfollowed := true, recurses := true, named := ["ravel/life.follows"], apart := false, laid := [("ravel/life.follows", laid_ravel_life_follows)], narrowed := true }
def StepSlicesUptoSaid : Prop := stepSlicesUptoRow.holds Tryd.pinned (OpenSpec.upto stepSlicesSpec)

/-- 'ravellaw13.StepNext', WHERE WHAT IT READS IS OF BULK AT MOST 1048576: true; the input reads as it did. -/
def stepNextUptoRow : OpenClaim := { program := "ytlekpilcgahaoaadoor", sum := "654be6725ec4ce3347b626f1c10d4dcd5cc603a85454386bbf33a6adcf4903fe", func := "ravel/ravellaw13.StepNext", spec := "stepNext", unfollowed := true, recurses := true, named := ["ravel/life.follows"], apart := false, laid := [("ravel/life.follows", laid_ravel_life_follows)], narrowed := true }
def StepNextUptoSaid : Prop := stepNextUptoRow.holds Tryd.pinned (OpenSpec.upto stepNextSpec)

/-- 'ravellaw13.StepDoes', WHERE WHAT IT READS IS OF BULK AT MOST 1048576: true; the input reads as it did. -/
def stepDoesUptoRow : OpenClaim := { program := "ytlekpilcgahaoaadoor", sum := "654be6725ec4ce3347b626f1c10d4dcd5cc603a85454386bbf33a6adcf4903fe", func := "ravel/ravellaw13.StepDoes", spec := "stepDoes", unfollowed := true, recurses := true, named := ["ravel/life.follows"], apart := false, laid := [("ravel/life.follows", laid_ravel_life_follows)], narrowed := true }
def StepDoesUptoSaid : Prop := stepDoesUptoRow.holds Tryd.pinned (OpenSpec.upto stepDoesSpec)

/-- 'ravellaw13.StepOrder', WHERE WHAT IT READS IS OF BULK AT MOST 1048576: true; the input reads as it did. -/
def stepOrderUptoRow : OpenClaim := { program := "ytlekpilcgahaoaadoor", sum := "654be6725ec4ce3347b626f1c10d4dcd5cc603a85454386bbf33a6adcf4903fe", func := "ravel/ravellaw13.StepOrder", spec := "stepOrder", unfollowed := true, recurses := true, named := ["ravel/life.follows"], apart := false, laid := [("ravel/life.follows", laid_ravel_life_follows)], narrowed := true }
def StepOrderUptoSaid : Prop := stepOrderUptoRow.holds Tryd.pinned (OpenSpec.upto stepOrderSpec)

/-- 'ravellaw13.StepEnds', WHERE WHAT IT READS IS OF BULK AT MOST 1048576: true; the input reads as it did. -/
def stepEndsUptoRow : OpenClaim := { program := "ytlekpilcgahaoaadoor", sum := "654be6725ec4ce3347b626f1c10d4dcd5cc603a85454386bbf33a6adcf4903fe", func := "ravel/ravellaw13.StepEnds", spec := "stepEnds", unfollowed := true, recurses := true, named := ["ravel/life.follows"], apart := false, laid := [("ravel/life.follows", laid_ravel_life_follows)], narrowed := true }
def StepEndsUptoSaid : Prop := stepEndsUptoRow.holds Tryd.pinned (OpenSpec.upto stepEndsSpec)

/-- 'ravellaw13.StepBudget', WHERE WHAT IT READS IS OF BULK AT MOST 1048576: true; the input reads as it did. -/
def stepBudgetUptoRow : OpenClaim := { program := "ytlekpilcgahaoaadoor", sum := "654be6725ec4ce3347b626f1c10d4dcd5cc603a85454386bbf33a6adcf4903fe", func := "ravel/ravellaw13.StepBudget", spec := "stepBudget", unfollowed := true, recurses := true, named := ["ravel/life.follows"], apart := false, laid := [("ravel/life.follows", laid_ravel_life_follows)], narrowed := true }
def StepBudgetUptoSaid : Prop := stepBudgetUptoRow.holds Tryd.pinned (OpenSpec.upto stepBudgetSpec)

end Rows
end Go.Proofs.YtlekpilcgahaoaaDoor
