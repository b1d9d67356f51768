/-
  No cell of these rows narrows 'for every input' (looked for: loops, veiled, ifaces, maps, wideKeys, modest, calm, conditions, laid).
  DERIVED. THE GIVEN ROWS OF THIS SEAT. 5 by the template 'for every input the law returns true; each argument reads behind the call as it read before'; 0 by the template 'total and deterministic' (their statements: YtgbolkdlghenfaaTotals.lean).
  GIVEN WITH THE SEED: the statements are not yours to turn. If you find one false, say at which input.
  Laid BY PROGRAM, IN A SANDBOX (cutbox-rows.mjs): the forced cells as the released guide's own fill.sh prints them over the translation df549725bec7d6b4… (all of the seat's roots in one cut). By AI agents, Wed Nov 11 2026. No macro, syntax, notation, axiom, sorry.
-/
import Derived.Test.YtgbolkdlghenfaaChecked
import GoSem.Claim
import GoSem.ClaimJoined
import GoSem.ClaimMapViews
import Derived.JoinedTies
import Derived.KernelRfl
namespace Go.Proofs.Ytgbolkdlghenfaa
/- THE CELL 'sum', in the pinned program and in every row, IS THE sha256 OF THE DUMP (.gsa) THAT YtgbolkdlghenfaaProg.lean LOADS. Nothing in Lean hashes anything: it is a label: what it is worth is what the hold of that sum in a sandbox is worth. -/
noncomputable def Try.pinned : Pinned := { name := "ytgbolkdlghenfaa", sum := "df549725bec7d6b49570803c0fb800b4a6a50f6a13b955457f8da231d0c44fcc", checked := Try.checked }
namespace Rows
def none {H : Type} : Left H := { results := [], args := [] }

/-- 'ravellaw01.CellEach': WHATEVER THE INPUT: true; the input reads as it did. -/
def cellEachSpec : ChangeSpec := { name := "cellEach", fn := fun _ => fun
  | [d1, d2, d3, d4] => { results := [.lit (.bool true)], args := [d1, d2, d3, d4] }
  | _ => none }
def cellEachRow : OpenClaim := { program := "ytgbolkdlghenfaa", sum := "df549725bec7d6b49570803c0fb800b4a6a50f6a13b955457f8da231d0c44fcc", func := "ravel/ravellaw01.CellEach", spec := "cellEach", apart := false }
def CellEachSaid : Prop := cellEachRow.holds Try.pinned (OpenSpec.ofChange cellEachSpec)

/-- ITS FALSE NEIGHBOUR: 'it returns false'. Refute it at one input. -/
def cellEachWrong : ChangeSpec := { name := "cellEach", fn := fun _ => fun
  | [d1, d2, d3, d4] => { results := [.lit (.bool false)], args := [d1, d2, d3, d4] }
  | _ => none }
def CellEachWrongFalsely : Prop := cellEachRow.holds Try.pinned (OpenSpec.ofChange cellEachWrong)

/-- 'ravellaw01.CellBack': WHATEVER THE INPUT: true; the input reads as it did. -/
def cellBackSpec : ChangeSpec := { name := "cellBack", fn := fun _ => fun
  | [d1, d2, d3, d4, d5] => { results := [.lit (.bool true)], args := [d1, d2, d3, d4, d5] }
  | _ => none }
def cellBackRow : OpenClaim := { program := "ytgbolkdlghenfaa", sum := "df549725bec7d6b49570803c0fb800b4a6a50f6a13b955457f8da231d0c44fcc", func := "ravel/ravellaw01.CellBack", spec := "cellBack", apart := false }
def CellBackSaid : Prop := cellBackRow.holds Try.pinned (OpenSpec.ofChange cellBackSpec)

/-- ITS FALSE NEIGHBOUR: 'it returns false'. Refute it at one input. -/
def cellBackWrong : ChangeSpec := { name := "cellBack", fn := fun _ => fun
  | [d1, d2, d3, d4, d5] => { results := [.lit (.bool false)], args := [d1, d2, d3, d4, d5] }
  | _ => none }
def CellBackWrongFalsely : Prop := cellBackRow.holds Try.pinned (OpenSpec.ofChange cellBackWrong)

/-- 'ravellaw01.CellSwap': WHATEVER THE INPUT: true; the input reads as it did. -/
def cellSwapSpec : ChangeSpec := { name := "cellSwap", fn := fun _ => fun
  | [d1, d2, d3, d4] => { results := [.lit (.bool true)], args := [d1, d2, d3, d4] }
  | _ => none }
def cellSwapRow : OpenClaim := { program := "ytgbolkdlghenfaa", sum := "df549725bec7d6b49570803c0fb800b4a6a50f6a13b955457f8da231d0c44fcc", func := "ravel/ravellaw01.CellSwap", spec := "cellSwap", apart := false }
def CellSwapSaid : Prop := cellSwapRow.holds Try.pinned (OpenSpec.ofChange cellSwapSpec)

/-- ITS FALSE NEIGHBOUR: 'it returns false'. Refute it at one input. -/
def cellSwapWrong : ChangeSpec := { name := "cellSwap", fn := fun _ => fun
  | [d1, d2, d3, d4] => { results := [.lit (.bool false)], args := [d1, d2, d3, d4] }
  | _ => none }
def CellSwapWrongFalsely : Prop := cellSwapRow.holds Try.pinned (OpenSpec.ofChange cellSwapWrong)

/-- 'ravellaw01.CellDoes': WHATEVER THE INPUT: true; the input reads as it did. -/
def cellDoesSpec : ChangeSpec := { name := "cellDoes", fn := fun _ => fun
  | [d1, d2, d3, d4] => { results := [.lit (.bool true)], args := [d1, d2, d3, d4] }
  | _ => none }
def cellDoesRow : OpenClaim := { program := "ytgbolkdlghenfaa", sum := "df549725bec7d6b49570803c0fb800b4a6a50f6a13b955457f8da231d0c44fcc", func := "ravel/ravellaw01.CellDoes", spec := "cellDoes", apart := false }
def CellDoesSaid : Prop := cellDoesRow.holds Try.pinned (OpenSpec.ofChange cellDoesSpec)

/-- ITS FALSE NEIGHBOUR: 'it returns false'. Refute it at one input. -/
def cellDoesWrong : ChangeSpec := { name := "cellDoes", fn := fun _ => fun
  | [d1, d2, d3, d4] => { results := [.lit (.bool false)], args := [d1, d2, d3, d4] }
  | _ => none }
def CellDoesWrongFalsely : Prop := cellDoesRow.holds Try.pinned (OpenSpec.ofChange cellDoesWrong)

/-- 'ravellaw01.CellRuns': WHATEVER THE INPUT: true; the input reads as it did. -/
def cellRunsSpec : ChangeSpec := { name := "cellRuns", fn := fun _ => fun
  | [d1, d2] => { results := [.lit (.bool true)], args := [d1, d2] }
  | _ => none }
def cellRunsRow : OpenClaim := { program := "ytgbolkdlghenfaa", sum := "df549725bec7d6b49570803c0fb800b4a6a50f6a13b955457f8da231d0c44fcc", func := "ravel/ravellaw01.CellRuns", spec := "cellRuns", apart := false }
def CellRunsSaid : Prop := cellRunsRow.holds Try.pinned (OpenSpec.ofChange cellRunsSpec)

/-- ITS FALSE NEIGHBOUR: 'it returns false'. Refute it at one input. -/
def cellRunsWrong : ChangeSpec := { name := "cellRuns", fn := fun _ => fun
  | [d1, d2] => { results := [.lit (.bool false)], args := [d1, d2] }
  | _ => none }
def CellRunsWrongFalsely : Prop := cellRunsRow.holds Try.pinned (OpenSpec.ofChange cellRunsWrong)

/- THE SECOND FORM. 'bulk': how many values and letters a reading holds, each counted each time it is reached (what is shared counts as often as it is met; a slice's spare places count too). A statement '..UptoSaid' is the law's where the arguments, and the package variables that the reading takes, are together of bulk at most 1048576: NARROWER than '..Said'. Prove '..Said' where nothing that the law and all that it calls make is longer than what came in: it says more and counts as full. Else prove '..UptoSaid'. A law counts once. -/
mutual
def uptoBulk {H : Type} : DataW H → Nat
  | .lit (.string bytes) => bytes.length + 1
  | .lit _ => 1
  | .nil => 1
  | .ptr d => uptoBulk d + 1
  | .slice elems spare => uptoBulkAll elems + uptoBulkAll spare + 1
  | .agg parts => uptoBulkAll parts + 1
  | .iface _ d => uptoBulk d + 1
  | .map entries => uptoBulkEntries entries + 1
  | .held _ => 1
def uptoBulkAll {H : Type} : List (DataW H) → Nat
  | [] => 0
  | d :: r => uptoBulk d + uptoBulkAll r
def uptoBulkEntries {H : Type} : List (Lit × DataW H) → Nat
  | [] => 0
  | x :: r => uptoBulkEntry x + uptoBulkEntries r
def uptoBulkEntry {H : Type} : Lit × DataW H → Nat
  | (.string bytes, d) => bytes.length + uptoBulk d + 1
  | (_, d) => uptoBulk d + 1
 end
def uptoSmall : (H : Type) → List (DataW H) → Bool := fun _ ds => decide (uptoBulkAll ds ≤ 1048576)
def OpenSpec.upto (s : _root_.Go.ChangeSpec) : _root_.Go.OpenSpec := { _root_.Go.OpenSpec.ofChange s with cond := some uptoSmall }

/-- 'ravellaw01.CellEach', WHERE WHAT IT READS IS OF BULK AT MOST 1048576: true; the input reads as it did. -/
def cellEachUptoRow : OpenClaim := { program := "ytgbolkdlghenfaa", sum := "df549725bec7d6b49570803c0fb800b4a6a50f6a13b955457f8da231d0c44fcc", func := "ravel/ravellaw01.CellEach", spec := "cellEach", apart := false, narrowed := true }
def CellEachUptoSaid : Prop := cellEachUptoRow.holds Try.pinned (OpenSpec.upto cellEachSpec)

/-- 'ravellaw01.CellBack', WHERE WHAT IT READS IS OF BULK AT MOST 1048576: true; the input reads as it did. -/
def cellBackUptoRow : OpenClaim := { program := "ytgbolkdlghenfaa", sum := "df549725bec7d6b49570803c0fb800b4a6a50f6a13b955457f8da231d0c44fcc", func := "ravel/ravellaw01.CellBack", spec := "cellBack", apart := false, narrowed := true }
def CellBackUptoSaid : Prop := cellBackUptoRow.holds Try.pinned (OpenSpec.upto cellBackSpec)

/-- 'ravellaw01.CellSwap', WHERE WHAT IT READS IS OF BULK AT MOST 1048576: true; the input reads as it did. -/
def cellSwapUptoRow : OpenClaim := { program := "ytgbolkdlghenfaa", sum := "df549725bec7d6b49570803c0fb800b4a6a50f6a13b955457f8da231d0c44fcc", func := "ravel/ravellaw01.CellSwap", spec := "cellSwap", apart := false, narrowed := true }
def CellSwapUptoSaid : Prop := cellSwapUptoRow.holds Try.pinned (OpenSpec.upto cellSwapSpec)

/-- 'ravellaw01.CellDoes', WHERE WHAT IT READS IS OF BULK AT MOST 1048576: true; the input reads as it did. -/
def cellDoesUptoRow : OpenClaim := { program := "ytgbolkdlghenfaa", sum := "df549725bec7d6b49570803c0fb800b4a6a50f6a13b955457f8da231d0c44fcc", func := "ravel/ravellaw01.CellDoes", spec := "cellDoes", apart := false, narrowed := true }
def CellDoesUptoSaid : Prop := cellDoesUptoRow.holds Try.pinned (OpenSpec.upto cellDoesSpec)

/-- 'ravellaw01.CellRuns', WHERE WHAT IT READS IS OF BULK AT MOST 1048576: true; the input reads as it did. -/
def cellRunsUptoRow : OpenClaim := { program := "ytgbolkdlghenfaa", sum := "df549725bec7d6b49570803c0fb800b4a6a50f6a13b955457f8da231d0c44fcc", func := "ravel/ravellaw01.CellRuns", spec := "cellRuns", apart := false, narrowed := true }
def CellRunsUptoSaid : Prop := cellRunsUptoRow.holds Try.pinned (OpenSpec.upto cellRunsSpec)

end Rows
end Go.Proofs.Ytgbolkdlghenfaa
