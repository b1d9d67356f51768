/-
  No cell of these rows narrows 'for every input' (looked for: loops, veiled, ifaces, maps, wideKeys, modest, calm, conditions, laid).
  DERIVED. THE GIVEN ROWS OF THIS SEAT. 4 by the template 'for every input the law returns true; each argument reads behind the call as it read before'; 0 by the template 'total and deterministic' (their statements: YtoapmmcoaggekaaTotals.lean).
  GIVEN WITH THE SEED: the statements are not yours to turn. If you find one false, say at which input.
  Laid BY PROGRAM, IN A SANDBOX (cutbox-rows.mjs): the forced cells as the released guide's own fill.sh prints them over the translation fb493010671dcd88… (all of the seat's roots in one cut). By AI agents, Wed Nov 11 2026. No macro, syntax, notation, axiom, sorry.
-/
import Derived.Test.YtoapmmcoaggekaaChecked
import GoSem.Claim
import GoSem.ClaimJoined
import GoSem.ClaimMapViews
import Derived.JoinedTies
import Derived.KernelRfl
namespace Go.Proofs.Ytoapmmcoaggekaa
/- THE CELL 'sum', in the pinned program and in every row, IS THE sha256 OF THE DUMP (.gsa) THAT YtoapmmcoaggekaaProg.lean LOADS. Nothing in Lean hashes anything: it is a label: what it is worth is what the hold of that sum in a sandbox is worth. -/
noncomputable def Try.pinned : Pinned := { name := "ytoapmmcoaggekaa", sum := "fb493010671dcd88086a3faa9f67c5ea3817c9744685afcf209f2a1ff6f5be89", checked := Try.checked }
namespace Rows
def none {H : Type} : Left H := { results := [], args := [] }

/-- 'ravellaw07.RingSteps': WHATEVER THE INPUT: true; the input reads as it did. -/
def ringStepsSpec : ChangeSpec := { name := "ringSteps", fn := fun _ => fun
  | [d1, d2, d3, d4, d5] => { results := [.lit (.bool true)], args := [d1, d2, d3, d4, d5] }
  | _ => none }
def ringStepsRow : OpenClaim := { program := "ytoapmmcoaggekaa", sum := "fb493010671dcd88086a3faa9f67c5ea3817c9744685afcf209f2a1ff6f5be89", func := "ravel/ravellaw07.RingSteps", spec := "ringSteps", unfollowed := true, recurses := true, apart := false }
def RingStepsSaid : Prop := ringStepsRow.holds Try.pinned (OpenSpec.ofChange ringStepsSpec)

/-- ITS FALSE NEIGHBOUR: 'it returns false'. Refute it at one input. -/
def ringStepsWrong : ChangeSpec := { name := "ringSteps", fn := fun _ => fun
  | [d1, d2, d3, d4, d5] => { results := [.lit (.bool false)], args := [d1, d2, d3, d4, d5] }
  | _ => none }
def RingStepsWrongFalsely : Prop := ringStepsRow.holds Try.pinned (OpenSpec.ofChange ringStepsWrong)

/-- 'ravellaw07.RingLists': WHATEVER THE INPUT: true; the input reads as it did. -/
def ringListsSpec : ChangeSpec := { name := "ringLists", fn := fun _ => fun
  | [d1, d2] => { results := [.lit (.bool true)], args := [d1, d2] }
  | _ => none }
def ringListsRow : OpenClaim := { program := "ytoapmmcoaggekaa", sum := "fb493010671dcd88086a3faa9f67c5ea3817c9744685afcf209f2a1ff6f5be89", func := "ravel/ravellaw07.RingLists", spec := "ringLists", unfollowed := true, recurses := true, apart := false }
def RingListsSaid : Prop := ringListsRow.holds Try.pinned (OpenSpec.ofChange ringListsSpec)

/-- ITS FALSE NEIGHBOUR: 'it returns false'. Refute it at one input. -/
def ringListsWrong : ChangeSpec := { name := "ringLists", fn := fun _ => fun
  | [d1, d2] => { results := [.lit (.bool false)], args := [d1, d2] }
  | _ => none }
def RingListsWrongFalsely : Prop := ringListsRow.holds Try.pinned (OpenSpec.ofChange ringListsWrong)

/-- 'ravellaw07.RingSolo': WHATEVER THE INPUT: true; the input reads as it did. -/
def ringSoloSpec : ChangeSpec := { name := "ringSolo", fn := fun _ => fun
  | [d1, d2, d3] => { results := [.lit (.bool true)], args := [d1, d2, d3] }
  | _ => none }
def ringSoloRow : OpenClaim := { program := "ytoapmmcoaggekaa", sum := "fb493010671dcd88086a3faa9f67c5ea3817c9744685afcf209f2a1ff6f5be89", func := "ravel/ravellaw07.RingSolo", spec := "ringSolo", unfollowed := true, recurses := true, apart := false }
def RingSoloSaid : Prop := ringSoloRow.holds Try.pinned (OpenSpec.ofChange ringSoloSpec)

/-- ITS FALSE NEIGHBOUR: 'it returns false'. Refute it at one input. -/
def ringSoloWrong : ChangeSpec := { name := "ringSolo", fn := fun _ => fun
  | [d1, d2, d3] => { results := [.lit (.bool false)], args := [d1, d2, d3] }
  | _ => none }
def RingSoloWrongFalsely : Prop := ringSoloRow.holds Try.pinned (OpenSpec.ofChange ringSoloWrong)

/-- 'ravellaw07.RingOnce': WHATEVER THE INPUT: true; the input reads as it did. -/
def ringOnceSpec : ChangeSpec := { name := "ringOnce", fn := fun _ => fun
  | [d1, d2, d3] => { results := [.lit (.bool true)], args := [d1, d2, d3] }
  | _ => none }
def ringOnceRow : OpenClaim := { program := "ytoapmmcoaggekaa", sum := "fb493010671dcd88086a3faa9f67c5ea3817c9744685afcf209f2a1ff6f5be89", func := "ravel/ravellaw07.RingOnce", spec := "ringOnce", unfollowed := true, recurses := true, apart := false }
def RingOnceSaid : Prop := ringOnceRow.holds Try.pinned (OpenSpec.ofChange ringOnceSpec)

/-- ITS FALSE NEIGHBOUR: 'it returns false'. Refute it at one input. -/
def ringOnceWrong : ChangeSpec := { name := "ringOnce", fn := fun _ => fun
  | [d1, d2, d3] => { results := [.lit (.bool false)], args := [d1, d2, d3] }
  | _ => none }
def RingOnceWrongFalsely : Prop := ringOnceRow.holds Try.pinned (OpenSpec.ofChange ringOnceWrong)

/- THE SECOND FORM. 'bulk': how many values and letters a reading holds, each counted each time it is reached (what is shared counts as often as it is met; a slice's spare places count too). A statement '..UptoSaid' is the law's where the arguments, and the package variables that the reading takes, are together of bulk at most 1048576: NARROWER than '..Said'. Prove '..Said' where nothing that the law and all that it calls make is longer than what came in: it says more and counts as full. Else prove '..UptoSaid'. A law counts once. -/
mutual
def uptoBulk {H : Type} : DataW H → Nat
  | .lit (.string bytes) => bytes.length + 1
  | .lit _ => 1
  | .nil => 1
  | .ptr d => uptoBulk d + 1
  | .slice elems spare => uptoBulkAll elems + uptoBulkAll spare + 1
  | .agg parts => uptoBulkAll parts + 1
  | .iface _ d => uptoBulk d + 1
  | .map entries => uptoBulkEntries entries + 1
  | .held _ => 1
def uptoBulkAll {H : Type} : List (DataW H) → Nat
  | [] => 0
  | d :: r => uptoBulk d + uptoBulkAll r
def uptoBulkEntries {H : Type} : List (Lit × DataW H) → Nat
  | [] => 0
  | x :: r => uptoBulkEntry x + uptoBulkEntries r
def uptoBulkEntry {H : Type} : Lit × DataW H → Nat
  | (.string bytes, d) => bytes.length + uptoBulk d + 1
  | (_, d) => uptoBulk d + 1
 end
def uptoSmall : (H : Type) → List (DataW H) → Bool := fun _ ds => decide (uptoBulkAll ds ≤ 1048576)
def OpenSpec.upto (s : _root_.Go.ChangeSpec) : _root_.Go.OpenSpec := { _root_.Go.OpenSpec.ofChange s with cond := some uptoSmall }

/-- 'ravellaw07.RingSteps', WHERE WHAT IT READS IS OF BULK AT MOST 1048576: true; the input reads as it did. -/
def ringStepsUptoRow : OpenClaim := { program := "ytoapmmcoaggekaa", sum := "fb493010671dcd88086a3faa9f67c5ea3817c9744685afcf209f2a1ff6f5be89", func := "ravel/ravellaw07.RingSteps", spec := "ringSteps", unfollowed := true, recurses := true, apart := false, narrowed := true }
def RingStepsUptoSaid : Prop := ringStepsUptoRow.holds Try.pinned (OpenSpec.upto ringStepsSpec)

/-- 'ravellaw07.RingLists', WHERE WHAT IT READS IS OF BULK AT MOST 1048576: true; the input reads as it did. -/
def ringListsUptoRow : OpenClaim := { program := "ytoapmmcoaggekaa", sum := "fb493010671dcd88086a3faa9f67c5ea3817c9744685afcf209f2a1ff6f5be89", func := "ravel/ravellaw07.RingLists", spec := "ringLists", unfollowed := true, recurses := true, apart := false, narrowed := true }
def RingListsUptoSaid : Prop := ringListsUptoRow.holds Try.pinned (OpenSpec.upto ringListsSpec)

/-- 'ravellaw07.RingSolo', WHERE WHAT IT READS IS OF BULK AT MOST 1048576: true; the input reads as it did. -/
def ringSoloUptoRow : OpenClaim := { program := "ytoapmmcoaggekaa", sum := "fb493010671dcd88086a3faa9f67c5ea3817c9744685afcf209f2a1ff6f5be89", func := "ravel/ravellaw07.RingSolo", spec := "ringSolo", unfollowed := true, recurses := true, apart := false, narrowed := true }
def RingSoloUptoSaid : Prop := ringSoloUptoRow.holds Try.pinned (OpenSpec.upto ringSoloSpec)

/-- 'ravellaw07.RingOnce', WHERE WHAT IT READS IS OF BULK AT MOST 1048576: true; the input reads as it did. -/
def ringOnceUptoRow : OpenClaim := { program := "ytoapmmcoaggekaa", sum := "fb493010671dcd88086a3faa9f67c5ea3817c9744685afcf209f2a1ff6f5be89", func := "ravel/ravellaw07.RingOnce", spec := "ringOnce", unfollowed := true, recurses := true, apart := false, narrowed := true }
def RingOnceUptoSaid : Prop := ringOnceUptoRow.holds Try.pinned (OpenSpec.upto ringOnceSpec)

end Rows
end Go.Proofs.Ytoapmmcoaggekaa
