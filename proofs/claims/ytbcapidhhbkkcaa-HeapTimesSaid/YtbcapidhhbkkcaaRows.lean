/-
  No cell of these rows narrows 'for every input' (looked for: loops, veiled, ifaces, maps, wideKeys, modest, calm, conditions, laid).
  DERIVED. THE GIVEN ROWS OF THIS SEAT. 7 by the template 'for every input the law returns true; each argument reads behind the call as it read before'; 0 by the template 'total and deterministic' (their statements: YtbcapidhhbkkcaaTotals.lean).
  GIVEN WITH THE SEED: the statements are not yours to turn. If you find one false, say at which input.
  Laid BY PROGRAM, IN A SANDBOX (cutbox-rows.mjs): the forced cells as the released guide's own fill.sh prints them over the translation 41565338059c17d0… (all of the seat's roots in one cut). By AI agents, Wed Nov 11 2026. No macro, syntax, notation, axiom, sorry.
-/
import Derived.Test.YtbcapidhhbkkcaaChecked
import GoSem.Claim
import GoSem.ClaimJoined
import GoSem.ClaimMapViews
import Derived.JoinedTies
import Derived.KernelRfl
namespace Go.Proofs.Ytbcapidhhbkkcaa
/- THE CELL 'sum', in the pinned program and in every row, IS THE sha256 OF THE DUMP (.gsa) THAT YtbcapidhhbkkcaaProg.lean LOADS. Nothing in Lean hashes anything: it is a label: what it is worth is what the hold of that sum in a sandbox is worth. -/
noncomputable def Try.pinned : Pinned := { name := "ytbcapidhhbkkcaa", sum := "41565338059c17d0303f9c4e1c84fd908656e64895dc9fe455d90662cd714c56", checked := Try.checked }
namespace Rows
def none {H : Type} : Left H := { results := [], args := [] }

/-- 'ravellaw08.HeapDoes': WHATEVER THE INPUT: true; the input reads as it did. -/
def heapDoesSpec : ChangeSpec := { name := "heapDoes", fn := fun _ => fun
  | [d1, d2, d3, d4] => { results := [.lit (.bool true)], args := [d1, d2, d3, d4] }
  | _ => none }
def heapDoesRow : OpenClaim := { program := "ytbcapidhhbkkcaa", sum := "41565338059c17d0303f9c4e1c84fd908656e64895dc9fe455d90662cd714c56", func := "ravel/ravellaw08.HeapDoes", spec := "heapDoes", unfollowed := true, recurses := true, apart := false }
def HeapDoesSaid : Prop := heapDoesRow.holds Try.pinned (OpenSpec.ofChange heapDoesSpec)

/-- ITS FALSE NEIGHBOUR: 'it returns false'. Refute it at one input. -/
def heapDoesWrong : ChangeSpec := { name := "heapDoes", fn := fun _ => fun
  | [d1, d2, d3, d4] => { results := [.lit (.bool false)], args := [d1, d2, d3, d4] }
  | _ => none }
def HeapDoesWrongFalsely : Prop := heapDoesRow.holds Try.pinned (OpenSpec.ofChange heapDoesWrong)

/-- 'ravellaw08.HeapTimes': WHATEVER THE INPUT: true; the input reads as it did. -/
def heapTimesSpec : ChangeSpec := { name := "heapTimes", fn := fun _ => fun
  | [d] => { results := [.lit (.bool true)], args := [d] }
  | _ => none }
def heapTimesRow : OpenClaim := { program := "ytbcapidhhbkkcaa", sum := "41565338059c17d0303f9c4e1c84fd908656e64895dc9fe455d90662cd714c56", func := "ravel/ravellaw08.HeapTimes", spec := "heapTimes", unfollowed := true, recurses := true, apart := false }
def HeapTimesSaid : Prop := heapTimesRow.holds Try.pinned (OpenSpec.ofChange heapTimesSpec)

/-- ITS FALSE NEIGHBOUR: 'it returns false'. Refute it at one input. -/
def heapTimesWrong : ChangeSpec := { name := "heapTimes", fn := fun _ => fun
  | [d] => { results := [.lit (.bool false)], args := [d] }
  | _ => none }
def HeapTimesWrongFalsely : Prop := heapTimesRow.holds Try.pinned (OpenSpec.ofChange heapTimesWrong)

/-- 'ravellaw08.HeapLeast': WHATEVER THE INPUT: true; the input reads as it did. -/
def heapLeastSpec : ChangeSpec := { name := "heapLeast", fn := fun _ => fun
  | [d] => { results := [.lit (.bool true)], args := [d] }
  | _ => none }
def heapLeastRow : OpenClaim := { program := "ytbcapidhhbkkcaa", sum := "41565338059c17d0303f9c4e1c84fd908656e64895dc9fe455d90662cd714c56", func := "ravel/ravellaw08.HeapLeast", spec := "heapLeast", unfollowed := true, recurses := true, apart := false }
def HeapLeastSaid : Prop := heapLeastRow.holds Try.pinned (OpenSpec.ofChange heapLeastSpec)

/-- ITS FALSE NEIGHBOUR: 'it returns false'. Refute it at one input. -/
def heapLeastWrong : ChangeSpec := { name := "heapLeast", fn := fun _ => fun
  | [d] => { results := [.lit (.bool false)], args := [d] }
  | _ => none }
def HeapLeastWrongFalsely : Prop := heapLeastRow.holds Try.pinned (OpenSpec.ofChange heapLeastWrong)

/-- 'ravellaw08.HeapTells': WHATEVER THE INPUT: true; the input reads as it did. -/
def heapTellsSpec : ChangeSpec := { name := "heapTells", fn := fun _ => fun
  | [d1, d2, d3] => { results := [.lit (.bool true)], args := [d1, d2, d3] }
  | _ => none }
def heapTellsRow : OpenClaim := { program := "ytbcapidhhbkkcaa", sum := "41565338059c17d0303f9c4e1c84fd908656e64895dc9fe455d90662cd714c56", func := "ravel/ravellaw08.HeapTells", spec := "heapTells", unfollowed := true, recurses := true, apart := false }
def HeapTellsSaid : Prop := heapTellsRow.holds Try.pinned (OpenSpec.ofChange heapTellsSpec)

/-- ITS FALSE NEIGHBOUR: 'it returns false'. Refute it at one input. -/
def heapTellsWrong : ChangeSpec := { name := "heapTells", fn := fun _ => fun
  | [d1, d2, d3] => { results := [.lit (.bool false)], args := [d1, d2, d3] }
  | _ => none }
def HeapTellsWrongFalsely : Prop := heapTellsRow.holds Try.pinned (OpenSpec.ofChange heapTellsWrong)

/-- 'ravellaw08.HeapSorts': WHATEVER THE INPUT: true; the input reads as it did. -/
def heapSortsSpec : ChangeSpec := { name := "heapSorts", fn := fun _ => fun
  | [d1, d2, d3] => { results := [.lit (.bool true)], args := [d1, d2, d3] }
  | _ => none }
def heapSortsRow : OpenClaim := { program := "ytbcapidhhbkkcaa", sum := "41565338059c17d0303f9c4e1c84fd908656e64895dc9fe455d90662cd714c56", func := "ravel/ravellaw08.HeapSorts", spec := "heapSorts", unfollowed := true, recurses := true, apart := false }
def HeapSortsSaid : Prop := heapSortsRow.holds Try.pinned (OpenSpec.ofChange heapSortsSpec)

/-- ITS FALSE NEIGHBOUR: 'it returns false'. Refute it at one input. -/
def heapSortsWrong : ChangeSpec := { name := "heapSorts", fn := fun _ => fun
  | [d1, d2, d3] => { results := [.lit (.bool false)], args := [d1, d2, d3] }
  | _ => none }
def HeapSortsWrongFalsely : Prop := heapSortsRow.holds Try.pinned (OpenSpec.ofChange heapSortsWrong)

/-- 'ravellaw08.HeapBack': WHATEVER THE INPUT: true; the input reads as it did. -/
def heapBackSpec : ChangeSpec := { name := "heapBack", fn := fun _ => fun
  | [d1, d2] => { results := [.lit (.bool true)], args := [d1, d2] }
  | _ => none }
def heapBackRow : OpenClaim := { program := "ytbcapidhhbkkcaa", sum := "41565338059c17d0303f9c4e1c84fd908656e64895dc9fe455d90662cd714c56", func := "ravel/ravellaw08.HeapBack", spec := "heapBack", unfollowed := true, recurses := true, apart := false }
def HeapBackSaid : Prop := heapBackRow.holds Try.pinned (OpenSpec.ofChange heapBackSpec)

/-- ITS FALSE NEIGHBOUR: 'it returns false'. Refute it at one input. -/
def heapBackWrong : ChangeSpec := { name := "heapBack", fn := fun _ => fun
  | [d1, d2] => { results := [.lit (.bool false)], args := [d1, d2] }
  | _ => none }
def HeapBackWrongFalsely : Prop := heapBackRow.holds Try.pinned (OpenSpec.ofChange heapBackWrong)

/-- 'ravellaw08.HeapOrders': WHATEVER THE INPUT: true; the input reads as it did. -/
def heapOrdersSpec : ChangeSpec := { name := "heapOrders", fn := fun _ => fun
  | [d1, d2, d3, d4] => { results := [.lit (.bool true)], args := [d1, d2, d3, d4] }
  | _ => none }
def heapOrdersRow : OpenClaim := { program := "ytbcapidhhbkkcaa", sum := "41565338059c17d0303f9c4e1c84fd908656e64895dc9fe455d90662cd714c56", func := "ravel/ravellaw08.HeapOrders", spec := "heapOrders", unfollowed := true, recurses := true, apart := false }
def HeapOrdersSaid : Prop := heapOrdersRow.holds Try.pinned (OpenSpec.ofChange heapOrdersSpec)

/-- ITS FALSE NEIGHBOUR: 'it returns false'. Refute it at one input. -/
def heapOrdersWrong : ChangeSpec := { name := "heapOrders", fn := fun _ => fun
  | [d1, d2, d3, d4] => { results := [.lit (.bool false)], args := [d1, d2, d3, d4] }
  | _ => none }
def HeapOrdersWrongFalsely : Prop := heapOrdersRow.holds Try.pinned (OpenSpec.ofChange heapOrdersWrong)

/- THE SECOND FORM. 'bulk': how many values and letters a reading holds, each counted each time it is reached (what is shared counts as often as it is met; a slice's spare places count too). A statement '..UptoSaid' is the law's where the arguments, and the package variables that the reading takes, are together of bulk at most 1048576: NARROWER than '..Said'. Prove '..Said' where nothing that the law and all that it calls make is longer than what came in: it says more and counts as full. Else prove '..UptoSaid'. A law counts once. -/
mutual
def uptoBulk {H : Type} : DataW H → Nat
  | .lit (.string bytes) => bytes.length + 1
  | .lit _ => 1
  | .nil => 1
  | .ptr d => uptoBulk d + 1
  | .slice elems spare => uptoBulkAll elems + uptoBulkAll spare + 1
  | .agg parts => uptoBulkAll parts + 1
  | .iface _ d => uptoBulk d + 1
  | .map entries => uptoBulkEntries entries + 1
  | .held _ => 1
def uptoBulkAll {H : Type} : List (DataW H) → Nat
  | [] => 0
  | d :: r => uptoBulk d + uptoBulkAll r
def uptoBulkEntries {H : Type} : List (Lit × DataW H) → Nat
  | [] => 0
  | x :: r => uptoBulkEntry x + uptoBulkEntries r
def uptoBulkEntry {H : Type} : Lit × DataW H → Nat
  | (.string bytes, d) => bytes.length + uptoBulk d + 1
  | (_, d) => uptoBulk d + 1
 end
def uptoSmall : (H : Type) → List (DataW H) → Bool := fun _ ds => decide (uptoBulkAll ds ≤ 1048576)
def OpenSpec.upto (s : _root_.Go.ChangeSpec) : _root_.Go.OpenSpec := { _root_.Go.OpenSpec.ofChange s with cond := some uptoSmall }

/-- 'ravellaw08.HeapDoes', WHERE WHAT IT READS IS OF BULK AT MOST 1048576: true; the input reads as it did. -/
def heapDoesUptoRow : OpenClaim := { program := "ytbcapidhhbkkcaa", sum := "41565338059c17d0303f9c4e1c84fd908656e64895dc9fe455d90662cd714c56", func := "ravel/ravellaw08.HeapDoes", spec := "heapDoes", unfollowed := true, recurses := true, apart := false, narrowed := true }
def HeapDoesUptoSaid : Prop := heapDoesUptoRow.holds Try.pinned (OpenSpec.upto heapDoesSpec)

/-- 'ravellaw08.HeapTimes', WHERE WHAT IT READS IS OF BULK AT MOST 1048576: true; the input reads as it did. -/
def heapTimesUptoRow : OpenClaim := { program := "ytbcapidhhbkkcaa", sum := "41565338059c17d0303f9c4e1c84fd908656e64895dc9fe455d90662cd714c56", func := "ravel/ravellaw08.HeapTimes", spec := "heapTimes", unfollowed := true, recurses := true, apart := false, narrowed := true }
def HeapTimesUptoSaid : Prop := heapTimesUptoRow.holds Try.pinned (OpenSpec.upto heapTimesSpec)

/-- 'ravellaw08.HeapLeast', WHERE WHAT IT READS IS OF BULK AT MOST 1048576: true; the input reads as it did. -/
def heapLeastUptoRow : OpenClaim := { program := "ytbcapidhhbkkcaa", sum := "41565338059c17d0303f9c4e1c84fd908656e64895dc9fe455d90662cd714c56", func := "ravel/ravellaw08.HeapLeast", spec := "heapLeast", unfollowed := true, recurses := true, apart := false, narrowed := true }
def HeapLeastUptoSaid : Prop := heapLeastUptoRow.holds Try.pinned (OpenSpec.upto heapLeastSpec)

/-- 'ravellaw08.HeapTells', WHERE WHAT IT READS IS OF BULK AT MOST 1048576: true; the input reads as it did. -/
def heapTellsUptoRow : OpenClaim := { program := "ytbcapidhhbkkcaa", sum := "41565338059c17d0303f9c4e1c84fd908656e64895dc9fe455d90662cd714c56", func := "ravel/ravellaw08.HeapTells", spec := "heapTells", unfollowed := true, recurses := true, apart := false, narrowed := true }
def HeapTellsUptoSaid : Prop := heapTellsUptoRow.holds Try.pinned (OpenSpec.upto heapTellsSpec)

/-- 'ravellaw08.HeapSorts', WHERE WHAT IT READS IS OF BULK AT MOST 1048576: true; the input reads as it did. -/
def heapSortsUptoRow : OpenClaim := { program := "ytbcapidhhbkkcaa", sum := "41565338059c17d0303f9c4e1c84fd908656e64895dc9fe455d90662cd714c56", func := "ravel/ravellaw08.HeapSorts", spec := "heapSorts", unfollowed := true, recurses := true, apart := false, narrowed := true }
def HeapSortsUptoSaid : Prop := heapSortsUptoRow.holds Try.pinned (OpenSpec.upto heapSortsSpec)

/-- 'ravellaw08.HeapBack', WHERE WHAT IT READS IS OF BULK AT MOST 1048576: true; the input reads as it did. -/
def heapBackUptoRow : OpenClaim := { program := "ytbcapidhhbkkcaa", sum := "41565338059c17d0303f9c4e1c84fd908656e64895dc9fe455d90662cd714c56", func := "ravel/ravellaw08.HeapBack", spec := "heapBack", unfollowed := true, recurses := true, apart := false, narrowed := true }
def HeapBackUptoSaid : Prop := heapBackUptoRow.holds Try.pinned (OpenSpec.upto heapBackSpec)

/-- 'ravellaw08.HeapOrders', WHERE WHAT IT READS IS OF BULK AT MOST 1048576: true; the input reads as it did. -/
def heapOrdersUptoRow : OpenClaim := { program := "ytbcapidhhbkkcaa", sum := "41565338059c17d0303f9c4e1c84fd908656e64895dc9fe455d90662cd714c56", func := "ravel/ravellaw08.HeapOrders", spec := "heapOrders", unfollowed := true, recurses := true, apart := false, narrowed := true }
def HeapOrdersUptoSaid : Prop := heapOrdersUptoRow.holds Try.pinned (OpenSpec.upto heapOrdersSpec)

end Rows
end Go.Proofs.Ytbcapidhhbkkcaa
