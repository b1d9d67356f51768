/-
  No cell of these rows narrows 'for every input' (looked for: loops, veiled, ifaces, maps, wideKeys, modest, calm, conditions, laid).
  DERIVED. THE GIVEN ROWS OF THIS SEAT. 5 by the template 'for every input the law returns true; each argument reads behind the call as it read before'; 0 by the template 'total and deterministic' (their statements: YthhpnmfcmgdghaaTotals.lean).
  GIVEN WITH THE SEED: the statements are not yours to turn. If you find one false, say at which input.
  Laid BY PROGRAM, IN A SANDBOX (cutbox-rows.mjs): the forced cells as the released guide's own fill.sh prints them over the translation 86d72082c88268a7… (all of the seat's roots in one cut). By AI agents, Wed Nov 11 2026. No macro, syntax, notation, axiom, sorry.
-/
import Derived.Test.YthhpnmfcmgdghaaChecked
import GoSem.Claim
import GoSem.ClaimJoined
import GoSem.ClaimMapViews
import Derived.JoinedTies
import Derived.KernelRfl
namespace Go.Proofs.Ythhpnmfcmgdghaa
/- THE CELL 'sum', in the pinned program and in every row, IS THE sha256 OF THE DUMP (.gsa) THAT YthhpnmfcmgdghaaProg.lean LOADS. Nothing in Lean hashes anything: it is a label: what it is worth is what the hold of that sum in a sandbox is worth. -/
noncomputable def Try.pinned : Pinned := { name := "ythhpnmfcmgdghaa", sum := "86d72082c88268a7ce5d633ca0a649de68d681966f34e1feea7e4f6df0694a7d", checked := Try.checked }
namespace Rows
def none {H : Type} : Left H := { results := [], args := [] }

/-- 'ravellaw19.EntryFair': WHATEVER THE INPUT: true; the input reads as it did. -/
def entryFairSpec : ChangeSpec := { name := "entryFair", fn := fun _ => fun
  | [d1, d2, d3, d4, d5] => { results := [.lit (.bool true)], args := [d1, d2, d3, d4, d5] }
  | _ => none }
def entryFairRow : OpenClaim := { program := "ythhpnmfcmgdghaa", sum := "86d72082c88268a7ce5d633ca0a649de68d681966f34e1feea7e4f6df0694a7d", func := "ravel/ravellaw19.EntryFair", spec := "entryFair", unfollowed := true, recurses := true, apart := false }
def EntryFairSaid : Prop := entryFairRow.holds Try.pinned (OpenSpec.ofChange entryFairSpec)

/-- ITS FALSE NEIGHBOUR: 'it returns false'. Refute it at one input. -/
def entryFairWrong : ChangeSpec := { name := "entryFair", fn := fun _ => fun
  | [d1, d2, d3, d4, d5] => { results := [.lit (.bool false)], args := [d1, d2, d3, d4, d5] }
  | _ => none }
def EntryFairWrongFalsely : Prop := entryFairRow.holds Try.pinned (OpenSpec.ofChange entryFairWrong)

/-- 'ravellaw19.EntryOnly': WHATEVER THE INPUT: true; the input reads as it did. -/
def entryOnlySpec : ChangeSpec := { name := "entryOnly", fn := fun _ => fun
  | [d] => { results := [.lit (.bool true)], args := [d] }
  | _ => none }
def entryOnlyRow : OpenClaim := { program := "ythhpnmfcmgdghaa", sum := "86d72082c88268a7ce5d633ca0a649de68d681966f34e1feea7e4f6df0694a7d", func := "ravel/ravellaw19.EntryOnly", spec := "entryOnly", unfollowed := true, recurses := true, apart := false }
def EntryOnlySaid : Prop := entryOnlyRow.holds Try.pinned (OpenSpec.ofChange entryOnlySpec)

/-- ITS FALSE NEIGHBOUR: 'it returns false'. Refute it at one input. -/
def entryOnlyWrong : ChangeSpec := { name := "entryOnly", fn := fun _ => fun
  | [d] => { results := [.lit (.bool false)], args := [d] }
  | _ => none }
def EntryOnlyWrongFalsely : Prop := entryOnlyRow.holds Try.pinned (OpenSpec.ofChange entryOnlyWrong)

/-- 'ravellaw19.EntryTexts': WHATEVER THE INPUT: true; the input reads as it did. -/
def entryTextsSpec : ChangeSpec := { name := "entryTexts", fn := fun _ => fun
  | [d1, d2, d3, d4, d5] => { results := [.lit (.bool true)], args := [d1, d2, d3, d4, d5] }
  | _ => none }
def entryTextsRow : OpenClaim := { program := "ythhpnmfcmgdghaa", sum := "86d72082c88268a7ce5d633ca0a649de68d681966f34e1feea7e4f6df0694a7d", func := "ravel/ravellaw19.EntryTexts", spec := "entryTexts", unfollowed := true, recurses := true, apart := false }
def EntryTextsSaid : Prop := entryTextsRow.holds Try.pinned (OpenSpec.ofChange entryTextsSpec)

/-- ITS FALSE NEIGHBOUR: 'it returns false'. Refute it at one input. -/
def entryTextsWrong : ChangeSpec := { name := "entryTexts", fn := fun _ => fun
  | [d1, d2, d3, d4, d5] => { results := [.lit (.bool false)], args := [d1, d2, d3, d4, d5] }
  | _ => none }
def EntryTextsWrongFalsely : Prop := entryTextsRow.holds Try.pinned (OpenSpec.ofChange entryTextsWrong)

/-- 'ravellaw19.EntryBack': WHATEVER THE INPUT: true; the input reads as it did. -/
def entryBackSpec : ChangeSpec := { name := "entryBack", fn := fun _ => fun
  | [d1, d2] => { results := [.lit (.bool true)], args := [d1, d2] }
  | _ => none }
def entryBackRow : OpenClaim := { program := "ythhpnmfcmgdghaa", sum := "86d72082c88268a7ce5d633ca0a649de68d681966f34e1feea7e4f6df0694a7d", func := "ravel/ravellaw19.EntryBack", spec := "entryBack", unfollowed := true, recurses := true, apart := false }
def EntryBackSaid : Prop := entryBackRow.holds Try.pinned (OpenSpec.ofChange entryBackSpec)

/-- ITS FALSE NEIGHBOUR: 'it returns false'. Refute it at one input. -/
def entryBackWrong : ChangeSpec := { name := "entryBack", fn := fun _ => fun
  | [d1, d2] => { results := [.lit (.bool false)], args := [d1, d2] }
  | _ => none }
def EntryBackWrongFalsely : Prop := entryBackRow.holds Try.pinned (OpenSpec.ofChange entryBackWrong)

/-- 'ravellaw19.EntryConfigs': WHATEVER THE INPUT: true; the input reads as it did. -/
def entryConfigsSpec : ChangeSpec := { name := "entryConfigs", fn := fun _ => fun
  | [d1, d2] => { results := [.lit (.bool true)], args := [d1, d2] }
  | _ => none }
def entryConfigsRow : OpenClaim := { program := "ythhpnmfcmgdghaa", sum := "86d72082c88268a7ce5d633ca0a649de68d681966f34e1feea7e4f6df0694a7d", func := "ravel/ravellaw19.EntryConfigs", spec := "entryConfigs", unfollowed := true, recurses := true, apart := false }
def EntryConfigsSaid : Prop := entryConfigsRow.holds Try.pinned (OpenSpec.ofChange entryConfigsSpec)

/-- ITS FALSE NEIGHBOUR: 'it returns false'. Refute it at one input. -/
def entryConfigsWrong : ChangeSpec := { name := "entryConfigs", fn := fun _ => fun
  | [d1, d2] => { results := [.lit (.bool false)], args := [d1, d2] }
  | _ => none }
def EntryConfigsWrongFalsely : Prop := entryConfigsRow.holds Try.pinned (OpenSpec.ofChange entryConfigsWrong)

/- THE SECOND FORM. 'bulk': how many values and letters a reading holds, each counted each time it is reached (what is shared counts as often as it is met; a slice's spare places count too). A statement '..UptoSaid' is the law's where the arguments, and the package variables that the reading takes, are together of bulk at most 1048576: NARROWER than '..Said'. Prove '..Said' where nothing that the law and all that it calls make is longer than what came in: it says more and counts as full. Else prove '..UptoSaid'. A law counts once. -/
mutual
def uptoBulk {H : Type} : DataW H → Nat
  | .lit (.string bytes) => bytes.length + 1
  | .lit _ => 1
  | .nil => 1
  | .ptr d => uptoBulk d + 1
  | .slice elems spare => uptoBulkAll elems + uptoBulkAll spare + 1
  | .agg parts => uptoBulkAll parts + 1
  | .iface _ d => uptoBulk d + 1
  | .map entries => uptoBulkEntries entries + 1
  | .held _ => 1
def uptoBulkAll {H : Type} : List (DataW H) → Nat
  | [] => 0
  | d :: r => uptoBulk d + uptoBulkAll r
def uptoBulkEntries {H : Type} : List (Lit × DataW H) → Nat
  | [] => 0
  | x :: r => uptoBulkEntry x + uptoBulkEntries r
def uptoBulkEntry {H : Type} : Lit × DataW H → Nat
  | (.string bytes, d) => bytes.length + uptoBulk d + 1
  | (_, d) => uptoBulk d + 1
 end
def uptoSmall : (H : Type) → List (DataW H) → Bool := fun _ ds => decide (uptoBulkAll ds ≤ 1048576)
def OpenSpec.upto (s : _root_.Go.ChangeSpec) : _root_.Go.OpenSpec := { _root_.Go.OpenSpec.ofChange s with cond := some uptoSmall }

/-- 'ravellaw19.EntryFair', WHERE WHAT IT READS IS OF BULK AT MOST 1048576: true; the input reads as it did. -/
def entryFairUptoRow : OpenClaim := { program := "ythhpnmfcmgdghaa", sum := "86d72082c88268a7ce5d633ca0a649de68d681966f34e1feea7e4f6df0694a7d", func := "ravel/ravellaw19.EntryFair", spec := "entryFair", unfollowed := true, recurses := true, apart := false, narrowed := true }
def EntryFairUptoSaid : Prop := entryFairUptoRow.holds Try.pinned (OpenSpec.upto entryFairSpec)

/-- 'ravellaw19.EntryOnly', WHERE WHAT IT READS IS OF BULK AT MOST 1048576: true; the input reads as it did. -/
def entryOnlyUptoRow : OpenClaim := { program := "ythhpnmfcmgdghaa", sum := "86d72082c88268a7ce5d633ca0a649de68d681966f34e1feea7e4f6df0694a7d", func := "ravel/ravellaw19.EntryOnly", spec := "entryOnly", unfollowed := true, recurses := true, apart := false, narrowed := true }
def EntryOnlyUptoSaid : Prop := entryOnlyUptoRow.holds Try.pinned (OpenSpec.upto entryOnlySpec)

/-- 'ravellaw19.EntryTexts', WHERE WHAT IT READS IS OF BULK AT MOST 1048576: true; the input reads as it did. -/
def entryTextsUptoRow : OpenClaim := { program := "ythhpnmfcmgdghaa", sum := "86d72082c88268a7ce5d633ca0a649de68d681966f34e1feea7e4f6df0694a7d", func := "ravel/ravellaw19.EntryTexts", spec := "entryTexts", unfollowed := true, recurses := true, apart := false, narrowed := true }
def EntryTextsUptoSaid : Prop := entryTextsUptoRow.holds Try.pinned (OpenSpec.upto entryTextsSpec)

/-- 'ravellaw19.EntryBack', WHERE WHAT IT READS IS OF BULK AT MOST 1048576: true; the input reads as it did. -/
def entryBackUptoRow : OpenClaim := { program := "ythhpnmfcmgdghaa", sum := "86d72082c88268a7ce5d633ca0a649de68d681966f34e1feea7e4f6df0694a7d", func := "ravel/ravellaw19.EntryBack", spec := "entryBack", unfollowed := true, recurses := true, apart := false, narrowed := true }
def EntryBackUptoSaid : Prop := entryBackUptoRow.holds Try.pinned (OpenSpec.upto entryBackSpec)

/-- 'ravellaw19.EntryConfigs', WHERE WHAT IT READS IS OF BULK AT MOST 1048576: true; the input reads as it did. -/
def entryConfigsUptoRow : OpenClaim := { program := "ythhpnmfcmgdghaa", sum := "86d72082c88268a7ce5d633ca0a649de68d681966f34e1feea7e4f6df0694a7d", func := "ravel/ravellaw19.EntryConfigs", spec := "entryConfigs", unfollowed := true, recurses := true, apart := false, narrowed := true }
def EntryConfigsUptoSaid : Prop := entryConfigsUptoRow.holds Try.pinned (OpenSpec.upto entryConfigsSpec)

end Rows
end Go.Proofs.Ythhpnmfcmgdghaa
