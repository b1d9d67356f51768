/-
  NARROWER THAN 'FOR EVERY INPUT', by the rows' own cells (each row's printed sentence says how): TracePrefix: laid · TraceAlone: laid · TraceMore: laid · TraceChecks: laid · TraceWaits: laid · TraceEnds: laid.
  DERIVED. THE GIVEN ROWS OF THIS SEAT. 6 by the template 'for every input the law returns true; each argument reads behind the call as it read before'; 0 by the template 'total and deterministic' (their statements: YtpkegoikocfchaaDoorTotals.lean).
  GIVEN WITH THE SEED: the statements are not yours to turn. If you find one false, say at which input.
  Laid BY PROGRAM, IN A SANDBOX (cutbox-rows.mjs): the forced cells as the released guide's own fill.sh prints them over the translation ca10f68b9b136f2d… (all of the seat's roots in one cut). By AI agents, Wed Nov 11 2026. No macro, syntax, notation, axiom, sorry.
-/
import Derived.Test.YtpkegoikocfchaaDoorChecked
import GoSem.Claim
import GoSem.ClaimJoined
import GoSem.ClaimMapViews
import Derived.JoinedTies
import Derived.KernelRfl
namespace Go.Proofs.YtpkegoikocfchaaDoor
/- THE CELL 'sum', in the pinned program and in every row, IS THE sha256 OF THE DUMP (.gsa) THAT YtpkegoikocfchaaDoorProg.lean LOADS. Nothing in Lean hashes anything: it is a label: what it is worth is what the hold of that sum in a sandbox is worth. -/
noncomputable def Tryd.pinned : Pinned := { name := "ytpkegoikocfchaadoor", sum := "ca10f68b9b136f2d0236501f548af2ad96ceead9165274227a2342b52eee1a18", checked := Tryd.checked }
namespace Rows
def none {H : Type} : Left H := { results := [], args := [] }

/- WHAT THE LISTED PACKAGE-LEVEL VARIABLES READ AS WHEN THE CALL BEGINS. Each datum BY PROGRAM (the guide's laid-datum.mjs) off the statement by which the dump's own 'gosem.cut.vars' lays the variable. In a bare row this is a premise. The card (YtpkegoikocfchaaDoorCards.lean) ties it to the program's text. -/
def laid_ravel_life_follows {H : Type} : DataW H := .agg [.lit (.int .u8 0), .lit (.int .u8 132), .lit (.int .u8 250), .lit (.int .u8 130), .lit (.int .u8 130), .lit (.int .u8 130), .lit (.int .u8 130), .lit (.int .u8 0)]

/-- 'ravellaw18.TracePrefix': WHATEVER THE INPUT: true; the input reads as it did. -/
def tracePrefixSpec : ChangeSpec := { name := "tracePrefix", fn := fun _ => fun
  | [d1, d2, d3] => { results := [.lit (.bool true)], args := [d1, d2, d3] }
  | _ => none }
def tracePrefixRow : OpenClaim := { program := "ytpkegoikocfchaadoor", sum := "ca10f68b9b136f2d0236501f548af2ad96ceead9165274227a2342b52eee1a18", func := "ravel/ravellaw18.TracePrefix", spec := "tracePrefix", unfollowed := true, recurses := true, named := ["ravel/life.follows"], apart := false, laid := [("ravel/life.follows", laid_ravel_life_follows)] }
def TracePrefixSaid : Prop := tracePrefixRow.holds Tryd.pinned (OpenSpec.ofChange tracePrefixSpec)

/-- ITS FALSE NEIGHBOUR: 'it returns false'. Refute it at one input. -/
def tracePrefixWrong : ChangeSpec := { name := "tracePrefix", fn := fun _ => fun
  | [d1, d2, d3] => { results := [.lit (.bool false)], args := [d1, d2, d3] }
  | _ => none }
def TracePrefixWrongFalsely : Prop := tracePrefixRow.holds Tryd.pinned (OpenSpec.ofChange tracePrefixWrong)

/-- 'ravellaw18.TraceAlone': WHATEVER THE INPUT: true; the input reads as it did. -/
def traceAloneSpec : ChangeSpec := { name := "traceAlone", fn := fun _ => fun
  | [d1, d2, d3] => { results := [.lit (.bool true)], args := [d1, d2, d3] }
  | _ => none }
def traceAloneRow : OpenClaim := { program := "ytpkegoikocfchaadoor", sum := "ca10f68b9b136f2d0236501f548af2ad96ceead9165274227a2342b52eee1a18", func := "ravel/ravellaw18.TraceAlone", spec := "traceAlone", unfollowed := true, recurses := true, named := ["ravel/life.follows"], apart := false, laid := [("ravel/life.follows", laid_ravel_life_follows)] }
def TraceAloneSaid : Prop := traceAloneRow.holds Tryd.pinned (OpenSpec.ofChange traceAloneSpec)

/-- ITS FALSE NEIGHBOUR: 'it returns false'. Refute it at one input. -/
def traceAloneWrong : ChangeSpec := { name := "traceAlone", fn := fun _ => fun
  | [d1, d2, d3] => { results := [.lit (.bool false)], args := [d1, d2, d3] }
  | _ => none }
def TraceAloneWrongFalsely : Prop := traceAloneRow.holds Tryd.pinned (OpenSpec.ofChange traceAloneWrong)

/-- 'ravellaw18.TraceMore': WHATEVER THE INPUT: true; the input reads as it did. -/
def traceMoreSpec : ChangeSpec := { name := "traceMore", fn := fun _ => fun
  | [d1, d2, d3] => { results := [.lit (.bool true)], args := [d1, d2, d3] }
  | _ => none }
def traceMoreRow : OpenClaim := { program := "ytpkegoikocfchaadoor", sum := "ca10f68b9b136f2d0236501f548af2ad96ceead9165274227a2342b52eee1a18", func := "ravel/ravellaw18.TraceMore", spec := "traceMore", unfollowed := true, recurses := true, named := ["ravel/life.follows"], apart := false, laid := [("ravel/life.follows", laid_ravel_life_follows)] }
def TraceMoreSaid : Prop := traceMoreRow.holds Tryd.pinned (OpenSpec.ofChange traceMoreSpec)

/-- ITS FALSE NEIGHBOUR: 'it returns false'. Refute it at one input. -/
def traceMoreWrong : ChangeSpec := { name := "traceMore", fn := fun _ => fun
  | [d1, d2, d3] => { results := [.lit (.bool false)], args := [d1, d2, d3] }
  | _ => none }
def TraceMoreWrongFalsely : Prop := traceMoreRow.holds Tryd.pinned (OpenSpec.ofChange traceMoreWrong)

/-- 'ravellaw18.TraceChecks': WHATEVER THE INPUT: true; the input reads as it did. -/
def traceChecksSpec : ChangeSpec := { name := "traceChecks", fn := fun _ => fun
  | [d1, d2, d3, d4] => { results := [.lit (.bool true)], args := [d1, d2, d3, d4] }
  | _ => none }
def traceChecksRow : OpenClaim := { program := "ytpkegoikocfchaadoor", sum := "ca10f68b9b136f2d0236501f548af2ad96ceead9165274227a2342b52eee1a18", func := "ravel/ravellaw18.TraceChecks", spec := "traceChecks", unfollowed := true, recurses := true, named := ["ravel/life.follows"], apart := false, laid := [("ravel/life.follows", laid_ravel_life_follows)] }
def TraceChecksSaid : Prop := traceChecksRow.holds Tryd.pinned (OpenSpec.ofChange traceChecksSpec)

/-- ITS FALSE NEIGHBOUR: 'it returns false'. Refute it at one input. -/
def traceChecksWrong : ChangeSpec := { name := "traceChecks", fn := fun _ => fun
  | [d1, d2, d3, d4] => { results := [.lit (.bool false)], args := [d1, d2, d3, d4] }
  | _ => none }
def TraceChecksWrongFalsely : Prop := traceChecksRow.holds Tryd.pinned (OpenSpec.ofChange traceChecksWrong)

/-- 'ravellaw18.TraceWaits': WHATEVER THE INPUT: true; the input reads as it did. -/
def traceWaitsSpec : ChangeSpec := { name := "traceWaits", fn := fun _ => fun
  | [d1, d2] => { results := [.lit (.bool true)], args := [d1, d2] }
  | _ => none }
def traceWaitsRow : OpenClaim := { program := "ytpkegoikocfchaadoor", sum := "ca10f68b9b136f2d0236501f548af2ad96ceead9165274227a2342b52eee1a18", func := "ravel/ravellaw18.TraceWaits", spec := "traceWaits", unfollowed := true, recurses := true, named := ["ravel/life.follows"], apart := false, laid := [("ravel/life.follows", laid_ravel_life_follows)] }
def TraceWaitsSaid : Prop := traceWaitsRow.holds Tryd.pinned (OpenSpec.ofChange traceWaitsSpec)

/-- ITS FALSE NEIGHBOUR: 'it returns false'. Refute it at one input. -/
def traceWaitsWrong : ChangeSpec := { name := "traceWaits", fn := fun _ => fun
  | [d1, d2] => { results := [.lit (.bool false)], args := [d1, d2] }
  | _ => none }
def TraceWaitsWrongFalsely : Prop := traceWaitsRow.holds Tryd.pinned (OpenSpec.ofChange traceWaitsWrong)

/-- 'ravellaw18.TraceEnds': WHATEVER THE INPUT: true; the input reads as it did. -/
def traceEndsSpec : ChangeSpec := { name := "traceEnds", fn := fun _ => fun
  | [d1, d2] => { results := [.lit (.bool true)], args := [d1, d2] }
  | _ => none }
def traceEndsRow : OpenClaim := { program := "ytpkegoikocfchaadoor", sum := "ca10f68b9b136f2d0236501f548af2ad96ceead9165274227a2342b52eee1a18", func := "ravel/ravellaw18.TraceEnds", spec := "traceEnds", unfollowed := true, recurses := true, named := ["ravel/life.follows"], apart := false, laid := [("ravel/life.follows", laid_ravel_life_follows)] }
def TraceEndsSaid : Prop := traceEndsRow.holds Tryd.pinned (OpenSpec.ofChange traceEndsSpec)

/-- ITS FALSE NEIGHBOUR: 'it returns false'. Refute it at one input. -/
def traceEndsWrong : ChangeSpec := { name := "traceEnds", fn := fun _ => fun
  | [d1, d2] => { results := [.lit (.bool false)], args := [d1, d2] }
  | _ => none }
def TraceEndsWrongFalsely : Prop := traceEndsRow.holds Tryd.pinned (OpenSpec.ofChange traceEndsWrong)

/- THE SECOND FORM. 'bulk': how many values and letters a reading holds, each counted each time it is reached (what is shared counts as often as it is met; a slice's spare places count too). A statement '..UptoSaid' is the law's where the arguments, and the package variables that the reading takes, are together of bulk at most 1048576: NARROWER than '..Said'. Prove '..Said' where nothing that the law and all that it calls make is longer than what came in: it says more and counts as full. Else prove '..UptoSaid'. A law counts once. -/
mutual
def uptoBulk {H : Type} : DataW H → Nat
  | .lit (.string bytes) => bytes.length + 1
  | .lit _ => 1
  | .nil => 1
  | .ptr d => uptoBulk d + 1
  | .slice elems spare => uptoBulkAll elems + uptoBulkAll spare + 1
  | .agg parts => uptoBulkAll parts + 1
  | .iface _ d => uptoBulk d + 1
  | .map entries => uptoBulkEntries entries + 1
  | .held _ => 1
def uptoBulkAll {H : Type} : List (DataW H) → Nat
  | [] => 0
  | d :: r => uptoBulk d + uptoBulkAll r
def uptoBulkEntries {H : Type} : List (Lit × DataW H) → Nat
  | [] => 0
  | x :: r => uptoBulkEntry x + uptoBulkEntries r
def uptoBulkEntry {H : Type} : Lit × DataW H → Nat
  | (.string bytes, d) => bytes.length + uptoBulk d + 1
  | (_, d) => uptoBulk d + 1
 end
def uptoSmall : (H : Type) → List (DataW H) → Bool := fun _ ds => decide (uptoBulkAll ds ≤ 1048576)
def OpenSpec.upto (s : _root_.Go.ChangeSpec) : _root_.Go.OpenSpec := { _root_.Go.OpenSpec.ofChange s with cond := some uptoSmall }

/-- 'ravellaw18.TracePrefix', WHERE WHAT IT READS IS OF BULK AT MOST 1048576: true; the input reads as it did. -/
def tracePrefixUptoRow : OpenClaim := { program := "ytpkegoikocfchaadoor", sum := "ca10f68b9b136f2d0236501f548af2ad96ceead9165274227a2342b52eee1a18", func := "ravel/ravellaw18.TracePrefix", spec := "tracePrefix", unfollowed := true, recurses := true, named := ["ravel/life.follows"], apart := false, laid := [("ravel/life.follows", laid_ravel_life_follows)], narrowed := true }
def TracePrefixUptoSaid : Prop := tracePrefixUptoRow.holds Tryd.pinned (OpenSpec.upto tracePrefixSpec)

/-- 'ravellaw18.TraceAlone', WHERE WHAT IT READS IS OF BULK AT MOST 1048576: true; the input reads as it did. -/
def traceAloneUptoRow : OpenClaim := { program := "ytpkegoikocfchaadoor", sum := "ca10f68b9b136f2d0236501f548af2ad96ceead9165274227a2342b52eee1a18", func := "ravel/ravellaw18.TraceAlone", spec := "traceAlone", unfollowed := true, recurses := true, named := ["ravel/life.follows"], apart := false, laid := [("ravel/life.follows", laid_ravel_life_follows)], narrowed := true }
def TraceAloneUptoSaid : Prop := traceAloneUptoRow.holds Tryd.pinned (OpenSpec.upto traceAloneSpec)

/-- 'ravellaw18.TraceMore', WHERE WHAT IT READS IS OF BULK AT MOST 1048576: true; the input reads as it did. -/
def traceMoreUptoRow : OpenClaim := { program := "ytpkegoikocfchaadoor", sum := "ca10f68b9b136f2d0236501f548af2ad96ceead9165274227a2342b52eee1a18", func := "ravel/ravellaw18.TraceMore", spec := "traceMore", unfollowed := true, recurses := true, named := ["ravel/life.follows"], apart := false, laid := [("ravel/life.follows", laid_ravel_life_follows)], narrowed := true }
def TraceMoreUptoSaid : Prop := traceMoreUptoRow.holds Tryd.pinned (OpenSpec.upto traceMoreSpec)

/-- 'ravellaw18.TraceChecks', WHERE WHAT IT READS IS OF BULK AT MOST 1048576: true; the input reads as it did. -/
def traceChecksUptoRow : OpenClaim := { program := "ytpkegoikocfchaadoor", sum := "ca10f68b9b136f2d0236501f548af2ad96ceead9165274227a2342b52eee1a18", func := "ravel/ravellaw18.TraceChecks", spec := "traceChecks", unfollowed := true, recurses := true, named := ["ravel/life.follows"], apart := false, laid := [("ravel/life.follows", laid_ravel_life_follows)], narrowed := true }
def TraceChecksUptoSaid : Prop := traceChecksUptoRow.holds Tryd.pinned (OpenSpec.upto traceChecksSpec)

/-- 'ravellaw18.TraceWaits', WHERE WHAT IT READS IS OF BULK AT MOST 1048576: true; the input reads as it did. -/
def traceWaitsUptoRow : OpenClaim := { program := "ytpkegoikocfchaadoor", sum := "ca10f68b9b136f2d0236501f548af2ad96ceead9165274227a2342b52eee1a18", func := "ravel/ravellaw18.TraceWaits", spec := "traceWaits", unfollowed := true, recurses := true, named := ["ravel/life.follows"], apart := false, laid := [("ravel/life.follows", laid_ravel_life_follows)], narrowed := true }
def TraceWaitsUptoSaid : Prop := traceWaitsUptoRow.holds Tryd.pinned (OpenSpec.upto traceWaitsSpec)

/-- 'ravellaw18.TraceEnds', WHERE WHAT IT READS IS OF BULK AT MOST 1048576: true; the input reads as it did. -/
def traceEndsUptoRow : OpenClaim := { program := "ytpkegoikocfchaadoor", sum := "ca10f68b9b136f2d0236501f548af2ad96ceead9165274227a2342b52eee1a18", func := "ravel/ravellaw18.TraceEnds", spec := "traceEnds", unfollowed := true, recurses := true, named := ["ravel/life.follows"], apart := false, laid := [("ravel/life.follows", laid_ravel_life_follows)], narrowed := true }
def TraceEndsUptoSaid : Prop := traceEndsUptoRow.holds Tryd.pinned (OpenSpec.upto traceEndsSpec)

end Rows
end Go.Proofs.YtpkegoikocfchaaDoor
