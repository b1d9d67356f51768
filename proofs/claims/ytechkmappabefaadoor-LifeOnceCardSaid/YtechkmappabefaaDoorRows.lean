/-
  NARROWER THAN 'FOR EVERY INPUT', by the rows' own cells (each row's printed sentence says how): LifeTraces: laid · LifeTrace: laid · LifeLegal: laid · LifeKeeps: laid · LifeOnce: laid · LifeMoves: laid.
  DERIVED. THE GIVEN ROWS OF THIS SEAT. 6 by the template 'for every input the law returns true; each argument reads behind the call as it read before'; 0 by the template 'total and deterministic' (their statements: YtechkmappabefaaDoorTotals.lean).
  GIVEN WITH THE SEED: the statements are not yours to turn. If you find one false, say at which input.
  Laid BY PROGRAM, IN A SANDBOX (cutbox-rows.mjs): the forced cells as the released guide's own fill.sh prints them over the translation 6de1a16c2426147e… (all of the seat's roots in one cut). By AI agents, Wed Nov 11 2026. No macro, syntax, notation, axiom, sorry.
-/
import Derived.Test.YtechkmappabefaaDoorChecked
import GoSem.Claim
import GoSem.ClaimJoined
import GoSem.ClaimMapViews
import Derived.JoinedTies
import Derived.KernelRfl
namespace Go.Proofs.YtechkmappabefaaDoor
/- THE CELL 'sum', in the pinned program and in every row, IS THE sha256 OF THE DUMP (.gsa) THAT YtechkmappabefaaDoorProg.lean LOADS. Nothing in Lean hashes anything: it is a label: what it is worth is what the hold of that sum in a sandbox is worth. -/
noncomputable def Tryd.pinned : Pinned := { name := "ytechkmappabefaadoor", sum := "6de1a16c2426147efcf4bef70d224c85b6262f2ec68d76cdac2ec7f3e0fa7ab6", checked := Tryd.checked }
namespace Rows
def none {H : Type} : Left H := { results := [], args := [] }

/- WHAT THE LISTED PACKAGE-LEVEL VARIABLES READ AS WHEN THE CALL BEGINS. Each datum BY PROGRAM (the guide's laid-datum.mjs) off the statement by which the dump's own 'gosem.cut.vars' lays the variable. In a bare row this is a premise. The card (YtechkmappabefaaDoorCards.lean) ties it to the program's text. -/
def laid_ravel_life_follows {H : Type} : DataW H := .agg [.lit (.int .u8 0), .lit (.int .u8 132), .lit (.int .u8 250), .lit (.int .u8 130), .lit (.int .u8 130), .lit (.int .u8 130), .lit (.int .u8 130), .lit (.int .u8 0)]

/-- 'ravellaw12.LifeTraces': WHATEVER THE INPUT: true; the input reads as it did. -/
def lifeTracesSpec : ChangeSpec := { name := "lifeTraces", fn := fun _ => fun
  | [d] => { results := [.lit (.bool true)], args := [d] }
  | _ => none }
def lifeTracesRow : OpenClaim := { program := "ytechkmappabefaadoor", sum := "6de1a16c2426147efcf4bef70d224c85b6262f2ec68d76cdac2ec7f3e0fa7ab6", func := "ravel/ravellaw12.LifeTraces", spec := "lifeTraces", unfollowed := true, recurses := true, named := ["ravel/life.follows"], apart := false, laid := [("ravel/life.follows", laid_ravel_life_follows)] }
def LifeTracesSaid : Prop := lifeTracesRow.holds Tryd.pinned (OpenSpec.ofChange lifeTracesSpec)

/-- ITS FALSE NEIGHBOUR: 'it returns false'. Refute it at one input. -/
def lifeTracesWrong : ChangeSpec := { name := "lifeTraces", fn := fun _ => fun
  | [d] => { results := [.lit (.bool false)], args := [d] }
  | _ => none }
def LifeTracesWrongFalsely : Prop := lifeTracesRow.holds Tryd.pinned (OpenSpec.ofChange lifeTracesWrong)

/-- 'ravellaw12.LifeTrace': WHATEVER THE INPUT: true; the input reads as it did. -/
def lifeTraceSpec : ChangeSpec := { name := "lifeTrace", fn := fun _ => fun
  | [d1, d2] => { results := [.lit (.bool true)], args := [d1, d2] }
  | _ => none }
def lifeTraceRow : OpenClaim := { program := "ytechkmappabefaadoor", sum := "6de1a16c2426147efcf4bef70d224c85b6262f2ec68d76cdac2ec7f3e0fa7ab6", func := "ravel/ravellaw12.LifeTrace", spec := "lifeTrace", unfollowed := true, recurses := true, named := ["ravel/life.follows"], apart := false, laid := [("ravel/life.follows", laid_ravel_life_follows)] }
def LifeTraceSaid : Prop := lifeTraceRow.holds Tryd.pinned (OpenSpec.ofChange lifeTraceSpec)

/-- ITS FALSE NEIGHBOUR: 'it returns false'. Refute it at one input. -/
def lifeTraceWrong : ChangeSpec := { name := "lifeTrace", fn := fun _ => fun
  | [d1, d2] => { results := [.lit (.bool false)], args := [d1, d2] }
  | _ => none }
def LifeTraceWrongFalsely : Prop := lifeTraceRow.holds Tryd.pinned (OpenSpec.ofChange lifeTraceWrong)

/-- 'ravellaw12.LifeLegal': WHATEVER THE INPUT: true; the input reads as it did. -/
def lifeLegalSpec : ChangeSpec := { name := "lifeLegal", fn := fun _ => fun
  | [d1, d2] => { results := [.lit (.bool true)], args := [d1, d2] }
  | _ => none }
def lifeLegalRow : OpenClaim := { program := "ytechkmappabefaadoor", sum := "6de1a16c2426147efcf4bef70d224c85b6262f2ec68d76cdac2ec7f3e0fa7ab6", func := "ravel/ravellaw12.LifeLegal", spec := "lifeLegal", unfollowed := true, recurses := true, named := ["ravel/life.follows"], apart := false, laid := [("ravel/life.follows", laid_ravel_life_follows)] }
def LifeLegalSaid : Prop := lifeLegalRow.holds Tryd.pinned (OpenSpec.ofChange lifeLegalSpec)

/-- ITS FALSE NEIGHBOUR: 'it returns false'. Refute it at one input. -/
def lifeLegalWrong : ChangeSpec := { name := "lifeLegal", fn := fun _ => fun
  | [d1, d2] => { results := [.lit (.bool false)], args := [d1, d2] }
  | _ => none }
def LifeLegalWrongFalsely : Prop := lifeLegalRow.holds Tryd.pinned (OpenSpec.ofChange lifeLegalWrong)

/-- 'ravellaw12.LifeKeeps': WHATEVER THE INPUT: true; the input reads as it did. -/
def lifeKeepsSpec : ChangeSpec := { name := "lifeKeeps", fn := fun _ => fun
  | [d1, d2, d3, d4, d5] => { results := [.lit (.bool true)], args := [d1, d2, d3, d4, d5] }
  | _ => none }
def lifeKeepsRow : OpenClaim := { program := "ytechkmappabefaadoor", sum := "6de1a16c2426147efcf4bef70d224c85b6262f2ec68d76cdac2ec7f3e0fa7ab6", func := "ravel/ravellaw12.LifeKeeps", spec := "lifeKeeps", unfollowed := true, recurses := true, named := ["ravel/life.follows"], apart := false, laid := [("ravel/life.follows", laid_ravel_life_follows)] }
def LifeKeepsSaid : Prop := lifeKeepsRow.holds Tryd.pinned (OpenSpec.ofChange lifeKeepsSpec)

/-- ITS FALSE NEIGHBOUR: 'it returns false'. Refute it at one input. -/
def lifeKeepsWrong : ChangeSpec := { name := "lifeKeeps", fn := fun _ => fun
  | [d1, d2, d3, d4, d5] => { results := [.lit (.bool false)], args := [d1, d2, d3, d4, d5] }
  | _ => none }
def LifeKeepsWrongFalsely : Prop := lifeKeepsRow.holds Tryd.pinned (OpenSpec.ofChange lifeKeepsWrong)

/-- 'ravellaw12.LifeOnce': WHATEVER THE INPUT: true; the input reads as it did. -/
def lifeOnceSpec : ChangeSpec := { name := "lifeOnce", fn := fun _ => fun
  | [d1, d2, d3, d4] => { results := [.lit (.bool true)], args := [d1, d2, d3, d4] }
  | _ => none }
def lifeOnceRow : OpenClaim := { program := "ytechkmappabefaadoor", sum := "6de1a16c2426147efcf4bef70d224c85b6262f2ec68d76cdac2ec7f3e0fa7ab6", func := "ravel/ravellaw12.LifeOnce", spec := "lifeOnce", unfollowed := true, recurses := true, named := ["ravel/life.follows"], apart := false, laid := [("ravel/life.follows", laid_ravel_life_follows)] }
def LifeOnceSaid : Prop := lifeOnceRow.holds Tryd.pinned (OpenSpec.ofChange lifeOnceSpec)

/-- ITS FALSE NEIGHBOUR: 'it returns false'. Refute it at one input. -/
def lifeOnceWrong : ChangeSpec := { name := "lifeOnce", fn := fun _ => fun
  | [d1, d2, d3, d4] => { results := [.lit (.bool false)], args := [d1, d2, d3, d4] }
  | _ => none }
def LifeOnceWrongFalsely : Prop := lifeOnceRow.holds Tryd.pinned (OpenSpec.ofChange lifeOnceWrong)

/-- 'ravellaw12.LifeMoves': WHATEVER THE INPUT: true; the input reads as it did. -/
def lifeMovesSpec : ChangeSpec := { name := "lifeMoves", fn := fun _ => fun
  | [d1, d2, d3, d4, d5, d6] => { results := [.lit (.bool true)], args := [d1, d2, d3, d4, d5, d6] }
  | _ => none }
def lifeMovesRow : OpenClaim := { program := "ytechkmappabefaadoor", sum := "6de1a16c2426147efcf4bef70d224c85b6262f2ec68d76cdac2ec7f3e0fa7ab6", func := "ravel/ravellaw12.LifeMoves", spec := "lifeMoves", unfollowed := true, recurses := true, named := ["ravel/life.follows"], apart := false, laid := [("ravel/life.follows", laid_ravel_life_follows)] }
def LifeMovesSaid : Prop := lifeMovesRow.holds Tryd.pinned (OpenSpec.ofChange lifeMovesSpec)

/-- ITS FALSE NEIGHBOUR: 'it returns false'. Refute it at one input. -/
def lifeMovesWrong : ChangeSpec := { name := "lifeMoves", fn := fun _ => fun
  | [d1, d2, d3, d4, d5, d6] => { results := [.lit (.bool false)], args := [d1, d2, d3, d4, d5, d6] }
  | _ => none }
def LifeMovesWrongFalsely : Prop := lifeMovesRow.holds Tryd.pinned (OpenSpec.ofChange lifeMovesWrong)

/- THE SECOND FORM. 'bulk': how many values and letters a reading holds, each counted each time it is reached (what is shared counts as often as it is met; a slice's spare places count too). A statement '..UptoSaid' is the law's where the arguments, and the package variables that the reading takes, are together of bulk at most 1048576: NARROWER than '..Said'. Prove '..Said' where nothing that the law and all that it calls make is longer than what came in: it says more and counts as full. Else prove '..UptoSaid'. A law counts once. -/
mutual
def uptoBulk {H : Type} : DataW H → Nat
  | .lit (.string bytes) => bytes.length + 1
  | .lit _ => 1
  | .nil => 1
  | .ptr d => uptoBulk d + 1
  | .slice elems spare => uptoBulkAll elems + uptoBulkAll spare + 1
  | .agg parts => uptoBulkAll parts + 1
  | .iface _ d => uptoBulk d + 1
  | .map entries => uptoBulkEntries entries + 1
  | .held _ => 1
def uptoBulkAll {H : Type} : List (DataW H) → Nat
  | [] => 0
  | d :: r => uptoBulk d + uptoBulkAll r
def uptoBulkEntries {H : Type} : List (Lit × DataW H) → Nat
  | [] => 0
  | x :: r => uptoBulkEntry x + uptoBulkEntries r
def uptoBulkEntry {H : Type} : Lit × DataW H → Nat
  | (.string bytes, d) => bytes.length + uptoBulk d + 1
  | (_, d) => uptoBulk d + 1
 end
def uptoSmall : (H : Type) → List (DataW H) → Bool := fun _ ds => decide (uptoBulkAll ds ≤ 1048576)
def OpenSpec.upto (s : _root_.Go.ChangeSpec) : _root_.Go.OpenSpec := { _root_.Go.OpenSpec.ofChange s with cond := some uptoSmall }

/-- 'ravellaw12.LifeTraces', WHERE WHAT IT READS IS OF BULK AT MOST 1048576: true; the input reads as it did. -/
def lifeTracesUptoRow : OpenClaim := { program := "ytechkmappabefaadoor", sum := "6de1a16c2426147efcf4bef70d224c85b6262f2ec68d76cdac2ec7f3e0fa7ab6", func := "ravel/ravellaw12.LifeTraces", spec := "lifeTraces", unfollowed := true, recurses := true, named := ["ravel/life.follows"], apart := false, laid := [("ravel/life.follows", laid_ravel_life_follows)], narrowed := true }
def LifeTracesUptoSaid : Prop := lifeTracesUptoRow.holds Tryd.pinned (OpenSpec.upto lifeTracesSpec)

/-- 'ravellaw12.LifeTrace', WHERE WHAT IT READS IS OF BULK AT MOST 1048576: true; the input reads as it did. -/
def lifeTraceUptoRow : OpenClaim := { program := "ytechkmappabefaadoor", sum := "6de1a16c2426147efcf4bef70d224c85b6262f2ec68d76cdac2ec7f3e0fa7ab6", func := "ravel/ravellaw12.LifeTrace", spec := "lifeTrace", unfollowed := true, recurses := true, named := ["ravel/life.follows"], apart := false, laid := [("ravel/life.follows", laid_ravel_life_follows)], narrowed := true }
def LifeTraceUptoSaid : Prop := lifeTraceUptoRow.holds Tryd.pinned (OpenSpec.upto lifeTraceSpec)

/-- 'ravellaw12.LifeLegal', WHERE WHAT IT READS IS OF BULK AT MOST 1048576: true; the input reads as it did. -/
def lifeLegalUptoRow : OpenClaim := { program := "ytechkmappabefaadoor", sum := "6de1a16c2426147efcf4bef70d224c85b6262f2ec68d76cdac2ec7f3e0fa7ab6", func := "ravel/ravellaw12.LifeLegal", spec := "lifeLegal", unfollowed := true, recurses := true, named := ["ravel/life.follows"], apart := false, laid := [("ravel/life.follows", laid_ravel_life_follows)], narrowed := true }
def LifeLegalUptoSaid : Prop := lifeLegalUptoRow.holds Tryd.pinned (OpenSpec.upto lifeLegalSpec)

/-- 'ravellaw12.LifeKeeps', WHERE WHAT IT READS IS OF BULK AT MOST 1048576: true; the input reads as it did. -/
def lifeKeepsUptoRow : OpenClaim := { program := "ytechkmappabefaadoor", sum := "6de1a16c2426147efcf4bef70d224c85b6262f2ec68d76cdac2ec7f3e0fa7ab6", func := "ravel/ravellaw12.LifeKeeps", spec := "lifeKeeps", unfollowed := true, recurses := true, named := ["ravel/life.follows"], apart := false, laid := [("ravel/life.follows", laid_ravel_life_follows)], narrowed := true }
def LifeKeepsUptoSaid : Prop := lifeKeepsUptoRow.holds Tryd.pinned (OpenSpec.upto lifeKeepsSpec)

/-- 'ravellaw12.LifeOnce', WHERE WHAT IT READS IS OF BULK AT MOST 1048576: true; the input reads as it did. -/
def lifeOnceUptoRow : OpenClaim := { program := "ytechkmappabefaadoor", sum := "6de1a16c2426147efcf4bef70d224c85b6262f2ec68d76cdac2ec7f3e0fa7ab6", func := "ravel/ravellaw12.LifeOnce", spec := "lifeOnce", unfollowed := true, recurses := true, named := ["ravel/life.follows"], apart := false, laid := [("ravel/life.follows", laid_ravel_life_follows)], narrowed := true }
def LifeOnceUptoSaid : Prop := lifeOnceUptoRow.holds Tryd.pinned (OpenSpec.upto lifeOnceSpec)

/-- 'ravellaw12.LifeMoves', WHERE WHAT IT READS IS OF BULK AT MOST 1048576: true; the input reads as it did. -/
def lifeMovesUptoRow : OpenClaim := { program := "ytechkmappabefaadoor", sum := "6de1a16c2426147efcf4bef70d224c85b6262f2ec68d76cdac2ec7f3e0fa7ab6", func := "ravel/ravellaw12.LifeMoves", spec := "lifeMoves", unfollowed := true, recurses := true, named := ["ravel/life.follows"], apart := false, laid := [("ravel/life.follows", laid_ravel_life_follows)], narrowed := true }
def LifeMovesUptoSaid : Prop := lifeMovesUptoRow.holds Tryd.pinned (OpenSpec.upto lifeMovesSpec)

end Rows
end Go.Proofs.YtechkmappabefaaDoor
