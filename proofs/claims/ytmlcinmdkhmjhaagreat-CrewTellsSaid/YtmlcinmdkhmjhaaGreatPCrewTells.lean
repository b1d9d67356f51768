/- The statement: CrewTells answers true of whatever it is called with, and leaves alone what was there before. Conditions: none beyond those of the given row. -/
import Derived.Test.YtmlcinmdkhmjhaaGreatSL
import Derived.Test.YtmlcinmdkhmjhaaGreatSV
import Derived.Test.YtmlcinmdkhmjhaaGreatSJ
import Derived.Test.YtmlcinmdkhmjhaaGreatT6
import Derived.Test.YtmlcinmdkhmjhaaGreatL20czc
set_option linter.unusedVariables false
set_option linter.unusedSimpArgs false
set_option linter.unnecessarySimpa false
set_option linter.unusedSectionVars false
namespace Go.Proofs.YtmlcinmdkhmjhaaGreat
open Go Go.AM Go.ChangeShapes Go.WideShapes Go.ChangeAt Go.RowKit
set_option maxRecDepth 100000
theorem crewTells_any:∀us,VArgs E [25,47,47] us→SC Tryz.prog [] 3 us (.bool true):=by
 intro us h
 obtain ⟨v0,us,rfl,h0,h⟩:=h.cons_inv
 obtain ⟨v1,us,rfl,h1,h⟩:=h.cons_inv
 obtain ⟨v2,us,rfl,h2,h⟩:=h.cons_inv
 obtain rfl:=h.nil_inv
 obtain ⟨x0,rfl,w0⟩:=arg_25 h0
 obtain ⟨x1,rfl,w1⟩:=arg_47 h1
 obtain ⟨x2,rfl,w2⟩:=arg_47 h2
 exact w20_CrewTells_sc x0 x1 x2 true (crewTells_true w0.2.2.2.2.2.1.1 (fun p hp x hx=>((w0.2.2.2.2.2.1.2 p hp).2 x hx).2.1) w1.2.2.2.2.2.2.2.2.2.2.2.2.1.1 w1.2.2.2.2.2.2.2.2.2.1.1 w1.2.2.2.2.2.1.2.2.1 (fun x hx=>⟨(w1.2.2.2.2.2.2.2.2.2.2.2.2.1.2 x hx).2.2.2.2.1,(w1.2.2.2.2.2.2.2.2.2.2.2.2.1.2 x hx).2.2.2.2.2.2.1⟩) w2.2.2.2.2.2.2.2.2.2.2.2.2.1.1 w2.2.2.2.2.2.2.2.2.2.1.1 w2.2.2.2.2.2.1.2.2.1 (fun x hx=>⟨(w2.2.2.2.2.2.2.2.2.2.2.2.2.1.2 x hx).2.2.2.2.1,(w2.2.2.2.2.2.2.2.2.2.2.2.2.1.2 x hx).2.2.2.2.2.2.1⟩))
theorem crewTells_lifted (os:Os) (started:os.Started) (H:Type) (enc:TypeId×Value→H) :
 ReturnsInHanded {} Tryz.checked os 3 .any (Rows.crewTellsSpec.pre6 enc Tryz.prog Tryz.f3 Rows.crewTellsRow.domain false)
  (Rows.crewTellsSpec.post enc Tryz.prog Tryz.f3 false true false false):=by
 refine law_lifted (C:=Tryz.checked) (tb:=4) own started (by kernel_rfl) Tryz.func3 laidOut (by kernel_rfl) rfl rfl undb ?_ ?_ ?_
 ·intro ds hds
  match ds,hds with
  | [_,_,_],_=>rfl
 ·exact ChangeSpec.witness6 (enc:=enc) (C:=Tryz.checked) false ⟨#[],#[.agg #[.int .i64 0,.int .i64 0,.int .i64 0,.slice none 0 0,.slice none 0 0,.slice none 0 0,.int .i64 0,.int .i64 0,.slice none 0 0],.agg #[.int .i64 0,.slice none 0 0,.int .i64 0,.slice none 0 0,.slice none 0 0,.slice none 0 0,.slice none 0 0,.slice none 0 0,.slice none 0 0,.slice none 0 0,.slice none 0 0,.slice none 0 0,.slice none 0 0,.slice none 0 0,.slice none 0 0,.slice none 0 0,.slice none 0 0,.slice none 0 0,.bool false,.slice none 0 0],.agg #[.int .i64 0,.slice none 0 0,.int .i64 0,.slice none 0 0,.slice none 0 0,.slice none 0 0,.slice none 0 0,.slice none 0 0,.slice none 0 0,.slice none 0 0,.slice none 0 0,.slice none 0 0,.slice none 0 0,.slice none 0 0,.slice none 0 0,.slice none 0 0,.slice none 0 0,.slice none 0 0,.bool false,.slice none 0 0]],[]⟩ 8 (by kernel_rfl) (by kernel_rfl) (by kernel_rfl) (by kernel_rfl)
 ·intro W base args ds ps hval hA hlt
  exact law_walk (C:=Tryz.checked) E_good 30 (by kernel_rfl) (fun us hus=>crewTells_any us hus) (globAt_nil W) hval hA
theorem crewTells_row:Rows.CrewTellsSaid :=
 OpenClaim.holds_of_wide 3 Tryz.f3 rfl rfl rfl rfl rfl rfl rfl ⟨rfl,rfl,rfl,rfl,rfl⟩ rfl rfl rfl rfl rfl (by kernel_rfl) Tryz.func3 crewTells_facts
  (of_decide_eq_true (by kernel_rfl)) (by unfold Func.isWrapper;first|(rw [if_pos (by decide +kernel)];kernel_rfl)|(rw [if_neg (by decide +kernel)];exact ⟨rfl,rfl⟩))
  (fun os started H enc _=>crewTells_lifted os started H enc)
#print axioms crewTells_row
end Go.Proofs.YtmlcinmdkhmjhaaGreat
