/- Helper lemmas for the claim's theorem: an abstract machine over the model, proved sound; no condition beyond each lemma's own. -/
import Derived.Test.YtdlpecjbafadkaaT2
set_option linter.unusedVariables false
set_option linter.unusedSimpArgs false
set_option linter.unnecessarySimpa false
set_option linter.unusedSectionVars false
namespace Go.Proofs.Ytdlpecjbafadkaa
open Go Go.AM
set_option maxRecDepth 100000
set_option maxHeartbeats 1000000
set_option linter.unusedVariables false
set_option linter.unusedSimpArgs false
variable {gl : List (Nat × List V)}
noncomputable def go_code_Read_s14 (v5_4587 : List Int) (v6_4588 : List (List api_Instr)) (v20_4589 : Int) : (Int × (List api_Instr)) → Option ((Int × (List api_Instr)) ⊕ (((List Int) × (List (List api_Instr)) × Int) ⊕ ((List (List api_Instr)) × Int)))
  | (v4_4644, v80_4645) =>
    if (decide (v4_4644 < ((sub (sub v5_4587 (1 : Int) (v5_4587.length : Int)) 0 (IntKind.i64.wrap (4 * (IntKind.i64.wrap (gt v5_4587 0))))).length : Int))) = true then
      if 0 ≤ v4_4644 ∧ v4_4644 ≤ ((sub (sub v5_4587 (1 : Int) (v5_4587.length : Int)) 0 (IntKind.i64.wrap (4 * (IntKind.i64.wrap (gt v5_4587 0))))).length : Int) then
        if 0 ≤ v4_4644 ∧ v4_4644 ≤ (IntKind.i64.wrap (v4_4644 + (if ((sub (sub (sub v5_4587 (1 : Int) (v5_4587.length : Int)) 0 (IntKind.i64.wrap (4 * (IntKind.i64.wrap (gt v5_4587 0))))) v4_4644 ((sub (sub v5_4587 (1 : Int) (v5_4587.length : Int)) 0 (IntKind.i64.wrap (4 * (IntKind.i64.wrap (gt v5_4587 0))))).length : Int)).length : Int) < (4 : Int) then ((sub (sub (sub v5_4587 (1 : Int) (v5_4587.length : Int)) 0 (IntKind.i64.wrap (4 * (IntKind.i64.wrap (gt v5_4587 0))))) v4_4644 ((sub (sub v5_4587 (1 : Int) (v5_4587.length : Int)) 0 (IntKind.i64.wrap (4 * (IntKind.i64.wrap (gt v5_4587 0))))).length : Int)).length : Int) else (4 : Int)))) ∧ (IntKind.i64.wrap (v4_4644 + (if ((sub (sub (sub v5_4587 (1 : Int) (v5_4587.length : Int)) 0 (IntKind.i64.wrap (4 * (IntKind.i64.wrap (gt v5_4587 0))))) v4_4644 ((sub (sub v5_4587 (1 : Int) (v5_4587.length : Int)) 0 (IntKind.i64.wrap (4 * (IntKind.i64.wrap (gt v5_4587 0))))).length : Int)).length : Int) < (4 : Int) then ((sub (sub (sub v5_4587 (1 : Int) (v5_4587.length : Int)) 0 (IntKind.i64.wrap (4 * (IntKind.i64.wrap (gt v5_4587 0))))) v4_4644 ((sub (sub v5_4587 (1 : Int) (v5_4587.length : Int)) 0 (IntKind.i64.wrap (4 * (IntKind.i64.wrap (gt v5_4587 0))))).length : Int)).length : Int) else (4 : Int)))) ≤ (IntKind.i64.wrap (v4_4644 + (if ((sub (sub (sub v5_4587 (1 : Int) (v5_4587.length : Int)) 0 (IntKind.i64.wrap (4 * (IntKind.i64.wrap (gt v5_4587 0))))) v4_4644 ((sub (sub v5_4587 (1 : Int) (v5_4587.length : Int)) 0 (IntKind.i64.wrap (4 * (IntKind.i64.wrap (gt v5_4587 0))))).length : Int)).length : Int) < (4 : Int) then ((sub (sub (sub v5_4587 (1 : Int) (v5_4587.length : Int)) 0 (IntKind.i64.wrap (4 * (IntKind.i64.wrap (gt v5_4587 0))))) v4_4644 ((sub (sub v5_4587 (1 : Int) (v5_4587.length : Int)) 0 (IntKind.i64.wrap (4 * (IntKind.i64.wrap (gt v5_4587 0))))).length : Int)).length : Int) else (4 : Int)))) ∧ (IntKind.i64.wrap (v4_4644 + (if ((sub (sub (sub v5_4587 (1 : Int) (v5_4587.length : Int)) 0 (IntKind.i64.wrap (4 * (IntKind.i64.wrap (gt v5_4587 0))))) v4_4644 ((sub (sub v5_4587 (1 : Int) (v5_4587.length : Int)) 0 (IntKind.i64.wrap (4 * (IntKind.i64.wrap (gt v5_4587 0))))).length : Int)).length : Int) < (4 : Int) then ((sub (sub (sub v5_4587 (1 : Int) (v5_4587.length : Int)) 0 (IntKind.i64.wrap (4 * (IntKind.i64.wrap (gt v5_4587 0))))) v4_4644 ((sub (sub v5_4587 (1 : Int) (v5_4587.length : Int)) 0 (IntKind.i64.wrap (4 * (IntKind.i64.wrap (gt v5_4587 0))))).length : Int)).length : Int) else (4 : Int)))) ≤ ((sub (sub v5_4587 (1 : Int) (v5_4587.length : Int)) 0 (IntKind.i64.wrap (4 * (IntKind.i64.wrap (gt v5_4587 0))))).length : Int) then
          if 0 ≤ (0 : Int) ∧ (0 : Int) < ((sub (sub (sub v5_4587 (1 : Int) (v5_4587.length : Int)) 0 (IntKind.i64.wrap (4 * (IntKind.i64.wrap (gt v5_4587 0))))) v4_4644 (IntKind.i64.wrap (v4_4644 + (if ((sub (sub (sub v5_4587 (1 : Int) (v5_4587.length : Int)) 0 (IntKind.i64.wrap (4 * (IntKind.i64.wrap (gt v5_4587 0))))) v4_4644 ((sub (sub v5_4587 (1 : Int) (v5_4587.length : Int)) 0 (IntKind.i64.wrap (4 * (IntKind.i64.wrap (gt v5_4587 0))))).length : Int)).length : Int) < (4 : Int) then ((sub (sub (sub v5_4587 (1 : Int) (v5_4587.length : Int)) 0 (IntKind.i64.wrap (4 * (IntKind.i64.wrap (gt v5_4587 0))))) v4_4644 ((sub (sub v5_4587 (1 : Int) (v5_4587.length : Int)) 0 (IntKind.i64.wrap (4 * (IntKind.i64.wrap (gt v5_4587 0))))).length : Int)).length : Int) else (4 : Int))))).length : Int) then
            if 0 ≤ (1 : Int) ∧ (1 : Int) < ((sub (sub (sub v5_4587 (1 : Int) (v5_4587.length : Int)) 0 (IntKind.i64.wrap (4 * (IntKind.i64.wrap (gt v5_4587 0))))) v4_4644 (IntKind.i64.wrap (v4_4644 + (if ((sub (sub (sub v5_4587 (1 : Int) (v5_4587.length : Int)) 0 (IntKind.i64.wrap (4 * (IntKind.i64.wrap (gt v5_4587 0))))) v4_4644 ((sub (sub v5_4587 (1 : Int) (v5_4587.length : Int)) 0 (IntKind.i64.wrap (4 * (IntKind.i64.wrap (gt v5_4587 0))))).length : Int)).length : Int) < (4 : Int) then ((sub (sub (sub v5_4587 (1 : Int) (v5_4587.length : Int)) 0 (IntKind.i64.wrap (4 * (IntKind.i64.wrap (gt v5_4587 0))))) v4_4644 ((sub (sub v5_4587 (1 : Int) (v5_4587.length : Int)) 0 (IntKind.i64.wrap (4 * (IntKind.i64.wrap (gt v5_4587 0))))).length : Int)).length : Int) else (4 : Int))))).length : Int) then
              if 0 ≤ (2 : Int) ∧ (2 : Int) < ((sub (sub (sub v5_4587 (1 : Int) (v5_4587.length : Int)) 0 (IntKind.i64.wrap (4 * (IntKind.i64.wrap (gt v5_4587 0))))) v4_4644 (IntKind.i64.wrap (v4_4644 + (if ((sub (sub (sub v5_4587 (1 : Int) (v5_4587.length : Int)) 0 (IntKind.i64.wrap (4 * (IntKind.i64.wrap (gt v5_4587 0))))) v4_4644 ((sub (sub v5_4587 (1 : Int) (v5_4587.length : Int)) 0 (IntKind.i64.wrap (4 * (IntKind.i64.wrap (gt v5_4587 0))))).length : Int)).length : Int) < (4 : Int) then ((sub (sub (sub v5_4587 (1 : Int) (v5_4587.length : Int)) 0 (IntKind.i64.wrap (4 * (IntKind.i64.wrap (gt v5_4587 0))))) v4_4644 ((sub (sub v5_4587 (1 : Int) (v5_4587.length : Int)) 0 (IntKind.i64.wrap (4 * (IntKind.i64.wrap (gt v5_4587 0))))).length : Int)).length : Int) else (4 : Int))))).length : Int) then
                if 0 ≤ (3 : Int) ∧ (3 : Int) < ((sub (sub (sub v5_4587 (1 : Int) (v5_4587.length : Int)) 0 (IntKind.i64.wrap (4 * (IntKind.i64.wrap (gt v5_4587 0))))) v4_4644 (IntKind.i64.wrap (v4_4644 + (if ((sub (sub (sub v5_4587 (1 : Int) (v5_4587.length : Int)) 0 (IntKind.i64.wrap (4 * (IntKind.i64.wrap (gt v5_4587 0))))) v4_4644 ((sub (sub v5_4587 (1 : Int) (v5_4587.length : Int)) 0 (IntKind.i64.wrap (4 * (IntKind.i64.wrap (gt v5_4587 0))))).length : Int)).length : Int) < (4 : Int) then ((sub (sub (sub v5_4587 (1 : Int) (v5_4587.length : Int)) 0 (IntKind.i64.wrap (4 * (IntKind.i64.wrap (gt v5_4587 0))))) v4_4644 ((sub (sub v5_4587 (1 : Int) (v5_4587.length : Int)) 0 (IntKind.i64.wrap (4 * (IntKind.i64.wrap (gt v5_4587 0))))).length : Int)).length : Int) else (4 : Int))))).length : Int) then
                  if few (v80_4645 ++ [(api_Instr.mk (IntKind.i64.wrap (gt (sub (sub (sub v5_4587 (1 : Int) (v5_4587.length : Int)) 0 (IntKind.i64.wrap (4 * (IntKind.i64.wrap (gt v5_4587 0))))) v4_4644 (IntKind.i64.wrap (v4_4644 + (if ((sub (sub (sub v5_4587 (1 : Int) (v5_4587.length : Int)) 0 (IntKind.i64.wrap (4 * (IntKind.i64.wrap (gt v5_4587 0))))) v4_4644 ((sub (sub v5_4587 (1 : Int) (v5_4587.length : Int)) 0 (IntKind.i64.wrap (4 * (IntKind.i64.wrap (gt v5_4587 0))))).length : Int)).length : Int) < (4 : Int) then ((sub (sub (sub v5_4587 (1 : Int) (v5_4587.length : Int)) 0 (IntKind.i64.wrap (4 * (IntKind.i64.wrap (gt v5_4587 0))))) v4_4644 ((sub (sub v5_4587 (1 : Int) (v5_4587.length : Int)) 0 (IntKind.i64.wrap (4 * (IntKind.i64.wrap (gt v5_4587 0))))).length : Int)).length : Int) else (4 : Int))))) 0)) (IntKind.i64.wrap (BitVec.ofInt IntKind.i64.bits (IntKind.i64.wrap ((IntKind.i64.wrap (gt (sub (sub (sub v5_4587 (1 : Int) (v5_4587.length : Int)) 0 (IntKind.i64.wrap (4 * (IntKind.i64.wrap (gt v5_4587 0))))) v4_4644 (IntKind.i64.wrap (v4_4644 + (if ((sub (sub (sub v5_4587 (1 : Int) (v5_4587.length : Int)) 0 (IntKind.i64.wrap (4 * (IntKind.i64.wrap (gt v5_4587 0))))) v4_4644 ((sub (sub v5_4587 (1 : Int) (v5_4587.length : Int)) 0 (IntKind.i64.wrap (4 * (IntKind.i64.wrap (gt v5_4587 0))))).length : Int)).length : Int) < (4 : Int) then ((sub (sub (sub v5_4587 (1 : Int) (v5_4587.length : Int)) 0 (IntKind.i64.wrap (4 * (IntKind.i64.wrap (gt v5_4587 0))))) v4_4644 ((sub (sub v5_4587 (1 : Int) (v5_4587.length : Int)) 0 (IntKind.i64.wrap (4 * (IntKind.i64.wrap (gt v5_4587 0))))).length : Int)).length : Int) else (4 : Int))))) 1)) * 2 ^ (min (Int.toNat 8) IntKind.i64.bits))) ||| BitVec.ofInt IntKind.i64.bits (IntKind.i64.wrap (gt (sub (sub (sub v5_4587 (1 : Int) (v5_4587.length : Int)) 0 (IntKind.i64.wrap (4 * (IntKind.i64.wrap (gt v5_4587 0))))) v4_4644 (IntKind.i64.wrap (v4_4644 + (if ((sub (sub (sub v5_4587 (1 : Int) (v5_4587.length : Int)) 0 (IntKind.i64.wrap (4 * (IntKind.i64.wrap (gt v5_4587 0))))) v4_4644 ((sub (sub v5_4587 (1 : Int) (v5_4587.length : Int)) 0 (IntKind.i64.wrap (4 * (IntKind.i64.wrap (gt v5_4587 0))))).length : Int)).length : Int) < (4 : Int) then ((sub (sub (sub v5_4587 (1 : Int) (v5_4587.length : Int)) 0 (IntKind.i64.wrap (4 * (IntKind.i64.wrap (gt v5_4587 0))))) v4_4644 ((sub (sub v5_4587 (1 : Int) (v5_4587.length : Int)) 0 (IntKind.i64.wrap (4 * (IntKind.i64.wrap (gt v5_4587 0))))).length : Int)).length : Int) else (4 : Int))))) 2))).toNat) (IntKind.i64.wrap (gt (sub (sub (sub v5_4587 (1 : Int) (v5_4587.length : Int)) 0 (IntKind.i64.wrap (4 * (IntKind.i64.wrap (gt v5_4587 0))))) v4_4644 (IntKind.i64.wrap (v4_4644 + (if ((sub (sub (sub v5_4587 (1 : Int) (v5_4587.length : Int)) 0 (IntKind.i64.wrap (4 * (IntKind.i64.wrap (gt v5_4587 0))))) v4_4644 ((sub (sub v5_4587 (1 : Int) (v5_4587.length : Int)) 0 (IntKind.i64.wrap (4 * (IntKind.i64.wrap (gt v5_4587 0))))).length : Int)).length : Int) < (4 : Int) then ((sub (sub (sub v5_4587 (1 : Int) (v5_4587.length : Int)) 0 (IntKind.i64.wrap (4 * (IntKind.i64.wrap (gt v5_4587 0))))) v4_4644 ((sub (sub v5_4587 (1 : Int) (v5_4587.length : Int)) 0 (IntKind.i64.wrap (4 * (IntKind.i64.wrap (gt v5_4587 0))))).length : Int)).length : Int) else (4 : Int))))) 3)))]).length then
                    nextO (IntKind.i64.wrap (v4_4644 + 4), v80_4645 ++ [(api_Instr.mk (IntKind.i64.wrap (gt (sub (sub (sub v5_4587 (1 : Int) (v5_4587.length : Int)) 0 (IntKind.i64.wrap (4 * (IntKind.i64.wrap (gt v5_4587 0))))) v4_4644 (IntKind.i64.wrap (v4_4644 + (if ((sub (sub (sub v5_4587 (1 : Int) (v5_4587.length : Int)) 0 (IntKind.i64.wrap (4 * (IntKind.i64.wrap (gt v5_4587 0))))) v4_4644 ((sub (sub v5_4587 (1 : Int) (v5_4587.length : Int)) 0 (IntKind.i64.wrap (4 * (IntKind.i64.wrap (gt v5_4587 0))))).length : Int)).length : Int) < (4 : Int) then ((sub (sub (sub v5_4587 (1 : Int) (v5_4587.length : Int)) 0 (IntKind.i64.wrap (4 * (IntKind.i64.wrap (gt v5_4587 0))))) v4_4644 ((sub (sub v5_4587 (1 : Int) (v5_4587.length : Int)) 0 (IntKind.i64.wrap (4 * (IntKind.i64.wrap (gt v5_4587 0))))).length : Int)).length : Int) else (4 : Int))))) 0)) (IntKind.i64.wrap (BitVec.ofInt IntKind.i64.bits (IntKind.i64.wrap ((IntKind.i64.wrap (gt (sub (sub (sub v5_4587 (1 : Int) (v5_4587.length : Int)) 0 (IntKind.i64.wrap (4 * (IntKind.i64.wrap (gt v5_4587 0))))) v4_4644 (IntKind.i64.wrap (v4_4644 + (if ((sub (sub (sub v5_4587 (1 : Int) (v5_4587.length : Int)) 0 (IntKind.i64.wrap (4 * (IntKind.i64.wrap (gt v5_4587 0))))) v4_4644 ((sub (sub v5_4587 (1 : Int) (v5_4587.length : Int)) 0 (IntKind.i64.wrap (4 * (IntKind.i64.wrap (gt v5_4587 0))))).length : Int)).length : Int) < (4 : Int) then ((sub (sub (sub v5_4587 (1 : Int) (v5_4587.length : Int)) 0 (IntKind.i64.wrap (4 * (IntKind.i64.wrap (gt v5_4587 0))))) v4_4644 ((sub (sub v5_4587 (1 : Int) (v5_4587.length : Int)) 0 (IntKind.i64.wrap (4 * (IntKind.i64.wrap (gt v5_4587 0))))).length : Int)).length : Int) else (4 : Int))))) 1)) * 2 ^ (min (Int.toNat 8) IntKind.i64.bits))) ||| BitVec.ofInt IntKind.i64.bits (IntKind.i64.wrap (gt (sub (sub (sub v5_4587 (1 : Int) (v5_4587.length : Int)) 0 (IntKind.i64.wrap (4 * (IntKind.i64.wrap (gt v5_4587 0))))) v4_4644 (IntKind.i64.wrap (v4_4644 + (if ((sub (sub (sub v5_4587 (1 : Int) (v5_4587.length : Int)) 0 (IntKind.i64.wrap (4 * (IntKind.i64.wrap (gt v5_4587 0))))) v4_4644 ((sub (sub v5_4587 (1 : Int) (v5_4587.length : Int)) 0 (IntKind.i64.wrap (4 * (IntKind.i64.wrap (gt v5_4587 0))))).length : Int)).length : Int) < (4 : Int) then ((sub (sub (sub v5_4587 (1 : Int) (v5_4587.length : Int)) 0 (IntKind.i64.wrap (4 * (IntKind.i64.wrap (gt v5_4587 0))))) v4_4644 ((sub (sub v5_4587 (1 : Int) (v5_4587.length : Int)) 0 (IntKind.i64.wrap (4 * (IntKind.i64.wrap (gt v5_4587 0))))).length : Int)).length : Int) else (4 : Int))))) 2))).toNat) (IntKind.i64.wrap (gt (sub (sub (sub v5_4587 (1 : Int) (v5_4587.length : Int)) 0 (IntKind.i64.wrap (4 * (IntKind.i64.wrap (gt v5_4587 0))))) v4_4644 (IntKind.i64.wrap (v4_4644 + (if ((sub (sub (sub v5_4587 (1 : Int) (v5_4587.length : Int)) 0 (IntKind.i64.wrap (4 * (IntKind.i64.wrap (gt v5_4587 0))))) v4_4644 ((sub (sub v5_4587 (1 : Int) (v5_4587.length : Int)) 0 (IntKind.i64.wrap (4 * (IntKind.i64.wrap (gt v5_4587 0))))).length : Int)).length : Int) < (4 : Int) then ((sub (sub (sub v5_4587 (1 : Int) (v5_4587.length : Int)) 0 (IntKind.i64.wrap (4 * (IntKind.i64.wrap (gt v5_4587 0))))) v4_4644 ((sub (sub v5_4587 (1 : Int) (v5_4587.length : Int)) 0 (IntKind.i64.wrap (4 * (IntKind.i64.wrap (gt v5_4587 0))))).length : Int)).length : Int) else (4 : Int))))) 3)))])
                  else none
                else none
              else none
            else none
          else none
        else none
      else none
    else
      inrO (
        if 0 ≤ (IntKind.i64.wrap (4 * (IntKind.i64.wrap (gt v5_4587 0)))) ∧ (IntKind.i64.wrap (4 * (IntKind.i64.wrap (gt v5_4587 0)))) ≤ ((sub v5_4587 (1 : Int) (v5_4587.length : Int)).length : Int) then
          if few (v6_4588 ++ [v80_4645]).length then
            nextO (sub (sub v5_4587 (1 : Int) (v5_4587.length : Int)) (IntKind.i64.wrap (4 * (IntKind.i64.wrap (gt v5_4587 0)))) ((sub v5_4587 (1 : Int) (v5_4587.length : Int)).length : Int), v6_4588 ++ [v80_4645], IntKind.i64.wrap (v20_4589 + 1))
          else none
        else none)

noncomputable def go_code_Read_s12 (a0_3816 : List Int) : ((List Int) × (List (List api_Instr)) × Int) → Option (((List Int) × (List (List api_Instr)) × Int) ⊕ ((List (List api_Instr)) × Int))
  | (v5_4587, v6_4588, v20_4589) =>
    if (decide (v20_4589 < (IntKind.i64.wrap (gt a0_3816 0)))) = true then
      if ((v5_4587.length : Int) == 0) = true then
        inrO (
          some ([], 2))
      else
        if 0 ≤ (0 : Int) ∧ (0 : Int) < (v5_4587.length : Int) then
          if 0 ≤ (1 : Int) ∧ (1 : Int) ≤ (v5_4587.length : Int) then
            if (decide ((IntKind.i64.wrap (4 * (IntKind.i64.wrap (gt v5_4587 0)))) > ((sub v5_4587 (1 : Int) (v5_4587.length : Int)).length : Int))) = true then
              inrO (
                some ([], 2))
            else
              if 0 ≤ (IntKind.i64.wrap (4 * (IntKind.i64.wrap (gt v5_4587 0)))) ∧ (IntKind.i64.wrap (4 * (IntKind.i64.wrap (gt v5_4587 0)))) ≤ ((sub v5_4587 (1 : Int) (v5_4587.length : Int)).length : Int) then
                whileO (go_code_Read_s14 v5_4587 v6_4588 v20_4589) (0, [])
              else none
          else none
        else none
    else
      inrO (
        if (decide ((v5_4587.length : Int) > 0)) = true then
          some ([], 2)
        else
          (go_code_CheckAll v6_4588).bind fun x_4660 =>
          if (x_4660 != 0) = true then
            some ([], 2)
          else
            some (v6_4588, 0))

noncomputable def go_code_Read (a0_3816 : List Int) : Option ((List (List api_Instr)) × Int) :=
  if ((a0_3816.length : Int) == 0) = true then
    some ([], 2)
  else
    if 0 ≤ (0 : Int) ∧ (0 : Int) < (a0_3816.length : Int) then
      if 0 ≤ (1 : Int) ∧ (1 : Int) ≤ (a0_3816.length : Int) then
        whileO (go_code_Read_s12 a0_3816) (sub a0_3816 (1 : Int) (a0_3816.length : Int), [], 0)
      else none
    else none

theorem go_code_Read_sc (a0_3816 : List Int) (r : (List (List api_Instr)) × Int) (h : go_code_Read a0_3816 = some r) : SC Try.prog gl 24 [V.sl 1 (rws (fun n => [V.int .u8 n]) a0_3816)] (V.tup [V.own 1 (rws (fun l => [V.sl 3 (rws api_Instr.cells l)]) r.1), V.int .i64 r.2]) := by
  rw [go_code_Read] at h
  refine SC.of E_good Try.func24 rfl (fun _ _ => Try.call24 _ _) rfl ?_
  repeat (first | refine Safe.seq ?_ | refine Safe.skip ?_ | with_reducible refine thenQ.n ?_ | with_reducible refine blockQ.n ?_)
  refine Safe.region ?_
  refine SafeOps.quiet0 E_good rfl rfl rfl (v := V.nils) (.fn rfl) ?_
  refine SafeOps.quiet0 E_good rfl rfl rfl (v := V.int .i64 0) (.fn rfl) ?_
  refine SafeOps.nil ?_
  repeat (first | refine Safe.seq ?_ | refine Safe.skip ?_ | with_reducible refine thenQ.n ?_ | with_reducible refine blockQ.n ?_)
  refine Safe.region ?_
  refine SafeOps.quiet0 E_good rfl rfl rfl (v := V.sl 1 (rws (fun n => [V.int .u8 n]) a0_3816)) (.fn rfl) ?_
  refine SafeOps.quiet0 E_good rfl rfl rfl (v := V.int .i64 (a0_3816.length : Int)) (.fnE rfl lenE) ?_
  refine SafeOps.quiet0 E_good rfl rfl rfl (v := V.bool ((a0_3816.length : Int) == 0)) (.fn rfl) ?_
  refine SafeOps.nil ?_
  repeat (first | refine Safe.seq ?_ | refine Safe.skip ?_ | with_reducible refine thenQ.n ?_ | with_reducible refine blockQ.n ?_)
  refine ifG h (fun hc4244 h => ?_) (fun hc4244 h => ?_)
  · skip
    refine Safe.condK rfl hc4244 ?_
    repeat (first | refine Safe.seq ?_ | refine Safe.skip ?_ | with_reducible refine thenQ.n ?_ | with_reducible refine blockQ.n ?_)
    refine Safe.region ?_
    refine SafeOps.quiet0 E_good rfl rfl rfl (v := V.nils) (.fn rfl) ?_
    refine SafeOps.quiet0 E_good rfl rfl rfl (v := V.int .i64 2) (.fn rfl) ?_
    refine SafeOps.nil ?_
    repeat (first | refine Safe.seq ?_ | refine Safe.skip ?_ | with_reducible refine thenQ.n ?_ | with_reducible refine blockQ.n ?_)
    refine Safe.ret ?_
    repeat (first | with_reducible refine thenQ.r ?_ | with_reducible refine blockQ.r ?_)
    obtain rfl := Option.some.inj h
    exact retQ.gen (vs := [V.nils, V.int .i64 2]) rfl (.tmp (v := V.nils) rfl (.tmp (v := V.int .i64 2) rfl .nil)) (by exact (.tup (.cons (.nils _) (.cons (.free rfl) .nil)))) (by simp) (.inr rfl)
  · skip
    refine Safe.condN rfl hc4244 ?_
    repeat (first | refine Safe.seq ?_ | refine Safe.skip ?_ | with_reducible refine thenQ.n ?_ | with_reducible refine blockQ.n ?_)
    refine Safe.regionD (n := 8) [] [] E_good mixed rfl ?_
    refine DAny.take (i := 0) rfl (by kernel_rfl) [] (by kernel_rfl) (by kernel_rfl) (by kernel_rfl) rfl rfl rfl (v := V.sl 1 (rws (fun n => [V.int .u8 n]) a0_3816)) (fun _ hz => (.fn rfl)) ?_
    refine okG h (fun hb4245 h => ?_)
    refine DAny.take (i := 1) rfl (by kernel_rfl) [] (by kernel_rfl) (by kernel_rfl) (by kernel_rfl) rfl rfl rfl (v := V.spt 1 (rws (fun n => [V.int .u8 n]) a0_3816) (Int.toNat 0) 0) (fun _ hz => (.idxSlM (f := (fun n => [V.int .u8 n])) rfl rfl rfl rfl rfl hb4245)) ?_
    refine DAny.take (i := 2) rfl (by kernel_rfl) [] (by kernel_rfl) (by kernel_rfl) (by kernel_rfl) rfl rfl rfl (v := V.int .u8 (gt a0_3816 0)) (fun _ hz => (.load rfl rfl (.sptM (f := (fun n => [V.int .u8 n])) hb4245 rfl) rfl)) ?_
    refine DAny.take (i := 3) rfl (by kernel_rfl) [] (by kernel_rfl) (by kernel_rfl) (by kernel_rfl) rfl rfl rfl (v := V.int .i64 (IntKind.i64.wrap (gt a0_3816 0))) (fun _ hz => (.fn rfl)) ?_
    refine DAny.take (i := 4) rfl (by kernel_rfl) [] (by kernel_rfl) (by kernel_rfl) (by kernel_rfl) rfl rfl rfl (v := V.sl 1 (rws (fun n => [V.int .u8 n]) a0_3816)) (fun _ hz => (.fn rfl)) ?_
    refine okG h (fun hb4246 h => ?_)
    refine DAny.take (i := 5) rfl (by kernel_rfl) [] (by kernel_rfl) (by kernel_rfl) (by kernel_rfl) rfl rfl rfl (v := V.sl 1 (rws (fun n => [V.int .u8 n]) (sub a0_3816 (1 : Int) (a0_3816.length : Int)))) (fun _ hz => (.slL (f := (fun n => [V.int .u8 n])) rfl rfl rfl rfl rfl hb4246)) ?_
    refine DAny.take (i := 6) rfl (by kernel_rfl) [] (by kernel_rfl) (by kernel_rfl) (by kernel_rfl) rfl rfl rfl (v := V.int .i64 (IntKind.i64.wrap (gt a0_3816 0))) (fun _ hz => (.fn rfl)) ?_
    refine DAny.take (i := 7) rfl (by kernel_rfl) [] (by kernel_rfl) (by kernel_rfl) (by kernel_rfl) rfl rfl rfl (v := V.sl 1 (rws (fun n => [V.int .u8 n]) (sub a0_3816 (1 : Int) (a0_3816.length : Int)))) (fun _ hz => (.fn rfl)) ?_
    refine DAny.nil (by kernel_rfl) ?_
    repeat (first | refine Safe.seq ?_ | refine Safe.skip ?_ | with_reducible refine thenQ.n ?_ | with_reducible refine blockQ.n ?_)
    refine Safe.region ?_
    refine SafeOps.quiet0 E_good rfl rfl rfl (v := V.nils) (.fn rfl) ?_
    refine SafeOps.nil ?_
    repeat (first | refine Safe.seq ?_ | refine Safe.skip ?_ | with_reducible refine thenQ.n ?_ | with_reducible refine blockQ.n ?_)
    refine Safe.region ?_
    refine SafeOps.quiet0 E_good rfl rfl rfl (v := V.int .i64 (IntKind.i64.wrap (gt a0_3816 0))) (.fn rfl) ?_
    refine SafeOps.quiet0 E_good rfl rfl rfl (v := V.int .i64 0) (.fn rfl) ?_
    refine SafeOps.nil ?_
    repeat (first | refine Safe.seq ?_ | refine Safe.skip ?_ | with_reducible refine thenQ.n ?_ | with_reducible refine blockQ.n ?_)
    refine Safe.block ?_
    repeat (first | refine Safe.seq ?_ | refine Safe.skip ?_ | with_reducible refine thenQ.n ?_ | with_reducible refine blockQ.n ?_)
    refine Safe.loopW (fun ((v5_4587, v6_4588, v20_4589) : (List Int) × (List (List api_Instr)) × Int) => ⟨Try.f24.ntmps, [(5, V.sl 1 (rws (fun n => [V.int .u8 n]) v5_4587)), (6, V.ref [7000, 118, 6] 0 (rws (fun l => [V.sl 3 (rws api_Instr.cells l)]) v6_4588).length), (19, V.int .i64 (IntKind.i64.wrap (gt a0_3816 0))), (20, V.int .i64 v20_4589)], [([7000, 118, 6], Obj.rows 1 (rws (fun l => [V.sl 3 (rws api_Instr.cells l)]) v6_4588) false)], [], []⟩) h (.empty [7000, 118, 6] 1 rfl (.cov ⟨rfl, rfl, (upT_cons (.refl _) (upT_cons (.nilref _) (upT_cons (.refl _) (upT_cons (.refl _) upT_nil)))), (upOb_cons rfl (.refl _) upOb_nil), upOut_nil, rfl⟩)) ?_
    rintro ⟨v5_4587, v6_4588, v20_4589⟩ ohr4590 h hr4590
    replace h : go_code_Read_s12 a0_3816 (v5_4587, v6_4588, v20_4589) = some ohr4590 := h
    rw [go_code_Read_s12] at h
    repeat (first | refine Safe.seq ?_ | refine Safe.skip ?_ | with_reducible refine thenQ.n ?_ | with_reducible refine blockQ.n ?_)
    refine Safe.region ?_
    refine SafeOps.quiet0 E_good rfl rfl rfl (v := V.bool (decide (v20_4589 < (IntKind.i64.wrap (gt a0_3816 0))))) (.fn rfl) ?_
    refine SafeOps.nil ?_
    repeat (first | refine Safe.seq ?_ | refine Safe.skip ?_ | with_reducible refine thenQ.n ?_ | with_reducible refine blockQ.n ?_)
    refine ifG h (fun hc4591 h => ?_) (fun hc4591 h => ?_)
    · skip
      refine Safe.condK rfl hc4591 ?_
      repeat (first | refine Safe.seq ?_ | refine Safe.skip ?_ | with_reducible refine thenQ.n ?_ | with_reducible refine blockQ.n ?_)
      refine Safe.block ?_
      repeat (first | refine Safe.seq ?_ | refine Safe.skip ?_ | with_reducible refine thenQ.n ?_ | with_reducible refine blockQ.n ?_)
      refine Safe.region ?_
      refine SafeOps.quiet0 E_good rfl rfl rfl (v := V.sl 1 (rws (fun n => [V.int .u8 n]) v5_4587)) (.fn rfl) ?_
      refine SafeOps.quiet0 E_good rfl rfl rfl (v := V.int .i64 (v5_4587.length : Int)) (.fnE rfl lenE) ?_
      refine SafeOps.quiet0 E_good rfl rfl rfl (v := V.bool ((v5_4587.length : Int) == 0)) (.fn rfl) ?_
      refine SafeOps.nil ?_
      repeat (first | refine Safe.seq ?_ | refine Safe.skip ?_ | with_reducible refine thenQ.n ?_ | with_reducible refine blockQ.n ?_)
      refine ifG h (fun hc4592 h => ?_) (fun hc4592 h => ?_)
      · skip
        refine Safe.condK rfl hc4592 ?_
        repeat (first | refine Safe.seq ?_ | refine Safe.skip ?_ | with_reducible refine thenQ.n ?_ | with_reducible refine blockQ.n ?_)
        refine Safe.region ?_
        refine SafeOps.quiet0 E_good rfl rfl rfl (v := V.nils) (.fn rfl) ?_
        refine SafeOps.quiet0 E_good rfl rfl rfl (v := V.int .i64 2) (.fn rfl) ?_
        refine SafeOps.nil ?_
        repeat (first | refine Safe.seq ?_ | refine Safe.skip ?_ | with_reducible refine thenQ.n ?_ | with_reducible refine blockQ.n ?_)
        refine Safe.ret ?_
        repeat (first | with_reducible refine thenQ.r ?_ | with_reducible refine blockQ.r ?_)
        replace h := inr_out h hr4590
        obtain rfl := Option.some.inj h
        exact retQ.gen (vs := [V.nils, V.int .i64 2]) rfl (.tmp (v := V.nils) rfl (.tmp (v := V.int .i64 2) rfl .nil)) (by exact (.tup (.cons (.nils _) (.cons (.free rfl) .nil)))) (by simp) (.inr rfl)
      · skip
        refine Safe.condN rfl hc4592 ?_
        repeat (first | refine Safe.seq ?_ | refine Safe.skip ?_ | with_reducible refine thenQ.n ?_ | with_reducible refine blockQ.n ?_)
        refine Safe.region ?_
        refine SafeOps.quiet0 E_good rfl rfl rfl (v := V.sl 1 (rws (fun n => [V.int .u8 n]) v5_4587)) (.fn rfl) ?_
        refine okG h (fun hb4593 h => ?_)
        refine SafeOps.quiet0 E_good rfl rfl rfl (v := V.spt 1 (rws (fun n => [V.int .u8 n]) v5_4587) (Int.toNat 0) 0) (.idxSlM (f := (fun n => [V.int .u8 n])) rfl rfl rfl rfl rfl hb4593) ?_
        refine SafeOps.quiet0 E_good rfl rfl rfl (v := V.int .u8 (gt v5_4587 0)) (.load rfl rfl (.sptM (f := (fun n => [V.int .u8 n])) hb4593 rfl) rfl) ?_
        refine SafeOps.quiet0 E_good rfl rfl rfl (v := V.int .i64 (IntKind.i64.wrap (gt v5_4587 0))) (.fn rfl) ?_
        refine SafeOps.quiet0 E_good rfl rfl rfl (v := V.int .i64 (IntKind.i64.wrap (4 * (IntKind.i64.wrap (gt v5_4587 0))))) (.fn rfl) ?_
        refine SafeOps.quiet0 E_good rfl rfl rfl (v := V.int .i64 (IntKind.i64.wrap (4 * (IntKind.i64.wrap (gt v5_4587 0))))) (.fn rfl) ?_
        refine SafeOps.nil ?_
        repeat (first | refine Safe.seq ?_ | refine Safe.skip ?_ | with_reducible refine thenQ.n ?_ | with_reducible refine blockQ.n ?_)
        refine Safe.region ?_
        refine SafeOps.quiet0 E_good rfl rfl rfl (v := V.sl 1 (rws (fun n => [V.int .u8 n]) v5_4587)) (.fn rfl) ?_
        refine okG h (fun hb4594 h => ?_)
        refine SafeOps.quiet0 E_good rfl rfl rfl (v := V.sl 1 (rws (fun n => [V.int .u8 n]) (sub v5_4587 (1 : Int) (v5_4587.length : Int)))) (.slL (f := (fun n => [V.int .u8 n])) rfl rfl rfl rfl rfl hb4594) ?_
        refine SafeOps.quiet0 E_good rfl rfl rfl (v := V.sl 1 (rws (fun n => [V.int .u8 n]) (sub v5_4587 (1 : Int) (v5_4587.length : Int)))) (.fn rfl) ?_
        refine SafeOps.nil ?_
        repeat (first | refine Safe.seq ?_ | refine Safe.skip ?_ | with_reducible refine thenQ.n ?_ | with_reducible refine blockQ.n ?_)
        refine Safe.region ?_
        refine SafeOps.quiet0 E_good rfl rfl rfl (v := V.int .i64 (IntKind.i64.wrap (4 * (IntKind.i64.wrap (gt v5_4587 0))))) (.fn rfl) ?_
        refine SafeOps.quiet0 E_good rfl rfl rfl (v := V.sl 1 (rws (fun n => [V.int .u8 n]) (sub v5_4587 (1 : Int) (v5_4587.length : Int)))) (.fn rfl) ?_
        refine SafeOps.quiet0 E_good rfl rfl rfl (v := V.int .i64 ((sub v5_4587 (1 : Int) (v5_4587.length : Int)).length : Int)) (.fnE rfl lenE) ?_
        refine SafeOps.quiet0 E_good rfl rfl rfl (v := V.bool (decide ((IntKind.i64.wrap (4 * (IntKind.i64.wrap (gt v5_4587 0)))) > ((sub v5_4587 (1 : Int) (v5_4587.length : Int)).length : Int)))) (.fn rfl) ?_
        refine SafeOps.nil ?_
        repeat (first | refine Safe.seq ?_ | refine Safe.skip ?_ | with_reducible refine thenQ.n ?_ | with_reducible refine blockQ.n ?_)
        refine ifG h (fun hc4595 h => ?_) (fun hc4595 h => ?_)
        · skip
          refine Safe.condK rfl hc4595 ?_
          repeat (first | refine Safe.seq ?_ | refine Safe.skip ?_ | with_reducible refine thenQ.n ?_ | with_reducible refine blockQ.n ?_)
          refine Safe.region ?_
          refine SafeOps.quiet0 E_good rfl rfl rfl (v := V.nils) (.fn rfl) ?_
          refine SafeOps.quiet0 E_good rfl rfl rfl (v := V.int .i64 2) (.fn rfl) ?_
          refine SafeOps.nil ?_
          repeat (first | refine Safe.seq ?_ | refine Safe.skip ?_ | with_reducible refine thenQ.n ?_ | with_reducible refine blockQ.n ?_)
          refine Safe.ret ?_
          repeat (first | with_reducible refine thenQ.r ?_ | with_reducible refine blockQ.r ?_)
          replace h := inr_out h hr4590
          obtain rfl := Option.some.inj h
          exact retQ.gen (vs := [V.nils, V.int .i64 2]) rfl (.tmp (v := V.nils) rfl (.tmp (v := V.int .i64 2) rfl .nil)) (by exact (.tup (.cons (.nils _) (.cons (.free rfl) .nil)))) (by simp) (.inr rfl)
        · skip
          refine Safe.condN rfl hc4595 ?_
          repeat (first | refine Safe.seq ?_ | refine Safe.skip ?_ | with_reducible refine thenQ.n ?_ | with_reducible refine blockQ.n ?_)
          refine Safe.region ?_
          refine SafeOps.quiet1 E_good rfl rfl rfl (.alloc rfl rfl) rfl ?_
          refine SafeOps.nil ?_
          repeat (first | refine Safe.seq ?_ | refine Safe.skip ?_ | with_reducible refine thenQ.n ?_ | with_reducible refine blockQ.n ?_)
          refine Safe.region ?_
          refine SafeOps.quiet0 E_good rfl rfl rfl (v := V.sl 1 (rws (fun n => [V.int .u8 n]) (sub v5_4587 (1 : Int) (v5_4587.length : Int)))) (.fn rfl) ?_
          refine SafeOps.quiet0 E_good rfl rfl rfl (v := V.int .i64 (IntKind.i64.wrap (4 * (IntKind.i64.wrap (gt v5_4587 0))))) (.fn rfl) ?_
          refine okG h (fun hb4596 h => ?_)
          refine SafeOps.quiet0 E_good rfl rfl rfl (v := V.sl 1 (rws (fun n => [V.int .u8 n]) (sub (sub v5_4587 (1 : Int) (v5_4587.length : Int)) 0 (IntKind.i64.wrap (4 * (IntKind.i64.wrap (gt v5_4587 0))))))) (.slH (f := (fun n => [V.int .u8 n])) rfl rfl rfl rfl rfl hb4596) ?_
          refine SafeOps.inline E_good rfl rfl rfl rfl rfl Try.func38 rfl (fun _ _ => Try.call38 _ _) rfl ?_
          repeat (first | refine Safe.seq ?_ | refine Safe.skip ?_ | with_reducible refine thenQ.n ?_ | with_reducible refine blockQ.n ?_)
          refine Safe.region ?_
          refine SafeOps.quiet1 E_good rfl rfl rfl (.box rfl rfl) rfl ?_
          refine SafeOps.quiet1 E_good rfl rfl rfl (.box rfl rfl) rfl ?_
          refine SafeOps.quiet0 E_good rfl rfl rfl (v := V.nilf) (.fn rfl) ?_
          refine SafeOps.nil ?_
          repeat (first | refine Safe.seq ?_ | refine Safe.skip ?_ | with_reducible refine thenQ.n ?_ | with_reducible refine blockQ.n ?_)
          refine Safe.region ?_
          refine SafeOps.quiet0 E_good rfl rfl rfl (v := V.int .i64 4) (.load rfl rfl (.box rfl rfl) rfl) ?_
          refine SafeOps.quiet0 E_good rfl rfl rfl (v := V.bool false) (.fn rfl) ?_
          refine SafeOps.nil ?_
          repeat (first | refine Safe.seq ?_ | refine Safe.skip ?_ | with_reducible refine thenQ.n ?_ | with_reducible refine blockQ.n ?_)
          refine Safe.condN rfl rfl ?_
          repeat (first | refine Safe.seq ?_ | refine Safe.skip ?_ | with_reducible refine thenQ.n ?_ | with_reducible refine blockQ.n ?_)
          refine Safe.region ?_
          refine SafeOps.quiet0 E_good rfl rfl rfl (v := V.fn 42 [V.ptr [39, 2] 0 0, V.ptr [39, 3] 0 0]) (.fn rfl) ?_
          refine SafeOps.quiet0 E_good rfl rfl rfl (v := V.fn 42 [V.ptr [39, 2] 0 0, V.ptr [39, 3] 0 0]) (.fn rfl) ?_
          refine SafeOps.nil ?_
          repeat (first | refine Safe.seq ?_ | refine Safe.skip ?_ | with_reducible refine thenQ.n ?_ | with_reducible refine blockQ.n ?_)
          refine Safe.ret ?_
          repeat (first | with_reducible refine thenQ.r ?_ | with_reducible refine blockQ.r ?_)
          refine inQ.gen (vs := [V.fn 42 [V.ptr [39, 2] 0 0, V.ptr [39, 3] 0 0]]) (v := V.fn 42 [V.ptr [39, 2] 0 0, V.ptr [39, 3] 0 0]) (.inr rfl) rfl (.tmp (v := V.fn 42 [V.ptr [39, 2] 0 0, V.ptr [39, 3] 0 0]) rfl .nil) rfl ?_
          refine SafeOps.nil ?_
          repeat (first | refine Safe.seq ?_ | refine Safe.skip ?_ | with_reducible refine thenQ.n ?_ | with_reducible refine blockQ.n ?_)
          refine Safe.block ?_
          repeat (first | refine Safe.seq ?_ | refine Safe.skip ?_ | with_reducible refine thenQ.n ?_ | with_reducible refine blockQ.n ?_)
          refine Safe.rangeFunc (k := 9040) rfl rfl Try.func42 rfl (fun _ _ => Try.call42 _ _) rfl rfl rfl ?_
          repeat (first | refine Safe.seq ?_ | refine Safe.skip ?_ | with_reducible refine thenQ.n ?_ | with_reducible refine blockQ.n ?_)
          refine Safe.region ?_
          refine SafeOps.quiet0 E_good rfl rfl rfl (v := V.int .i64 0) (.fn rfl) ?_
          refine SafeOps.nil ?_
          repeat (first | refine Safe.seq ?_ | refine Safe.skip ?_ | with_reducible refine thenQ.n ?_ | with_reducible refine blockQ.n ?_)
          refine Safe.block ?_
          repeat (first | refine Safe.seq ?_ | refine Safe.skip ?_ | with_reducible refine thenQ.n ?_ | with_reducible refine blockQ.n ?_)
          refine Safe.loopW (fun ((v4_4644, v80_4645) : Int × (List api_Instr)) => ⟨Try.f42.ntmps, [(0, V.yld [9040]), (1, V.ptr [39, 2] 0 0), (2, V.ptr [39, 3] 0 0), (4, V.int .i64 v4_4644)], [([8], Obj.box [V.ref [7000, 114, 8, 0] 0 (rws api_Instr.cells v80_4645).length]), ([39, 2], Obj.box [V.sl 1 (rws (fun n => [V.int .u8 n]) (sub (sub v5_4587 (1 : Int) (v5_4587.length : Int)) 0 (IntKind.i64.wrap (4 * (IntKind.i64.wrap (gt v5_4587 0))))))]), ([39, 3], Obj.box [V.int .i64 4]), ([7000, 114, 8, 0], Obj.rows 3 (rws api_Instr.cells v80_4645) false), ([7000, 118, 6], Obj.rows 1 (rws (fun l => [V.sl 3 (rws api_Instr.cells l)]) v6_4588) false), ([9040], Go.AM.Obj.loop Try.f24.ntmps [(8, V.ptr [8] 0 0)] [40] (rfA Try.f24 0) (rfB Try.f24 0) .ready none)], [(1, [(0, V.yld [9040])]), (Try.f24.ntmps, [(5, V.sl 1 (rws (fun n => [V.int .u8 n]) (sub v5_4587 (1 : Int) (v5_4587.length : Int)))), (6, V.ref [7000, 118, 6] 0 (rws (fun l => [V.sl 3 (rws api_Instr.cells l)]) v6_4588).length), (7, V.int .i64 (IntKind.i64.wrap (4 * (IntKind.i64.wrap (gt v5_4587 0))))), (8, V.ptr [8] 0 0), (19, V.int .i64 (IntKind.i64.wrap (gt a0_3816 0))), (20, V.int .i64 v20_4589)])], [9040, 0]⟩) h (.empty [7000, 114, 8, 0] 3 rfl (.cov ⟨rfl, rfl, (upT_cons (.refl _) (upT_cons (.refl _) (upT_cons (.refl _) (upT_cons (.refl _) upT_nil)))), (upOb_cons rfl (.box (.cons (.nilref _) .nil)) (upOb_cons rfl (.refl _) (upOb_cons rfl (.refl _) (upOb_cons rfl (.refl _) (upOb_cons rfl (.refl _) (upOb_cons rfl (by exact .loop (upT_cons (.refl _) upT_nil)) upOb_nil)))))), (upOut_cons rfl (upT_cons (.refl _) upT_nil) (upOut_cons rfl (upT_cons (.refl _) (upT_cons (.refl _) (upT_cons (.refl _) (upT_cons (.refl _) (upT_cons (.refl _) (upT_cons (.refl _) upT_nil)))))) upOut_nil)), rfl⟩)) ?_
          rintro ⟨v4_4644, v80_4645⟩ ohr4646 h hr4646
          replace h : go_code_Read_s14 v5_4587 v6_4588 v20_4589 (v4_4644, v80_4645) = some ohr4646 := h
          rw [go_code_Read_s14] at h
          repeat (first | refine Safe.seq ?_ | refine Safe.skip ?_ | with_reducible refine thenQ.n ?_ | with_reducible refine blockQ.n ?_)
          refine Safe.region ?_
          refine SafeOps.quiet0 E_good rfl rfl rfl (v := V.int .i64 v4_4644) (.fn rfl) ?_
          refine SafeOps.quiet0 E_good rfl rfl rfl (v := V.sl 1 (rws (fun n => [V.int .u8 n]) (sub (sub v5_4587 (1 : Int) (v5_4587.length : Int)) 0 (IntKind.i64.wrap (4 * (IntKind.i64.wrap (gt v5_4587 0))))))) (.load rfl rfl (.box rfl rfl) rfl) ?_
          refine SafeOps.quiet0 E_good rfl rfl rfl (v := V.int .i64 ((sub (sub v5_4587 (1 : Int) (v5_4587.length : Int)) 0 (IntKind.i64.wrap (4 * (IntKind.i64.wrap (gt v5_4587 0))))).length : Int)) (.fnE rfl lenE) ?_
          refine SafeOps.quiet0 E_good rfl rfl rfl (v := V.bool (decide (v4_4644 < ((sub (sub v5_4587 (1 : Int) (v5_4587.length : Int)) 0 (IntKind.i64.wrap (4 * (IntKind.i64.wrap (gt v5_4587 0))))).length : Int)))) (.fn rfl) ?_
          refine SafeOps.nil ?_
          repeat (first | refine Safe.seq ?_ | refine Safe.skip ?_ | with_reducible refine thenQ.n ?_ | with_reducible refine blockQ.n ?_)
          refine ifG h (fun hc4647 h => ?_) (fun hc4647 h => ?_)
          · skip
            refine Safe.condK rfl hc4647 ?_
            repeat (first | refine Safe.seq ?_ | refine Safe.skip ?_ | with_reducible refine thenQ.n ?_ | with_reducible refine blockQ.n ?_)
            refine Safe.block ?_
            repeat (first | refine Safe.seq ?_ | refine Safe.skip ?_ | with_reducible refine thenQ.n ?_ | with_reducible refine blockQ.n ?_)
            refine Safe.regionD (n := 7) [] [] E_good mixed rfl ?_
            refine DAny.take (i := 0) rfl (by kernel_rfl) [] (by kernel_rfl) (by kernel_rfl) (by kernel_rfl) rfl rfl rfl (v := V.int .i64 4) (fun _ hz => (.load rfl rfl (.box (hz _ _ rfl rfl) rfl) rfl)) ?_
            refine DAny.take (i := 1) rfl (by kernel_rfl) [] (by kernel_rfl) (by kernel_rfl) (by kernel_rfl) rfl rfl rfl (v := V.sl 1 (rws (fun n => [V.int .u8 n]) (sub (sub v5_4587 (1 : Int) (v5_4587.length : Int)) 0 (IntKind.i64.wrap (4 * (IntKind.i64.wrap (gt v5_4587 0))))))) (fun _ hz => (.load rfl rfl (.box (hz _ _ rfl rfl) rfl) rfl)) ?_
            refine DAny.take (i := 2) rfl (by kernel_rfl) [] (by kernel_rfl) (by kernel_rfl) (by kernel_rfl) rfl rfl rfl (v := V.int .i64 v4_4644) (fun _ hz => (.fn rfl)) ?_
            refine okG h (fun hb4648 h => ?_)
            refine DAny.take (i := 3) rfl (by kernel_rfl) [] (by kernel_rfl) (by kernel_rfl) (by kernel_rfl) rfl rfl rfl (v := V.sl 1 (rws (fun n => [V.int .u8 n]) (sub (sub (sub v5_4587 (1 : Int) (v5_4587.length : Int)) 0 (IntKind.i64.wrap (4 * (IntKind.i64.wrap (gt v5_4587 0))))) v4_4644 ((sub (sub v5_4587 (1 : Int) (v5_4587.length : Int)) 0 (IntKind.i64.wrap (4 * (IntKind.i64.wrap (gt v5_4587 0))))).length : Int)))) (fun _ hz => (.slL (f := (fun n => [V.int .u8 n])) rfl rfl rfl rfl rfl hb4648)) ?_
            refine DAny.take (i := 4) rfl (by kernel_rfl) [] (by kernel_rfl) (by kernel_rfl) (by kernel_rfl) rfl rfl rfl (v := V.int .i64 ((sub (sub (sub v5_4587 (1 : Int) (v5_4587.length : Int)) 0 (IntKind.i64.wrap (4 * (IntKind.i64.wrap (gt v5_4587 0))))) v4_4644 ((sub (sub v5_4587 (1 : Int) (v5_4587.length : Int)) 0 (IntKind.i64.wrap (4 * (IntKind.i64.wrap (gt v5_4587 0))))).length : Int)).length : Int)) (fun _ hz => (.fnE rfl lenE)) ?_
            refine DAny.take (i := 5) rfl (by kernel_rfl) [] (by kernel_rfl) (by kernel_rfl) (by kernel_rfl) rfl rfl rfl (v := V.int .i64 (if ((sub (sub (sub v5_4587 (1 : Int) (v5_4587.length : Int)) 0 (IntKind.i64.wrap (4 * (IntKind.i64.wrap (gt v5_4587 0))))) v4_4644 ((sub (sub v5_4587 (1 : Int) (v5_4587.length : Int)) 0 (IntKind.i64.wrap (4 * (IntKind.i64.wrap (gt v5_4587 0))))).length : Int)).length : Int) < (4 : Int) then ((sub (sub (sub v5_4587 (1 : Int) (v5_4587.length : Int)) 0 (IntKind.i64.wrap (4 * (IntKind.i64.wrap (gt v5_4587 0))))) v4_4644 ((sub (sub v5_4587 (1 : Int) (v5_4587.length : Int)) 0 (IntKind.i64.wrap (4 * (IntKind.i64.wrap (gt v5_4587 0))))).length : Int)).length : Int) else (4 : Int))) (fun _ hz => (.fn rfl)) ?_
            refine DAny.take (i := 6) rfl (by kernel_rfl) [] (by kernel_rfl) (by kernel_rfl) (by kernel_rfl) rfl rfl rfl (v := V.int .i64 (if ((sub (sub (sub v5_4587 (1 : Int) (v5_4587.length : Int)) 0 (IntKind.i64.wrap (4 * (IntKind.i64.wrap (gt v5_4587 0))))) v4_4644 ((sub (sub v5_4587 (1 : Int) (v5_4587.length : Int)) 0 (IntKind.i64.wrap (4 * (IntKind.i64.wrap (gt v5_4587 0))))).length : Int)).length : Int) < (4 : Int) then ((sub (sub (sub v5_4587 (1 : Int) (v5_4587.length : Int)) 0 (IntKind.i64.wrap (4 * (IntKind.i64.wrap (gt v5_4587 0))))) v4_4644 ((sub (sub v5_4587 (1 : Int) (v5_4587.length : Int)) 0 (IntKind.i64.wrap (4 * (IntKind.i64.wrap (gt v5_4587 0))))).length : Int)).length : Int) else (4 : Int))) (fun _ hz => (.fn rfl)) ?_
            refine DAny.nil (by kernel_rfl) ?_
            repeat (first | refine Safe.seq ?_ | refine Safe.skip ?_ | with_reducible refine thenQ.n ?_ | with_reducible refine blockQ.n ?_)
            refine Safe.region ?_
            refine SafeOps.quiet0 E_good rfl rfl rfl (v := V.yld [9040]) (.fn rfl) ?_
            refine SafeOps.quiet0 E_good rfl rfl rfl (v := V.sl 1 (rws (fun n => [V.int .u8 n]) (sub (sub v5_4587 (1 : Int) (v5_4587.length : Int)) 0 (IntKind.i64.wrap (4 * (IntKind.i64.wrap (gt v5_4587 0))))))) (.load rfl rfl (.box rfl rfl) rfl) ?_
            refine SafeOps.quiet0 E_good rfl rfl rfl (v := V.int .i64 v4_4644) (.fn rfl) ?_
            refine SafeOps.quiet0 E_good rfl rfl rfl (v := V.int .i64 v4_4644) (.fn rfl) ?_
            refine SafeOps.quiet0 E_good rfl rfl rfl (v := V.int .i64 (if ((sub (sub (sub v5_4587 (1 : Int) (v5_4587.length : Int)) 0 (IntKind.i64.wrap (4 * (IntKind.i64.wrap (gt v5_4587 0))))) v4_4644 ((sub (sub v5_4587 (1 : Int) (v5_4587.length : Int)) 0 (IntKind.i64.wrap (4 * (IntKind.i64.wrap (gt v5_4587 0))))).length : Int)).length : Int) < (4 : Int) then ((sub (sub (sub v5_4587 (1 : Int) (v5_4587.length : Int)) 0 (IntKind.i64.wrap (4 * (IntKind.i64.wrap (gt v5_4587 0))))) v4_4644 ((sub (sub v5_4587 (1 : Int) (v5_4587.length : Int)) 0 (IntKind.i64.wrap (4 * (IntKind.i64.wrap (gt v5_4587 0))))).length : Int)).length : Int) else (4 : Int))) (.fn rfl) ?_
            refine SafeOps.quiet0 E_good rfl rfl rfl (v := V.int .i64 (IntKind.i64.wrap (v4_4644 + (if ((sub (sub (sub v5_4587 (1 : Int) (v5_4587.length : Int)) 0 (IntKind.i64.wrap (4 * (IntKind.i64.wrap (gt v5_4587 0))))) v4_4644 ((sub (sub v5_4587 (1 : Int) (v5_4587.length : Int)) 0 (IntKind.i64.wrap (4 * (IntKind.i64.wrap (gt v5_4587 0))))).length : Int)).length : Int) < (4 : Int) then ((sub (sub (sub v5_4587 (1 : Int) (v5_4587.length : Int)) 0 (IntKind.i64.wrap (4 * (IntKind.i64.wrap (gt v5_4587 0))))) v4_4644 ((sub (sub v5_4587 (1 : Int) (v5_4587.length : Int)) 0 (IntKind.i64.wrap (4 * (IntKind.i64.wrap (gt v5_4587 0))))).length : Int)).length : Int) else (4 : Int))))) (.fn rfl) ?_
            refine SafeOps.quiet0 E_good rfl rfl rfl (v := V.int .i64 v4_4644) (.fn rfl) ?_
            refine SafeOps.quiet0 E_good rfl rfl rfl (v := V.int .i64 (if ((sub (sub (sub v5_4587 (1 : Int) (v5_4587.length : Int)) 0 (IntKind.i64.wrap (4 * (IntKind.i64.wrap (gt v5_4587 0))))) v4_4644 ((sub (sub v5_4587 (1 : Int) (v5_4587.length : Int)) 0 (IntKind.i64.wrap (4 * (IntKind.i64.wrap (gt v5_4587 0))))).length : Int)).length : Int) < (4 : Int) then ((sub (sub (sub v5_4587 (1 : Int) (v5_4587.length : Int)) 0 (IntKind.i64.wrap (4 * (IntKind.i64.wrap (gt v5_4587 0))))) v4_4644 ((sub (sub v5_4587 (1 : Int) (v5_4587.length : Int)) 0 (IntKind.i64.wrap (4 * (IntKind.i64.wrap (gt v5_4587 0))))).length : Int)).length : Int) else (4 : Int))) (.fn rfl) ?_
            refine SafeOps.quiet0 E_good rfl rfl rfl (v := V.int .i64 (IntKind.i64.wrap (v4_4644 + (if ((sub (sub (sub v5_4587 (1 : Int) (v5_4587.length : Int)) 0 (IntKind.i64.wrap (4 * (IntKind.i64.wrap (gt v5_4587 0))))) v4_4644 ((sub (sub v5_4587 (1 : Int) (v5_4587.length : Int)) 0 (IntKind.i64.wrap (4 * (IntKind.i64.wrap (gt v5_4587 0))))).length : Int)).length : Int) < (4 : Int) then ((sub (sub (sub v5_4587 (1 : Int) (v5_4587.length : Int)) 0 (IntKind.i64.wrap (4 * (IntKind.i64.wrap (gt v5_4587 0))))) v4_4644 ((sub (sub v5_4587 (1 : Int) (v5_4587.length : Int)) 0 (IntKind.i64.wrap (4 * (IntKind.i64.wrap (gt v5_4587 0))))).length : Int)).length : Int) else (4 : Int))))) (.fn rfl) ?_
            refine okG h (fun hb4649 h => ?_)
            refine SafeOps.quiet0 E_good rfl rfl rfl (v := V.sl 1 (rws (fun n => [V.int .u8 n]) (sub (sub (sub v5_4587 (1 : Int) (v5_4587.length : Int)) 0 (IntKind.i64.wrap (4 * (IntKind.i64.wrap (gt v5_4587 0))))) v4_4644 (IntKind.i64.wrap (v4_4644 + (if ((sub (sub (sub v5_4587 (1 : Int) (v5_4587.length : Int)) 0 (IntKind.i64.wrap (4 * (IntKind.i64.wrap (gt v5_4587 0))))) v4_4644 ((sub (sub v5_4587 (1 : Int) (v5_4587.length : Int)) 0 (IntKind.i64.wrap (4 * (IntKind.i64.wrap (gt v5_4587 0))))).length : Int)).length : Int) < (4 : Int) then ((sub (sub (sub v5_4587 (1 : Int) (v5_4587.length : Int)) 0 (IntKind.i64.wrap (4 * (IntKind.i64.wrap (gt v5_4587 0))))) v4_4644 ((sub (sub v5_4587 (1 : Int) (v5_4587.length : Int)) 0 (IntKind.i64.wrap (4 * (IntKind.i64.wrap (gt v5_4587 0))))).length : Int)).length : Int) else (4 : Int))))))) (.slLH3 (f := (fun n => [V.int .u8 n])) rfl rfl rfl rfl rfl rfl rfl hb4649) ?_
            refine SafeOps.yield rfl rfl rfl rfl rfl rfl rfl rfl ?_
            repeat (first | refine Safe.seq ?_ | refine Safe.skip ?_ | with_reducible refine thenQ.n ?_ | with_reducible refine blockQ.n ?_)
            refine Safe.region ?_
            refine SafeOps.quiet0 E_good rfl rfl rfl (v := V.sl 1 (rws (fun n => [V.int .u8 n]) (sub (sub (sub v5_4587 (1 : Int) (v5_4587.length : Int)) 0 (IntKind.i64.wrap (4 * (IntKind.i64.wrap (gt v5_4587 0))))) v4_4644 (IntKind.i64.wrap (v4_4644 + (if ((sub (sub (sub v5_4587 (1 : Int) (v5_4587.length : Int)) 0 (IntKind.i64.wrap (4 * (IntKind.i64.wrap (gt v5_4587 0))))) v4_4644 ((sub (sub v5_4587 (1 : Int) (v5_4587.length : Int)) 0 (IntKind.i64.wrap (4 * (IntKind.i64.wrap (gt v5_4587 0))))).length : Int)).length : Int) < (4 : Int) then ((sub (sub (sub v5_4587 (1 : Int) (v5_4587.length : Int)) 0 (IntKind.i64.wrap (4 * (IntKind.i64.wrap (gt v5_4587 0))))) v4_4644 ((sub (sub v5_4587 (1 : Int) (v5_4587.length : Int)) 0 (IntKind.i64.wrap (4 * (IntKind.i64.wrap (gt v5_4587 0))))).length : Int)).length : Int) else (4 : Int))))))) (.fn rfl) ?_
            refine SafeOps.nil ?_
            repeat (first | refine Safe.seq ?_ | refine Safe.skip ?_ | with_reducible refine thenQ.n ?_ | with_reducible refine blockQ.n ?_)
            refine asgQ.go rfl rfl ?_
            repeat (first | refine Safe.seq ?_ | refine Safe.skip ?_ | with_reducible refine thenQ.n ?_ | with_reducible refine blockQ.n ?_)
            refine Safe.block ?_
            repeat (first | refine Safe.seq ?_ | refine Safe.skip ?_ | with_reducible refine thenQ.n ?_ | with_reducible refine blockQ.n ?_)
            refine Safe.regionD (n := 23) [(22, [8])] [21] E_good mixed rfl ?_
            refine DAny.take (i := 0) rfl (by kernel_rfl) [] (by kernel_rfl) (by kernel_rfl) (by kernel_rfl) rfl rfl rfl (v := V.ref [7000, 114, 8, 0] 0 (rws api_Instr.cells v80_4645).length) (fun _ hz => (.load rfl rfl (.box (hz _ _ rfl rfl) rfl) rfl)) ?_
            refine DAny.take (i := 1) rfl (by kernel_rfl) [[8]] (by kernel_rfl) (by kernel_rfl) (by kernel_rfl) rfl rfl rfl (v := V.sl 1 (rws (fun n => [V.int .u8 n]) (sub (sub (sub v5_4587 (1 : Int) (v5_4587.length : Int)) 0 (IntKind.i64.wrap (4 * (IntKind.i64.wrap (gt v5_4587 0))))) v4_4644 (IntKind.i64.wrap (v4_4644 + (if ((sub (sub (sub v5_4587 (1 : Int) (v5_4587.length : Int)) 0 (IntKind.i64.wrap (4 * (IntKind.i64.wrap (gt v5_4587 0))))) v4_4644 ((sub (sub v5_4587 (1 : Int) (v5_4587.length : Int)) 0 (IntKind.i64.wrap (4 * (IntKind.i64.wrap (gt v5_4587 0))))).length : Int)).length : Int) < (4 : Int) then ((sub (sub (sub v5_4587 (1 : Int) (v5_4587.length : Int)) 0 (IntKind.i64.wrap (4 * (IntKind.i64.wrap (gt v5_4587 0))))) v4_4644 ((sub (sub v5_4587 (1 : Int) (v5_4587.length : Int)) 0 (IntKind.i64.wrap (4 * (IntKind.i64.wrap (gt v5_4587 0))))).length : Int)).length : Int) else (4 : Int))))))) (fun _ hz => (.fn rfl)) ?_
            refine okG h (fun hb4650 h => ?_)
            refine DAny.take (i := 2) rfl (by kernel_rfl) [[8]] (by kernel_rfl) (by kernel_rfl) (by kernel_rfl) rfl rfl rfl (v := V.spt 1 (rws (fun n => [V.int .u8 n]) (sub (sub (sub v5_4587 (1 : Int) (v5_4587.length : Int)) 0 (IntKind.i64.wrap (4 * (IntKind.i64.wrap (gt v5_4587 0))))) v4_4644 (IntKind.i64.wrap (v4_4644 + (if ((sub (sub (sub v5_4587 (1 : Int) (v5_4587.length : Int)) 0 (IntKind.i64.wrap (4 * (IntKind.i64.wrap (gt v5_4587 0))))) v4_4644 ((sub (sub v5_4587 (1 : Int) (v5_4587.length : Int)) 0 (IntKind.i64.wrap (4 * (IntKind.i64.wrap (gt v5_4587 0))))).length : Int)).length : Int) < (4 : Int) then ((sub (sub (sub v5_4587 (1 : Int) (v5_4587.length : Int)) 0 (IntKind.i64.wrap (4 * (IntKind.i64.wrap (gt v5_4587 0))))) v4_4644 ((sub (sub v5_4587 (1 : Int) (v5_4587.length : Int)) 0 (IntKind.i64.wrap (4 * (IntKind.i64.wrap (gt v5_4587 0))))).length : Int)).length : Int) else (4 : Int)))))) (Int.toNat 0) 0) (fun _ hz => (.idxSlM (f := (fun n => [V.int .u8 n])) rfl rfl rfl rfl rfl hb4650)) ?_
            refine DAny.take (i := 3) rfl (by kernel_rfl) [[8]] (by kernel_rfl) (by kernel_rfl) (by kernel_rfl) rfl rfl rfl (v := V.int .u8 (gt (sub (sub (sub v5_4587 (1 : Int) (v5_4587.length : Int)) 0 (IntKind.i64.wrap (4 * (IntKind.i64.wrap (gt v5_4587 0))))) v4_4644 (IntKind.i64.wrap (v4_4644 + (if ((sub (sub (sub v5_4587 (1 : Int) (v5_4587.length : Int)) 0 (IntKind.i64.wrap (4 * (IntKind.i64.wrap (gt v5_4587 0))))) v4_4644 ((sub (sub v5_4587 (1 : Int) (v5_4587.length : Int)) 0 (IntKind.i64.wrap (4 * (IntKind.i64.wrap (gt v5_4587 0))))).length : Int)).length : Int) < (4 : Int) then ((sub (sub (sub v5_4587 (1 : Int) (v5_4587.length : Int)) 0 (IntKind.i64.wrap (4 * (IntKind.i64.wrap (gt v5_4587 0))))) v4_4644 ((sub (sub v5_4587 (1 : Int) (v5_4587.length : Int)) 0 (IntKind.i64.wrap (4 * (IntKind.i64.wrap (gt v5_4587 0))))).length : Int)).length : Int) else (4 : Int))))) 0)) (fun _ hz => (.load rfl rfl (.sptM (f := (fun n => [V.int .u8 n])) hb4650 rfl) rfl)) ?_
            refine DAny.take (i := 4) rfl (by kernel_rfl) [[8]] (by kernel_rfl) (by kernel_rfl) (by kernel_rfl) rfl rfl rfl (v := V.int .i64 (IntKind.i64.wrap (gt (sub (sub (sub v5_4587 (1 : Int) (v5_4587.length : Int)) 0 (IntKind.i64.wrap (4 * (IntKind.i64.wrap (gt v5_4587 0))))) v4_4644 (IntKind.i64.wrap (v4_4644 + (if ((sub (sub (sub v5_4587 (1 : Int) (v5_4587.length : Int)) 0 (IntKind.i64.wrap (4 * (IntKind.i64.wrap (gt v5_4587 0))))) v4_4644 ((sub (sub v5_4587 (1 : Int) (v5_4587.length : Int)) 0 (IntKind.i64.wrap (4 * (IntKind.i64.wrap (gt v5_4587 0))))).length : Int)).length : Int) < (4 : Int) then ((sub (sub (sub v5_4587 (1 : Int) (v5_4587.length : Int)) 0 (IntKind.i64.wrap (4 * (IntKind.i64.wrap (gt v5_4587 0))))) v4_4644 ((sub (sub v5_4587 (1 : Int) (v5_4587.length : Int)) 0 (IntKind.i64.wrap (4 * (IntKind.i64.wrap (gt v5_4587 0))))).length : Int)).length : Int) else (4 : Int))))) 0))) (fun _ hz => (.fn rfl)) ?_
            refine DAny.take (i := 5) rfl (by kernel_rfl) [[8]] (by kernel_rfl) (by kernel_rfl) (by kernel_rfl) rfl rfl rfl (v := V.sl 1 (rws (fun n => [V.int .u8 n]) (sub (sub (sub v5_4587 (1 : Int) (v5_4587.length : Int)) 0 (IntKind.i64.wrap (4 * (IntKind.i64.wrap (gt v5_4587 0))))) v4_4644 (IntKind.i64.wrap (v4_4644 + (if ((sub (sub (sub v5_4587 (1 : Int) (v5_4587.length : Int)) 0 (IntKind.i64.wrap (4 * (IntKind.i64.wrap (gt v5_4587 0))))) v4_4644 ((sub (sub v5_4587 (1 : Int) (v5_4587.length : Int)) 0 (IntKind.i64.wrap (4 * (IntKind.i64.wrap (gt v5_4587 0))))).length : Int)).length : Int) < (4 : Int) then ((sub (sub (sub v5_4587 (1 : Int) (v5_4587.length : Int)) 0 (IntKind.i64.wrap (4 * (IntKind.i64.wrap (gt v5_4587 0))))) v4_4644 ((sub (sub v5_4587 (1 : Int) (v5_4587.length : Int)) 0 (IntKind.i64.wrap (4 * (IntKind.i64.wrap (gt v5_4587 0))))).length : Int)).length : Int) else (4 : Int))))))) (fun _ hz => (.fn rfl)) ?_
            refine okG h (fun hb4651 h => ?_)
            refine DAny.take (i := 6) rfl (by kernel_rfl) [[8]] (by kernel_rfl) (by kernel_rfl) (by kernel_rfl) rfl rfl rfl (v := V.spt 1 (rws (fun n => [V.int .u8 n]) (sub (sub (sub v5_4587 (1 : Int) (v5_4587.length : Int)) 0 (IntKind.i64.wrap (4 * (IntKind.i64.wrap (gt v5_4587 0))))) v4_4644 (IntKind.i64.wrap (v4_4644 + (if ((sub (sub (sub v5_4587 (1 : Int) (v5_4587.length : Int)) 0 (IntKind.i64.wrap (4 * (IntKind.i64.wrap (gt v5_4587 0))))) v4_4644 ((sub (sub v5_4587 (1 : Int) (v5_4587.length : Int)) 0 (IntKind.i64.wrap (4 * (IntKind.i64.wrap (gt v5_4587 0))))).length : Int)).length : Int) < (4 : Int) then ((sub (sub (sub v5_4587 (1 : Int) (v5_4587.length : Int)) 0 (IntKind.i64.wrap (4 * (IntKind.i64.wrap (gt v5_4587 0))))) v4_4644 ((sub (sub v5_4587 (1 : Int) (v5_4587.length : Int)) 0 (IntKind.i64.wrap (4 * (IntKind.i64.wrap (gt v5_4587 0))))).length : Int)).length : Int) else (4 : Int)))))) (Int.toNat 1) 0) (fun _ hz => (.idxSlM (f := (fun n => [V.int .u8 n])) rfl rfl rfl rfl rfl hb4651)) ?_
            refine DAny.take (i := 7) rfl (by kernel_rfl) [[8]] (by kernel_rfl) (by kernel_rfl) (by kernel_rfl) rfl rfl rfl (v := V.int .u8 (gt (sub (sub (sub v5_4587 (1 : Int) (v5_4587.length : Int)) 0 (IntKind.i64.wrap (4 * (IntKind.i64.wrap (gt v5_4587 0))))) v4_4644 (IntKind.i64.wrap (v4_4644 + (if ((sub (sub (sub v5_4587 (1 : Int) (v5_4587.length : Int)) 0 (IntKind.i64.wrap (4 * (IntKind.i64.wrap (gt v5_4587 0))))) v4_4644 ((sub (sub v5_4587 (1 : Int) (v5_4587.length : Int)) 0 (IntKind.i64.wrap (4 * (IntKind.i64.wrap (gt v5_4587 0))))).length : Int)).length : Int) < (4 : Int) then ((sub (sub (sub v5_4587 (1 : Int) (v5_4587.length : Int)) 0 (IntKind.i64.wrap (4 * (IntKind.i64.wrap (gt v5_4587 0))))) v4_4644 ((sub (sub v5_4587 (1 : Int) (v5_4587.length : Int)) 0 (IntKind.i64.wrap (4 * (IntKind.i64.wrap (gt v5_4587 0))))).length : Int)).length : Int) else (4 : Int))))) 1)) (fun _ hz => (.load rfl rfl (.sptM (f := (fun n => [V.int .u8 n])) hb4651 rfl) rfl)) ?_
            refine DAny.take (i := 8) rfl (by kernel_rfl) [[8]] (by kernel_rfl) (by kernel_rfl) (by kernel_rfl) rfl rfl rfl (v := V.int .i64 (IntKind.i64.wrap (gt (sub (sub (sub v5_4587 (1 : Int) (v5_4587.length : Int)) 0 (IntKind.i64.wrap (4 * (IntKind.i64.wrap (gt v5_4587 0))))) v4_4644 (IntKind.i64.wrap (v4_4644 + (if ((sub (sub (sub v5_4587 (1 : Int) (v5_4587.length : Int)) 0 (IntKind.i64.wrap (4 * (IntKind.i64.wrap (gt v5_4587 0))))) v4_4644 ((sub (sub v5_4587 (1 : Int) (v5_4587.length : Int)) 0 (IntKind.i64.wrap (4 * (IntKind.i64.wrap (gt v5_4587 0))))).length : Int)).length : Int) < (4 : Int) then ((sub (sub (sub v5_4587 (1 : Int) (v5_4587.length : Int)) 0 (IntKind.i64.wrap (4 * (IntKind.i64.wrap (gt v5_4587 0))))) v4_4644 ((sub (sub v5_4587 (1 : Int) (v5_4587.length : Int)) 0 (IntKind.i64.wrap (4 * (IntKind.i64.wrap (gt v5_4587 0))))).length : Int)).length : Int) else (4 : Int))))) 1))) (fun _ hz => (.fn rfl)) ?_
            refine DAny.take (i := 9) rfl (by kernel_rfl) [[8]] (by kernel_rfl) (by kernel_rfl) (by kernel_rfl) rfl rfl rfl (v := V.int .i64 (IntKind.i64.wrap ((IntKind.i64.wrap (gt (sub (sub (sub v5_4587 (1 : Int) (v5_4587.length : Int)) 0 (IntKind.i64.wrap (4 * (IntKind.i64.wrap (gt v5_4587 0))))) v4_4644 (IntKind.i64.wrap (v4_4644 + (if ((sub (sub (sub v5_4587 (1 : Int) (v5_4587.length : Int)) 0 (IntKind.i64.wrap (4 * (IntKind.i64.wrap (gt v5_4587 0))))) v4_4644 ((sub (sub v5_4587 (1 : Int) (v5_4587.length : Int)) 0 (IntKind.i64.wrap (4 * (IntKind.i64.wrap (gt v5_4587 0))))).length : Int)).length : Int) < (4 : Int) then ((sub (sub (sub v5_4587 (1 : Int) (v5_4587.length : Int)) 0 (IntKind.i64.wrap (4 * (IntKind.i64.wrap (gt v5_4587 0))))) v4_4644 ((sub (sub v5_4587 (1 : Int) (v5_4587.length : Int)) 0 (IntKind.i64.wrap (4 * (IntKind.i64.wrap (gt v5_4587 0))))).length : Int)).length : Int) else (4 : Int))))) 1)) * 2 ^ (min (Int.toNat 8) IntKind.i64.bits)))) (fun _ hz => (.shlV rfl rfl (by decide))) ?_
            refine DAny.take (i := 10) rfl (by kernel_rfl) [[8]] (by kernel_rfl) (by kernel_rfl) (by kernel_rfl) rfl rfl rfl (v := V.sl 1 (rws (fun n => [V.int .u8 n]) (sub (sub (sub v5_4587 (1 : Int) (v5_4587.length : Int)) 0 (IntKind.i64.wrap (4 * (IntKind.i64.wrap (gt v5_4587 0))))) v4_4644 (IntKind.i64.wrap (v4_4644 + (if ((sub (sub (sub v5_4587 (1 : Int) (v5_4587.length : Int)) 0 (IntKind.i64.wrap (4 * (IntKind.i64.wrap (gt v5_4587 0))))) v4_4644 ((sub (sub v5_4587 (1 : Int) (v5_4587.length : Int)) 0 (IntKind.i64.wrap (4 * (IntKind.i64.wrap (gt v5_4587 0))))).length : Int)).length : Int) < (4 : Int) then ((sub (sub (sub v5_4587 (1 : Int) (v5_4587.length : Int)) 0 (IntKind.i64.wrap (4 * (IntKind.i64.wrap (gt v5_4587 0))))) v4_4644 ((sub (sub v5_4587 (1 : Int) (v5_4587.length : Int)) 0 (IntKind.i64.wrap (4 * (IntKind.i64.wrap (gt v5_4587 0))))).length : Int)).length : Int) else (4 : Int))))))) (fun _ hz => (.fn rfl)) ?_
            refine okG h (fun hb4652 h => ?_)
            refine DAny.take (i := 11) rfl (by kernel_rfl) [[8]] (by kernel_rfl) (by kernel_rfl) (by kernel_rfl) rfl rfl rfl (v := V.spt 1 (rws (fun n => [V.int .u8 n]) (sub (sub (sub v5_4587 (1 : Int) (v5_4587.length : Int)) 0 (IntKind.i64.wrap (4 * (IntKind.i64.wrap (gt v5_4587 0))))) v4_4644 (IntKind.i64.wrap (v4_4644 + (if ((sub (sub (sub v5_4587 (1 : Int) (v5_4587.length : Int)) 0 (IntKind.i64.wrap (4 * (IntKind.i64.wrap (gt v5_4587 0))))) v4_4644 ((sub (sub v5_4587 (1 : Int) (v5_4587.length : Int)) 0 (IntKind.i64.wrap (4 * (IntKind.i64.wrap (gt v5_4587 0))))).length : Int)).length : Int) < (4 : Int) then ((sub (sub (sub v5_4587 (1 : Int) (v5_4587.length : Int)) 0 (IntKind.i64.wrap (4 * (IntKind.i64.wrap (gt v5_4587 0))))) v4_4644 ((sub (sub v5_4587 (1 : Int) (v5_4587.length : Int)) 0 (IntKind.i64.wrap (4 * (IntKind.i64.wrap (gt v5_4587 0))))).length : Int)).length : Int) else (4 : Int)))))) (Int.toNat 2) 0) (fun _ hz => (.idxSlM (f := (fun n => [V.int .u8 n])) rfl rfl rfl rfl rfl hb4652)) ?_
            refine DAny.take (i := 12) rfl (by kernel_rfl) [[8]] (by kernel_rfl) (by kernel_rfl) (by kernel_rfl) rfl rfl rfl (v := V.int .u8 (gt (sub (sub (sub v5_4587 (1 : Int) (v5_4587.length : Int)) 0 (IntKind.i64.wrap (4 * (IntKind.i64.wrap (gt v5_4587 0))))) v4_4644 (IntKind.i64.wrap (v4_4644 + (if ((sub (sub (sub v5_4587 (1 : Int) (v5_4587.length : Int)) 0 (IntKind.i64.wrap (4 * (IntKind.i64.wrap (gt v5_4587 0))))) v4_4644 ((sub (sub v5_4587 (1 : Int) (v5_4587.length : Int)) 0 (IntKind.i64.wrap (4 * (IntKind.i64.wrap (gt v5_4587 0))))).length : Int)).length : Int) < (4 : Int) then ((sub (sub (sub v5_4587 (1 : Int) (v5_4587.length : Int)) 0 (IntKind.i64.wrap (4 * (IntKind.i64.wrap (gt v5_4587 0))))) v4_4644 ((sub (sub v5_4587 (1 : Int) (v5_4587.length : Int)) 0 (IntKind.i64.wrap (4 * (IntKind.i64.wrap (gt v5_4587 0))))).length : Int)).length : Int) else (4 : Int))))) 2)) (fun _ hz => (.load rfl rfl (.sptM (f := (fun n => [V.int .u8 n])) hb4652 rfl) rfl)) ?_
            refine DAny.take (i := 13) rfl (by kernel_rfl) [[8]] (by kernel_rfl) (by kernel_rfl) (by kernel_rfl) rfl rfl rfl (v := V.int .i64 (IntKind.i64.wrap (gt (sub (sub (sub v5_4587 (1 : Int) (v5_4587.length : Int)) 0 (IntKind.i64.wrap (4 * (IntKind.i64.wrap (gt v5_4587 0))))) v4_4644 (IntKind.i64.wrap (v4_4644 + (if ((sub (sub (sub v5_4587 (1 : Int) (v5_4587.length : Int)) 0 (IntKind.i64.wrap (4 * (IntKind.i64.wrap (gt v5_4587 0))))) v4_4644 ((sub (sub v5_4587 (1 : Int) (v5_4587.length : Int)) 0 (IntKind.i64.wrap (4 * (IntKind.i64.wrap (gt v5_4587 0))))).length : Int)).length : Int) < (4 : Int) then ((sub (sub (sub v5_4587 (1 : Int) (v5_4587.length : Int)) 0 (IntKind.i64.wrap (4 * (IntKind.i64.wrap (gt v5_4587 0))))) v4_4644 ((sub (sub v5_4587 (1 : Int) (v5_4587.length : Int)) 0 (IntKind.i64.wrap (4 * (IntKind.i64.wrap (gt v5_4587 0))))).length : Int)).length : Int) else (4 : Int))))) 2))) (fun _ hz => (.fn rfl)) ?_
            refine DAny.take (i := 14) rfl (by kernel_rfl) [[8]] (by kernel_rfl) (by kernel_rfl) (by kernel_rfl) rfl rfl rfl (v := V.int .i64 (IntKind.i64.wrap (BitVec.ofInt IntKind.i64.bits (IntKind.i64.wrap ((IntKind.i64.wrap (gt (sub (sub (sub v5_4587 (1 : Int) (v5_4587.length : Int)) 0 (IntKind.i64.wrap (4 * (IntKind.i64.wrap (gt v5_4587 0))))) v4_4644 (IntKind.i64.wrap (v4_4644 + (if ((sub (sub (sub v5_4587 (1 : Int) (v5_4587.length : Int)) 0 (IntKind.i64.wrap (4 * (IntKind.i64.wrap (gt v5_4587 0))))) v4_4644 ((sub (sub v5_4587 (1 : Int) (v5_4587.length : Int)) 0 (IntKind.i64.wrap (4 * (IntKind.i64.wrap (gt v5_4587 0))))).length : Int)).length : Int) < (4 : Int) then ((sub (sub (sub v5_4587 (1 : Int) (v5_4587.length : Int)) 0 (IntKind.i64.wrap (4 * (IntKind.i64.wrap (gt v5_4587 0))))) v4_4644 ((sub (sub v5_4587 (1 : Int) (v5_4587.length : Int)) 0 (IntKind.i64.wrap (4 * (IntKind.i64.wrap (gt v5_4587 0))))).length : Int)).length : Int) else (4 : Int))))) 1)) * 2 ^ (min (Int.toNat 8) IntKind.i64.bits))) ||| BitVec.ofInt IntKind.i64.bits (IntKind.i64.wrap (gt (sub (sub (sub v5_4587 (1 : Int) (v5_4587.length : Int)) 0 (IntKind.i64.wrap (4 * (IntKind.i64.wrap (gt v5_4587 0))))) v4_4644 (IntKind.i64.wrap (v4_4644 + (if ((sub (sub (sub v5_4587 (1 : Int) (v5_4587.length : Int)) 0 (IntKind.i64.wrap (4 * (IntKind.i64.wrap (gt v5_4587 0))))) v4_4644 ((sub (sub v5_4587 (1 : Int) (v5_4587.length : Int)) 0 (IntKind.i64.wrap (4 * (IntKind.i64.wrap (gt v5_4587 0))))).length : Int)).length : Int) < (4 : Int) then ((sub (sub (sub v5_4587 (1 : Int) (v5_4587.length : Int)) 0 (IntKind.i64.wrap (4 * (IntKind.i64.wrap (gt v5_4587 0))))) v4_4644 ((sub (sub v5_4587 (1 : Int) (v5_4587.length : Int)) 0 (IntKind.i64.wrap (4 * (IntKind.i64.wrap (gt v5_4587 0))))).length : Int)).length : Int) else (4 : Int))))) 2))).toNat)) (fun _ hz => (.fn rfl)) ?_
            refine DAny.take (i := 15) rfl (by kernel_rfl) [[8]] (by kernel_rfl) (by kernel_rfl) (by kernel_rfl) rfl rfl rfl (v := V.sl 1 (rws (fun n => [V.int .u8 n]) (sub (sub (sub v5_4587 (1 : Int) (v5_4587.length : Int)) 0 (IntKind.i64.wrap (4 * (IntKind.i64.wrap (gt v5_4587 0))))) v4_4644 (IntKind.i64.wrap (v4_4644 + (if ((sub (sub (sub v5_4587 (1 : Int) (v5_4587.length : Int)) 0 (IntKind.i64.wrap (4 * (IntKind.i64.wrap (gt v5_4587 0))))) v4_4644 ((sub (sub v5_4587 (1 : Int) (v5_4587.length : Int)) 0 (IntKind.i64.wrap (4 * (IntKind.i64.wrap (gt v5_4587 0))))).length : Int)).length : Int) < (4 : Int) then ((sub (sub (sub v5_4587 (1 : Int) (v5_4587.length : Int)) 0 (IntKind.i64.wrap (4 * (IntKind.i64.wrap (gt v5_4587 0))))) v4_4644 ((sub (sub v5_4587 (1 : Int) (v5_4587.length : Int)) 0 (IntKind.i64.wrap (4 * (IntKind.i64.wrap (gt v5_4587 0))))).length : Int)).length : Int) else (4 : Int))))))) (fun _ hz => (.fn rfl)) ?_
            refine okG h (fun hb4653 h => ?_)
            refine DAny.take (i := 16) rfl (by kernel_rfl) [[8]] (by kernel_rfl) (by kernel_rfl) (by kernel_rfl) rfl rfl rfl (v := V.spt 1 (rws (fun n => [V.int .u8 n]) (sub (sub (sub v5_4587 (1 : Int) (v5_4587.length : Int)) 0 (IntKind.i64.wrap (4 * (IntKind.i64.wrap (gt v5_4587 0))))) v4_4644 (IntKind.i64.wrap (v4_4644 + (if ((sub (sub (sub v5_4587 (1 : Int) (v5_4587.length : Int)) 0 (IntKind.i64.wrap (4 * (IntKind.i64.wrap (gt v5_4587 0))))) v4_4644 ((sub (sub v5_4587 (1 : Int) (v5_4587.length : Int)) 0 (IntKind.i64.wrap (4 * (IntKind.i64.wrap (gt v5_4587 0))))).length : Int)).length : Int) < (4 : Int) then ((sub (sub (sub v5_4587 (1 : Int) (v5_4587.length : Int)) 0 (IntKind.i64.wrap (4 * (IntKind.i64.wrap (gt v5_4587 0))))) v4_4644 ((sub (sub v5_4587 (1 : Int) (v5_4587.length : Int)) 0 (IntKind.i64.wrap (4 * (IntKind.i64.wrap (gt v5_4587 0))))).length : Int)).length : Int) else (4 : Int)))))) (Int.toNat 3) 0) (fun _ hz => (.idxSlM (f := (fun n => [V.int .u8 n])) rfl rfl rfl rfl rfl hb4653)) ?_
            refine DAny.take (i := 17) rfl (by kernel_rfl) [[8]] (by kernel_rfl) (by kernel_rfl) (by kernel_rfl) rfl rfl rfl (v := V.int .u8 (gt (sub (sub (sub v5_4587 (1 : Int) (v5_4587.length : Int)) 0 (IntKind.i64.wrap (4 * (IntKind.i64.wrap (gt v5_4587 0))))) v4_4644 (IntKind.i64.wrap (v4_4644 + (if ((sub (sub (sub v5_4587 (1 : Int) (v5_4587.length : Int)) 0 (IntKind.i64.wrap (4 * (IntKind.i64.wrap (gt v5_4587 0))))) v4_4644 ((sub (sub v5_4587 (1 : Int) (v5_4587.length : Int)) 0 (IntKind.i64.wrap (4 * (IntKind.i64.wrap (gt v5_4587 0))))).length : Int)).length : Int) < (4 : Int) then ((sub (sub (sub v5_4587 (1 : Int) (v5_4587.length : Int)) 0 (IntKind.i64.wrap (4 * (IntKind.i64.wrap (gt v5_4587 0))))) v4_4644 ((sub (sub v5_4587 (1 : Int) (v5_4587.length : Int)) 0 (IntKind.i64.wrap (4 * (IntKind.i64.wrap (gt v5_4587 0))))).length : Int)).length : Int) else (4 : Int))))) 3)) (fun _ hz => (.load rfl rfl (.sptM (f := (fun n => [V.int .u8 n])) hb4653 rfl) rfl)) ?_
            refine DAny.take (i := 18) rfl (by kernel_rfl) [[8]] (by kernel_rfl) (by kernel_rfl) (by kernel_rfl) rfl rfl rfl (v := V.int .i64 (IntKind.i64.wrap (gt (sub (sub (sub v5_4587 (1 : Int) (v5_4587.length : Int)) 0 (IntKind.i64.wrap (4 * (IntKind.i64.wrap (gt v5_4587 0))))) v4_4644 (IntKind.i64.wrap (v4_4644 + (if ((sub (sub (sub v5_4587 (1 : Int) (v5_4587.length : Int)) 0 (IntKind.i64.wrap (4 * (IntKind.i64.wrap (gt v5_4587 0))))) v4_4644 ((sub (sub v5_4587 (1 : Int) (v5_4587.length : Int)) 0 (IntKind.i64.wrap (4 * (IntKind.i64.wrap (gt v5_4587 0))))).length : Int)).length : Int) < (4 : Int) then ((sub (sub (sub v5_4587 (1 : Int) (v5_4587.length : Int)) 0 (IntKind.i64.wrap (4 * (IntKind.i64.wrap (gt v5_4587 0))))) v4_4644 ((sub (sub v5_4587 (1 : Int) (v5_4587.length : Int)) 0 (IntKind.i64.wrap (4 * (IntKind.i64.wrap (gt v5_4587 0))))).length : Int)).length : Int) else (4 : Int))))) 3))) (fun _ hz => (.fn rfl)) ?_
            refine DAny.take (i := 19) rfl (by kernel_rfl) [[8]] (by kernel_rfl) (by kernel_rfl) (by kernel_rfl) rfl rfl rfl (v := V.agg [V.int .i64 (IntKind.i64.wrap (gt (sub (sub (sub v5_4587 (1 : Int) (v5_4587.length : Int)) 0 (IntKind.i64.wrap (4 * (IntKind.i64.wrap (gt v5_4587 0))))) v4_4644 (IntKind.i64.wrap (v4_4644 + (if ((sub (sub (sub v5_4587 (1 : Int) (v5_4587.length : Int)) 0 (IntKind.i64.wrap (4 * (IntKind.i64.wrap (gt v5_4587 0))))) v4_4644 ((sub (sub v5_4587 (1 : Int) (v5_4587.length : Int)) 0 (IntKind.i64.wrap (4 * (IntKind.i64.wrap (gt v5_4587 0))))).length : Int)).length : Int) < (4 : Int) then ((sub (sub (sub v5_4587 (1 : Int) (v5_4587.length : Int)) 0 (IntKind.i64.wrap (4 * (IntKind.i64.wrap (gt v5_4587 0))))) v4_4644 ((sub (sub v5_4587 (1 : Int) (v5_4587.length : Int)) 0 (IntKind.i64.wrap (4 * (IntKind.i64.wrap (gt v5_4587 0))))).length : Int)).length : Int) else (4 : Int))))) 0)), V.int .i64 (IntKind.i64.wrap (BitVec.ofInt IntKind.i64.bits (IntKind.i64.wrap ((IntKind.i64.wrap (gt (sub (sub (sub v5_4587 (1 : Int) (v5_4587.length : Int)) 0 (IntKind.i64.wrap (4 * (IntKind.i64.wrap (gt v5_4587 0))))) v4_4644 (IntKind.i64.wrap (v4_4644 + (if ((sub (sub (sub v5_4587 (1 : Int) (v5_4587.length : Int)) 0 (IntKind.i64.wrap (4 * (IntKind.i64.wrap (gt v5_4587 0))))) v4_4644 ((sub (sub v5_4587 (1 : Int) (v5_4587.length : Int)) 0 (IntKind.i64.wrap (4 * (IntKind.i64.wrap (gt v5_4587 0))))).length : Int)).length : Int) < (4 : Int) then ((sub (sub (sub v5_4587 (1 : Int) (v5_4587.length : Int)) 0 (IntKind.i64.wrap (4 * (IntKind.i64.wrap (gt v5_4587 0))))) v4_4644 ((sub (sub v5_4587 (1 : Int) (v5_4587.length : Int)) 0 (IntKind.i64.wrap (4 * (IntKind.i64.wrap (gt v5_4587 0))))).length : Int)).length : Int) else (4 : Int))))) 1)) * 2 ^ (min (Int.toNat 8) IntKind.i64.bits))) ||| BitVec.ofInt IntKind.i64.bits (IntKind.i64.wrap (gt (sub (sub (sub v5_4587 (1 : Int) (v5_4587.length : Int)) 0 (IntKind.i64.wrap (4 * (IntKind.i64.wrap (gt v5_4587 0))))) v4_4644 (IntKind.i64.wrap (v4_4644 + (if ((sub (sub (sub v5_4587 (1 : Int) (v5_4587.length : Int)) 0 (IntKind.i64.wrap (4 * (IntKind.i64.wrap (gt v5_4587 0))))) v4_4644 ((sub (sub v5_4587 (1 : Int) (v5_4587.length : Int)) 0 (IntKind.i64.wrap (4 * (IntKind.i64.wrap (gt v5_4587 0))))).length : Int)).length : Int) < (4 : Int) then ((sub (sub (sub v5_4587 (1 : Int) (v5_4587.length : Int)) 0 (IntKind.i64.wrap (4 * (IntKind.i64.wrap (gt v5_4587 0))))) v4_4644 ((sub (sub v5_4587 (1 : Int) (v5_4587.length : Int)) 0 (IntKind.i64.wrap (4 * (IntKind.i64.wrap (gt v5_4587 0))))).length : Int)).length : Int) else (4 : Int))))) 2))).toNat), V.int .i64 (IntKind.i64.wrap (gt (sub (sub (sub v5_4587 (1 : Int) (v5_4587.length : Int)) 0 (IntKind.i64.wrap (4 * (IntKind.i64.wrap (gt v5_4587 0))))) v4_4644 (IntKind.i64.wrap (v4_4644 + (if ((sub (sub (sub v5_4587 (1 : Int) (v5_4587.length : Int)) 0 (IntKind.i64.wrap (4 * (IntKind.i64.wrap (gt v5_4587 0))))) v4_4644 ((sub (sub v5_4587 (1 : Int) (v5_4587.length : Int)) 0 (IntKind.i64.wrap (4 * (IntKind.i64.wrap (gt v5_4587 0))))).length : Int)).length : Int) < (4 : Int) then ((sub (sub (sub v5_4587 (1 : Int) (v5_4587.length : Int)) 0 (IntKind.i64.wrap (4 * (IntKind.i64.wrap (gt v5_4587 0))))) v4_4644 ((sub (sub v5_4587 (1 : Int) (v5_4587.length : Int)) 0 (IntKind.i64.wrap (4 * (IntKind.i64.wrap (gt v5_4587 0))))).length : Int)).length : Int) else (4 : Int))))) 3))]) (fun _ hz => (.fn rfl)) ?_
            refine DAny.only (i := 20) rfl (by kernel_rfl) (.quiet rfl rfl rfl (.litM (f := api_Instr.cells) (xs := [(api_Instr.mk (IntKind.i64.wrap (gt (sub (sub (sub v5_4587 (1 : Int) (v5_4587.length : Int)) 0 (IntKind.i64.wrap (4 * (IntKind.i64.wrap (gt v5_4587 0))))) v4_4644 (IntKind.i64.wrap (v4_4644 + (if ((sub (sub (sub v5_4587 (1 : Int) (v5_4587.length : Int)) 0 (IntKind.i64.wrap (4 * (IntKind.i64.wrap (gt v5_4587 0))))) v4_4644 ((sub (sub v5_4587 (1 : Int) (v5_4587.length : Int)) 0 (IntKind.i64.wrap (4 * (IntKind.i64.wrap (gt v5_4587 0))))).length : Int)).length : Int) < (4 : Int) then ((sub (sub (sub v5_4587 (1 : Int) (v5_4587.length : Int)) 0 (IntKind.i64.wrap (4 * (IntKind.i64.wrap (gt v5_4587 0))))) v4_4644 ((sub (sub v5_4587 (1 : Int) (v5_4587.length : Int)) 0 (IntKind.i64.wrap (4 * (IntKind.i64.wrap (gt v5_4587 0))))).length : Int)).length : Int) else (4 : Int))))) 0)) (IntKind.i64.wrap (BitVec.ofInt IntKind.i64.bits (IntKind.i64.wrap ((IntKind.i64.wrap (gt (sub (sub (sub v5_4587 (1 : Int) (v5_4587.length : Int)) 0 (IntKind.i64.wrap (4 * (IntKind.i64.wrap (gt v5_4587 0))))) v4_4644 (IntKind.i64.wrap (v4_4644 + (if ((sub (sub (sub v5_4587 (1 : Int) (v5_4587.length : Int)) 0 (IntKind.i64.wrap (4 * (IntKind.i64.wrap (gt v5_4587 0))))) v4_4644 ((sub (sub v5_4587 (1 : Int) (v5_4587.length : Int)) 0 (IntKind.i64.wrap (4 * (IntKind.i64.wrap (gt v5_4587 0))))).length : Int)).length : Int) < (4 : Int) then ((sub (sub (sub v5_4587 (1 : Int) (v5_4587.length : Int)) 0 (IntKind.i64.wrap (4 * (IntKind.i64.wrap (gt v5_4587 0))))) v4_4644 ((sub (sub v5_4587 (1 : Int) (v5_4587.length : Int)) 0 (IntKind.i64.wrap (4 * (IntKind.i64.wrap (gt v5_4587 0))))).length : Int)).length : Int) else (4 : Int))))) 1)) * 2 ^ (min (Int.toNat 8) IntKind.i64.bits))) ||| BitVec.ofInt IntKind.i64.bits (IntKind.i64.wrap (gt (sub (sub (sub v5_4587 (1 : Int) (v5_4587.length : Int)) 0 (IntKind.i64.wrap (4 * (IntKind.i64.wrap (gt v5_4587 0))))) v4_4644 (IntKind.i64.wrap (v4_4644 + (if ((sub (sub (sub v5_4587 (1 : Int) (v5_4587.length : Int)) 0 (IntKind.i64.wrap (4 * (IntKind.i64.wrap (gt v5_4587 0))))) v4_4644 ((sub (sub v5_4587 (1 : Int) (v5_4587.length : Int)) 0 (IntKind.i64.wrap (4 * (IntKind.i64.wrap (gt v5_4587 0))))).length : Int)).length : Int) < (4 : Int) then ((sub (sub (sub v5_4587 (1 : Int) (v5_4587.length : Int)) 0 (IntKind.i64.wrap (4 * (IntKind.i64.wrap (gt v5_4587 0))))) v4_4644 ((sub (sub v5_4587 (1 : Int) (v5_4587.length : Int)) 0 (IntKind.i64.wrap (4 * (IntKind.i64.wrap (gt v5_4587 0))))).length : Int)).length : Int) else (4 : Int))))) 2))).toNat) (IntKind.i64.wrap (gt (sub (sub (sub v5_4587 (1 : Int) (v5_4587.length : Int)) 0 (IntKind.i64.wrap (4 * (IntKind.i64.wrap (gt v5_4587 0))))) v4_4644 (IntKind.i64.wrap (v4_4644 + (if ((sub (sub (sub v5_4587 (1 : Int) (v5_4587.length : Int)) 0 (IntKind.i64.wrap (4 * (IntKind.i64.wrap (gt v5_4587 0))))) v4_4644 ((sub (sub v5_4587 (1 : Int) (v5_4587.length : Int)) 0 (IntKind.i64.wrap (4 * (IntKind.i64.wrap (gt v5_4587 0))))).length : Int)).length : Int) < (4 : Int) then ((sub (sub (sub v5_4587 (1 : Int) (v5_4587.length : Int)) 0 (IntKind.i64.wrap (4 * (IntKind.i64.wrap (gt v5_4587 0))))) v4_4644 ((sub (sub v5_4587 (1 : Int) (v5_4587.length : Int)) 0 (IntKind.i64.wrap (4 * (IntKind.i64.wrap (gt v5_4587 0))))).length : Int)).length : Int) else (4 : Int))))) 3)))]) rfl rfl (by decide) rfl rfl rfl rfl rfl) rfl ?_)
            refine DAny.onlyS (i := 21) rfl (by kernel_rfl) rfl ?_
            refine okG h (fun hb4654 h => ?_)
            refine SafeOps.appendM api_Instr.cells (xs := v80_4645) (ys := [(api_Instr.mk (IntKind.i64.wrap (gt (sub (sub (sub v5_4587 (1 : Int) (v5_4587.length : Int)) 0 (IntKind.i64.wrap (4 * (IntKind.i64.wrap (gt v5_4587 0))))) v4_4644 (IntKind.i64.wrap (v4_4644 + (if ((sub (sub (sub v5_4587 (1 : Int) (v5_4587.length : Int)) 0 (IntKind.i64.wrap (4 * (IntKind.i64.wrap (gt v5_4587 0))))) v4_4644 ((sub (sub v5_4587 (1 : Int) (v5_4587.length : Int)) 0 (IntKind.i64.wrap (4 * (IntKind.i64.wrap (gt v5_4587 0))))).length : Int)).length : Int) < (4 : Int) then ((sub (sub (sub v5_4587 (1 : Int) (v5_4587.length : Int)) 0 (IntKind.i64.wrap (4 * (IntKind.i64.wrap (gt v5_4587 0))))) v4_4644 ((sub (sub v5_4587 (1 : Int) (v5_4587.length : Int)) 0 (IntKind.i64.wrap (4 * (IntKind.i64.wrap (gt v5_4587 0))))).length : Int)).length : Int) else (4 : Int))))) 0)) (IntKind.i64.wrap (BitVec.ofInt IntKind.i64.bits (IntKind.i64.wrap ((IntKind.i64.wrap (gt (sub (sub (sub v5_4587 (1 : Int) (v5_4587.length : Int)) 0 (IntKind.i64.wrap (4 * (IntKind.i64.wrap (gt v5_4587 0))))) v4_4644 (IntKind.i64.wrap (v4_4644 + (if ((sub (sub (sub v5_4587 (1 : Int) (v5_4587.length : Int)) 0 (IntKind.i64.wrap (4 * (IntKind.i64.wrap (gt v5_4587 0))))) v4_4644 ((sub (sub v5_4587 (1 : Int) (v5_4587.length : Int)) 0 (IntKind.i64.wrap (4 * (IntKind.i64.wrap (gt v5_4587 0))))).length : Int)).length : Int) < (4 : Int) then ((sub (sub (sub v5_4587 (1 : Int) (v5_4587.length : Int)) 0 (IntKind.i64.wrap (4 * (IntKind.i64.wrap (gt v5_4587 0))))) v4_4644 ((sub (sub v5_4587 (1 : Int) (v5_4587.length : Int)) 0 (IntKind.i64.wrap (4 * (IntKind.i64.wrap (gt v5_4587 0))))).length : Int)).length : Int) else (4 : Int))))) 1)) * 2 ^ (min (Int.toNat 8) IntKind.i64.bits))) ||| BitVec.ofInt IntKind.i64.bits (IntKind.i64.wrap (gt (sub (sub (sub v5_4587 (1 : Int) (v5_4587.length : Int)) 0 (IntKind.i64.wrap (4 * (IntKind.i64.wrap (gt v5_4587 0))))) v4_4644 (IntKind.i64.wrap (v4_4644 + (if ((sub (sub (sub v5_4587 (1 : Int) (v5_4587.length : Int)) 0 (IntKind.i64.wrap (4 * (IntKind.i64.wrap (gt v5_4587 0))))) v4_4644 ((sub (sub v5_4587 (1 : Int) (v5_4587.length : Int)) 0 (IntKind.i64.wrap (4 * (IntKind.i64.wrap (gt v5_4587 0))))).length : Int)).length : Int) < (4 : Int) then ((sub (sub (sub v5_4587 (1 : Int) (v5_4587.length : Int)) 0 (IntKind.i64.wrap (4 * (IntKind.i64.wrap (gt v5_4587 0))))) v4_4644 ((sub (sub v5_4587 (1 : Int) (v5_4587.length : Int)) 0 (IntKind.i64.wrap (4 * (IntKind.i64.wrap (gt v5_4587 0))))).length : Int)).length : Int) else (4 : Int))))) 2))).toNat) (IntKind.i64.wrap (gt (sub (sub (sub v5_4587 (1 : Int) (v5_4587.length : Int)) 0 (IntKind.i64.wrap (4 * (IntKind.i64.wrap (gt v5_4587 0))))) v4_4644 (IntKind.i64.wrap (v4_4644 + (if ((sub (sub (sub v5_4587 (1 : Int) (v5_4587.length : Int)) 0 (IntKind.i64.wrap (4 * (IntKind.i64.wrap (gt v5_4587 0))))) v4_4644 ((sub (sub v5_4587 (1 : Int) (v5_4587.length : Int)) 0 (IntKind.i64.wrap (4 * (IntKind.i64.wrap (gt v5_4587 0))))).length : Int)).length : Int) < (4 : Int) then ((sub (sub (sub v5_4587 (1 : Int) (v5_4587.length : Int)) 0 (IntKind.i64.wrap (4 * (IntKind.i64.wrap (gt v5_4587 0))))) v4_4644 ((sub (sub v5_4587 (1 : Int) (v5_4587.length : Int)) 0 (IntKind.i64.wrap (4 * (IntKind.i64.wrap (gt v5_4587 0))))).length : Int)).length : Int) else (4 : Int))))) 3)))]) E_good rfl rfl rfl rfl rfl rfl rfl rfl rfl (.own rfl) (.own rfl) (fun _ => rfl) hb4654 ?_
            refine SafeOps.nil ⟨rfl, ?_⟩
            refine DAny.only (i := 22) rfl (by kernel_rfl) (.store (z := Obj.box [V.ref [9040, 0, 29, 62] 0 (rws api_Instr.cells (v80_4645 ++ [(api_Instr.mk (IntKind.i64.wrap (gt (sub (sub (sub v5_4587 (1 : Int) (v5_4587.length : Int)) 0 (IntKind.i64.wrap (4 * (IntKind.i64.wrap (gt v5_4587 0))))) v4_4644 (IntKind.i64.wrap (v4_4644 + (if ((sub (sub (sub v5_4587 (1 : Int) (v5_4587.length : Int)) 0 (IntKind.i64.wrap (4 * (IntKind.i64.wrap (gt v5_4587 0))))) v4_4644 ((sub (sub v5_4587 (1 : Int) (v5_4587.length : Int)) 0 (IntKind.i64.wrap (4 * (IntKind.i64.wrap (gt v5_4587 0))))).length : Int)).length : Int) < (4 : Int) then ((sub (sub (sub v5_4587 (1 : Int) (v5_4587.length : Int)) 0 (IntKind.i64.wrap (4 * (IntKind.i64.wrap (gt v5_4587 0))))) v4_4644 ((sub (sub v5_4587 (1 : Int) (v5_4587.length : Int)) 0 (IntKind.i64.wrap (4 * (IntKind.i64.wrap (gt v5_4587 0))))).length : Int)).length : Int) else (4 : Int))))) 0)) (IntKind.i64.wrap (BitVec.ofInt IntKind.i64.bits (IntKind.i64.wrap ((IntKind.i64.wrap (gt (sub (sub (sub v5_4587 (1 : Int) (v5_4587.length : Int)) 0 (IntKind.i64.wrap (4 * (IntKind.i64.wrap (gt v5_4587 0))))) v4_4644 (IntKind.i64.wrap (v4_4644 + (if ((sub (sub (sub v5_4587 (1 : Int) (v5_4587.length : Int)) 0 (IntKind.i64.wrap (4 * (IntKind.i64.wrap (gt v5_4587 0))))) v4_4644 ((sub (sub v5_4587 (1 : Int) (v5_4587.length : Int)) 0 (IntKind.i64.wrap (4 * (IntKind.i64.wrap (gt v5_4587 0))))).length : Int)).length : Int) < (4 : Int) then ((sub (sub (sub v5_4587 (1 : Int) (v5_4587.length : Int)) 0 (IntKind.i64.wrap (4 * (IntKind.i64.wrap (gt v5_4587 0))))) v4_4644 ((sub (sub v5_4587 (1 : Int) (v5_4587.length : Int)) 0 (IntKind.i64.wrap (4 * (IntKind.i64.wrap (gt v5_4587 0))))).length : Int)).length : Int) else (4 : Int))))) 1)) * 2 ^ (min (Int.toNat 8) IntKind.i64.bits))) ||| BitVec.ofInt IntKind.i64.bits (IntKind.i64.wrap (gt (sub (sub (sub v5_4587 (1 : Int) (v5_4587.length : Int)) 0 (IntKind.i64.wrap (4 * (IntKind.i64.wrap (gt v5_4587 0))))) v4_4644 (IntKind.i64.wrap (v4_4644 + (if ((sub (sub (sub v5_4587 (1 : Int) (v5_4587.length : Int)) 0 (IntKind.i64.wrap (4 * (IntKind.i64.wrap (gt v5_4587 0))))) v4_4644 ((sub (sub v5_4587 (1 : Int) (v5_4587.length : Int)) 0 (IntKind.i64.wrap (4 * (IntKind.i64.wrap (gt v5_4587 0))))).length : Int)).length : Int) < (4 : Int) then ((sub (sub (sub v5_4587 (1 : Int) (v5_4587.length : Int)) 0 (IntKind.i64.wrap (4 * (IntKind.i64.wrap (gt v5_4587 0))))) v4_4644 ((sub (sub v5_4587 (1 : Int) (v5_4587.length : Int)) 0 (IntKind.i64.wrap (4 * (IntKind.i64.wrap (gt v5_4587 0))))).length : Int)).length : Int) else (4 : Int))))) 2))).toNat) (IntKind.i64.wrap (gt (sub (sub (sub v5_4587 (1 : Int) (v5_4587.length : Int)) 0 (IntKind.i64.wrap (4 * (IntKind.i64.wrap (gt v5_4587 0))))) v4_4644 (IntKind.i64.wrap (v4_4644 + (if ((sub (sub (sub v5_4587 (1 : Int) (v5_4587.length : Int)) 0 (IntKind.i64.wrap (4 * (IntKind.i64.wrap (gt v5_4587 0))))) v4_4644 ((sub (sub v5_4587 (1 : Int) (v5_4587.length : Int)) 0 (IntKind.i64.wrap (4 * (IntKind.i64.wrap (gt v5_4587 0))))).length : Int)).length : Int) < (4 : Int) then ((sub (sub (sub v5_4587 (1 : Int) (v5_4587.length : Int)) 0 (IntKind.i64.wrap (4 * (IntKind.i64.wrap (gt v5_4587 0))))) v4_4644 ((sub (sub v5_4587 (1 : Int) (v5_4587.length : Int)) 0 (IntKind.i64.wrap (4 * (IntKind.i64.wrap (gt v5_4587 0))))).length : Int)).length : Int) else (4 : Int))))) 3)))])).length]) rfl rfl rfl rfl rfl rfl rfl (.boxM (c := 1) rfl rfl (Nat.le_of_ble_eq_true rfl) rfl) rfl ?_)
            refine DAny.nil (by kernel_rfl) ?_
            repeat (first | refine Safe.seq ?_ | refine Safe.skip ?_ | with_reducible refine thenQ.n ?_ | with_reducible refine blockQ.n ?_)
            refine roundQ.go rfl rfl rfl rfl rfl ?_
            refine SafeOps.quiet0 E_good rfl rfl rfl (v := V.bool false) (.fn rfl) ?_
            refine SafeOps.nil ?_
            repeat (first | refine Safe.seq ?_ | refine Safe.skip ?_ | with_reducible refine thenQ.n ?_ | with_reducible refine blockQ.n ?_)
            refine Safe.condN rfl rfl ?_
            repeat (first | refine Safe.seq ?_ | refine Safe.skip ?_ | with_reducible refine thenQ.n ?_ | with_reducible refine blockQ.n ?_)
            refine Safe.region ?_
            refine SafeOps.quiet0 E_good rfl rfl rfl (v := V.int .i64 v4_4644) (.fn rfl) ?_
            refine SafeOps.quiet0 E_good rfl rfl rfl (v := V.int .i64 4) (.load rfl rfl (.box rfl rfl) rfl) ?_
            refine SafeOps.quiet0 E_good rfl rfl rfl (v := V.int .i64 (IntKind.i64.wrap (v4_4644 + 4))) (.fn rfl) ?_
            refine SafeOps.quiet0 E_good rfl rfl rfl (v := V.int .i64 (IntKind.i64.wrap (v4_4644 + 4))) (.fn rfl) ?_
            refine SafeOps.nil ?_
            repeat (first | refine Safe.seq ?_ | refine Safe.skip ?_ | with_reducible refine thenQ.n ?_ | with_reducible refine blockQ.n ?_)
            exact ⟨_, next_out h, (.ren [9040, 0, 29, 62] [7000, 114, 8, 0] (.cov ⟨rfl, rfl, (upT_cons (.refl _) (upT_cons (.refl _) (upT_cons (.refl _) (upT_cons (.refl _) upT_nil)))), (upOb_cons rfl (.refl _) (upOb_cons rfl (.refl _) (upOb_cons rfl (.refl _) (upOb_cons rfl (.refl _) (upOb_cons rfl (.refl _) (upOb_cons rfl (by exact .loop (upT_cons (.refl _) upT_nil)) upOb_nil)))))), (upOut_cons rfl (upT_cons (.refl _) upT_nil) (upOut_cons rfl (upT_cons (.refl _) (upT_cons (.refl _) (upT_cons (.refl _) (upT_cons (.refl _) (upT_cons (.refl _) (upT_cons (.refl _) upT_nil)))))) upOut_nil)), rfl⟩))⟩
          · skip
            refine Safe.condN rfl hc4647 ?_
            repeat (first | refine Safe.seq ?_ | refine Safe.skip ?_ | with_reducible refine thenQ.n ?_ | with_reducible refine blockQ.n ?_)
            refine Safe.exit ?_
            repeat (first | with_reducible refine thenQ.e ?_ | with_reducible refine blockQ.x rfl ?_ | with_reducible refine blockQ.y rfl ?_)
            replace h := inr_out h hr4646
            repeat (first | refine Safe.seq ?_ | refine Safe.skip ?_ | with_reducible refine thenQ.n ?_ | with_reducible refine blockQ.n ?_)
            refine rfQ.n (.inl rfl) rfl rfl (fun hbusy => by cases hbusy) ?_
            repeat (first | refine Safe.seq ?_ | refine Safe.skip ?_ | with_reducible refine thenQ.n ?_ | with_reducible refine blockQ.n ?_)
            refine Safe.gets (τ := ⟨Try.f24.ntmps, [(5, V.sl 1 (rws (fun n => [V.int .u8 n]) (sub v5_4587 (1 : Int) (v5_4587.length : Int)))), (6, V.ref [7000, 118, 6] 0 (rws (fun l => [V.sl 3 (rws api_Instr.cells l)]) v6_4588).length), (7, V.int .i64 (IntKind.i64.wrap (4 * (IntKind.i64.wrap (gt v5_4587 0))))), (8, V.ptr [8] 0 0), (19, V.int .i64 (IntKind.i64.wrap (gt a0_3816 0))), (20, V.int .i64 v20_4589)], [([8], Obj.box [V.sl 3 (rws api_Instr.cells v80_4645)]), ([39, 2], Obj.box [V.sl 1 (rws (fun n => [V.int .u8 n]) (sub (sub v5_4587 (1 : Int) (v5_4587.length : Int)) 0 (IntKind.i64.wrap (4 * (IntKind.i64.wrap (gt v5_4587 0))))))]), ([39, 3], Obj.box [V.int .i64 4]), ([7000, 118, 6], Obj.rows 1 (rws (fun l => [V.sl 3 (rws api_Instr.cells l)]) v6_4588) false)], [], []⟩) (.freeze [7000, 114, 8, 0] rfl (.cov ⟨rfl, rfl, (upT_cons (.refl _) (upT_cons (.refl _) (upT_cons (.refl _) (upT_cons (.refl _) (upT_cons (.refl _) (upT_cons (.refl _) upT_nil)))))), (upOb_cons rfl (.box (.cons (.full rfl rfl) .nil)) (upOb_cons rfl (.refl _) (upOb_cons rfl (.refl _) (upOb_cons rfl (.refl _) upOb_nil)))), upOut_nil, rfl⟩)) ?_
            repeat (first | refine Safe.seq ?_ | refine Safe.skip ?_ | with_reducible refine thenQ.n ?_ | with_reducible refine blockQ.n ?_)
            refine Safe.regionD (n := 9) [(3, [7000, 118, 6])] [] E_good mixed rfl ?_
            refine DAny.take (i := 0) rfl (by kernel_rfl) [[7000, 118, 6]] (by kernel_rfl) (by kernel_rfl) (by kernel_rfl) rfl rfl rfl (v := V.ref [7000, 118, 6] 0 (rws (fun l => [V.sl 3 (rws api_Instr.cells l)]) v6_4588).length) (fun _ hz => (.fn rfl)) ?_
            refine DAny.take (i := 1) rfl (by kernel_rfl) [[7000, 118, 6]] (by kernel_rfl) (by kernel_rfl) (by kernel_rfl) rfl rfl rfl (v := V.sl 3 (rws api_Instr.cells v80_4645)) (fun _ hz => (.load rfl rfl (.box (hz _ _ rfl rfl) rfl) rfl)) ?_
            refine DAny.take (i := 4) rfl (by kernel_rfl) [[7000, 118, 6]] (by kernel_rfl) (by kernel_rfl) (by kernel_rfl) rfl rfl rfl (v := V.sl 1 (rws (fun n => [V.int .u8 n]) (sub v5_4587 (1 : Int) (v5_4587.length : Int)))) (fun _ hz => (.fn rfl)) ?_
            refine DAny.take (i := 5) rfl (by kernel_rfl) [[7000, 118, 6]] (by kernel_rfl) (by kernel_rfl) (by kernel_rfl) rfl rfl rfl (v := V.int .i64 (IntKind.i64.wrap (4 * (IntKind.i64.wrap (gt v5_4587 0))))) (fun _ hz => (.fn rfl)) ?_
            refine okG h (fun hb4655 h => ?_)
            refine DAny.take (i := 6) rfl (by kernel_rfl) [[7000, 118, 6]] (by kernel_rfl) (by kernel_rfl) (by kernel_rfl) rfl rfl rfl (v := V.sl 1 (rws (fun n => [V.int .u8 n]) (sub (sub v5_4587 (1 : Int) (v5_4587.length : Int)) (IntKind.i64.wrap (4 * (IntKind.i64.wrap (gt v5_4587 0)))) ((sub v5_4587 (1 : Int) (v5_4587.length : Int)).length : Int)))) (fun _ hz => (.slL (f := (fun n => [V.int .u8 n])) rfl rfl rfl rfl rfl hb4655)) ?_
            refine DAny.only (i := 2) rfl (by kernel_rfl) (.quiet rfl rfl rfl (.litM (f := (fun l => [V.sl 3 (rws api_Instr.cells l)])) (xs := [v80_4645]) rfl rfl (by decide) rfl rfl rfl rfl rfl) rfl ?_)
            refine okG h (fun hb4656 h => ?_)
            refine DAny.only (i := 3) rfl (by kernel_rfl) (.appendM (fun l => [V.sl 3 (rws api_Instr.cells l)]) (xs := v6_4588) (ys := [v80_4645]) rfl rfl rfl rfl rfl rfl rfl rfl rfl (.own rfl) (.own rfl) (fun _ => rfl) hb4656 rfl ?_)
            refine DAny.take (i := 7) rfl (by kernel_rfl) [[7000, 118, 6]] (by kernel_rfl) (by kernel_rfl) (by kernel_rfl) rfl rfl rfl (v := V.ref [66] 0 (rws (fun l => [V.sl 3 (rws api_Instr.cells l)]) (v6_4588 ++ [v80_4645])).length) (fun _ hz => (.fn rfl)) ?_
            refine DAny.take (i := 8) rfl (by kernel_rfl) [[7000, 118, 6]] (by kernel_rfl) (by kernel_rfl) (by kernel_rfl) rfl rfl rfl (v := V.sl 1 (rws (fun n => [V.int .u8 n]) (sub (sub v5_4587 (1 : Int) (v5_4587.length : Int)) (IntKind.i64.wrap (4 * (IntKind.i64.wrap (gt v5_4587 0)))) ((sub v5_4587 (1 : Int) (v5_4587.length : Int)).length : Int)))) (fun _ hz => (.fn rfl)) ?_
            refine DAny.nil (by kernel_rfl) ?_
            repeat (first | refine Safe.seq ?_ | refine Safe.skip ?_ | with_reducible refine thenQ.n ?_ | with_reducible refine blockQ.n ?_)
            refine Safe.region ?_
            refine SafeOps.quiet0 E_good rfl rfl rfl (v := V.int .i64 (IntKind.i64.wrap (v20_4589 + 1))) (.fn rfl) ?_
            refine SafeOps.quiet0 E_good rfl rfl rfl (v := V.int .i64 (IntKind.i64.wrap (v20_4589 + 1))) (.fn rfl) ?_
            refine SafeOps.nil ?_
            repeat (first | refine Safe.seq ?_ | refine Safe.skip ?_ | with_reducible refine thenQ.n ?_ | with_reducible refine blockQ.n ?_)
            exact ⟨_, next_out h, (.ren [66] [7000, 118, 6] (.cov ⟨rfl, rfl, (upT_cons (.refl _) (upT_cons (.refl _) (upT_cons (.refl _) (upT_cons (.refl _) upT_nil)))), (upOb_cons rfl (.refl _) upOb_nil), upOut_nil, rfl⟩))⟩
    · skip
      refine Safe.condN rfl hc4591 ?_
      repeat (first | refine Safe.seq ?_ | refine Safe.skip ?_ | with_reducible refine thenQ.n ?_ | with_reducible refine blockQ.n ?_)
      refine Safe.exit ?_
      repeat (first | with_reducible refine thenQ.e ?_ | with_reducible refine blockQ.x rfl ?_ | with_reducible refine blockQ.y rfl ?_)
      replace h := inr_out h hr4590
      repeat (first | refine Safe.seq ?_ | refine Safe.skip ?_ | with_reducible refine thenQ.n ?_ | with_reducible refine blockQ.n ?_)
      refine Safe.region ?_
      refine SafeOps.quiet0 E_good rfl rfl rfl (v := V.sl 1 (rws (fun n => [V.int .u8 n]) v5_4587)) (.fn rfl) ?_
      refine SafeOps.quiet0 E_good rfl rfl rfl (v := V.int .i64 (v5_4587.length : Int)) (.fnE rfl lenE) ?_
      refine SafeOps.quiet0 E_good rfl rfl rfl (v := V.bool (decide ((v5_4587.length : Int) > 0))) (.fn rfl) ?_
      refine SafeOps.quiet0 E_good rfl rfl rfl (v := V.bool (decide ((v5_4587.length : Int) > 0))) (.fn rfl) ?_
      refine ifG h (fun hc4657 h => ?_) (fun hc4657 h => ?_)
      · skip
        refine SafeOps.skip (congrArg (fun b => some (!b)) hc4657) rfl rfl ?_
        refine SafeOps.skip (congrArg (fun b => some (!b)) hc4657) rfl rfl ?_
        refine SafeOps.skip (congrArg (fun b => some (!b)) hc4657) rfl rfl ?_
        refine SafeOps.quiet0 E_good rfl rfl rfl (v := V.bool true) (.pickK rfl hc4657 rfl) ?_
        refine SafeOps.nil ?_
        repeat (first | refine Safe.seq ?_ | refine Safe.skip ?_ | with_reducible refine thenQ.n ?_ | with_reducible refine blockQ.n ?_)
        refine Safe.condK rfl rfl ?_
        repeat (first | refine Safe.seq ?_ | refine Safe.skip ?_ | with_reducible refine thenQ.n ?_ | with_reducible refine blockQ.n ?_)
        refine Safe.region ?_
        refine SafeOps.quiet0 E_good rfl rfl rfl (v := V.nils) (.fn rfl) ?_
        refine SafeOps.quiet0 E_good rfl rfl rfl (v := V.int .i64 2) (.fn rfl) ?_
        refine SafeOps.nil ?_
        repeat (first | refine Safe.seq ?_ | refine Safe.skip ?_ | with_reducible refine thenQ.n ?_ | with_reducible refine blockQ.n ?_)
        refine Safe.ret ?_
        repeat (first | with_reducible refine thenQ.r ?_ | with_reducible refine blockQ.r ?_)
        obtain rfl := Option.some.inj h
        exact retQ.gen (vs := [V.nils, V.int .i64 2]) rfl (.tmp (v := V.nils) rfl (.tmp (v := V.int .i64 2) rfl .nil)) (by exact (.tup (.cons (.nils _) (.cons (.free rfl) .nil)))) (by simp) (.inr rfl)
      · skip
        refine SafeOps.quiet0 E_good (congrArg (fun b => some (!b)) hc4657) rfl rfl (v := V.ref [7000, 118, 6] 0 (rws (fun l => [V.sl 3 (rws api_Instr.cells l)]) v6_4588).length) (.fn rfl) ?_
        refine bindG h ?_
        intro x_4660 he4661 h
        refine SafeOps.quiet0 E_good (congrArg (fun b => some (!b)) hc4657) rfl rfl (v := V.int .i64 x_4660) (.callS rfl (.cons (.full rfl rfl) .nil) (go_code_CheckAll_sc v6_4588 _ he4661) (.plain rfl) rfl) ?_
        refine SafeOps.quiet0 E_good (congrArg (fun b => some (!b)) hc4657) rfl rfl (v := V.bool (x_4660 != 0)) (.fn rfl) ?_
        refine SafeOps.quiet0 E_good rfl rfl rfl (v := V.bool (x_4660 != 0)) (.pickK rfl hc4657 rfl) ?_
        refine SafeOps.nil ?_
        repeat (first | refine Safe.seq ?_ | refine Safe.skip ?_ | with_reducible refine thenQ.n ?_ | with_reducible refine blockQ.n ?_)
        refine ifG h (fun hc4662 h => ?_) (fun hc4662 h => ?_)
        · skip
          refine Safe.condK rfl hc4662 ?_
          repeat (first | refine Safe.seq ?_ | refine Safe.skip ?_ | with_reducible refine thenQ.n ?_ | with_reducible refine blockQ.n ?_)
          refine Safe.region ?_
          refine SafeOps.quiet0 E_good rfl rfl rfl (v := V.nils) (.fn rfl) ?_
          refine SafeOps.quiet0 E_good rfl rfl rfl (v := V.int .i64 2) (.fn rfl) ?_
          refine SafeOps.nil ?_
          repeat (first | refine Safe.seq ?_ | refine Safe.skip ?_ | with_reducible refine thenQ.n ?_ | with_reducible refine blockQ.n ?_)
          refine Safe.ret ?_
          repeat (first | with_reducible refine thenQ.r ?_ | with_reducible refine blockQ.r ?_)
          obtain rfl := Option.some.inj h
          exact retQ.gen (vs := [V.nils, V.int .i64 2]) rfl (.tmp (v := V.nils) rfl (.tmp (v := V.int .i64 2) rfl .nil)) (by exact (.tup (.cons (.nils _) (.cons (.free rfl) .nil)))) (by simp) (.inr rfl)
        · skip
          refine Safe.condN rfl hc4662 ?_
          repeat (first | refine Safe.seq ?_ | refine Safe.skip ?_ | with_reducible refine thenQ.n ?_ | with_reducible refine blockQ.n ?_)
          refine Safe.region ?_
          refine SafeOps.quiet0 E_good rfl rfl rfl (v := V.ref [7000, 118, 6] 0 (rws (fun l => [V.sl 3 (rws api_Instr.cells l)]) v6_4588).length) (.fn rfl) ?_
          refine SafeOps.quiet0 E_good rfl rfl rfl (v := V.ref [7000, 118, 6] 0 (rws (fun l => [V.sl 3 (rws api_Instr.cells l)]) v6_4588).length) (.fn rfl) ?_
          refine SafeOps.quiet0 E_good rfl rfl rfl (v := V.int .i64 0) (.fn rfl) ?_
          refine SafeOps.nil ?_
          repeat (first | refine Safe.seq ?_ | refine Safe.skip ?_ | with_reducible refine thenQ.n ?_ | with_reducible refine blockQ.n ?_)
          refine Safe.ret ?_
          repeat (first | with_reducible refine thenQ.r ?_ | with_reducible refine blockQ.r ?_)
          obtain rfl := Option.some.inj h
          exact retQ.gen (vs := [V.ref [7000, 118, 6] 0 (rws (fun l => [V.sl 3 (rws api_Instr.cells l)]) v6_4588).length, V.int .i64 0]) rfl (.tmp (v := V.ref [7000, 118, 6] 0 (rws (fun l => [V.sl 3 (rws api_Instr.cells l)]) v6_4588).length) rfl (.tmp (v := V.int .i64 0) rfl .nil)) (by exact (.tup (.cons (.own rfl rfl) (.cons (.free rfl) .nil)))) (by simp) (.inr rfl)

noncomputable def go_ravellaw04_CodeBack_j2 (x_5513 : Int) (x_5518 : Int) (b_5524 : Bool) : Option Bool :=
  some ((b_5524 && (x_5513 == 2)) && (x_5518 == 2))

noncomputable def go_ravellaw04_CodeBack_j1 (a0_5401 : List (List api_Instr)) (x_5472 : Bool) : Option Bool :=
  (go_code_Write a0_5401).bind fun (x_5492, x_5493) =>
  if (x_5493 != 0) = true then
    if (x_5472 && (x_5493 == 1)) = true then
      (go_code_CheckAll a0_5401).bind fun x_5506 =>
      some (x_5506 == 1)
    else
      some false
  else
    (go_code_Read x_5492).bind fun (x_5508, x_5509) =>
    if 0 ≤ (if 0 > (IntKind.i64.wrap ((x_5492.length : Int) - 1)) then 0 else IntKind.i64.wrap ((x_5492.length : Int) - 1)) ∧ (if 0 > (IntKind.i64.wrap ((x_5492.length : Int) - 1)) then 0 else IntKind.i64.wrap ((x_5492.length : Int) - 1)) ≤ (x_5492.length : Int) then
      (go_code_Read (sub x_5492 0 (if 0 > (IntKind.i64.wrap ((x_5492.length : Int) - 1)) then 0 else IntKind.i64.wrap ((x_5492.length : Int) - 1)))).bind fun (x_5512, x_5513) =>
      if few ([] ++ x_5492).length then
        if few (([] ++ x_5492) ++ [0]).length then
          (go_code_Read (([] ++ x_5492) ++ [0])).bind fun (x_5517, x_5518) =>
          if (x_5472 && (x_5509 == 0)) = true then
            (go_code_Same x_5508 a0_5401).bind fun x_5528 =>
            go_ravellaw04_CodeBack_j2 x_5513 x_5518 x_5528
          else
            go_ravellaw04_CodeBack_j2 x_5513 x_5518 false
        else none
      else none
    else none

noncomputable def go_ravellaw04_CodeBack (a0_5401 : List (List api_Instr)) (a1_5402 : List Int) : Option Bool :=
  (go_ravellaw04_live).bind fun x_5472 =>
  (go_ravelref04_Few a0_5401).bind fun x_5474 =>
  if ((!x_5474) || (decide ((a1_5402.length : Int) > 3000))) = true then
    some x_5472
  else
    (go_code_Read a1_5402).bind fun (x_5478, x_5479) =>
    if (x_5479 == 0) = true then
      (go_code_Write x_5478).bind fun (x_5531, x_5532) =>
      if ((x_5532 != 0) || (!((strOfNums x_5531).toList == (strOfNums a1_5402).toList))) = true then
        some false
      else
        (go_code_CheckAll x_5478).bind fun x_5538 =>
        if (x_5538 != 0) = true then
          some false
        else
          go_ravellaw04_CodeBack_j1 a0_5401 x_5472
    else
      go_ravellaw04_CodeBack_j1 a0_5401 x_5472

theorem go_ravellaw04_CodeBack_sc (a0_5401 : List (List api_Instr)) (a1_5402 : List Int) (r : Bool) (h : go_ravellaw04_CodeBack a0_5401 a1_5402 = some r) : SC Try.prog gl 9 [V.sl 1 (rws (fun l => [V.sl 3 (rws api_Instr.cells l)]) a0_5401), V.sl 1 (rws (fun n => [V.int .u8 n]) a1_5402)] (V.bool r) := by
  rw [go_ravellaw04_CodeBack] at h
  refine SC.of E_good Try.func9 rfl (fun _ _ => Try.call9 _ _) rfl ?_
  repeat (first | refine Safe.seq ?_ | refine Safe.skip ?_ | with_reducible refine thenQ.n ?_ | with_reducible refine blockQ.n ?_)
  refine Safe.region ?_
  refine SafeOps.quiet0 E_good rfl rfl rfl (v := V.bool false) (.fn rfl) ?_
  refine SafeOps.nil ?_
  repeat (first | refine Safe.seq ?_ | refine Safe.skip ?_ | with_reducible refine thenQ.n ?_ | with_reducible refine blockQ.n ?_)
  refine Safe.region ?_
  refine bindG h ?_
  intro x_5472 he5473 h
  refine SafeOps.quiet0 E_good rfl rfl rfl (v := V.bool x_5472) (.callP rfl rfl (go_ravellaw04_live_sc  _ he5473) rfl) ?_
  refine SafeOps.quiet0 E_good rfl rfl rfl (v := V.bool x_5472) (.fn rfl) ?_
  refine SafeOps.nil ?_
  repeat (first | refine Safe.seq ?_ | refine Safe.skip ?_ | with_reducible refine thenQ.n ?_ | with_reducible refine blockQ.n ?_)
  refine Safe.region ?_
  refine SafeOps.quiet0 E_good rfl rfl rfl (v := V.sl 1 (rws (fun l => [V.sl 3 (rws api_Instr.cells l)]) a0_5401)) (.fn rfl) ?_
  refine bindG h ?_
  intro x_5474 he5475 h
  refine SafeOps.quiet0 E_good rfl rfl rfl (v := V.bool x_5474) (.callP rfl rfl (go_ravelref04_Few_sc a0_5401 _ he5475) rfl) ?_
  refine SafeOps.quiet0 E_good rfl rfl rfl (v := V.bool (!x_5474)) (.fn rfl) ?_
  refine SafeOps.quiet0 E_good rfl rfl rfl (v := V.bool (!x_5474)) (.fn rfl) ?_
  refine SafeOps.bjoin 4 26 (b := ((!x_5474) || (decide ((a1_5402.length : Int) > 3000)))) (b1 := true) (b0 := decide ((a1_5402.length : Int) > 3000)) (fun hc5476 K => ?_) (fun hc5476 K => ?_) bj_or ?_
  · skip
    refine SafeOps.skip (congrArg (fun b => some (!b)) hc5476) rfl rfl ?_
    refine SafeOps.skip (congrArg (fun b => some (!b)) hc5476) rfl rfl ?_
    refine SafeOps.skip (congrArg (fun b => some (!b)) hc5476) rfl rfl ?_
    refine SafeOps.quiet0 E_good rfl rfl rfl (v := V.bool true) (.pickK rfl hc5476 rfl) ?_
    exact SafeOps.drop' 4 rfl rfl rfl K
  · skip
    refine SafeOps.quiet0 E_good (congrArg (fun b => some (!b)) hc5476) rfl rfl (v := V.sl 1 (rws (fun n => [V.int .u8 n]) a1_5402)) (.fn rfl) ?_
    refine SafeOps.quiet0 E_good (congrArg (fun b => some (!b)) hc5476) rfl rfl (v := V.int .i64 (a1_5402.length : Int)) (.fnE rfl lenE) ?_
    refine SafeOps.quiet0 E_good (congrArg (fun b => some (!b)) hc5476) rfl rfl (v := V.bool (decide ((a1_5402.length : Int) > 3000))) (.fn rfl) ?_
    refine SafeOps.quiet0 E_good rfl rfl rfl (v := V.bool (decide ((a1_5402.length : Int) > 3000))) (.pickK rfl hc5476 rfl) ?_
    exact SafeOps.drop' 4 rfl rfl rfl K
  refine SafeOps.nil ?_
  repeat (first | refine Safe.seq ?_ | refine Safe.skip ?_ | with_reducible refine thenQ.n ?_ | with_reducible refine blockQ.n ?_)
  refine ifG h (fun hc5477 h => ?_) (fun hc5477 h => ?_)
  · skip
    refine Safe.condK rfl hc5477 ?_
    repeat (first | refine Safe.seq ?_ | refine Safe.skip ?_ | with_reducible refine thenQ.n ?_ | with_reducible refine blockQ.n ?_)
    refine Safe.region ?_
    refine SafeOps.quiet0 E_good rfl rfl rfl (v := V.bool x_5472) (.fn rfl) ?_
    refine SafeOps.quiet0 E_good rfl rfl rfl (v := V.bool x_5472) (.fn rfl) ?_
    refine SafeOps.nil ?_
    repeat (first | refine Safe.seq ?_ | refine Safe.skip ?_ | with_reducible refine thenQ.n ?_ | with_reducible refine blockQ.n ?_)
    refine Safe.ret ?_
    repeat (first | with_reducible refine thenQ.r ?_ | with_reducible refine blockQ.r ?_)
    obtain rfl := Option.some.inj h
    exact retQ.gen (vs := [V.bool x_5472]) rfl (.tmp (v := V.bool x_5472) rfl .nil) (.free rfl) (by simp) (.inr rfl)
  · skip
    refine Safe.condN rfl hc5477 ?_
    repeat (first | refine Safe.seq ?_ | refine Safe.skip ?_ | with_reducible refine thenQ.n ?_ | with_reducible refine blockQ.n ?_)
    refine Safe.region ?_
    refine SafeOps.quiet0 E_good rfl rfl rfl (v := V.sl 1 (rws (fun n => [V.int .u8 n]) a1_5402)) (.fn rfl) ?_
    refine bindG h ?_
    rintro ⟨x_5478, x_5479⟩ he5480 h
    refine SafeOps.quiet E_good rfl rfl rfl (v := V.tup [V.ref [30, 0] 0 (rws (fun l => [V.sl 3 (rws api_Instr.cells l)]) x_5478).length, V.int .i64 x_5479]) (.callP rfl rfl (go_code_Read_sc a1_5402 _ he5480) rfl) rfl ?_
    refine SafeOps.quiet0 E_good rfl rfl rfl (v := V.tup [V.ref [30, 0] 0 (rws (fun l => [V.sl 3 (rws api_Instr.cells l)]) x_5478).length, V.int .i64 x_5479]) (.fn rfl) ?_
    refine SafeOps.quiet0 E_good rfl rfl rfl (v := V.ref [30, 0] 0 (rws (fun l => [V.sl 3 (rws api_Instr.cells l)]) x_5478).length) (.fn rfl) ?_
    refine SafeOps.quiet0 E_good rfl rfl rfl (v := V.int .i64 x_5479) (.fn rfl) ?_
    refine SafeOps.quiet0 E_good rfl rfl rfl (v := V.ref [30, 0] 0 (rws (fun l => [V.sl 3 (rws api_Instr.cells l)]) x_5478).length) (.fn rfl) ?_
    refine SafeOps.quiet0 E_good rfl rfl rfl (v := V.int .i64 x_5479) (.fn rfl) ?_
    refine SafeOps.nil ?_
    repeat (first | refine Safe.seq ?_ | refine Safe.skip ?_ | with_reducible refine thenQ.n ?_ | with_reducible refine blockQ.n ?_)
    refine Safe.region ?_
    refine SafeOps.quiet0 E_good rfl rfl rfl (v := V.int .i64 x_5479) (.fn rfl) ?_
    refine SafeOps.quiet0 E_good rfl rfl rfl (v := V.bool (x_5479 == 0)) (.fn rfl) ?_
    refine SafeOps.nil ?_
    repeat (first | refine Safe.seq ?_ | refine Safe.skip ?_ | with_reducible refine thenQ.n ?_ | with_reducible refine blockQ.n ?_)
    refine Safe.joinT (fun (_ : Unit) => go_ravellaw04_CodeBack_j1 a0_5401 x_5472 = some r) (fun (_ : Unit) => ⟨Try.f9.ntmps, [(0, V.sl 1 (rws (fun l => [V.sl 3 (rws api_Instr.cells l)]) a0_5401)), (5, V.bool x_5472)], [], [], []⟩) ?_ (fun HJ5491 => ?_)
    · intro _ h
      replace h : go_ravellaw04_CodeBack_j1 a0_5401 x_5472 = some r := h
      rw [go_ravellaw04_CodeBack_j1] at h
      repeat (first | refine Safe.seq ?_ | refine Safe.skip ?_ | with_reducible refine thenQ.n ?_ | with_reducible refine blockQ.n ?_)
      refine Safe.region ?_
      refine SafeOps.quiet0 E_good rfl rfl rfl (v := V.sl 1 (rws (fun l => [V.sl 3 (rws api_Instr.cells l)]) a0_5401)) (.fn rfl) ?_
      refine bindG h ?_
      rintro ⟨x_5492, x_5493⟩ he5494 h
      refine SafeOps.quiet E_good rfl rfl rfl (v := V.tup [V.ref [56, 0] 0 (rws (fun n => [V.int .u8 n]) x_5492).length, V.int .i64 x_5493]) (.callP rfl rfl (go_code_Write_sc a0_5401 _ he5494) rfl) rfl ?_
      refine SafeOps.quiet0 E_good rfl rfl rfl (v := V.tup [V.ref [56, 0] 0 (rws (fun n => [V.int .u8 n]) x_5492).length, V.int .i64 x_5493]) (.fn rfl) ?_
      refine SafeOps.quiet0 E_good rfl rfl rfl (v := V.ref [56, 0] 0 (rws (fun n => [V.int .u8 n]) x_5492).length) (.fn rfl) ?_
      refine SafeOps.quiet0 E_good rfl rfl rfl (v := V.int .i64 x_5493) (.fn rfl) ?_
      refine SafeOps.quiet0 E_good rfl rfl rfl (v := V.ref [56, 0] 0 (rws (fun n => [V.int .u8 n]) x_5492).length) (.fn rfl) ?_
      refine SafeOps.quiet0 E_good rfl rfl rfl (v := V.int .i64 x_5493) (.fn rfl) ?_
      refine SafeOps.nil ?_
      repeat (first | refine Safe.seq ?_ | refine Safe.skip ?_ | with_reducible refine thenQ.n ?_ | with_reducible refine blockQ.n ?_)
      refine Safe.region ?_
      refine SafeOps.quiet0 E_good rfl rfl rfl (v := V.int .i64 x_5493) (.fn rfl) ?_
      refine SafeOps.quiet0 E_good rfl rfl rfl (v := V.bool (x_5493 != 0)) (.fn rfl) ?_
      refine SafeOps.nil ?_
      repeat (first | refine Safe.seq ?_ | refine Safe.skip ?_ | with_reducible refine thenQ.n ?_ | with_reducible refine blockQ.n ?_)
      refine ifG h (fun hc5501 h => ?_) (fun hc5501 h => ?_)
      · skip
        refine Safe.condK rfl hc5501 ?_
        repeat (first | refine Safe.seq ?_ | refine Safe.skip ?_ | with_reducible refine thenQ.n ?_ | with_reducible refine blockQ.n ?_)
        refine Safe.region ?_
        refine SafeOps.quiet0 E_good rfl rfl rfl (v := V.bool x_5472) (.fn rfl) ?_
        refine SafeOps.quiet0 E_good rfl rfl rfl (v := V.bool x_5472) (.fn rfl) ?_
        refine SafeOps.bjoin 3 65 (b := (x_5472 && (x_5493 == 1))) (b1 := (x_5493 == 1)) (b0 := false) (fun hc5502 K => ?_) (fun hc5502 K => ?_) bj_and ?_
        · skip
          refine SafeOps.quiet0 E_good (congrArg some hc5502) rfl rfl (v := V.int .i64 x_5493) (.fn rfl) ?_
          refine SafeOps.quiet0 E_good (congrArg some hc5502) rfl rfl (v := V.bool (x_5493 == 1)) (.fn rfl) ?_
          refine SafeOps.quiet0 E_good rfl rfl rfl (v := V.bool (x_5493 == 1)) (.pickK rfl hc5502 rfl) ?_
          exact SafeOps.drop' 3 rfl rfl rfl K
        · skip
          refine SafeOps.skip (congrArg some hc5502) rfl rfl ?_
          refine SafeOps.skip (congrArg some hc5502) rfl rfl ?_
          refine SafeOps.quiet0 E_good rfl rfl rfl (v := V.bool false) (.pickK rfl hc5502 rfl) ?_
          exact SafeOps.drop' 3 rfl rfl rfl K
        refine SafeOps.quiet0 E_good rfl rfl rfl (v := V.bool (x_5472 && (x_5493 == 1))) (.fn rfl) ?_
        refine ifG h (fun hc5503 h => ?_) (fun hc5503 h => ?_)
        · skip
          refine SafeOps.quiet0 E_good (congrArg some hc5503) rfl rfl (v := V.sl 1 (rws (fun l => [V.sl 3 (rws api_Instr.cells l)]) a0_5401)) (.fn rfl) ?_
          refine bindG h ?_
          intro x_5506 he5507 h
          refine SafeOps.quiet0 E_good (congrArg some hc5503) rfl rfl (v := V.int .i64 x_5506) (.callP rfl rfl (go_code_CheckAll_sc a0_5401 _ he5507) rfl) ?_
          refine SafeOps.quiet0 E_good (congrArg some hc5503) rfl rfl (v := V.bool (x_5506 == 1)) (.fn rfl) ?_
          refine SafeOps.quiet0 E_good rfl rfl rfl (v := V.bool (x_5506 == 1)) (.pickK rfl hc5503 rfl) ?_
          refine SafeOps.quiet0 E_good rfl rfl rfl (v := V.bool (x_5506 == 1)) (.fn rfl) ?_
          refine SafeOps.nil ?_
          repeat (first | refine Safe.seq ?_ | refine Safe.skip ?_ | with_reducible refine thenQ.n ?_ | with_reducible refine blockQ.n ?_)
          refine Safe.ret ?_
          repeat (first | with_reducible refine thenQ.r ?_ | with_reducible refine blockQ.r ?_)
          obtain rfl := Option.some.inj h
          exact retQ.gen (vs := [V.bool (x_5506 == 1)]) rfl (.tmp (v := V.bool (x_5506 == 1)) rfl .nil) (.free rfl) (by simp) (.inr rfl)
        · skip
          refine SafeOps.skip (congrArg some hc5503) rfl rfl ?_
          refine SafeOps.skip (congrArg some hc5503) rfl rfl ?_
          refine SafeOps.skip (congrArg some hc5503) rfl rfl ?_
          refine SafeOps.quiet0 E_good rfl rfl rfl (v := V.bool false) (.pickK rfl hc5503 rfl) ?_
          refine SafeOps.quiet0 E_good rfl rfl rfl (v := V.bool false) (.fn rfl) ?_
          refine SafeOps.nil ?_
          repeat (first | refine Safe.seq ?_ | refine Safe.skip ?_ | with_reducible refine thenQ.n ?_ | with_reducible refine blockQ.n ?_)
          refine Safe.ret ?_
          repeat (first | with_reducible refine thenQ.r ?_ | with_reducible refine blockQ.r ?_)
          obtain rfl := Option.some.inj h
          exact retQ.gen (vs := [V.bool false]) rfl (.tmp (v := V.bool false) rfl .nil) (.free rfl) (by simp) (.inr rfl)
      · skip
        refine Safe.condN rfl hc5501 ?_
        repeat (first | refine Safe.seq ?_ | refine Safe.skip ?_ | with_reducible refine thenQ.n ?_ | with_reducible refine blockQ.n ?_)
        refine Safe.region ?_
        refine SafeOps.quiet0 E_good rfl rfl rfl (v := V.ref [56, 0] 0 (rws (fun n => [V.int .u8 n]) x_5492).length) (.fn rfl) ?_
        refine SafeOps.freeze [56, 0] rfl ?_
        refine SafeOps.see 72 (u := V.sl 1 (rws (fun n => [V.int .u8 n]) x_5492)) rfl (.full rfl rfl) ?_
        refine bindG h ?_
        rintro ⟨x_5508, x_5509⟩ he5510 h
        refine SafeOps.quiet E_good rfl rfl rfl (v := V.tup [V.ref [73, 0] 0 (rws (fun l => [V.sl 3 (rws api_Instr.cells l)]) x_5508).length, V.int .i64 x_5509]) (.callP rfl rfl (go_code_Read_sc x_5492 _ he5510) rfl) rfl ?_
        refine SafeOps.quiet0 E_good rfl rfl rfl (v := V.tup [V.ref [73, 0] 0 (rws (fun l => [V.sl 3 (rws api_Instr.cells l)]) x_5508).length, V.int .i64 x_5509]) (.fn rfl) ?_
        refine SafeOps.quiet0 E_good rfl rfl rfl (v := V.ref [73, 0] 0 (rws (fun l => [V.sl 3 (rws api_Instr.cells l)]) x_5508).length) (.fn rfl) ?_
        refine SafeOps.quiet0 E_good rfl rfl rfl (v := V.int .i64 x_5509) (.fn rfl) ?_
        refine SafeOps.quiet0 E_good rfl rfl rfl (v := V.ref [73, 0] 0 (rws (fun l => [V.sl 3 (rws api_Instr.cells l)]) x_5508).length) (.fn rfl) ?_
        refine SafeOps.quiet0 E_good rfl rfl rfl (v := V.int .i64 x_5509) (.fn rfl) ?_
        refine SafeOps.nil ?_
        repeat (first | refine Safe.seq ?_ | refine Safe.skip ?_ | with_reducible refine thenQ.n ?_ | with_reducible refine blockQ.n ?_)
        refine Safe.region ?_
        refine SafeOps.quiet0 E_good rfl rfl rfl (v := V.ref [56, 0] 0 (rws (fun n => [V.int .u8 n]) x_5492).length) (.fn rfl) ?_
        refine SafeOps.quiet0 E_good rfl rfl rfl (v := V.ref [56, 0] 0 (rws (fun n => [V.int .u8 n]) x_5492).length) (.fn rfl) ?_
        refine SafeOps.quiet0 E_good rfl rfl rfl (v := V.int .i64 (x_5492.length : Int)) (.fnE rfl lenE) ?_
        refine SafeOps.quiet0 E_good rfl rfl rfl (v := V.int .i64 (IntKind.i64.wrap ((x_5492.length : Int) - 1))) (.fn rfl) ?_
        refine SafeOps.quiet0 E_good rfl rfl rfl (v := V.int .i64 (if 0 > (IntKind.i64.wrap ((x_5492.length : Int) - 1)) then 0 else IntKind.i64.wrap ((x_5492.length : Int) - 1))) (.fn rfl) ?_
        refine SafeOps.see 77 (u := V.sl 1 (rws (fun n => [V.int .u8 n]) x_5492)) rfl (.full rfl rfl) ?_
        refine okG h (fun hb5511 h => ?_)
        refine SafeOps.quiet0 E_good rfl rfl rfl (v := V.sl 1 (rws (fun n => [V.int .u8 n]) (sub x_5492 0 (if 0 > (IntKind.i64.wrap ((x_5492.length : Int) - 1)) then 0 else IntKind.i64.wrap ((x_5492.length : Int) - 1))))) (.slH (f := (fun n => [V.int .u8 n])) rfl rfl rfl rfl rfl hb5511) ?_
        refine bindG h ?_
        rintro ⟨x_5512, x_5513⟩ he5514 h
        refine SafeOps.quiet E_good rfl rfl rfl (v := V.tup [V.ref [83, 0] 0 (rws (fun l => [V.sl 3 (rws api_Instr.cells l)]) x_5512).length, V.int .i64 x_5513]) (.callP rfl rfl (go_code_Read_sc (sub x_5492 0 (if 0 > (IntKind.i64.wrap ((x_5492.length : Int) - 1)) then 0 else IntKind.i64.wrap ((x_5492.length : Int) - 1))) _ he5514) rfl) rfl ?_
        refine SafeOps.quiet0 E_good rfl rfl rfl (v := V.tup [V.ref [83, 0] 0 (rws (fun l => [V.sl 3 (rws api_Instr.cells l)]) x_5512).length, V.int .i64 x_5513]) (.fn rfl) ?_
        refine SafeOps.quiet0 E_good rfl rfl rfl (v := V.ref [83, 0] 0 (rws (fun l => [V.sl 3 (rws api_Instr.cells l)]) x_5512).length) (.fn rfl) ?_
        refine SafeOps.quiet0 E_good rfl rfl rfl (v := V.int .i64 x_5513) (.fn rfl) ?_
        refine SafeOps.quiet0 E_good rfl rfl rfl (v := V.ref [83, 0] 0 (rws (fun l => [V.sl 3 (rws api_Instr.cells l)]) x_5512).length) (.fn rfl) ?_
        refine SafeOps.quiet0 E_good rfl rfl rfl (v := V.int .i64 x_5513) (.fn rfl) ?_
        refine SafeOps.nil ?_
        repeat (first | refine Safe.seq ?_ | refine Safe.skip ?_ | with_reducible refine thenQ.n ?_ | with_reducible refine blockQ.n ?_)
        refine Safe.region ?_
        refine SafeOps.quiet0 E_good rfl rfl rfl (v := V.ref [56, 0] 0 (rws (fun n => [V.int .u8 n]) x_5492).length) (.fn rfl) ?_
        refine okG h (fun hb5515 h => ?_)
        refine SafeOps.appendM (fun n => [V.int .u8 n]) (xs := []) (ys := x_5492) E_good rfl rfl rfl rfl rfl rfl rfl rfl rfl .nils (.own rfl) (fun _ => rfl) hb5515 ?_
        refine SafeOps.quiet1 E_good rfl rfl rfl (.litM (f := (fun n => [V.int .u8 n])) (xs := [0]) rfl rfl (by decide) rfl rfl rfl rfl rfl) rfl ?_
        refine okG h (fun hb5516 h => ?_)
        refine SafeOps.appendM (fun n => [V.int .u8 n]) (xs := [] ++ x_5492) (ys := [0]) E_good rfl rfl rfl rfl rfl rfl rfl rfl rfl (.own rfl) (.own rfl) (fun _ => rfl) hb5516 ?_
        refine SafeOps.freeze [90] rfl ?_
        refine SafeOps.see 90 (u := V.sl 1 (rws (fun n => [V.int .u8 n]) (([] ++ x_5492) ++ [0]))) rfl (.full rfl rfl) ?_
        refine bindG h ?_
        rintro ⟨x_5517, x_5518⟩ he5519 h
        refine SafeOps.quiet E_good rfl rfl rfl (v := V.tup [V.ref [91, 0] 0 (rws (fun l => [V.sl 3 (rws api_Instr.cells l)]) x_5517).length, V.int .i64 x_5518]) (.callP rfl rfl (go_code_Read_sc (([] ++ x_5492) ++ [0]) _ he5519) rfl) rfl ?_
        refine SafeOps.quiet0 E_good rfl rfl rfl (v := V.tup [V.ref [91, 0] 0 (rws (fun l => [V.sl 3 (rws api_Instr.cells l)]) x_5517).length, V.int .i64 x_5518]) (.fn rfl) ?_
        refine SafeOps.quiet0 E_good rfl rfl rfl (v := V.ref [91, 0] 0 (rws (fun l => [V.sl 3 (rws api_Instr.cells l)]) x_5517).length) (.fn rfl) ?_
        refine SafeOps.quiet0 E_good rfl rfl rfl (v := V.int .i64 x_5518) (.fn rfl) ?_
        refine SafeOps.quiet0 E_good rfl rfl rfl (v := V.ref [91, 0] 0 (rws (fun l => [V.sl 3 (rws api_Instr.cells l)]) x_5517).length) (.fn rfl) ?_
        refine SafeOps.quiet0 E_good rfl rfl rfl (v := V.int .i64 x_5518) (.fn rfl) ?_
        refine SafeOps.nil ?_
        repeat (first | refine Safe.seq ?_ | refine Safe.skip ?_ | with_reducible refine thenQ.n ?_ | with_reducible refine blockQ.n ?_)
        refine Safe.region ?_
        refine SafeOps.quiet0 E_good rfl rfl rfl (v := V.bool x_5472) (.fn rfl) ?_
        refine SafeOps.quiet0 E_good rfl rfl rfl (v := V.bool x_5472) (.fn rfl) ?_
        refine SafeOps.bjoin 3 98 (b := (x_5472 && (x_5509 == 0))) (b1 := (x_5509 == 0)) (b0 := false) (fun hc5520 K => ?_) (fun hc5520 K => ?_) bj_and ?_
        · skip
          refine SafeOps.quiet0 E_good (congrArg some hc5520) rfl rfl (v := V.int .i64 x_5509) (.fn rfl) ?_
          refine SafeOps.quiet0 E_good (congrArg some hc5520) rfl rfl (v := V.bool (x_5509 == 0)) (.fn rfl) ?_
          refine SafeOps.quiet0 E_good rfl rfl rfl (v := V.bool (x_5509 == 0)) (.pickK rfl hc5520 rfl) ?_
          exact SafeOps.drop' 3 rfl rfl rfl K
        · skip
          refine SafeOps.skip (congrArg some hc5520) rfl rfl ?_
          refine SafeOps.skip (congrArg some hc5520) rfl rfl ?_
          refine SafeOps.quiet0 E_good rfl rfl rfl (v := V.bool false) (.pickK rfl hc5520 rfl) ?_
          exact SafeOps.drop' 3 rfl rfl rfl K
        refine SafeOps.quiet0 E_good rfl rfl rfl (v := V.bool (x_5472 && (x_5509 == 0))) (.fn rfl) ?_
        refine SafeOps.bsplit 4 103 (fun b_5524 => go_ravellaw04_CodeBack_j2 x_5513 x_5518 b_5524 = some r) (fun HJ5525 => ?_) (fun b_5524 h => ?_)
        · refine ifG h (fun hc5521 h => ?_) (fun hc5521 h => ?_)
          · skip
            refine SafeOps.quiet0 E_good (congrArg some hc5521) rfl rfl (v := V.ref [73, 0] 0 (rws (fun l => [V.sl 3 (rws api_Instr.cells l)]) x_5508).length) (.fn rfl) ?_
            refine SafeOps.quiet0 E_good (congrArg some hc5521) rfl rfl (v := V.sl 1 (rws (fun l => [V.sl 3 (rws api_Instr.cells l)]) a0_5401)) (.fn rfl) ?_
            refine bindG h ?_
            intro x_5528 he5529 h
            refine SafeOps.quiet0 E_good (congrArg some hc5521) rfl rfl (v := V.bool x_5528) (.callS rfl (.cons (.full rfl rfl) (.cons (.free rfl) .nil)) (go_code_Same_sc x_5508 a0_5401 _ he5529) (.plain rfl) rfl) ?_
            refine SafeOps.quiet0 E_good rfl rfl rfl (v := V.bool x_5528) (.pickK rfl hc5521 rfl) ?_
            exact SafeOps.drop' 4 rfl rfl rfl (HJ5525 _ h)
          · skip
            refine SafeOps.skip (congrArg some hc5521) rfl rfl ?_
            refine SafeOps.skip (congrArg some hc5521) rfl rfl ?_
            refine SafeOps.skip (congrArg some hc5521) rfl rfl ?_
            refine SafeOps.quiet0 E_good rfl rfl rfl (v := V.bool false) (.pickK rfl hc5521 rfl) ?_
            exact SafeOps.drop' 4 rfl rfl rfl (HJ5525 _ h)
        · replace h : go_ravellaw04_CodeBack_j2 x_5513 x_5518 b_5524 = some r := h
          rw [go_ravellaw04_CodeBack_j2] at h
          refine SafeOps.quiet0 E_good rfl rfl rfl (v := V.bool b_5524) (.fn rfl) ?_
          refine SafeOps.bjoin 3 107 (b := (b_5524 && (x_5513 == 2))) (b1 := (x_5513 == 2)) (b0 := false) (fun hc5526 K => ?_) (fun hc5526 K => ?_) bj_and ?_
          · skip
            refine SafeOps.quiet0 E_good (congrArg some hc5526) rfl rfl (v := V.int .i64 x_5513) (.fn rfl) ?_
            refine SafeOps.quiet0 E_good (congrArg some hc5526) rfl rfl (v := V.bool (x_5513 == 2)) (.fn rfl) ?_
            refine SafeOps.quiet0 E_good rfl rfl rfl (v := V.bool (x_5513 == 2)) (.pickK rfl hc5526 rfl) ?_
            exact SafeOps.drop' 3 rfl rfl rfl K
          · skip
            refine SafeOps.skip (congrArg some hc5526) rfl rfl ?_
            refine SafeOps.skip (congrArg some hc5526) rfl rfl ?_
            refine SafeOps.quiet0 E_good rfl rfl rfl (v := V.bool false) (.pickK rfl hc5526 rfl) ?_
            exact SafeOps.drop' 3 rfl rfl rfl K
          refine SafeOps.quiet0 E_good rfl rfl rfl (v := V.bool (b_5524 && (x_5513 == 2))) (.fn rfl) ?_
          refine SafeOps.bjoin 3 111 (b := ((b_5524 && (x_5513 == 2)) && (x_5518 == 2))) (b1 := (x_5518 == 2)) (b0 := false) (fun hc5527 K => ?_) (fun hc5527 K => ?_) bj_and ?_
          · skip
            refine SafeOps.quiet0 E_good (congrArg some hc5527) rfl rfl (v := V.int .i64 x_5518) (.fn rfl) ?_
            refine SafeOps.quiet0 E_good (congrArg some hc5527) rfl rfl (v := V.bool (x_5518 == 2)) (.fn rfl) ?_
            refine SafeOps.quiet0 E_good rfl rfl rfl (v := V.bool (x_5518 == 2)) (.pickK rfl hc5527 rfl) ?_
            exact SafeOps.drop' 3 rfl rfl rfl K
          · skip
            refine SafeOps.skip (congrArg some hc5527) rfl rfl ?_
            refine SafeOps.skip (congrArg some hc5527) rfl rfl ?_
            refine SafeOps.quiet0 E_good rfl rfl rfl (v := V.bool false) (.pickK rfl hc5527 rfl) ?_
            exact SafeOps.drop' 3 rfl rfl rfl K
          refine SafeOps.quiet0 E_good rfl rfl rfl (v := V.bool ((b_5524 && (x_5513 == 2)) && (x_5518 == 2))) (.fn rfl) ?_
          refine SafeOps.nil ?_
          repeat (first | refine Safe.seq ?_ | refine Safe.skip ?_ | with_reducible refine thenQ.n ?_ | with_reducible refine blockQ.n ?_)
          refine Safe.ret ?_
          repeat (first | with_reducible refine thenQ.r ?_ | with_reducible refine blockQ.r ?_)
          obtain rfl := Option.some.inj h
          exact retQ.gen (vs := [V.bool ((b_5524 && (x_5513 == 2)) && (x_5518 == 2))]) rfl (.tmp (v := V.bool ((b_5524 && (x_5513 == 2)) && (x_5518 == 2))) rfl .nil) (.free rfl) (by simp) (.inr rfl)
    · skip
      refine ifG h (fun hc5530 h => ?_) (fun hc5530 h => ?_)
      · skip
        refine Safe.condK rfl hc5530 ?_
        repeat (first | refine Safe.seq ?_ | refine Safe.skip ?_ | with_reducible refine thenQ.n ?_ | with_reducible refine blockQ.n ?_)
        refine Safe.region ?_
        refine SafeOps.quiet0 E_good rfl rfl rfl (v := V.ref [30, 0] 0 (rws (fun l => [V.sl 3 (rws api_Instr.cells l)]) x_5478).length) (.fn rfl) ?_
        refine bindG h ?_
        rintro ⟨x_5531, x_5532⟩ he5533 h
        refine SafeOps.quiet E_good rfl rfl rfl (v := V.tup [V.ref [37, 0] 0 (rws (fun n => [V.int .u8 n]) x_5531).length, V.int .i64 x_5532]) (.callS rfl (.cons (.full rfl rfl) .nil) (go_code_Write_sc x_5478 _ he5533) (.tupL (.cons (.ownM (fun _ => rfl)) (.cons (.plain rfl) .nil))) rfl) rfl ?_
        refine SafeOps.quiet0 E_good rfl rfl rfl (v := V.tup [V.ref [37, 0] 0 (rws (fun n => [V.int .u8 n]) x_5531).length, V.int .i64 x_5532]) (.fn rfl) ?_
        refine SafeOps.quiet0 E_good rfl rfl rfl (v := V.ref [37, 0] 0 (rws (fun n => [V.int .u8 n]) x_5531).length) (.fn rfl) ?_
        refine SafeOps.quiet0 E_good rfl rfl rfl (v := V.int .i64 x_5532) (.fn rfl) ?_
        refine SafeOps.quiet0 E_good rfl rfl rfl (v := V.ref [37, 0] 0 (rws (fun n => [V.int .u8 n]) x_5531).length) (.fn rfl) ?_
        refine SafeOps.quiet0 E_good rfl rfl rfl (v := V.int .i64 x_5532) (.fn rfl) ?_
        refine SafeOps.nil ?_
        repeat (first | refine Safe.seq ?_ | refine Safe.skip ?_ | with_reducible refine thenQ.n ?_ | with_reducible refine blockQ.n ?_)
        refine Safe.region ?_
        refine SafeOps.quiet0 E_good rfl rfl rfl (v := V.int .i64 x_5532) (.fn rfl) ?_
        refine SafeOps.quiet0 E_good rfl rfl rfl (v := V.bool (x_5532 != 0)) (.fn rfl) ?_
        refine SafeOps.quiet0 E_good rfl rfl rfl (v := V.bool (x_5532 != 0)) (.fn rfl) ?_
        refine SafeOps.bjoin 6 48 (b := ((x_5532 != 0) || (!((strOfNums x_5531).toList == (strOfNums a1_5402).toList)))) (b1 := true) (b0 := (!((strOfNums x_5531).toList == (strOfNums a1_5402).toList))) (fun hc5534 K => ?_) (fun hc5534 K => ?_) bj_or ?_
        · skip
          refine SafeOps.skip (congrArg (fun b => some (!b)) hc5534) rfl rfl ?_
          refine SafeOps.skip (congrArg (fun b => some (!b)) hc5534) rfl rfl ?_
          refine SafeOps.skip (congrArg (fun b => some (!b)) hc5534) rfl rfl ?_
          refine SafeOps.skip (congrArg (fun b => some (!b)) hc5534) rfl rfl ?_
          refine SafeOps.skip (congrArg (fun b => some (!b)) hc5534) rfl rfl ?_
          refine SafeOps.quiet0 E_good rfl rfl rfl (v := V.bool true) (.pickK rfl hc5534 rfl) ?_
          exact SafeOps.drop' 6 rfl rfl rfl K
        · skip
          refine SafeOps.quiet0 E_good (congrArg (fun b => some (!b)) hc5534) rfl rfl (v := V.ref [37, 0] 0 (rws (fun n => [V.int .u8 n]) x_5531).length) (.fn rfl) ?_
          refine SafeOps.quiet0 E_good (congrArg (fun b => some (!b)) hc5534) rfl rfl (v := V.str (strOfNums x_5531)) (.convB (ns := x_5531) rfl rfl rfl rfl (.full rfl rfl)) ?_
          refine SafeOps.quiet0 E_good (congrArg (fun b => some (!b)) hc5534) rfl rfl (v := V.sl 1 (rws (fun n => [V.int .u8 n]) a1_5402)) (.fn rfl) ?_
          refine SafeOps.quiet0 E_good (congrArg (fun b => some (!b)) hc5534) rfl rfl (v := V.str (strOfNums a1_5402)) (.convB (ns := a1_5402) rfl rfl rfl rfl (.free rfl)) ?_
          refine SafeOps.quiet0 E_good (congrArg (fun b => some (!b)) hc5534) rfl rfl (v := V.bool (!((strOfNums x_5531).toList == (strOfNums a1_5402).toList))) (.fn rfl) ?_
          refine SafeOps.quiet0 E_good rfl rfl rfl (v := V.bool (!((strOfNums x_5531).toList == (strOfNums a1_5402).toList))) (.pickK rfl hc5534 rfl) ?_
          exact SafeOps.drop' 6 rfl rfl rfl K
        refine SafeOps.quiet0 E_good rfl rfl rfl (v := V.bool ((x_5532 != 0) || (!((strOfNums x_5531).toList == (strOfNums a1_5402).toList)))) (.fn rfl) ?_
        refine ifG h (fun hc5535 h => ?_) (fun hc5535 h => ?_)
        · skip
          refine SafeOps.skip (congrArg (fun b => some (!b)) hc5535) rfl rfl ?_
          refine SafeOps.skip (congrArg (fun b => some (!b)) hc5535) rfl rfl ?_
          refine SafeOps.skip (congrArg (fun b => some (!b)) hc5535) rfl rfl ?_
          refine SafeOps.quiet0 E_good rfl rfl rfl (v := V.bool true) (.pickK rfl hc5535 rfl) ?_
          refine SafeOps.nil ?_
          repeat (first | refine Safe.seq ?_ | refine Safe.skip ?_ | with_reducible refine thenQ.n ?_ | with_reducible refine blockQ.n ?_)
          refine Safe.condK rfl rfl ?_
          repeat (first | refine Safe.seq ?_ | refine Safe.skip ?_ | with_reducible refine thenQ.n ?_ | with_reducible refine blockQ.n ?_)
          refine Safe.region ?_
          refine SafeOps.quiet0 E_good rfl rfl rfl (v := V.bool false) (.fn rfl) ?_
          refine SafeOps.nil ?_
          repeat (first | refine Safe.seq ?_ | refine Safe.skip ?_ | with_reducible refine thenQ.n ?_ | with_reducible refine blockQ.n ?_)
          refine Safe.ret ?_
          repeat (first | with_reducible refine thenQ.r ?_ | with_reducible refine blockQ.r ?_)
          obtain rfl := Option.some.inj h
          exact retQ.gen (vs := [V.bool false]) rfl (.tmp (v := V.bool false) rfl .nil) (.free rfl) (by simp) (.inr rfl)
        · skip
          refine SafeOps.quiet0 E_good (congrArg (fun b => some (!b)) hc5535) rfl rfl (v := V.ref [30, 0] 0 (rws (fun l => [V.sl 3 (rws api_Instr.cells l)]) x_5478).length) (.fn rfl) ?_
          refine bindG h ?_
          intro x_5538 he5539 h
          refine SafeOps.quiet0 E_good (congrArg (fun b => some (!b)) hc5535) rfl rfl (v := V.int .i64 x_5538) (.callS rfl (.cons (.full rfl rfl) .nil) (go_code_CheckAll_sc x_5478 _ he5539) (.plain rfl) rfl) ?_
          refine SafeOps.quiet0 E_good (congrArg (fun b => some (!b)) hc5535) rfl rfl (v := V.bool (x_5538 != 0)) (.fn rfl) ?_
          refine SafeOps.quiet0 E_good rfl rfl rfl (v := V.bool (x_5538 != 0)) (.pickK rfl hc5535 rfl) ?_
          refine SafeOps.nil ?_
          repeat (first | refine Safe.seq ?_ | refine Safe.skip ?_ | with_reducible refine thenQ.n ?_ | with_reducible refine blockQ.n ?_)
          refine ifG h (fun hc5540 h => ?_) (fun hc5540 h => ?_)
          · skip
            refine Safe.condK rfl hc5540 ?_
            repeat (first | refine Safe.seq ?_ | refine Safe.skip ?_ | with_reducible refine thenQ.n ?_ | with_reducible refine blockQ.n ?_)
            refine Safe.region ?_
            refine SafeOps.quiet0 E_good rfl rfl rfl (v := V.bool false) (.fn rfl) ?_
            refine SafeOps.nil ?_
            repeat (first | refine Safe.seq ?_ | refine Safe.skip ?_ | with_reducible refine thenQ.n ?_ | with_reducible refine blockQ.n ?_)
            refine Safe.ret ?_
            repeat (first | with_reducible refine thenQ.r ?_ | with_reducible refine blockQ.r ?_)
            obtain rfl := Option.some.inj h
            exact retQ.gen (vs := [V.bool false]) rfl (.tmp (v := V.bool false) rfl .nil) (.free rfl) (by simp) (.inr rfl)
          · skip
            refine Safe.condN rfl hc5540 ?_
            repeat (first | refine Safe.skip ?_ | with_reducible refine thenQ.n ?_ | with_reducible refine blockQ.n ?_)
            exact Safe.got (HJ5491 () h) (.cov ⟨rfl, rfl, (upT_cons (.refl _) (upT_cons (.refl _) upT_nil)), upOb_nil, upOut_nil, rfl⟩)
      · skip
        refine Safe.condN rfl hc5530 ?_
        repeat (first | refine Safe.skip ?_ | with_reducible refine thenQ.n ?_ | with_reducible refine blockQ.n ?_)
        exact Safe.got (HJ5491 () h) (.cov ⟨rfl, rfl, (upT_cons (.refl _) (upT_cons (.refl _) upT_nil)), upOb_nil, upOut_nil, rfl⟩)
end Go.Proofs.Ytdlpecjbafadkaa
