/- Helper lemmas for the claim's theorem: an abstract machine over the model, proved sound; no condition beyond each lemma's own. -/
import Derived.Test.YtdlpecjbafadkaaT2
set_option linter.unusedVariables false
set_option linter.unusedSimpArgs false
set_option linter.unnecessarySimpa false
set_option linter.unusedSectionVars false
namespace Go.Proofs.Ytdlpecjbafadkaa
open Go Go.AM
set_option maxRecDepth 100000
set_option maxHeartbeats 1000000
set_option linter.unusedVariables false
set_option linter.unusedSimpArgs false
variable {gl : List (Nat × List V)}
noncomputable def go_code_Read_s14 (v5_4587 : List Int) (v6_4588 : List (List api_Instr)) (v20_4589 : Int) : (Int × (List api_Instr)) → Option ((Int × (List api_Instr)) ⊕ (((List Int) × (List (List api_Instr)) × Int) ⊕ ((List (List api_Instr)) × Int)))
  | (v4_4644, v80_4645) =>
    if (decide (v4_4644 < ((sub (sub v5_4587 (1 : Int) (v5_4587.length : Int)) 0 (IntKind.i64.wrap (4 * (IntKind.i64.wrap (gt v5_4587 0))))).length : Int))) = true then
      if 0 ≤ v4_4644 ∧ v4_4644 ≤ ((sub (sub v5_4587 (1 : Int) (v5_4587.length : Int)) 0 (IntKind.i64.wrap (4 * (IntKind.i64.wrap (gt v5_4587 0))))).length : Int) then
        if 0 ≤ v4_4644 ∧ v4_4644 ≤ (IntKind.i64.wrap (v4_4644 + (if ((sub (sub (sub v5_4587 (1 : Int) (v5_4587.length : Int)) 0 (IntKind.i64.wrap (4 * (IntKind.i64.wrap (gt v5_4587 0))))) v4_4644 ((sub (sub v5_4587 (1 : Int) (v5_4587.length : Int)) 0 (IntKind.i64.wrap (4 * (IntKind.i64.wrap (gt v5_4587 0))))).length : Int)).length : Int) < (4 : Int) then ((sub (sub (sub v5_4587 (1 : Int) (v5_4587.length : Int)) 0 (IntKind.i64.wrap (4 * (IntKind.i64.wrap (gt v5_4587 0))))) v4_4644 ((sub (sub v5_4587 (1 : Int) (v5_4587.length : Int)) 0 (IntKind.i64.wrap (4 * (IntKind.i64.wrap (gt v5_4587 0))))).length : Int)).length : Int) else (4 : Int)))) ∧ (IntKind.i64.wrap (v4_4644 + (if ((sub (sub (sub v5_4587 (1 : Int) (v5_4587.length : Int)) 0 (IntKind.i64.wrap (4 * (IntKind.i64.wrap (gt v5_4587 0))))) v4_4644 ((sub (sub v5_4587 (1 : Int) (v5_4587.length : Int)) 0 (IntKind.i64.wrap (4 * (IntKind.i64.wrap (gt v5_4587 0))))).length : Int)).length : Int) < (4 : Int) then ((sub (sub (sub v5_4587 (1 : Int) (v5_4587.length : Int)) 0 (IntKind.i64.wrap (4 * (IntKind.i64.wrap (gt v5_4587 0))))) v4_4644 ((sub (sub v5_4587 (1 : Int) (v5_4587.length : Int)) 0 (IntKind.i64.wrap (4 * (IntKind.i64.wrap (gt v5_4587 0))))).length : Int)).length : Int) else (4 : Int)))) ≤ (IntKind.i64.wrap (v4_4644 + (if ((sub (sub (sub v5_4587 (1 : Int) (v5_4587.length : Int)) 0 (IntKind.i64.wrap (4 * (IntKind.i64.wrap (gt v5_4587 0))))) v4_4644 ((sub (sub v5_4587 (1 : Int) (v5_4587.length : Int)) 0 (IntKind.i64.wrap (4 * (IntKind.i64.wrap (gt v5_4587 0))))).length : Int)).length : Int) < (4 : Int) then ((sub (sub (sub v5_4587 (1 : Int) (v5_4587.length : Int)) 0 (IntKind.i64.wrap (4 * (IntKind.i64.wrap (gt v5_4587 0))))) v4_4644 ((sub (sub v5_4587 (1 : Int) (v5_4587.length : Int)) 0 (IntKind.i64.wrap (4 * (IntKind.i64.wrap (gt v5_4587 0))))).length : Int)).length : Int) else (4 : Int)))) ∧ (IntKind.i64.wrap (v4_4644 + (if ((sub (sub (sub v5_4587 (1 : Int) (v5_4587.length : Int)) 0 (IntKind.i64.wrap (4 * (IntKind.i64.wrap (gt v5_4587 0))))) v4_4644 ((sub (sub v5_4587 (1 : Int) (v5_4587.length : Int)) 0 (IntKind.i64.wrap (4 * (IntKind.i64.wrap (gt v5_4587 0))))).length : Int)).length : Int) < (4 : Int) then ((sub (sub (sub v5_4587 (1 : Int) (v5_4587.length : Int)) 0 (IntKind.i64.wrap (4 * (IntKind.i64.wrap (gt v5_4587 0))))) v4_4644 ((sub (sub v5_4587 (1 : Int) (v5_4587.length : Int)) 0 (IntKind.i64.wrap (4 * (IntKind.i64.wrap (gt v5_4587 0))))).length : Int)).length : Int) else (4 : Int)))) ≤ ((sub (sub v5_4587 (1 : Int) (v5_4587.length : Int)) 0 (IntKind.i64.wrap (4 * (IntKind.i64.wrap (gt v5_4587 0))))).length : Int) then
          if 0 ≤ (0 : Int) ∧ (0 : Int) < ((sub (sub (sub v5_4587 (1 : Int) (v5_4587.length : Int)) 0 (IntKind.i64.wrap (4 * (IntKind.i64.wrap (gt v5_4587 0))))) v4_4644 (IntKind.i64.wrap (v4_4644 + (if ((sub (sub (sub v5_4587 (1 : Int) (v5_4587.length : Int)) 0 (IntKind.i64.wrap (4 * (IntKind.i64.wrap (gt v5_4587 0))))) v4_4644 ((sub (sub v5_4587 (1 : Int) (v5_4587.length : Int)) 0 (IntKind.i64.wrap (4 * (IntKind.i64.wrap (gt v5_4587 0))))).length : Int)).length : Int) < (4 : Int) then ((sub (sub (sub v5_4587 (1 : Int) (v5_4587.length : Int)) 0 (IntKind.i64.wrap (4 * (IntKind.i64.wrap (gt v5_4587 0))))) v4_4644 ((sub (sub v5_4587 (1 : Int) (v5_4587.length : Int)) 0 (IntKind.i64.wrap (4 * (IntKind.i64.wrap (gt v5_4587 0))))).length : Int)).length : Int) else (4 : Int))))).length : Int) then
            if 0 ≤ (1 : Int) ∧ (1 : Int) < ((sub (sub (sub v5_4587 (1 : Int) (v5_4587.length : Int)) 0 (IntKind.i64.wrap (4 * (IntKind.i64.wrap (gt v5_4587 0))))) v4_4644 (IntKind.i64.wrap (v4_4644 + (if ((sub (sub (sub v5_4587 (1 : Int) (v5_4587.length : Int)) 0 (IntKind.i64.wrap (4 * (IntKind.i64.wrap (gt v5_4587 0))))) v4_4644 ((sub (sub v5_4587 (1 : Int) (v5_4587.length : Int)) 0 (IntKind.i64.wrap (4 * (IntKind.i64.wrap (gt v5_4587 0))))).length : Int)).length : Int) < (4 : Int) then ((sub (sub (sub v5_4587 (1 : Int) (v5_4587.length : Int)) 0 (IntKind.i64.wrap (4 * (IntKind.i64.wrap (gt v5_4587 0))))) v4_4644 ((sub (sub v5_4587 (1 : Int) (v5_4587.length : Int)) 0 (IntKind.i64.wrap (4 * (IntKind.i64.wrap (gt v5_4587 0))))).length : Int)).length : Int) else (4 : Int))))).length : Int) then
              if 0 ≤ (2 : Int) ∧ (2 : Int) < ((sub (sub (sub v5_4587 (1 : Int) (v5_4587.length : Int)) 0 (IntKind.i64.wrap (4 * (IntKind.i64.wrap (gt v5_4587 0))))) v4_4644 (IntKind.i64.wrap (v4_4644 + (if ((sub (sub (sub v5_4587 (1 : Int) (v5_4587.length : Int)) 0 (IntKind.i64.wrap (4 * (IntKind.i64.wrap (gt v5_4587 0))))) v4_4644 ((sub (sub v5_4587 (1 : Int) (v5_4587.length : Int)) 0 (IntKind.i64.wrap (4 * (IntKind.i64.wrap (gt v5_4587 0))))).length : Int)).length : Int) < (4 : Int) then ((sub (sub (sub v5_4587 (1 : Int) (v5_4587.length : Int)) 0 (IntKind.i64.wrap (4 * (IntKind.i64.wrap (gt v5_4587 0))))) v4_4644 ((sub (sub v5_4587 (1 : Int) (v5_4587.length : Int)) 0 (IntKind.i64.wrap (4 * (IntKind.i64.wrap (gt v5_4587 0))))).length : Int)).length : Int) else (4 : Int))))).length : Int) then
                if 0 ≤ (3 : Int) ∧ (3 : Int) < ((sub (sub (sub v5_4587 (1 : Int) (v5_4587.length : Int)) 0 (IntKind.i64.wrap (4 * (IntKind.i64.wrap (gt v5_4587 0))))) v4_4644 (IntKind.i64.wrap (v4_4644 + (if ((sub (sub (sub v5_4587 (1 : Int) (v5_4587.length : Int)) 0 (IntKind.i64.wrap (4 * (IntKind.i64.wrap (gt v5_4587 0))))) v4_4644 ((sub (sub v5_4587 (1 : Int) (v5_4587.length : Int)) 0 (IntKind.i64.wrap (4 * (IntKind.i64.wrap (gt v5_4587 0))))).length : Int)).length : Int) < (4 : Int) then ((sub (sub (sub v5_4587 (1 : Int) (v5_4587.length : Int)) 0 (IntKind.i64.wrap (4 * (IntKind.i64.wrap (gt v5_4587 0))))) v4_4644 ((sub (sub v5_4587 (1 : Int) (v5_4587.length : Int)) 0 (IntKind.i64.wrap (4 * (IntKind.i64.wrap (gt v5_4587 0))))).length : Int)).length : Int) else (4 : Int))))).length : Int) then
                  if few (v80_4645 ++ [(api_Instr.mk (IntKind.i64.wrap (gt (sub (sub (sub v5_4587 (1 : Int) (v5_4587.length : Int)) 0 (IntKind.i64.wrap (4 * (IntKind.i64.wrap (gt v5_4587 0))))) v4_4644 (IntKind.i64.wrap (v4_4644 + (if ((sub (sub (sub v5_4587 (1 : Int) (v5_4587.length : Int)) 0 (IntKind.i64.wrap (4 * (IntKind.i64.wrap (gt v5_4587 0))))) v4_4644 ((sub (sub v5_4587 (1 : Int) (v5_4587.length : Int)) 0 (IntKind.i64.wrap (4 * (IntKind.i64.wrap (gt v5_4587 0))))).length : Int)).length : Int) < (4 : Int) then ((sub (sub (sub v5_4587 (1 : Int) (v5_4587.length : Int)) 0 (IntKind.i64.wrap (4 * (IntKind.i64.wrap (gt v5_4587 0))))) v4_4644 ((sub (sub v5_4587 (1 : Int) (v5_4587.length : Int)) 0 (IntKind.i64.wrap (4 * (IntKind.i64.wrap (gt v5_4587 0))))).length : Int)).length : Int) else (4 : Int))))) 0)) (IntKind.i64.wrap (BitVec.ofInt IntKind.i64.bits (IntKind.i64.wrap ((IntKind.i64.wrap (gt (sub (sub (sub v5_4587 (1 : Int) (v5_4587.length : Int)) 0 (IntKind.i64.wrap (4 * (IntKind.i64.wrap (gt v5_4587 0))))) v4_4644 (IntKind.i64.wrap (v4_4644 + (if ((sub (sub (sub v5_4587 (1 : Int) (v5_4587.length : Int)) 0 (IntKind.i64.wrap (4 * (IntKind.i64.wrap (gt v5_4587 0))))) v4_4644 ((sub (sub v5_4587 (1 : Int) (v5_4587.length : Int)) 0 (IntKind.i64.wrap (4 * (IntKind.i64.wrap (gt v5_4587 0))))).length : Int)).length : Int) < (4 : Int) then ((sub (sub (sub v5_4587 (1 : Int) (v5_4587.length : Int)) 0 (IntKind.i64.wrap (4 * (IntKind.i64.wrap (gt v5_4587 0))))) v4_4644 ((sub (sub v5_4587 (1 : Int) (v5_4587.length : Int)) 0 (IntKind.i64.wrap (4 * (IntKind.i64.wrap (gt v5_4587 0))))).length : Int)).length : Int) else (4 : Int))))) 1)) * 2 ^ (min (Int.toNat 8) IntKind.i64.bits))) ||| BitVec.ofInt IntKind.i64.bits (IntKind.i64.wrap (gt (sub (sub (sub v5_4587 (1 : Int) (v5_4587.length : Int)) 0 (IntKind.i64.wrap (4 * (IntKind.i64.wrap (gt v5_4587 0))))) v4_4644 (IntKind.i64.wrap (v4_4644 + (if ((sub (sub (sub v5_4587 (1 : Int) (v5_4587.length : Int)) 0 (IntKind.i64.wrap (4 * (IntKind.i64.wrap (gt v5_4587 0))))) v4_4644 ((sub (sub v5_4587 (1 : Int) (v5_4587.length : Int)) 0 (IntKind.i64.wrap (4 * (IntKind.i64.wrap (gt v5_4587 0))))).length : Int)).length : Int) < (4 : Int) then ((sub (sub (sub v5_4587 (1 : Int) (v5_4587.length : Int)) 0 (IntKind.i64.wrap (4 * (IntKind.i64.wrap (gt v5_4587 0))))) v4_4644 ((sub (sub v5_4587 (1 : Int) (v5_4587.length : Int)) 0 (IntKind.i64.wrap (4 * (IntKind.i64.wrap (gt v5_4587 0))))).length : Int)).length : Int) else (4 : Int))))) 2))).toNat) (IntKind.i64.wrap (gt (sub (sub (sub v5_4587 (1 : Int) (v5_4587.length : Int)) 0 (IntKind.i64.wrap (4 * (IntKind.i64.wrap (gt v5_4587 0))))) v4_4644 (IntKind.i64.wrap (v4_4644 + (if ((sub (sub (sub v5_4587 (1 : Int) (v5_4587.length : Int)) 0 (IntKind.i64.wrap (4 * (IntKind.i64.wrap (gt v5_4587 0))))) v4_4644 ((sub (sub v5_4587 (1 : Int) (v5_4587.length : Int)) 0 (IntKind.i64.wrap (4 * (IntKind.i64.wrap (gt v5_4587 0))))).length : Int)).length : Int) < (4 : Int) then ((sub (sub (sub v5_4587 (1 : Int) (v5_4587.length : Int)) 0 (IntKind.i64.wrap (4 * (IntKind.i64.wrap (gt v5_4587 0))))) v4_4644 ((sub (sub v5_4587 (1 : Int) (v5_4587.length : Int)) 0 (IntKind.i64.wrap (4 * (IntKind.i64.wrap (gt v5_4587 0))))).length : Int)).length : Int) else (4 : Int))))) 3)))]).length then
                    nextO (IntKind.i64.wrap (v4_4644 + 4), v80_4645 ++ [(api_Instr.mk (IntKind.i64.wrap (gt (sub (sub (sub v5_4587 (1 : Int) (v5_4587.length : Int)) 0 (IntKind.i64.wrap (4 * (IntKind.i64.wrap (gt v5_4587 0))))) v4_4644 (IntKind.i64.wrap (v4_4644 + (if ((sub (sub (sub v5_4587 (1 : Int) (v5_4587.length : Int)) 0 (IntKind.i64.wrap (4 * (IntKind.i64.wrap (gt v5_4587 0))))) v4_4644 ((sub (sub v5_4587 (1 : Int) (v5_4587.length : Int)) 0 (IntKind.i64.wrap (4 * (IntKind.i64.wrap (gt v5_4587 0))))).length : Int)).length : Int) < (4 : Int) then ((sub (sub (sub v5_4587 (1 : Int) (v5_4587.length : Int)) 0 (IntKind.i64.wrap (4 * (IntKind.i64.wrap (gt v5_4587 0))))) v4_4644 ((sub (sub v5_4587 (1 : Int) (v5_4587.length : Int)) 0 (IntKind.i64.wrap (4 * (IntKind.i64.wrap (gt v5_4587 0))))).length : Int)).length : Int) else (4 : Int))))) 0)) (IntKind.i64.wrap (BitVec.ofInt IntKind.i64.bits (IntKind.i64.wrap ((IntKind.i64.wrap (gt (sub (sub (sub v5_4587 (1 : Int) (v5_4587.length : Int)) 0 (IntKind.i64.wrap (4 * (IntKind.i64.wrap (gt v5_4587 0))))) v4_4644 (IntKind.i64.wrap (v4_4644 + (if ((sub (sub (sub v5_4587 (1 : Int) (v5_4587.length : Int)) 0 (IntKind.i64.wrap (4 * (IntKind.i64.wrap (gt v5_4587 0))))) v4_4644 ((sub (sub v5_4587 (1 : Int) (v5_4587.length : Int)) 0 (IntKind.i64.wrap (4 * (IntKind.i64.wrap (gt v5_4587 0))))).length : Int)).length : Int) < (4 : Int) then ((sub (sub (sub v5_4587 (1 : Int) (v5_4587.length : Int)) 0 (IntKind.i64.wrap (4 * (IntKind.i64.wrap (gt v5_4587 0))))) v4_4644 ((sub (sub v5_4587 (1 : Int) (v5_4587.length : Int)) 0 (IntKind.i64.wrap (4 * (IntKind.i64.wrap (gt v5_4587 0))))).length : Int)).length : Int) else (4 : Int))))) 1)) * 2 ^ (min (Int.toNat 8) IntKind.i64.bits))) ||| BitVec.ofInt IntKind.i64.bits (IntKind.i64.wrap (gt (sub (sub (sub v5_4587 (1 : Int) (v5_4587.length : Int)) 0 (IntKind.i64.wrap (4 * (IntKind.i64.wrap (gt v5_4587 0))))) v4_4644 (IntKind.i64.wrap (v4_4644 + (if ((sub (sub (sub v5_4587 (1 : Int) (v5_4587.length : Int)) 0 (IntKind.i64.wrap (4 * (IntKind.i64.wrap (gt v5_4587 0))))) v4_4644 ((sub (sub v5_4587 (1 : Int) (v5_4587.length : Int)) 0 (IntKind.i64.wrap (4 * (IntKind.i64.wrap (gt v5_4587 0))))).length : Int)).length : Int) < (4 : Int) then ((sub (sub (sub v5_4587 (1 : Int) (v5_4587.length : Int)) 0 (IntKind.i64.wrap (4 * (IntKind.i64.wrap (gt v5_4587 0))))) v4_4644 ((sub (sub v5_4587 (1 : Int) (v5_4587.length : Int)) 0 (IntKind.i64.wrap (4 * (IntKind.i64.wrap (gt v5_4587 0))))).length : Int)).length : Int) else (4 : Int))))) 2))).toNat) (IntKind.i64.wrap (gt (sub (sub (sub v5_4587 (1 : Int) (v5_4587.length : Int)) 0 (IntKind.i64.wrap (4 * (IntKind.i64.wrap (gt v5_4587 0))))) v4_4644 (IntKind.i64.wrap (v4_4644 + (if ((sub (sub (sub v5_4587 (1 : Int) (v5_4587.length : Int)) 0 (IntKind.i64.wrap (4 * (IntKind.i64.wrap (gt v5_4587 0))))) v4_4644 ((sub (sub v5_4587 (1 : Int) (v5_4587.length : Int)) 0 (IntKind.i64.wrap (4 * (IntKind.i64.wrap (gt v5_4587 0))))).length : Int)).length : Int) < (4 : Int) then ((sub (sub (sub v5_4587 (1 : Int) (v5_4587.length : Int)) 0 (IntKind.i64.wrap (4 * (IntKind.i64.wrap (gt v5_4587 0))))) v4_4644 ((sub (sub v5_4587 (1 : Int) (v5_4587.length : Int)) 0 (IntKind.i64.wrap (4 * (IntKind.i64.wrap (gt v5_4587 0))))).length : Int)).length : Int) else (4 : Int))))) 3)))])
                  else none
                else none
              else none
            else none
          else none
        else none
      else none
    else
      inrO (
        if 0 ≤ (IntKind.i64.wrap (4 * (IntKind.i64.wrap (gt v5_4587 0)))) ∧ (IntKind.i64.wrap (4 * (IntKind.i64.wrap (gt v5_4587 0)))) ≤ ((sub v5_4587 (1 : Int) (v5_4587.length : Int)).length : Int) then
          if few (v6_4588 ++ [v80_4645]).length then
            nextO (sub (sub v5_4587 (1 : Int) (v5_4587.length : Int)) (IntKind.i64.wrap (4 * (IntKind.i64.wrap (gt v5_4587 0)))) ((sub v5_4587 (1 : Int) (v5_4587.length : Int)).length : Int), v6_4588 ++ [v80_4645], IntKind.i64.wrap (v20_4589 + 1))
          else none
        else none)

noncomputable def go_code_Read_s12 (a0_3816 : List Int) : ((List Int) × (List (List api_Instr)) × Int) → Option (((List Int) × (List (List api_Instr)) × Int) ⊕ ((List (List api_Instr)) × Int))
  | (v5_4587, v6_4588, v20_4589) =>
    if (decide (v20_4589 < (IntKind.i64.wrap (gt a0_3816 0)))) = true then
      if ((v5_4587.length : Int) == 0) = true then
        inrO (
          some ([], 2))
      else
        if 0 ≤ (0 : Int) ∧ (0 : Int) < (v5_4587.length : Int) then
          if 0 ≤ (1 : Int) ∧ (1 : Int) ≤ (v5_4587.length : Int) then
            if (decide ((IntKind.i64.wrap (4 * (IntKind.i64.wrap (gt v5_4587 0)))) > ((sub v5_4587 (1 : Int) (v5_4587.length : Int)).length : Int))) = true then
              inrO (
                some ([], 2))
            else
              if 0 ≤ (IntKind.i64.wrap (4 * (IntKind.i64.wrap (gt v5_4587 0)))) ∧ (IntKind.i64.wrap (4 * (IntKind.i64.wrap (gt v5_4587 0)))) ≤ ((sub v5_4587 (1 : Int) (v5_4587.length : Int)).length : Int) then
                whileO (go_code_Read_s14 v5_4587 v6_4588 v20_4589) (0, [])
              else none
          else none
        else none
    else
      inrO (
        if (decide ((v5_4587.length : Int) > 0)) = true then
          some ([], 2)
        else
          (go_code_CheckAll v6_4588).bind fun x_4660 =>
          if (x_4660 != 0) = true then
            some ([], 2)
          else
            some (v6_4588, 0))

noncomputable def go_code_Read (a0_3816 : List Int) : Option ((List (List api_Instr)) × Int) :=
  if ((a0_3816.length : Int) == 0) = true then
    some ([], 2)
  else
    if 0 ≤ (0 : Int) ∧ (0 : Int) < (a0_3816.length : Int) then
      if 0 ≤ (1 : Int) ∧ (1 : Int) ≤ (a0_3816.length : Int) then
        whileO (go_code_Read_s12 a0_3816) (sub a0_3816 (1 : Int) (a0_3816.length : Int), [], 0)
      else none
    else none

theorem go_code_Read_sc (a0_3816 : List Int) (r : (List (List api_Instr)) × Int) (h : go_code_Read a0_3816 = some r) : SC Try.prog gl 24 [V.sl 1 (rws (fun n => [V.int .u8 n]) a0_3816)] (V.tup [V.own 1 (rws (fun l => [V.sl 3 (rws api_Instr.cells l)]) r.1), V.int .i64 r.2]) := by
  rw [go_code_Read] at h
  refine SC.of E_good Try.func24 rfl (fun _ _ => Try.call24 _ _) rfl ?_
  repeat (first | refine Safe.seq ?_ | refine Safe.skip ?_ | with_reducible refine thenQ.n ?_ | with_reducible refine blockQ.n ?_)
  refine Safe.region ?_
  refine SafeOps.quiet0 E_good rfl rfl rfl (v := V.nils) (.fn rfl) ?_
  refine SafeOps.quiet0 E_good rfl rfl rfl (v := V.int .i64 0) (.fn rfl) ?_
  refine SafeOps.nil ?_
  repeat (first | refine Safe.seq ?_ | refine Safe.skip ?_ | with_reducible refine thenQ.n ?_ | with_reducible refine blockQ.n ?_)
  refine Safe.region ?_
  refine SafeOps.quiet0 E_good rfl rfl rfl (v := V.sl 1 (rws (fun n => [V.int .u8 n]) a0_3816)) (.fn rfl) ?_
  refine SafeOps.quiet0 E_good rfl rfl rfl (v := V.int .i64 (a0_3816.length : Int)) (.fnE rfl lenE) ?_
  refine SafeOps.quiet0 E_good rfl rfl rfl (v := V.bool ((a0_3816.length : Int) == 0)) (.fn rfl) ?_
  refine SafeOps.nil ?_
  repeat (first | refine Safe.seq ?_ | refine Safe.skip ?_ | with_reducible refine thenQ.n ?_ | with_reducible refine blockQ.n ?_)
  refine ifG h (fun hc4244 h => ?_) (fun hc4244 h => ?_)
  · skip
    refine Safe.condK rfl hc4244 ?_
    repeat (first | refine Safe.seq ?_ | refine Safe.skip ?_ | with_reducible refine thenQ.n ?_ | with_reducible refine blockQ.n ?_)
    refine Safe.region ?_
    refine SafeOps.quiet0 E_good rfl rfl rfl (v := V.nils) (.fn rfl) ?_
    refine SafeOps.quiet0 E_good rfl rfl rfl (v := V.int .i64 2) (.fn rfl) ?_
    refine SafeOps.nil ?_
    repeat (first | refine Safe.seq ?_ | refine Safe.skip ?_ | with_reducible refine thenQ.n ?_ | with_reducible refine blockQ.n ?_)
    refine Safe.ret ?_
    repeat (first | with_reducible refine thenQ.r ?_ | with_reducible refine blockQ.r ?_)
    obtain rfl := Option.some.inj h
    exact retQ.gen (vs := [V.nils, V.int .i64 2]) rfl (.tmp (v := V.nils) rfl (.tmp (v := V.int .i64 2) rfl .nil)) (by exact (.tup (.cons (.nils _) (.cons (.free rfl) .nil)))) (by simp) (.inr rfl)
  · skip
    refine Safe.condN rfl hc4244 ?_
    repeat (first | refine Safe.seq ?_ | refine Safe.skip ?_ | with_reducible refine thenQ.n ?_ | with_reducible refine blockQ.n ?_)
    refine Safe.regionD (n := 8) [] [] E_good mixed rfl ?_
    refine DAny.take (i := 0) rfl (by kernel_rfl) [] (by kernel_rfl) (by kernel_rfl) (by kernel_rfl) rfl rfl rfl (v := V.sl 1 (rws (fun n => [V.int .u8 n]) a0_3816)) (fun _ hz => (.fn rfl)) ?_
    refine okG h (fun hb4245 h => ?_)
    refine DAny.take (i := 1) rfl (by kernel_rfl) [] (by kernel_rfl) (by kernel_rfl) (by kernel_rfl) rfl rfl rfl (v := V.spt 1 (rws (fun n => [V.int .u8 n]) a0_3816) (Int.toNat 0) 0) (fun _ hz => (.idxSlM (f := (fun n => [V.int .u8 n])) rfl rfl rfl rfl rfl hb4245)) ?_
    refine DAny.take (i := 2) rfl (by kernel_rfl) [] (by kernel_rfl) (by kernel_rfl) (by kernel_rfl) rfl rfl rfl (v := V.int .u8 (gt a0_3816 0)) (fun _ hz => (.load rfl rfl (.sptM (f := (fun n => [V.int .u8 n])) hb4245 rfl) rfl)) ?_
    refine DAny.take (i := 3) rfl (by kernel_rfl) [] (by kernel_rfl) (by kernel_rfl) (by kernel_rfl) rfl rfl rfl (v := V.int .i64 (IntKind.i64.wrap (gt a0_3816 0))) (fun _ hz => (.fn rfl)) ?_
    refine DAny.take (i := 4) rfl (by kernel_rfl) [] (by kernel_rfl) (by kernel_rfl) (by kernel_rfl) rfl rfl rfl (v := V.sl 1 (rws (fun n => [V.int .u8 n]) a0_3816)) (fun _ hz => (.fn rfl)) ?_
    refine okG h (fun hb4246 h => ?_)
    refine DAny.take (i := 5) rfl (by kernel_rfl) [] (by kernel_rfl) (by kernel_rfl) (by kernel_rfl) rfl rfl rfl (v := V.sl 1 (rws (fun n => [V.int .u8 n]) (sub a0_3816 (1 : Int) (a0_3816.length : Int)))) (fun _ hz => (.slL (f := (fun n => [V.int .u8 n])) rfl rfl rfl rfl rfl hb4246)) ?_
    refine DAny.take (i := 6) rfl (by kernel_rfl) [] (by kernel_rfl) (by kernel_rfl) (by kernel_rfl) rfl rfl rfl (v := V.int .i64 (IntKind.i64.wrap (gt a0_3816 0))) (fun _ hz => (.fn rfl)) ?_
    refine DAny.take (i := 7) rfl (by kernel_rfl) [] (by kernel_rfl) (by kernel_rfl) (by kernel_rfl) rfl rfl rfl (v := V.sl 1 (rws (fun n => [V.int .u8 n]) (sub a0_3816 (1 : Int) (a0_3816.length : Int)))) (fun _ hz => (.fn rfl)) ?_
    refine DAny.nil (by kernel_rfl) ?_
    repeat (first | refine Safe.seq ?_ | refine Safe.skip ?_ | with_reducible refine thenQ.n ?_ | with_reducible refine blockQ.n ?_)
    refine Safe.region ?_
    refine SafeOps.quiet0 E_good rfl rfl rfl (v := V.nils) (.fn rfl) ?_
    refine SafeOps.nil ?_
    repeat (first | refine Safe.seq ?_ | refine Safe.skip ?_ | with_reducible refine thenQ.n ?_ | with_reducible refine blockQ.n ?_)
    refine Safe.region ?_
    refine SafeOps.quiet0 E_good rfl rfl rfl (v := V.int .i64 (IntKind.i64.wrap (gt a0_3816 0))) (.fn rfl) ?_
    refine SafeOps.quiet0 E_good rfl rfl rfl (v := V.int .i64 0) (.fn rfl) ?_
    refine SafeOps.nil ?_
    repeat (first | refine Safe.seq ?_ | refine Safe.skip ?_ | with_reducible refine thenQ.n ?_ | with_reducible refine blockQ.n ?_)
    refine Safe.block ?_
    repeat (first | refine Safe.seq ?_ | refine Safe.skip ?_ | with_reducible refine thenQ.n ?_ | with_reducible refine blockQ.n ?_)
    refine Safe.loopW (fun ((v5_4587, v6_4588, v20_4589) : (List Int) × (List (List api_Instr)) × Int) => ⟨Try.f24.ntmps, [(5, V.sl 1 (rws (fun n => [V.int .u8 n]) v5_4587)), (6, V.ref [7000, 118, 6] 0 (rws (fun l => [V.sl 3 (rws api_Instr.cells l)]) v6_4588).length), (19, V.int .i64 (IntKind.i64.wrap (gt a0_3816 0))), (20, V.int .i64 v20_4589)], [([7000, 118, 6], Obj.rows 1 (rws (fun l => [V.sl 3 (rws api_Instr.cells l)]) v6_4588) false)], [], []⟩) h (.empty [7000, 118, 6] 1 rfl (.cov ⟨rfl, rfl, (upT_cons (.refl _) (upT_cons (.nilref _) (upT_cons (.refl _) (upT_cons (.refl _) upT_nil)))), (upOb_cons rfl (.refl _) upOb_nil), upOut_nil, rfl⟩)) ?_
    rintro ⟨v5_4587, v6_4588, v20_4589⟩ ohr4590 h hr4590
    replace h : go_code_Read_s12 a0_3816 (v5_4587, v6_4588, v20_4589) = some ohr4590 := h
    rw [go_code_Read_s12] at h
    repeat (first | refine Safe.seq ?_ | refine Safe.skip ?_ | with_reducible refine thenQ.n ?_ | with_reducible refine blockQ.n ?_)
    refine Safe.region ?_
    refine SafeOps.quiet0 E_good rfl rfl rfl (v := V.bool (decide (v20_4589 < (IntKind.i64.wrap (gt a0_3816 0))))) (.fn rfl) ?_
    refine SafeOps.nil ?_
    repeat (first | refine Safe.seq ?_ | refine Safe.skip ?_ | with_reducible refine thenQ.n ?_ | with_reducible refine blockQ.n ?_)
    refine ifG h (fun hc4591 h => ?_) (fun hc4591 h => ?_)
    · skip
      refine Safe.condK rfl hc4591 ?_
      repeat (first | refine Safe.seq ?_ | refine Safe.skip ?_ | with_reducible refine thenQ.n ?_ | with_reducible refine blockQ.n ?_)
      refine Safe.block ?_
      repeat (first | refine Safe.seq ?_ | refine Safe.skip ?_ | with_reducible refine thenQ.n ?_ | with_reducible refine blockQ.n ?_)
      refine Safe.region ?_
      refine SafeOps.quiet0 E_good rfl rfl rfl (v := V.sl 1 (rws (fun n => [V.int .u8 n]) v5_4587)) (.fn rfl) ?_
      refine SafeOps.quiet0 E_good rfl rfl rfl (v := V.int .i64 (v5_4587.length : Int)) (.fnE rfl lenE) ?_
      refine SafeOps.quiet0 E_good rfl rfl rfl (v := V.bool ((v5_4587.length : Int) == 0)) (.fn rfl) ?_
      refine SafeOps.nil ?_
      repeat (first | refine Safe.seq ?_ | refine Safe.skip ?_ | with_reducible refine thenQ.n ?_ | with_reducible refine blockQ.n ?_)
      refine ifG h (fun hc4592 h => ?_) (fun hc4592 h => ?_)
      · skip
        refine Safe.condK rfl hc4592 ?_
        repeat (first | refine Safe.seq ?_ | refine Safe.skip ?_ | with_reducible refine thenQ.n ?_ | with_reducible refine blockQ.n ?_)
        refine Safe.region ?_
        refine SafeOps.quiet0 E_good rfl rfl rfl (v := V.nils) (.fn rfl) ?_
        refine SafeOps.quiet0 E_good rfl rfl rfl (v := V.int .i64 2) (.fn rfl) ?_
        refine SafeOps.nil ?_
        repeat (first | refine Safe.seq ?_ | refine Safe.skip ?_ | with_reducible refine thenQ.n ?_ | with_reducible refine blockQ.n ?_)
        refine Safe.ret ?_
        repeat (first | with_reducible refine thenQ.r ?_ | with_reducible refine blockQ.r ?_)
        replace h := inr_out h hr4590
        obtain rfl := Option.some.inj h
        exact retQ.gen (vs := [V.nils, V.int .i64 2]) rfl (.tmp (v := V.nils) rfl (.tmp (v := V.int .i64 2) rfl .nil)) (by exact (.tup (.cons (.nils _) (.cons (.free rfl) .nil)))) (by simp) (.inr rfl)
      · skip
        refine Safe.condN rfl hc4592 ?_
        repeat (first | refine Safe.seq ?_ | refine Safe.skip ?_ | with_reducible refine thenQ.n ?_ | with_reducible refine blockQ.n ?_)
        refine Safe.region ?_
        refine SafeOps.quiet0 E_good rfl rfl rfl (v := V.sl 1 (rws (fun n => [V.int .u8 n]) v5_4587)) (.fn rfl) ?_
        refine okG h (fun hb4593 h => ?_)
        refine SafeOps.quiet0 E_good rfl rfl rfl (v := V.spt 1 (rws (fun n => [V.int .u8 n]) v5_4587) (Int.toNat 0) 0) (.idxSlM (f := (fun n => [V.int .u8 n])) rfl rfl rfl rfl rfl hb4593) ?_
        refine SafeOps.quiet0 E_good rfl rfl rfl (v := V.int .u8 (gt v5_4587 0)) (.load rfl rfl (.sptM (f := (fun n => [V.int .u8 n])) hb4593 rfl) rfl) ?_
        refine SafeOps.quiet0 E_good rfl rfl rfl (v := V.int .i64 (IntKind.i64.wrap (gt v5_4587 0))) (.fn rfl) ?_
        refine SafeOps.quiet0 E_good rfl rfl rfl (v := V.int .i64 (IntKind.i64.wrap (4 * (IntKind.i64.wrap (gt v5_4587 0))))) (.fn rfl) ?_
        refine SafeOps.quiet0 E_good rfl rfl rfl (v := V.int .i64 (IntKind.i64.wrap (4 * (IntKind.i64.wrap (gt v5_4587 0))))) (.fn rfl) ?_
        refine SafeOps.nil ?_
        repeat (first | refine Safe.seq ?_ | refine Safe.skip ?_ | with_reducible refine thenQ.n ?_ | with_reducible refine blockQ.n ?_)
        refine Safe.region ?_
        refine SafeOps.quiet0 E_good rfl rfl rfl (v := V.sl 1 (rws (fun n => [V.int .u8 n]) v5_4587)) (.fn rfl) ?_
        refine okG h (fun hb4594 h => ?_)
        refine SafeOps.quiet0 E_good rfl rfl rfl (v := V.sl 1 (rws (fun n => [V.int .u8 n]) (sub v5_4587 (1 : Int) (v5_4587.length : Int)))) (.slL (f := (fun n => [V.int .u8 n])) rfl rfl rfl rfl rfl hb4594) ?_
        refine SafeOps.quiet0 E_good rfl rfl rfl (v := V.sl 1 (rws (fun n => [V.int .u8 n]) (sub v5_4587 (1 : Int) (v5_4587.length : Int)))) (.fn rfl) ?_
        refine SafeOps.nil ?_
        repeat (first | refine Safe.seq ?_ | refine Safe.skip ?_ | with_reducible refine thenQ.n ?_ | with_reducible refine blockQ.n ?_)
        refine Safe.region ?_
        refine SafeOps.quiet0 E_good rfl rfl rfl (v := V.int .i64 (IntKind.i64.wrap (4 * (IntKind.i64.wrap (gt v5_4587 0))))) (.fn rfl) ?_
        refine SafeOps.quiet0 E_good rfl rfl rfl (v := V.sl 1 (rws (fun n => [V.int .u8 n]) (sub v5_4587 (1 : Int) (v5_4587.length : Int)))) (.fn rfl) ?_
        refine SafeOps.quiet0 E_good rfl rfl rfl (v := V.int .i64 ((sub v5_4587 (1 : Int) (v5_4587.length : Int)).length : Int)) (.fnE rfl lenE) ?_
        refine SafeOps.quiet0 E_good rfl rfl rfl (v := V.bool (decide ((IntKind.i64.wrap (4 * (IntKind.i64.wrap (gt v5_4587 0)))) > ((sub v5_4587 (1 : Int) (v5_4587.length : Int)).length : Int)))) (.fn rfl) ?_
        refine SafeOps.nil ?_
        repeat (first | refine Safe.seq ?_ | refine Safe.skip ?_ | with_reducible refine thenQ.n ?_ | with_reducible refine blockQ.n ?_)
        refine ifG h (fun hc4595 h => ?_) (fun hc4595 h => ?_)
        · skip
          refine Safe.condK rfl hc4595 ?_
          repeat (first | refine Safe.seq ?_ | refine Safe.skip ?_ | with_reducible refine thenQ.n ?_ | with_reducible refine blockQ.n ?_)
          refine Safe.region ?_
          refine SafeOps.quiet0 E_good rfl rfl rfl (v := V.nils) (.fn rfl) ?_
          refine SafeOps.quiet0 E_good rfl rfl rfl (v := V.int .i64 2) (.fn rfl) ?_
          refine SafeOps.nil ?_
          repeat (first | refine Safe.seq ?_ | refine Safe.skip ?_ | with_reducible refine thenQ.n ?_ | with_reducible refine blockQ.n ?_)
          refine Safe.ret ?_
          repeat (first | with_reducible refine thenQ.r ?_ | with_reducible refine blockQ.r ?_)
          replace h := inr_out h hr4590
          obtain rfl := Option.some.inj h
          exact retQ.gen (vs := [V.nils, V.int .i64 2]) rfl (.tmp (v := V.nils) rfl (.tmp (v := V.int .i64 2) rfl .nil)) (by exact (.tup (.cons (.nils _) (.cons (.free rfl) .nil)))) (by simp) (.inr rfl)
        · skip
          refine Safe.condN rfl hc4595 ?_
          repeat (first | refine Safe.seq ?_ | refine Safe.skip ?_ | with_reducible refine thenQ.n ?_ | with_reducible refine blockQ.n ?_)
          refine Safe.region ?_
          refine SafeOps.quiet1 E_good rfl rfl rfl (.alloc rfl rfl) rfl ?_
          refine SafeOps.nil ?_
          repeat (first | refine Safe.seq ?_ | refine Safe.skip ?_ | with_reducible refine thenQ.n ?_ | with_reducible refine blockQ.n ?_)
          refine Safe.region ?_
          refine SafeOps.quiet0 E_good rfl rfl rfl (v := V.sl 1 (rws (fun n => [V.int .u8 n]) (sub v5_4587 (1 : Int) (v5_4587.length : Int)))) (.fn rfl) ?_
          refine SafeOps.quiet0 E_good rfl rfl rfl (v := V.int .i64 (IntKind.i64.wrap (4 * (IntKind.i64.wrap (gt v5_4587 0))))) (.fn rfl) ?_
          refine okG h (fun hb4596 h => ?_)
          refine SafeOps.quiet0 E_good rfl rfl rfl (v := V.sl 1 (rws (fun n => [V.int .u8 n]) (sub (sub v5_4587 (1 : Int) (v5_4587.length : Int)) 0 (IntKind.i64.wrap (4 * (IntKind.i64.wrap (gt v5_4587 0))))))) (.slH (f := (fun n => [V.int .u8 n])) rfl rfl rfl rfl rfl hb4596) ?_
          refine SafeOps.inline E_good rfl rfl rfl rfl rfl Try.func38 rfl (fun _ _ => Try.call38 _ _) rfl ?_
          repeat (first | refine Safe.seq ?_ | refine Safe.skip ?_ | with_reducible refine thenQ.n ?_ | with_reducible refine blockQ.n ?_)
          refine Safe.region ?_
          refine SafeOps.quiet1 E_good rfl rfl rfl (.box rfl rfl) rfl ?_
          refine SafeOps.quiet1 E_good rfl rfl rfl (.box rfl rfl) rfl ?_
          refine SafeOps.quiet0 E_good rfl rfl rfl (v := V.nilf) (.fn rfl) ?_
          refine SafeOps.nil ?_
          repeat (first | refine Safe.seq ?_ | refine Safe.skip ?_ | with_reducible refine thenQ.n ?_ | with_reducible refine blockQ.n ?_)
          refine Safe.region ?_
          refine SafeOps.quiet0 E_good rfl rfl rfl (v := V.int .i64 4) (.load rfl rfl (.box rfl rfl) rfl) ?_
          refine SafeOps.quiet0 E_good rfl rfl rfl (v := V.bool false) (.fn rfl) ?_
          refine SafeOps.nil ?_
          repeat (first | refine Safe.seq ?_ | refine Safe.skip ?_ | with_reducible refine thenQ.n ?_ | with_reducible refine blockQ.n ?_)
          refine Safe.condN rfl rfl ?_
          repeat (first | refine Safe.seq ?_ | refine Safe.skip ?_ | with_reducible refine thenQ.n ?_ | with_reducible refine blockQ.n ?_)
          refine Safe.region ?_
          refine SafeOps.quiet0 E_good rfl rfl rfl (v := V.fn 42 [V.ptr [39, 2] 0 0, V.ptr [39, 3] 0 0]) (.fn rfl) ?_
          refine SafeOps.quiet0 E_good rfl rfl rfl (v := V.fn 42 [V.ptr [39, 2] 0 0, V.ptr [39, 3] 0 0]) (.fn rfl) ?_
          refine SafeOps.nil ?_
          repeat (first | refine Safe.seq ?_ | refine Safe.skip ?_ | with_reducible refine thenQ.n ?_ | with_reducible refine blockQ.n ?_)
          refine Safe.ret ?_
          repeat (first | with_reducible refine thenQ.r ?_ | with_reducible refine blockQ.r ?_)
          refine inQ.gen (vs := [V.fn 42 [V.ptr [39, 2] 0 0, V.ptr [39, 3] 0 0]]) (v := V.fn 42 [V.ptr [39, 2] 0 0, V.ptr [39, 3] 0 0]) (.inr rfl) rfl (.tmp (v := V.fn 42 [V.ptr [39, 2] 0 0, V.ptr [39, 3] 0 0]) rfl .nil) rfl ?_
          refine SafeOps.nil ?_
          repeat (first | refine Safe.seq ?_ | refine Safe.skip ?_ | with_reducible refine thenQ.n ?_ | with_reducible refine blockQ.n ?_)
          refine Safe.block ?_
          repeat (first | refine Safe.seq ?_ | refine Safe.skip ?_ | with_reducible refine thenQ.n ?_ | with_reducible refine blockQ.n ?_)
          refine Safe.rangeFunc (k := 9040) rfl rfl Try.func42 rfl (fun _ _ => Try.call42 _ _) rfl rfl rfl ?_
          repeat (first | refine Safe.seq ?_ | refine Safe.skip ?_ | with_reducible refine thenQ.n ?_ | with_reducible refine blockQ.n ?_)
          refine Safe.region ?_
          refine SafeOps.quiet0 E_good rfl rfl rfl (v := V.int .i64 0) (.fn rfl) ?_
          refine SafeOps.nil ?_
          repeat (first | refine Safe.seq ?_ | refine Safe.skip ?_ | with_reducible refine thenQ.n ?_ | with_reducible refine blockQ.n ?_)
          refine Safe.block ?_
          repeat (first | refine Safe.seq ?_ | refine Safe.skip ?_ | with_reducible refine thenQ.n ?_ | with_reducible refine blockQ.n ?_)
          refine Safe.loopW (fun ((v4_4644, v80_4645) : Int × (List api_Instr)) => ⟨Try.f42.ntmps, [(0, V.yld [9040]), (1, V.ptr [39, 2] 0 0), (2, V.ptr [39, 3] 0 0), (4, V.int .i64 v4_4644)], [([8], Obj.box [V.ref [7000, 114, 8, 0] 0 (rws api_Instr.cells v80_4645).length]), ([39, 2], Obj.box [V.sl 1 (rws (fun n => [V.int .u8 n]) (sub (sub v5_4587 (1 : Int) (v5_4587.length : Int)) 0 (IntKind.i64.wrap (4 * (IntKind.i64.wrap (gt v5_4587 0))))))]), ([39, 3], Obj.box [V.int .i64 4]), ([7000, 114, 8, 0], Obj.rows 3 (rws api_Instr.cells v80_4645) false), ([7000, 118, 6], Obj.rows 1 (rws (fun l => [V.sl 3 (rws api_Instr.cells l)]) v6_4588) false), ([9040], Go.AM.Obj.loop Try.f24.ntmps [(8, V.ptr [8] 0 0)] [40] (rfA Try.f24 0) (rfB Try.f24 0) .ready none)], [(1, [(0, V.yld [9040])]), (Try.f24.ntmps, [(5, V.sl 1 (rws (fun n => [V.int .u8 n]) (sub v5_4587 (1 : Int) (v5_4587.length : Int)))), (6, V.ref [7000, 118, 6] 0 (rws (fun l => [V.sl 3 (rws api_Instr.cells l)]) v6_4588).length), (7, V.int .i64 (IntKind.i64.wrap (4 * (IntKind.i64.wrap (gt v5_4587 0))))), (8, V.ptr [8] 0 0), (19, V.int .i64 (IntKind.i64.wrap (gt a0_3816 0))), (20, V.int .i64 v20_4589)])], [9040, 0]⟩) h (.empty [7000, 114, 8, 0] 3 rfl (.cov ⟨rfl, rfl, (upT_cons (.refl _) (upT_cons (.refl _) (upT_cons (.refl _) (upT_cons (.refl _) upT_nil)))), (upOb_cons rfl (.box (.cons (.nilref _) .nil)) (upOb_cons rfl (.refl _) (upOb_cons rfl (.refl _) (upOb_cons rfl (.refl _) (upOb_cons rfl (.refl _) (upOb_cons rfl (by exact .loop (upT_cons (.refl _) upT_nil)) upOb_nil)))))), (upOut_cons rfl (upT_cons (.refl _) upT_nil) (upOut_cons rfl (upT_cons (.refl _) (upT_cons (.refl _) (upT_cons (.refl _) (upT_cons (.refl _) (upT_cons (.refl _) (upT_cons (.refl _) upT_nil)))))) upOut_nil)), rfl⟩)) ?_
          rintro ⟨v4_4644, v80_4645⟩ ohr4646 h hr4646
          replace h : go_code_Read_s14 v5_4587 v6_4588 v20_4589 (v4_4644, v80_4645) = some ohr4646 := h
          rw [go_code_Read_s14] at h
          repeat (first | refine Safe.seq ?_ | refine Safe.skip ?_ | with_reducible refine thenQ.n ?_ | with_reducible refine blockQ.n ?_)
          refine Safe.region ?_
          refine SafeOps.quiet0 E_good rfl rfl rfl (v := V.int .i64 v4_4644) (.fn rfl) ?_
          refine SafeOps.quiet0 E_good rfl rfl rfl (v := V.sl 1 (rws (fun n => [V.int .u8 n]) (sub (sub v5_4587 (1 : Int) (v5_4587.length : Int)) 0 (IntKind.i64.wrap (4 * (IntKind.i64.wrap (gt v5_4587 0))))))) (.load rfl rfl (.box rfl rfl) rfl) ?_
          refine SafeOps.quiet0 E_good rfl rfl rfl (v := V.int .i64 ((sub (sub v5_4587 (1 : Int) (v5_4587.length : Int)) 0 (IntKind.i64.wrap (4 * (IntKind.i64.wrap (gt v5_4587 0))))).length : Int)) (.fnE rfl lenE) ?_
          refine SafeOps.quiet0 E_good rfl rfl rfl (v := V.bool (decide (v4_4644 < ((sub (sub v5_4587 (1 : Int) (v5_4587.length : Int)) 0 (IntKind.i64.wrap (4 * (IntKind.i64.wrap (gt v5_4587 0))))).length : Int)))) (.fn rfl) ?_
          refine SafeOps.nil ?_
          repeat (first | refine Safe.seq ?_ | refine Safe.skip ?_ | with_reducible refine thenQ.n ?_ | with_reducible refine blockQ.n ?_)
          refine ifG h (fun hc4647 h => ?_) (fun hc4647 h => ?_)
          · skip
            refine Safe.condK rfl hc4647 ?_
            repeat (first | refine Safe.seq ?_ | refine Safe.skip ?_ | with_reducible refine thenQ.n ?_ | with_reducible refine blockQ.n ?_)
            refine Safe.block ?_
            repeat (first | refine Safe.seq ?_ | refine Safe.skip ?_ | with_reducible refine thenQ.n ?_ | with_reducible refine blockQ.n ?_)
            refine Safe.regionD (n := 7) [] [] E_good mixed rfl ?_
            refine DAny.take (i := 0) rfl (by kernel_rfl) [] (by kernel_rfl) (by kernel_rfl) (by kernel_rfl) rfl rfl rfl (v := V.int .i64 4) (fun _ hz => (.load rfl rfl (.box (hz _ _ rfl rfl) rfl) rfl)) ?_
            refine DAny.take (i := 1) rfl (by kernel_rfl) [] (by kernel_rfl) (by kernel_rfl) (by kernel_rfl) rfl rfl rfl (v := V.sl 1 (rws (fun n => [V.int .u8 n]) (sub (sub v5_4587 (1 : Int) (v5_4587.length : Int)) 0 (IntKind.i64.wrap (4 * (IntKind.i64.wrap (gt v5_4587 0))))))) (fun _ hz => (.load rfl rfl (.box (hz _ _ rfl rfl) rfl) rfl)) ?_
            refine DAny.take (i := 2) rfl (by kernel_rfl) [] (by kernel_rfl) (by kernel_rfl) (by kernel_rfl) rfl rfl rfl (v := V.int .i64 v4_4644) (fun _ hz => (.fn rfl)) ?_
            refine okG h (fun hb4648 h => ?_)
            refine DAny.take (i := 3) rfl (by kernel_rfl) [] (by kernel_rfl) (by kernel_rfl) (by kernel_rfl) rfl rfl rfl (v := V.sl 1 (rws (fun n => [V.int .u8 n]) (sub (sub (sub v5_4587 (1 : Int) (v5_4587.length : Int)) 0 (IntKind.i64.wrap (4 * (IntKind.i64.wrap (gt v5_4587 0))))) v4_4644 ((sub (sub v5_4587 (1 : Int) (v5_4587.length : Int)) 0 (IntKind.i64.wrap (4 * (IntKind.i64.wrap (gt v5_4587 0))))).length : Int)))) (fun _ hz => (.slL (f := (fun n => [V.int .u8 n])) rfl rfl rfl rfl rfl hb4648)) ?_
            refine DAny.take (i := 4) rfl (by kernel_rfl) [] (by kernel_rfl) (by kernel_rfl) (by kernel_rfl) rfl rfl rfl (v := V.int .i64 ((sub (sub (sub v5_4587 (1 : Int) (v5_4587.length : Int)) 0 (IntKind.i64.wrap (4 * (IntKind.i64.wrap (gt v5_4587 0))))) v4_4644 ((sub (sub v5_4587 (1 : Int) (v5_4587.length : Int)) 0 (IntKind.i64.wrap (4 * (IntKind.i64.wrap (gt v5_4587 0))))).length : Int)).length : Int)) (fun _ hz => (.fnE rfl lenE)) ?_
            refine DAny.take (i := 5) rfl (by kernel_rfl) [] (by kernel_rfl) (by kernel_rfl) (by kernel_rfl) rfl rfl rfl (v := V.int .i64 (if ((sub (sub (sub v5_4587 (1 : Int) (v5_4587.length : Int)) 0 (IntKind.i64.wrap (4 * (IntKind.i64.wrap (gt v5_4587 0))))) v4_4644 ((sub (sub v5_4587 (1 : Int) (v5_4587.length : Int)) 0 (IntKind.i64.wrap (4 * (IntKind.i64.wrap (gt v5_4587 0))))).length : Int)).length : Int) < (4 : Int) then ((sub (sub (sub v5_4587 (1 : Int) (v5_4587.length : Int)) 0 (IntKind.i64.wrap (4 * (IntKind.i64.wrap (gt v5_4587 0))))) v4_4644 ((sub (sub v5_4587 (1 : Int) (v5_4587.length : Int)) 0 (IntKind.i64.wrap (4 * (IntKind.i64.wrap (gt v5_4587 0))))).length : Int)).length : Int) else (4 : Int))) (fun _ hz => (.fn rfl)) ?_
            refine DAny.take (i := 6) rfl (by kernel_rfl) [] (by kernel_rfl) (by kernel_rfl) (by kernel_rfl) rfl rfl rfl (v := V.int .i64 (if ((sub (sub (sub v5_4587 (1 : Int) (v5_4587.length : Int)) 0 (IntKind.i64.wrap (4 * (IntKind.i64.wrap (gt v5_4587 0))))) v4_4644 ((sub (sub v5_4587 (1 : Int) (v5_4587.length : Int)) 0 (IntKind.i64.wrap (4 * (IntKind.i64.wrap (gt v5_4587 0))))).length : Int)).length : Int) < (4 : Int) then ((sub (sub (sub v5_4587 (1 : Int) (v5_4587.length : Int)) 0 (IntKind.i64.wrap (4 * (IntKind.i64.wrap (gt v5_4587 0))))) v4_4644 ((sub (sub v5_4587 (1 : Int) (v5_4587.length : Int)) 0 (IntKind.i64.wrap (4 * (IntKind.i64.wrap (gt v5_4587 0))))).length : Int)).length : Int) else (4 : Int))) (fun _ hz => (.fn rfl)) ?_
            refine DAny.nil (by kernel_rfl) ?_
            repeat (first | refine Safe.seq ?_ | refine Safe.skip ?_ | with_reducible refine thenQ.n ?_ | with_reducible refine blockQ.n ?_)
            refine Safe.region ?_
            refine SafeOps.quiet0 E_good rfl rfl rfl (v := V.yld [9040]) (.fn rfl) ?_
            refine SafeOps.quiet0 E_good rfl rfl rfl (v := V.sl 1 (rws (fun n => [V.int .u8 n]) (sub (sub v5_4587 (1 : Int) (v5_4587.length : Int)) 0 (IntKind.i64.wrap (4 * (IntKind.i64.wrap (gt v5_4587 0))))))) (.load rfl rfl (.box rfl rfl) rfl) ?_
            refine SafeOps.quiet0 E_good rfl rfl rfl (v := V.int .i64 v4_4644) (.fn rfl) ?_
            refine SafeOps.quiet0 E_good rfl rfl rfl (v := V.int .i64 v4_4644) (.fn rfl) ?_
            refine SafeOps.quiet0 E_good rfl rfl rfl (v := V.int .i64 (if ((sub (sub (sub v5_4587 (1 : Int) (v5_4587.length : Int)) 0 (IntKind.i64.wrap (4 * (IntKind.i64.wrap (gt v5_4587 0))))) v4_4644 ((sub (sub v5_4587 (1 : Int) (v5_4587.length : Int)) 0 (IntKind.i64.wrap (4 * (IntKind.i64.wrap (gt v5_4587 0))))).length : Int)).length : Int) < (4 : Int) then ((sub (sub (sub v5_4587 (1 : Int) (v5_4587.length : Int)) 0 (IntKind.i64.wrap (4 * (IntKind.i64.wrap (gt v5_4587 0))))) v4_4644 ((sub (sub v5_4587 (1 : Int) (v5_4587.length : Int)) 0 (IntKind.i64.wrap (4 * (IntKind.i64.wrap (gt v5_4587 0))))).length : Int)).length : Int) else (4 : Int))) (.fn rfl) ?_
            refine SafeOps.quiet0 E_good rfl rfl rfl (v := V.int .i64 (IntKind.i64.wrap (v4_4644 + (if ((sub (sub (sub v5_4587 (1 : Int) (v5_4587.length : Int)) 0 (IntKind.i64.wrap (4 * (IntKind.i64.wrap (gt v5_4587 0))))) v4_4644 ((sub (sub v5_4587 (1 : Int) (v5_4587.length : Int)) 0 (IntKind.i64.wrap (4 * (IntKind.i64.wrap (gt v5_4587 0))))).length : Int)).length : Int) < (4 : Int) then ((sub (sub (sub v5_4587 (1 : Int) (v5_4587.length : Int)) 0 (IntKind.i64.wrap (4 * (IntKind.i64.wrap (gt v5_4587 0))))) v4_4644 ((sub (sub v5_4587 (1 : Int) (v5_4587.length : Int)) 0 (IntKind.i64.wrap (4 * (IntKind.i64.wrap (gt v5_4587 0))))).length : Int)).length : Int) else (4 : Int))))) (.fn rfl) ?_
            refine SafeOps.quiet0 E_good rfl rfl rfl (v := V.int .i64 v4_4644) (.fn rfl) ?_
            refine SafeOps.quiet0 E_good rfl rfl rfl (v := V.int .i64 (if ((sub (sub (sub v5_4587 (1 : Int) (v5_4587.length : Int)) 0 (IntKind.i64.wrap (4 * (IntKind.i64.wrap (gt v5_4587 0))))) v4_4644 ((sub (sub v5_4587 (1 : Int) (v5_4587.length : Int)) 0 (IntKind.i64.wrap (4 * (IntKind.i64.wrap (gt v5_4587 0))))).length : Int)).length : Int) < (4 : Int) then ((sub (sub (sub v5_4587 (1 : Int) (v5_4587.length : Int)) 0 (IntKind.i64.wrap (4 * (IntKind.i64.wrap (gt v5_4587 0))))) v4_4644 ((sub (sub v5_4587 (1 : Int) (v5_4587.length : Int)) 0 (IntKind.i64.wrap (4 * (IntKind.i64.wrap (gt v5_4587 0))))).length : Int)).length : Int) else (4 : Int))) (.fn rfl) ?_
            refine SafeOps.quiet0 E_good rfl rfl rfl (v := V.int .i64 (IntKind.i64.wrap (v4_4644 + (if ((sub (sub (sub v5_4587 (1 : Int) (v5_4587.length : Int)) 0 (IntKind.i64.wrap (4 * (IntKind.i64.wrap (gt v5_4587 0))))) v4_4644 ((sub (sub v5_4587 (1 : Int) (v5_4587.length : Int)) 0 (IntKind.i64.wrap (4 * (IntKind.i64.wrap (gt v5_4587 0))))).length : Int)).length : Int) < (4 : Int) then ((sub (sub (sub v5_4587 (1 : Int) (v5_4587.length : Int)) 0 (IntKind.i64.wrap (4 * (IntKind.i64.wrap (gt v5_4587 0))))) v4_4644 ((sub (sub v5_4587 (1 : Int) (v5_4587.length : Int)) 0 (IntKind.i64.wrap (4 * (IntKind.i64.wrap (gt v5_4587 0))))).length : Int)).length : Int) else (4 : Int))))) (.fn rfl) ?_
            refine okG h (fun hb4649 h => ?_)
            refine SafeOps.quiet0 E_good rfl rfl rfl (v := V.sl 1 (rws (fun n => [V.int .u8 n]) (sub (sub (sub v5_4587 (1 : Int) (v5_4587.length : Int)) 0 (IntKind.i64.wrap (4 * (IntKind.i64.wrap (gt v5_4587 0))))) v4_4644 (IntKind.i64.wrap (v4_4644 + (if ((sub (sub (sub v5_4587 (1 : Int) (v5_4587.length : Int)) 0 (IntKind.i64.wrap (4 * (IntKind.i64.wrap (gt v5_4587 0))))) v4_4644 ((sub (sub v5_4587 (1 : Int) (v5_4587.length : Int)) 0 (IntKind.i64.wrap (4 * (IntKind.i64.wrap (gt v5_4587 0))))).length : Int)).length : Int) < (4 : Int) then ((sub (sub (sub v5_4587 (1 : Int) (v5_4587.length : Int)) 0 (IntKind.i64.wrap (4 * (IntKind.i64.wrap (gt v5_4587 0))))) v4_4644 ((sub (sub v5_4587 (1 : Int) (v5_4587.length : Int)) 0 (IntKind.i64.wrap (4 * (IntKind.i64.wrap (gt v5_4587 0))))).length : Int)).length : Int) else (4 : Int))))))) (.slLH3 (f := (fun n => [V.int .u8 n])) rfl rfl rfl rfl rfl rfl rfl hb4649) ?_
            refine SafeOps.yield rfl rfl rfl rfl rfl rfl rfl rfl ?_
            repeat (first | refine Safe.seq ?_ | refine Safe.skip ?_ | with_reducible refine thenQ.n ?_ | with_reducible refine blockQ.n ?_)
            refine Safe.region ?_
            refine SafeOps.quiet0 E_good rfl rfl rfl (v := V.sl 1 (rws (fun n => [V.int .u8 n]) (sub (sub (sub v5_4587 (1 : Int) (v5_4587.length : Int)) 0 (IntKind.i64.wrap (4 * (IntKind.i64.wrap (gt v5_4587 0))))) v4_4644 (IntKind.i64.wrap (v4_4644 + (if ((sub (sub (sub v5_4587 (1 : Int) (v5_4587.length : Int)) 0 (IntKind.i64.wrap (4 * (IntKind.i64.wrap (gt v5_4587 0))))) v4_4644 ((sub (sub v5_4587 (1 : Int) (v5_4587.length : Int)) 0 (IntKind.i64.wrap (4 * (IntKind.i64.wrap (gt v5_4587 0))))).length : Int)).length : Int) < (4 : Int) then ((sub (sub (sub v5_4587 (1 : Int) (v5_4587.length : Int)) 0 (IntKind.i64.wrap (4 * (IntKind.i64.wrap (gt v5_4587 0))))) v4_4644 ((sub (sub v5_4587 (1 : Int) (v5_4587.length : Int)) 0 (IntKind.i64.wrap (4 * (IntKind.i64.wrap (gt v5_4587 0))))).length : Int)).length : Int) else (4 : Int))))))) (.fn rfl) ?_
            refine SafeOps.nil ?_
            repeat (first | refine Safe.seq ?_ | refine Safe.skip ?_ | with_reducible refine thenQ.n ?_ | with_reducible refine blockQ.n ?_)
            refine asgQ.go rfl rfl ?_
            repeat (first | refine Safe.seq ?_ | refine Safe.skip ?_ | with_reducible refine thenQ.n ?_ | with_reducible refine blockQ.n ?_)
            refine Safe.block ?_
            repeat (first | refine Safe.seq ?_ | refine Safe.skip ?_ | with_reducible refine thenQ.n ?_ | with_reducible refine blockQ.n ?_)
            refine Safe.regionD (n := 23) [(22, [8])] [21] E_good mixed rfl ?_
            refine DAny.take (i := 0) rfl (by kernel_rfl) [] (by kernel_rfl) (by kernel_rfl) (by kernel_rfl) rfl rfl rfl (v := V.ref [7000, 114, 8, 0] 0 (rws api_Instr.cells v80_4645).length) (fun _ hz => (.load rfl rfl (.box (hz _ _ rfl rfl) rfl) rfl)) ?_
            refine DAny.take (i := 1) rfl (by kernel_rfl) [[8]] (by kernel_rfl) (by kernel_rfl) (by kernel_rfl) rfl rfl rfl (v := V.sl 1 (rws (fun n => [V.int .u8 n]) (sub (sub (sub v5_4587 (1 : Int) (v5_4587.length : Int)) 0 (IntKind.i64.wrap (4 * (IntKind.i64.wrap (gt v5_4587 0))))) v4_4644 (IntKind.i64.wrap (v4_4644 + (if ((sub (sub (sub v5_4587 (1 : Int) (v5_4587.length : Int)) 0 (IntKind.i64.wrap (4 * (IntKind.i64.wrap (gt v5_4587 0))))) v4_4644 ((sub (sub v5_4587 (1 : Int) (v5_4587.length : Int)) 0 (IntKind.i64.wrap (4 * (IntKind.i64.wrap (gt v5_4587 0))))).length : Int)).length : Int) < (4 : Int) then ((sub (sub (sub v5_4587 (1 : Int) (v5_4587.length : Int)) 0 (IntKind.i64.wrap (4 * (IntKind.i64.wrap (gt v5_4587 0))))) v4_4644 ((sub (sub v5_4587 (1 : Int) (v5_4587.length : Int)) 0 (IntKind.i64.wrap (4 * (IntKind.i64.wrap (gt v5_4587 0))))).length : Int)).length : Int) else (4 : Int))))))) (fun _ hz => (.fn rfl)) ?_
            refine okG h (fun hb4650 h => ?_)
            refine DAny.take (i := 2) rfl (by kernel_rfl) [[8]] (by kernel_rfl) (by kernel_rfl) (by kernel_rfl) rfl rfl rfl (v := V.spt 1 (rws (fun n => [V.int .u8 n]) (sub (sub (sub v5_4587 (1 : Int) (v5_4587.length : Int)) 0 (IntKind.i64.wrap (4 * (IntKind.i64.wrap (gt v5_4587 0))))) v4_4644 (IntKind.i64.wrap (v4_4644 + (if ((sub (sub (sub v5_4587 (1 : Int) (v5_4587.length : Int)) 0 (IntKind.i64.wrap (4 * (IntKind.i64.wrap (gt v5_4587 0))))) v4_4644 ((sub (sub v5_4587 (1 : Int) (v5_4587.length : Int)) 0 (IntKind.i64.wrap (4 * (IntKind.i64.wrap (gt v5_4587 0))))).length : Int)).length : Int) < (4 : Int) then ((sub (sub (sub v5_4587 (1 : Int) (v5_4587.length : Int)) 0 (IntKind.i64.wrap (4 * (IntKind.i64.wrap (gt v5_4587 0))))) v4_4644 ((sub (sub v5_4587 (1 : Int) (v5_4587.length : Int)) 0 (IntKind.i64.wrap (4 * (IntKind.i64.wrap (gt v5_4587 0))))).length : Int)).length : Int) else (4 : Int)))))) (Int.toNat 0) 0) (fun _ hz => (.idxSlM (f := (fun n => [V.int .u8 n])) rfl rfl rfl rfl rfl hb4650)) ?_
            refine DAny.take (i := 3) rfl (by kernel_rfl) [[8]] (by kernel_rfl) (by kernel_rfl) (by kernel_rfl) rfl rfl rfl (v := V.int .u8 (gt (sub (sub (sub v5_4587 (1 : Int) (v5_4587.length : Int)) 0 (IntKind.i64.wrap (4 * (IntKind.i64.wrap (gt v5_4587 0))))) v4_4644 (IntKind.i64.wrap (v4_4644 + (if ((sub (sub (sub v5_4587 (1 : Int) (v5_4587.length : Int)) 0 (IntKind.i64.wrap (4 * (IntKind.i64.wrap (gt v5_4587 0))))) v4_4644 ((sub (sub v5_4587 (1 : Int) (v5_4587.length : Int)) 0 (IntKind.i64.wrap (4 * (IntKind.i64.wrap (gt v5_4587 0))))).length : Int)).length : Int) < (4 : Int) then ((sub (sub (sub v5_4587 (1 : Int) (v5_4587.length : Int)) 0 (IntKind.i64.wrap (4 * (IntKind.i64.wrap (gt v5_4587 0))))) v4_4644 ((sub (sub v5_4587 (1 : Int) (v5_4587.length : Int)) 0 (IntKind.i64.wrap (4 * (IntKind.i64.wrap (gt v5_4587 0))))).length : Int)).length : Int) else (4 : Int))))) 0)) (fun _ hz => (.load rfl rfl (.sptM (f := (fun n => [V.int .u8 n])) hb4650 rfl) rfl)) ?_
            refine DAny.take (i := 4) rfl (by kernel_rfl) [[8]] (by kernel_rfl) (by kernel_rfl) (by kernel_rfl) rfl rfl rfl (v := V.int .i64 (IntKind.i64.wrap (gt (sub (sub (sub v5_4587 (1 : Int) (v5_4587.length : Int)) 0 (IntKind.i64.wrap (4 * (IntKind.i64.wrap (gt v5_4587 0))))) v4_4644 (IntKind.i64.wrap (v4_4644 + (if ((sub (sub (sub v5_4587 (1 : Int) (v5_4587.length : Int)) 0 (IntKind.i64.wrap (4 * (IntKind.i64.wrap (gt v5_4587 0))))) v4_4644 ((sub (sub v5_4587 (1 : Int) (v5_4587.length : Int)) 0 (IntKind.i64.wrap (4 * (IntKind.i64.wrap (gt v5_4587 0))))).length : Int)).length : Int) < (4 : Int) then ((sub (sub (sub v5_4587 (1 : Int) (v5_4587.length : Int)) 0 (IntKind.i64.wrap (4 * (IntKind.i64.wrap (gt v5_4587 0))))) v4_4644 ((sub (sub v5_4587 (1 : Int) (v5_4587.length : Int)) 0 (IntKind.i64.wrap (4 * (IntKind.i64.wrap (gt v5_4587 0))))).length : Int)).length : Int) else (4 : Int))))) 0))) (fun _ hz => (.fn rfl)) ?_
            refine DAny.take (i := 5) rfl (by kernel_rfl) [[8]] (by kernel_rfl) (by kernel_rfl) (by kernel_rfl) rfl rfl rfl (v := V.sl 1 (rws (fun n => [V.int .u8 n]) (sub (sub (sub v5_4587 (1 : Int) (v5_4587.length : Int)) 0 (IntKind.i64.wrap (4 * (IntKind.i64.wrap (gt v5_4587 0))))) v4_4644 (IntKind.i64.wrap (v4_4644 + (if ((sub (sub (sub v5_4587 (1 : Int) (v5_4587.length : Int)) 0 (IntKind.i64.wrap (4 * (IntKind.i64.wrap (gt v5_4587 0))))) v4_4644 ((sub (sub v5_4587 (1 : Int) (v5_4587.length : Int)) 0 (IntKind.i64.wrap (4 * (IntKind.i64.wrap (gt v5_4587 0))))).length : Int)).length : Int) < (4 : Int) then ((sub (sub (sub v5_4587 (1 : Int) (v5_4587.length : Int)) 0 (IntKind.i64.wrap (4 * (IntKind.i64.wrap (gt v5_4587 0))))) v4_4644 ((sub (sub v5_4587 (1 : Int) (v5_4587.length : Int)) 0 (IntKind.i64.wrap (4 * (IntKind.i64.wrap (gt v5_4587 0))))).length : Int)).length : Int) else (4 : Int))))))) (fun _ hz => (.fn rfl)) ?_
            refine okG h (fun hb4651 h => ?_)
            refine DAny.take (i := 6) rfl (by kernel_rfl) [[8]] (by kernel_rfl) (by kernel_rfl) (by kernel_rfl) rfl rfl rfl (v := V.spt 1 (rws (fun n => [V.int .u8 n]) (sub (sub (sub v5_4587 (1 : Int) (v5_4587.length : Int)) 0 (IntKind.i64.wrap (4 * (IntKind.i64.wrap (gt v5_4587 0))))) v4_4644 (IntKind.i64.wrap (v4_4644 + (if ((sub (sub (sub v5_4587 (1 : Int) (v5_4587.length : Int)) 0 (IntKind.i64.wrap (4 * (IntKind.i64.wrap (gt v5_4587 0))))) v4_4644 ((sub (sub v5_4587 (1 : Int) (v5_4587.length : Int)) 0 (IntKind.i64.wrap (4 * (IntKind.i64.wrap (gt v5_4587 0))))).length : Int)).length : Int) < (4 : Int) then ((sub (sub (sub v5_4587 (1 : Int) (v5_4587.length : Int)) 0 (IntKind.i64.wrap (4 * (IntKind.i64.wrap (gt v5_4587 0))))) v4_4644 ((sub (sub v5_4587 (1 : Int) (v5_4587.length : Int)) 0 (IntKind.i64.wrap (4 * (IntKind.i64.wrap (gt v5_4587 0))))).length : Int)).length : Int) else (4 : Int)))))) (Int.toNat 1) 0) (fun _ hz => (.idxSlM (f := (fun n => [V.int .u8 n])) rfl rfl rfl rfl rfl hb4651)) ?_
            refine DAny.take (i := 7) rfl (by kernel_rfl) [[8]] (by kernel_rfl) (by kernel_rfl) (by kernel_rfl) rfl rfl rfl (v := V.int .u8 (gt (sub (sub (sub v5_4587 (1 : Int) (v5_4587.length : Int)) 0 (IntKind.i64.wrap (4 * (IntKind.i64.wrap (gt v5_4587 0))))) v4_4644 (IntKind.i64.wrap (v4_4644 + (if ((sub (sub (sub v5_4587 (1 : Int) (v5_4587.length : Int)) 0 (IntKind.i64.wrap (4 * (IntKind.i64.wrap (gt v5_4587 0))))) v4_4644 ((sub (sub v5_4587 (1 : Int) (v5_4587.length : Int)) 0 (IntKind.i64.wrap (4 * (IntKind.i64.wrap (gt v5_4587 0))))).length : Int)).length : Int) < (4 : Int) then ((sub (sub (sub v5_4587 (1 : Int) (v5_4587.length : Int)) 0 (IntKind.i64.wrap (4 * (IntKind.i64.wrap (gt v5_4587 0))))) v4_4644 ((sub (sub v5_4587 (1 : Int) (v5_4587.length : Int)) 0 (IntKind.i64.wrap (4 * (IntKind.i64.wrap (gt v5_4587 0))))).length : Int)).length : Int) else (4 : Int))))) 1)) (fun _ hz => (.load rfl rfl (.sptM (f := (fun n => [V.int .u8 n])) hb4651 rfl) rfl)) ?_
            refine DAny.take (i := 8) rfl (by kernel_rfl) [[8]] (by kernel_rfl) (by kernel_rfl) (by kernel_rfl) rfl rfl rfl (v := V.int .i64 (IntKind.i64.wrap (gt (sub (sub (sub v5_4587 (1 : Int) (v5_4587.length : Int)) 0 (IntKind.i64.wrap (4 * (IntKind.i64.wrap (gt v5_4587 0))))) v4_4644 (IntKind.i64.wrap (v4_4644 + (if ((sub (sub (sub v5_4587 (1 : Int) (v5_4587.length : Int)) 0 (IntKind.i64.wrap (4 * (IntKind.i64.wrap (gt v5_4587 0))))) v4_4644 ((sub (sub v5_4587 (1 : Int) (v5_4587.length : Int)) 0 (IntKind.i64.wrap (4 * (IntKind.i64.wrap (gt v5_4587 0))))).length : Int)).length : Int) < (4 : Int) then ((sub (sub (sub v5_4587 (1 : Int) (v5_4587.length : Int)) 0 (IntKind.i64.wrap (4 * (IntKind.i64.wrap (gt v5_4587 0))))) v4_4644 ((sub (sub v5_4587 (1 : Int) (v5_4587.length : Int)) 0 (IntKind.i64.wrap (4 * (IntKind.i64.wrap (gt v5_4587 0))))).length : Int)).length : Int) else (4 : Int))))) 1))) (fun _ hz => (.fn rfl)) ?_
            refine DAny.take (i := 9) rfl (by kernel_rfl) [[8]] (by kernel_rfl) (by kernel_rfl) (by kernel_rfl) rfl rfl rfl (v := V.int .i64 (IntKind.i64.wrap ((IntKind.i64.wrap (gt (sub (sub (sub v5_4587 (1 : Int) (v5_4587.length : Int)) 0 (IntKind.i64.wrap (4 * (IntKind.i64.wrap (gt v5_4587 0))))) v4_4644 (IntKind.i64.wrap (v4_4644 + (if ((sub (sub (sub v5_4587 (1 : Int) (v5_4587.length : Int)) 0 (IntKind.i64.wrap (4 * (IntKind.i64.wrap (gt v5_4587 0))))) v4_4644 ((sub (sub v5_4587 (1 : Int) (v5_4587.length : Int)) 0 (IntKind.i64.wrap (4 * (IntKind.i64.wrap (gt v5_4587 0))))).length : Int)).length : Int) < (4 : Int) then ((sub (sub (sub v5_4587 (1 : Int) (v5_4587.length : Int)) 0 (IntKind.i64.wrap (4 * (IntKind.i64.wrap (gt v5_4587 0))))) v4_4644 ((sub (sub v5_4587 (1 : Int) (v5_4587.length : Int)) 0 (IntKind.i64.wrap (4 * (IntKind.i64.wrap (gt v5_4587 0))))).length : Int)).length : Int) else (4 : Int))))) 1)) * 2 ^ (min (Int.toNat 8) IntKind.i64.bits)))) (fun _ hz => (.shlV rfl rfl (by decide))) ?_
            refine DAny.take (i := 10) rfl (by kernel_rfl) [[8]] (by kernel_rfl) (by kernel_rfl) (by kernel_rfl) rfl rfl rfl (v := V.sl 1 (rws (fun n => [V.int .u8 n]) (sub (sub (sub v5_4587 (1 : Int) (v5_4587.length : Int)) 0 (IntKind.i64.wrap (4 * (IntKind.i64.wrap (gt v5_4587 0))))) v4_4644 (IntKind.i64.wrap (v4_4644 + (if ((sub (sub (sub v5_4587 (1 : Int) (v5_4587.length : Int)) 0 (IntKind.i64.wrap (4 * (IntKind.i64.wrap (gt v5_4587 0))))) v4_4644 ((sub (sub v5_4587 (1 : Int) (v5_4587.length : Int)) 0 (IntKind.i64.wrap (4 * (IntKind.i64.wrap (gt v5_4587 0))))).length : Int)).length : Int) < (4 : Int) then ((sub (sub (sub v5_4587 (1 : Int) (v5_4587.length : Int)) 0 (IntKind.i64.wrap (4 * (IntKind.i64.wrap (gt v5_4587 0))))) v4_4644 ((sub (sub v5_4587 (1 : Int) (v5_4587.length : Int)) 0 (IntKind.i64.wrap (4 * (IntKind.i64.wrap (gt v5_4587 0))))).length : Int)).length : Int) else (4 : Int))))))) (fun _ hz => (.fn rfl)) ?_
            refine okG h (fun hb4652 h => ?_)
            refine DAny.take (i := 11) rfl (by kernel_rfl) [[8]] (by kernel_rfl) (by kernel_rfl) (by kernel_rfl) rfl rfl rfl (v := V.spt 1 (rws (fun n => [V.int .u8 n]) (sub (sub (sub v5_4587 (1 : Int) (v5_4587.length : Int)) 0 (IntKind.i64.wrap (4 * (IntKind.i64.wrap (gt v5_4587 0))))) v4_4644 (IntKind.i64.wrap (v4_4644 + (if ((sub (sub (sub v5_4587 (1 : Int) (v5_4587.length : Int)) 0 (IntKind.i64.wrap (4 * (IntKind.i64.wrap (gt v5_4587 0))))) v4_4644 ((sub (sub v5_4587 (1 : Int) (v5_4587.length : Int)) 0 (IntKind.i64.wrap (4 * (IntKind.i64.wrap (gt v5_4587 0))))).length : Int)).length : Int) < (4 : Int) then ((sub (sub (sub v5_4587 (1 : Int) (v5_4587.length : Int)) 0 (IntKind.i64.wrap (4 * (IntKind.i64.wrap (gt v5_4587 0))))) v4_4644 ((sub (sub v5_4587 (1 : Int) (v5_4587.length : Int)) 0 (IntKind.i64.wrap (4 * (IntKind.i64.wrap (gt v5_4587 0))))).length : Int)).length : Int) else (4 : Int)))))) (Int.toNat 2) 0) (fun _ hz => (.idxSlM (f := (fun n => [V.int .u8 n])) rfl rfl rfl rfl rfl hb4652)) ?_
            refine DAny.take (i := 12) rfl (by kernel_rfl) [[8]] (by kernel_rfl) (by kernel_rfl) (by kernel_rfl) rfl rfl rfl (v := V.int .u8 (gt (sub (sub (sub v5_4587 (1 : Int) (v5_4587.length : Int)) 0 (IntKind.i64.wrap (4 * (IntKind.i64.wrap (gt v5_4587 0))))) v4_4644 (IntKind.i64.wrap (v4_4644 + (if ((sub (sub (sub v5_4587 (1 : Int) (v5_4587.length : Int)) 0 (IntKind.i64.wrap (4 * (IntKind.i64.wrap (gt v5_4587 0))))) v4_4644 ((sub (sub v5_4587 (1 : Int) (v5_4587.length : Int)) 0 (IntKind.i64.wrap (4 * (IntKind.i64.wrap (gt v5_4587 0))))).length : Int)).length : Int) < (4 : Int) then ((sub (sub (sub v5_4587 (1 : Int) (v5_4587.length : Int)) 0 (IntKind.i64.wrap (4 * (IntKind.i64.wrap (gt v5_4587 0))))) v4_4644 ((sub (sub v5_4587 (1 : Int) (v5_4587.length : Int)) 0 (IntKind.i64.wrap (4 * (IntKind.i64.wrap (gt v5_4587 0))))).length : Int)).length : Int) else (4 : Int))))) 2)) (fun _ hz => (.load rfl rfl (.sptM (f := (fun n => [V.int .u8 n])) hb4652 rfl) rfl)) ?_
            refine DAny.take (i := 13) rfl (by kernel_rfl) [[8]] (by kernel_rfl) (by kernel_rfl) (by kernel_rfl) rfl rfl rfl (v := V.int .i64 (IntKind.i64.wrap (gt (sub (sub (sub v5_4587 (1 : Int) (v5_4587.length : Int)) 0 (IntKind.i64.wrap (4 * (IntKind.i64.wrap (gt v5_4587 0))))) v4_4644 (IntKind.i64.wrap (v4_4644 + (if ((sub (sub (sub v5_4587 (1 : Int) (v5_4587.length : Int)) 0 (IntKind.i64.wrap (4 * (IntKind.i64.wrap (gt v5_4587 0))))) v4_4644 ((sub (sub v5_4587 (1 : Int) (v5_4587.length : Int)) 0 (IntKind.i64.wrap (4 * (IntKind.i64.wrap (gt v5_4587 0))))).length : Int)).length : Int) < (4 : Int) then ((sub (sub (sub v5_4587 (1 : Int) (v5_4587.length : Int)) 0 (IntKind.i64.wrap (4 * (IntKind.i64.wrap (gt v5_4587 0))))) v4_4644 ((sub (sub v5_4587 (1 : Int) (v5_4587.length : Int)) 0 (IntKind.i64.wrap (4 * (IntKind.i64.wrap (gt v5_4587 0))))).length : Int)).length : Int) else (4 : Int))))) 2))) (fun _ hz => (.fn rfl)) ?_
            refine DAny.take (i := 14) rfl (by kernel_rfl) [[8]] (by kernel_rfl) (by kernel_rfl) (by kernel_rfl) rfl rfl rfl (v := V.int .i64 (IntKind.i64.wrap (BitVec.ofInt IntKind.i64.bits (IntKind.i64.wrap ((IntKind.i64.wrap (gt (sub (sub (sub v5_4587 (1 : Int) (v5_4587.length : Int)) 0 (IntKind.i64.wrap (4 * (IntKind.i64.wrap (gt v5_4587 0))))) v4_4644 (IntKind.i64.wrap (v4_4644 + (if ((sub (sub (sub v5_4587 (1 : Int) (v5_4587.length : Int)) 0 (IntKind.i64.wrap (4 * (IntKind.i64.wrap (gt v5_4587 0))))) v4_4644 ((sub (sub v5_4587 (1 : Int) (v5_4587.length : Int)) 0 (IntKind.i64.wrap (4 * (IntKind.i64.wrap (gt v5_4587 0))))).length : Int)).length : Int) < (4 : Int) then ((sub (sub (sub v5_4587 (1 : Int) (v5_4587.length : Int)) 0 (IntKind.i64.wrap (4 * (IntKind.i64.wrap (gt v5_4587 0))))) v4_4644 ((sub (sub v5_4587 (1 : Int) (v5_4587.length : Int)) 0 (IntKind.i64.wrap (4 * (IntKind.i64.wrap (gt v5_4587 0))))).length : Int)).length : Int) else (4 : Int))))) 1)) * 2 ^ (min (Int.toNat 8) IntKind.i64.bits))) ||| BitVec.ofInt IntKind.i64.bits (IntKind.i64.wrap (gt (sub (sub (sub v5_4587 (1 : Int) (v5_4587.length : Int)) 0 (IntKind.i64.wrap (4 * (IntKind.i64.wrap (gt v5_4587 0))))) v4_4644 (IntKind.i64.wrap (v4_4644 + (if ((sub (sub (sub v5_4587 (1 : Int) (v5_4587.length : Int)) 0 (IntKind.i64.wrap (4 * (IntKind.i64.wrap (gt v5_4587 0))))) v4_4644 ((sub (sub v5_4587 (1 : Int) (v5_4587.length : Int)) 0 (IntKind.i64.wrap (4 * (IntKind.i64.wrap (gt v5_4587 0))))).length : Int)).length : Int) < (4 : Int) then ((sub (sub (sub v5_4587 (1 : Int) (v5_4587.length : Int)) 0 (IntKind.i64.wrap (4 * (IntKind.i64.wrap (gt v5_4587 0))))) v4_4644 ((sub (sub v5_4587 (1 : Int) (v5_4587.length : Int)) 0 (IntKind.i64.wrap (4 * (IntKind.i64.wrap (gt v5_4587 0))))).length : Int)).length : Int) else (4 : Int))))) 2))).toNat)) (fun _ hz => (.fn rfl)) ?_
            refine DAny.take (i := 15) rfl (by kernel_rfl) [[8]] (by kernel_rfl) (by kernel_rfl) (by kernel_rfl) rfl rfl rfl (v := V.sl 1 (rws (fun n => [V.int .u8 n]) (sub (sub (sub v5_4587 (1 : Int) (v5_4587.length : Int)) 0 (IntKind.i64.wrap (4 * (IntKind.i64.wrap (gt v5_4587 0))))) v4_4644 (IntKind.i64.wrap (v4_4644 + (if ((sub (sub (sub v5_4587 (1 : Int) (v5_4587.length : Int)) 0 (IntKind.i64.wrap (4 * (IntKind.i64.wrap (gt v5_4587 0))))) v4_4644 ((sub (sub v5_4587 (1 : Int) (v5_4587.length : Int)) 0 (IntKind.i64.wrap (4 * (IntKind.i64.wrap (gt v5_4587 0))))).length : Int)).length : Int) < (4 : Int) then ((sub (sub (sub v5_4587 (1 : Int) (v5_4587.length : Int)) 0 (IntKind.i64.wrap (4 * (IntKind.i64.wrap (gt v5_4587 0))))) v4_4644 ((sub (sub v5_4587 (1 : Int) (v5_4587.length : Int)) 0 (IntKind.i64.wrap (4 * (IntKind.i64.wrap (gt v5_4587 0))))).length : Int)).length : Int) else (4 : Int))))))) (fun _ hz => (.fn rfl)) ?_
            refine okG h (fun hb4653 h => ?_)
            refine DAny.take (i := 16) rfl (by kernel_rfl) [[8]] (by kernel_rfl) (by kernel_rfl) (by kernel_rfl) rfl rfl rfl (v := V.spt 1 (rws (fun n => [V.int .u8 n]) (sub (sub (sub v5_4587 (1 : Int) (v5_4587.length : Int)) 0 (IntKind.i64.wrap (4 * (IntKind.i64.wrap (gt v5_4587 0))))) v4_4644 (IntKind.i64.wrap (v4_4644 + (if ((sub (sub (sub v5_4587 (1 : Int) (v5_4587.length : Int)) 0 (IntKind.i64.wrap (4 * (IntKind.i64.wrap (gt v5_4587 0))))) v4_4644 ((sub (sub v5_4587 (1 : Int) (v5_4587.length : Int)) 0 (IntKind.i64.wrap (4 * (IntKind.i64.wrap (gt v5_4587 0))))).length : Int)).length : Int) < (4 : Int) then ((sub (sub (sub v5_4587 (1 : Int) (v5_4587.length : Int)) 0 (IntKind.i64.wrap (4 * (IntKind.i64.wrap (gt v5_4587 0))))) v4_4644 ((sub (sub v5_4587 (1 : Int) (v5_4587.length : Int)) 0 (IntKind.i64.wrap (4 * (IntKind.i64.wrap (gt v5_4587 0))))).length : Int)).length : Int) else (4 : Int)))))) (Int.toNat 3) 0) (fun _ hz => (.idxSlM (f := (fun n => [V.int .u8 n])) rfl rfl rfl rfl rfl hb4653)) ?_
            refine DAny.take (i := 17) rfl (by kernel_rfl) [[8]] (by kernel_rfl) (by kernel_rfl) (by kernel_rfl) rfl rfl rfl (v := V.int .u8 (gt (sub (sub (sub v5_4587 (1 : Int) (v5_4587.length : Int)) 0 (IntKind.i64.wrap (4 * (IntKind.i64.wrap (gt v5_4587 0))))) v4_4644 (IntKind.i64.wrap (v4_4644 + (if ((sub (sub (sub v5_4587 (1 : Int) (v5_4587.length : Int)) 0 (IntKind.i64.wrap (4 * (IntKind.i64.wrap (gt v5_4587 0))))) v4_4644 ((sub (sub v5_4587 (1 : Int) (v5_4587.length : Int)) 0 (IntKind.i64.wrap (4 * (IntKind.i64.wrap (gt v5_4587 0))))).length : Int)).length : Int) < (4 : Int) then ((sub (sub (sub v5_4587 (1 : Int) (v5_4587.length : Int)) 0 (IntKind.i64.wrap (4 * (IntKind.i64.wrap (gt v5_4587 0))))) v4_4644 ((sub (sub v5_4587 (1 : Int) (v5_4587.length : Int)) 0 (IntKind.i64.wrap (4 * (IntKind.i64.wrap (gt v5_4587 0))))).length : Int)).length : Int) else (4 : Int))))) 3)) (fun _ hz => (.load rfl rfl (.sptM (f := (fun n => [V.int .u8 n])) hb4653 rfl) rfl)) ?_
            refine DAny.take (i := 18) rfl (by kernel_rfl) [[8]] (by kernel_rfl) (by kernel_rfl) (by kernel_rfl) rfl rfl rfl (v := V.int .i64 (IntKind.i64.wrap (gt (sub (sub (sub v5_4587 (1 : Int) (v5_4587.length : Int)) 0 (IntKind.i64.wrap (4 * (IntKind.i64.wrap (gt v5_4587 0))))) v4_4644 (IntKind.i64.wrap (v4_4644 + (if ((sub (sub (sub v5_4587 (1 : Int) (v5_4587.length : Int)) 0 (IntKind.i64.wrap (4 * (IntKind.i64.wrap (gt v5_4587 0))))) v4_4644 ((sub (sub v5_4587 (1 : Int) (v5_4587.length : Int)) 0 (IntKind.i64.wrap (4 * (IntKind.i64.wrap (gt v5_4587 0))))).length : Int)).length : Int) < (4 : Int) then ((sub (sub (sub v5_4587 (1 : Int) (v5_4587.length : Int)) 0 (IntKind.i64.wrap (4 * (IntKind.i64.wrap (gt v5_4587 0))))) v4_4644 ((sub (sub v5_4587 (1 : Int) (v5_4587.length : Int)) 0 (IntKind.i64.wrap (4 * (IntKind.i64.wrap (gt v5_4587 0))))).length : Int)).length : Int) else (4 : Int))))) 3))) (fun _ hz => (.fn rfl)) ?_
            refine DAny.take (i := 19) rfl (by kernel_rfl) [[8]] (by kernel_rfl) (by kernel_rfl) (by kernel_rfl) rfl rfl rfl (v := V.agg [V.int .i64 (IntKind.i64.wrap (gt (sub (sub (sub v5_4587 (1 : Int) (v5_4587.length : Int)) 0 (IntKind.i64.wrap (4 * (IntKind.i64.wrap (gt v5_4587 0))))) v4_4644 (IntKind.i64.wrap (v4_4644 + (if ((sub (sub (sub v5_4587 (1 : Int) (v5_4587.length : Int)) 0 (IntKind.i64.wrap (4 * (IntKind.i64.wrap (gt v5_4587 0))))) v4_4644 ((sub (sub v5_4587 (1 : Int) (v5_4587.length : Int)) 0 (IntKind.i64.wrap (4 * (IntKind.i64.wrap (gt v5_4587 0))))).length : Int)).length : Int) < (4 : Int) then ((sub (sub (sub v5_4587 (1 : Int) (v5_4587.length : Int)) 0 (IntKind.i64.wrap (4 * (IntKind.i64.wrap (gt v5_4587 0))))) v4_4644 ((sub (sub v5_4587 (1 : Int) (v5_4587.length : Int)) 0 (IntKind.i64.wrap (4 * (IntKind.i64.wrap (gt v5_4587 0))))).length : Int)).length : Int) else (4 : Int))))) 0)), V.int .i64 (IntKind.i64.wrap (BitVec.ofInt IntKind.i64.bits (IntKind.i64.wrap ((IntKind.i64.wrap (gt (sub (sub (sub v5_4587 (1 : Int) (v5_4587.length : Int)) 0 (IntKind.i64.wrap (4 * (IntKind.i64.wrap (gt v5_4587 0))))) v4_4644 (IntKind.i64.wrap (v4_4644 + (if ((sub (sub (sub v5_4587 (1 : Int) (v5_4587.length : Int)) 0 (IntKind.i64.wrap (4 * (IntKind.i64.wrap (gt v5_4587 0))))) v4_4644 ((sub (sub v5_4587 (1 : Int) (v5_4587.length : Int)) 0 (IntKind.i64.wrap (4 * (IntKind.i64.wrap (gt v5_4587 0))))).length : Int)).length : Int) < (4 : Int) then ((sub (sub (sub v5_4587 (1 : Int) (v5_4587.length : Int)) 0 (IntKind.i64.wrap (4 * (IntKind.i64.wrap (gt v5_4587 0))))) v4_4644 ((sub (sub v5_4587 (1 : Int) (v5_4587.length : Int)) 0 (IntKind.i64.wrap (4 * (IntKind.i64.wrap (gt v5_4587 0))))).length : Int)).length : Int) else (4 : Int))))) 1)) * 2 ^ (min (Int.toNat 8) IntKind.i64.bits))) ||| BitVec.ofInt IntKind.i64.bits (IntKind.i64.wrap (gt (sub (sub (sub v5_4587 (1 : Int) (v5_4587.length : Int)) 0 (IntKind.i64.wrap (4 * (IntKind.i64.wrap (gt v5_4587 0))))) v4_4644 (IntKind.i64.wrap (v4_4644 + (if ((sub (sub (sub v5_4587 (1 : Int) (v5_4587.length : Int)) 0 (IntKind.i64.wrap (4 * (IntKind.i64.wrap (gt v5_4587 0))))) v4_4644 ((sub (sub v5_4587 (1 : Int) (v5_4587.length : Int)) 0 (IntKind.i64.wrap (4 * (IntKind.i64.wrap (gt v5_4587 0))))).length : Int)).length : Int) < (4 : Int) then ((sub (sub (sub v5_4587 (1 : Int) (v5_4587.length : Int)) 0 (IntKind.i64.wrap (4 * (IntKind.i64.wrap (gt v5_4587 0))))) v4_4644 ((sub (sub v5_4587 (1 : Int) (v5_4587.length : Int)) 0 (IntKind.i64.wrap (4 * (IntKind.i64.wrap (gt v5_4587 0))))).length : Int)).length : Int) else (4 : Int))))) 2))).toNat), V.int .i64 (IntKind.i64.wrap (gt (sub (sub (sub v5_4587 (1 : Int) (v5_4587.length : Int)) 0 (IntKind.i64.wrap (4 * (IntKind.i64.wrap (gt v5_4587 0))))) v4_4644 (IntKind.i64.wrap (v4_4644 + (if ((sub (sub (sub v5_4587 (1 : Int) (v5_4587.length : Int)) 0 (IntKind.i64.wrap (4 * (IntKind.i64.wrap (gt v5_4587 0))))) v4_4644 ((sub (sub v5_4587 (1 : Int) (v5_4587.length : Int)) 0 (IntKind.i64.wrap (4 * (IntKind.i64.wrap (gt v5_4587 0))))).length : Int)).length : Int) < (4 : Int) then ((sub (sub (sub v5_4587 (1 : Int) (v5_4587.length : Int)) 0 (IntKind.i64.wrap (4 * (IntKind.i64.wrap (gt v5_4587 0))))) v4_4644 ((sub (sub v5_4587 (1 : Int) (v5_4587.length : Int)) 0 (IntKind.i64.wrap (4 * (IntKind.i64.wrap (gt v5_4587 0))))).length : Int)).length : Int) else (4 : Int))))) 3))]) (fun _ hz => (.fn rfl)) ?_
            refine DAny.only (i := 20) rfl (by kernel_rfl) (.quiet rfl rfl rfl (.litM (f := api_Instr.cells) (xs := [(api_Instr.mk (IntKind.i64.wrap (gt (sub (sub (sub v5_4587 (1 : Int) (v5_4587.length : Int)) 0 (IntKind.i64.wrap (4 * (IntKind.i64.wrap (gt v5_4587 0))))) v4_4644 (IntKind.i64.wrap (v4_4644 + (if ((sub (sub (sub v5_4587 (1 : Int) (v5_4587.length : Int)) 0 (IntKind.i64.wrap (4 * (IntKind.i64.wrap (gt v5_4587 0))))) v4_4644 ((sub (sub v5_4587 (1 : Int) (v5_4587.length : Int)) 0 (IntKind.i64.wrap (4 * (IntKind.i64.wrap (gt v5_4587 0))))).length : Int)).length : Int) < (4 : Int) then ((sub (sub (sub v5_4587 (1 : Int) (v5_4587.length : Int)) 0 (IntKind.i64.wrap (4 * (IntKind.i64.wrap (gt v5_4587 0))))) v4_4644 ((sub (sub v5_4587 (1 : Int) (v5_4587.length : Int)) 0 (IntKind.i64.wrap (4 * (IntKind.i64.wrap (gt v5_4587 0))))).length : Int)).length : Int) else (4 : Int))))) 0)) (IntKind.i64.wrap (BitVec.ofInt IntKind.i64.bits (IntKind.i64.wrap ((IntKind.i64.wrap (gt (sub (sub (sub v5_4587 (1 : Int) (v5_4587.length : Int)) 0 (IntKind.i64.wrap (4 * (IntKind.i64.wrap (gt v5_4587 0))))) v4_4644 (IntKind.i64.wrap (v4_4644 + (if ((sub (sub (sub v5_4587 (1 : Int) (v5_4587.length : Int)) 0 (IntKind.i64.wrap (4 * (IntKind.i64.wrap (gt v5_4587 0))))) v4_4644 ((sub (sub v5_4587 (1 : Int) (v5_4587.length : Int)) 0 (IntKind.i64.wrap (4 * (IntKind.i64.wrap (gt v5_4587 0))))).length : Int)).length : Int) < (4 : Int) then ((sub (sub (sub v5_4587 (1 : Int) (v5_4587.length : Int)) 0 (IntKind.i64.wrap (4 * (IntKind.i64.wrap (gt v5_4587 0))))) v4_4644 ((sub (sub v5_4587 (1 : Int) (v5_4587.length : Int)) 0 (IntKind.i64.wrap (4 * (IntKind.i64.wrap (gt v5_4587 0))))).length : Int)).length : Int) else (4 : Int))))) 1)) * 2 ^ (min (Int.toNat 8) IntKind.i64.bits))) ||| BitVec.ofInt IntKind.i64.bits (IntKind.i64.wrap (gt (sub (sub (sub v5_4587 (1 : Int) (v5_4587.length : Int)) 0 (IntKind.i64.wrap (4 * (IntKind.i64.wrap (gt v5_4587 0))))) v4_4644 (IntKind.i64.wrap (v4_4644 + (if ((sub (sub (sub v5_4587 (1 : Int) (v5_4587.length : Int)) 0 (IntKind.i64.wrap (4 * (IntKind.i64.wrap (gt v5_4587 0))))) v4_4644 ((sub (sub v5_4587 (1 : Int) (v5_4587.length : Int)) 0 (IntKind.i64.wrap (4 * (IntKind.i64.wrap (gt v5_4587 0))))).length : Int)).length : Int) < (4 : Int) then ((sub (sub (sub v5_4587 (1 : Int) (v5_4587.length : Int)) 0 (IntKind.i64.wrap (4 * (IntKind.i64.wrap (gt v5_4587 0))))) v4_4644 ((sub (sub v5_4587 (1 : Int) (v5_4587.length : Int)) 0 (IntKind.i64.wrap (4 * (IntKind.i64.wrap (gt v5_4587 0))))).length : Int)).length : Int) else (4 : Int))))) 2))).toNat) (IntKind.i64.wrap (gt (sub (sub (sub v5_4587 (1 : Int) (v5_4587.length : Int)) 0 (IntKind.i64.wrap (4 * (IntKind.i64.wrap (gt v5_4587 0))))) v4_4644 (IntKind.i64.wrap (v4_4644 + (if ((sub (sub (sub v5_4587 (1 : Int) (v5_4587.length : Int)) 0 (IntKind.i64.wrap (4 * (IntKind.i64.wrap (gt v5_4587 0))))) v4_4644 ((sub (sub v5_4587 (1 : Int) (v5_4587.length : Int)) 0 (IntKind.i64.wrap (4 * (IntKind.i64.wrap (gt v5_4587 0))))).length : Int)).length : Int) < (4 : Int) then ((sub (sub (sub v5_4587 (1 : Int) (v5_4587.length : Int)) 0 (IntKind.i64.wrap (4 * (IntKind.i64.wrap (gt v5_4587 0))))) v4_4644 ((sub (sub v5_4587 (1 : Int) (v5_4587.length : Int)) 0 (IntKind.i64.wrap (4 * (IntKind.i64.wrap (gt v5_4587 0))))).length : Int)).length : Int) else (4 : Int))))) 3)))]) rfl rfl (by decide) rfl rfl rfl rfl rfl) rfl ?_)
            refine DAny.onlyS (i := 21) rfl (by kernel_rfl) rfl ?_
            refine okG h (fun hb4654 h => ?_)
            refine SafeOps.appendM api_Instr.cells (xs := v80_4645) (ys := [(api_Instr.mk (IntKind.i64.wrap (gt (sub (sub (sub v5_4587 (1 : Int) (v5_4587.length : Int)) 0 (IntKind.i64.wrap (4 * (IntKind.i64.wrap (gt v5_4587 0))))) v4_4644 (IntKind.i64.wrap (v4_4644 + (if ((sub (sub (sub v5_4587 (1 : Int) (v5_4587.length : Int)) 0 (IntKind.i64.wrap (4 * (IntKind.i64.wrap (gt v5_4587 0))))) v4_4644 ((sub (sub v5_4587 (1 : Int) (v5_4587.length : Int)) 0 (IntKind.i64.wrap (4 * (IntKind.i64.wrap (gt v5_4587 0))))).length : Int)).length : Int) < (4 : Int) then ((sub (sub (sub v5_4587 (1 : Int) (v5_4587.length : Int)) 0 (IntKind.i64.wrap (4 * (IntKind.i64.wrap (gt v5_4587 0))))) v4_4644 ((sub (sub v5_4587 (1 : Int) (v5_4587.length : Int)) 0 (IntKind.i64.wrap (4 * (IntKind.i64.wrap (gt v5_4587 0))))).length : Int)).length : Int) else (4 : Int))))) 0)) (IntKind.i64.wrap (BitVec.ofInt IntKind.i64.bits (IntKind.i64.wrap ((IntKind.i64.wrap (gt (sub (sub (sub v5_4587 (1 : Int) (v5_4587.length : Int)) 0 (IntKind.i64.wrap (4 * (IntKind.i64.wrap (gt v5_4587 0))))) v4_4644 (IntKind.i64.wrap (v4_4644 + (if ((sub (sub (sub v5_4587 (1 : Int) (v5_4587.length : Int)) 0 (IntKind.i64.wrap (4 * (IntKind.i64.wrap (gt v5_4587 0))))) v4_4644 ((sub (sub v5_4587 (1 : Int) (v5_4587.length : Int)) 0 (IntKind.i64.wrap (4 * (IntKind.i64.wrap (gt v5_4587 0))))).length : Int)).length : Int) < (4 : Int) then ((sub (sub (sub v5_4587 (1 : Int) (v5_4587.length : Int)) 0 (IntKind.i64.wrap (4 * (IntKind.i64.wrap (gt v5_4587 0))))) v4_4644 ((sub (sub v5_4587 (1 : Int) (v5_4587.length : Int)) 0 (IntKind.i64.wrap (4 * (IntKind.i64.wrap (gt v5_4587 0))))).length : Int)).length : Int) else (4 : Int))))) 1)) * 2 ^ (min (Int.toNat 8) IntKind.i64.bits))) ||| BitVec.ofInt IntKind.i64.bits (IntKind.i64.wrap (gt (sub (sub (sub v5_4587 (1 : Int) (v5_4587.length : Int)) 0 (IntKind.i64.wrap (4 * (IntKind.i64.wrap (gt v5_4587 0))))) v4_4644 (IntKind.i64.wrap (v4_4644 + (if ((sub (sub (sub v5_4587 (1 : Int) (v5_4587.length : Int)) 0 (IntKind.i64.wrap (4 * (IntKind.i64.wrap (gt v5_4587 0))))) v4_4644 ((sub (sub v5_4587 (1 : Int) (v5_4587.length : Int)) 0 (IntKind.i64.wrap (4 * (IntKind.i64.wrap (gt v5_4587 0))))).length : Int)).length : Int) < (4 : Int) then ((sub (sub (sub v5_4587 (1 : Int) (v5_4587.length : Int)) 0 (IntKind.i64.wrap (4 * (IntKind.i64.wrap (gt v5_4587 0))))) v4_4644 ((sub (sub v5_4587 (1 : Int) (v5_4587.length : Int)) 0 (IntKind.i64.wrap (4 * (IntKind.i64.wrap (gt v5_4587 0))))).length : Int)).length : Int) else (4 : Int))))) 2))).toNat) (IntKind.i64.wrap (gt (sub (sub (sub v5_4587 (1 : Int) (v5_4587.length : Int)) 0 (IntKind.i64.wrap (4 * (IntKind.i64.wrap (gt v5_4587 0))))) v4_4644 (IntKind.i64.wrap (v4_4644 + (if ((sub (sub (sub v5_4587 (1 : Int) (v5_4587.length : Int)) 0 (IntKind.i64.wrap (4 * (IntKind.i64.wrap (gt v5_4587 0))))) v4_4644 ((sub (sub v5_4587 (1 : Int) (v5_4587.length : Int)) 0 (IntKind.i64.wrap (4 * (IntKind.i64.wrap (gt v5_4587 0))))).length : Int)).length : Int) < (4 : Int) then ((sub (sub (sub v5_4587 (1 : Int) (v5_4587.length : Int)) 0 (IntKind.i64.wrap (4 * (IntKind.i64.wrap (gt v5_4587 0))))) v4_4644 ((sub (sub v5_4587 (1 : Int) (v5_4587.length : Int)) 0 (IntKind.i64.wrap (4 * (IntKind.i64.wrap (gt v5_4587 0))))).length : Int)).length : Int) else (4 : Int))))) 3)))]) E_good rfl rfl rfl rfl rfl rfl rfl rfl rfl (.own rfl) (.own rfl) (fun _ => rfl) hb4654 ?_
            refine SafeOps.nil ⟨rfl, ?_⟩
            refine DAny.only (i := 22) rfl (by kernel_rfl) (.store (z := Obj.box [V.ref [9040, 0, 29, 62] 0 (rws api_Instr.cells (v80_4645 ++ [(api_Instr.mk (IntKind.i64.wrap (gt (sub (sub (sub v5_4587 (1 : Int) (v5_4587.length : Int)) 0 (IntKind.i64.wrap (4 * (IntKind.i64.wrap (gt v5_4587 0))))) v4_4644 (IntKind.i64.wrap (v4_4644 + (if ((sub (sub (sub v5_4587 (1 : Int) (v5_4587.length : Int)) 0 (IntKind.i64.wrap (4 * (IntKind.i64.wrap (gt v5_4587 0))))) v4_4644 ((sub (sub v5_4587 (1 : Int) (v5_4587.length : Int)) 0 (IntKind.i64.wrap (4 * (IntKind.i64.wrap (gt v5_4587 0))))).length : Int)).length : Int) < (4 : Int) then ((sub (sub (sub v5_4587 (1 : Int) (v5_4587.length : Int)) 0 (IntKind.i64.wrap (4 * (IntKind.i64.wrap (gt v5_4587 0))))) v4_4644 ((sub (sub v5_4587 (1 : Int) (v5_4587.length : Int)) 0 (IntKind.i64.wrap (4 * (IntKind.i64.wrap (gt v5_4587 0))))).length : Int)).length : Int) else (4 : Int))))) 0)) (IntKind.i64.wrap (BitVec.ofInt IntKind.i64.bits (IntKind.i64.wrap ((IntKind.i64.wrap (gt (sub (sub (sub v5_4587 (1 : Int) (v5_4587.length : Int)) 0 (IntKind.i64.wrap (4 * (IntKind.i64.wrap (gt v5_4587 0))))) v4_4644 (IntKind.i64.wrap (v4_4644 + (if ((sub (sub (sub v5_4587 (1 : Int) (v5_4587.length : Int)) 0 (IntKind.i64.wrap (4 * (IntKind.i64.wrap (gt v5_4587 0))))) v4_4644 ((sub (sub v5_4587 (1 : Int) (v5_4587.length : Int)) 0 (IntKind.i64.wrap (4 * (IntKind.i64.wrap (gt v5_4587 0))))).length : Int)).length : Int) < (4 : Int) then ((sub (sub (sub v5_4587 (1 : Int) (v5_4587.length : Int)) 0 (IntKind.i64.wrap (4 * (IntKind.i64.wrap (gt v5_4587 0))))) v4_4644 ((sub (sub v5_4587 (1 : Int) (v5_4587.length : Int)) 0 (IntKind.i64.wrap (4 * (IntKind.i64.wrap (gt v5_4587 0))))).length : Int)).length : Int) else (4 : Int))))) 1)) * 2 ^ (min (Int.toNat 8) IntKind.i64.bits))) ||| BitVec.ofInt IntKind.i64.bits (IntKind.i64.wrap (gt (sub (sub (sub v5_4587 (1 : Int) (v5_4587.length : Int)) 0 (IntKind.i64.wrap (4 * (IntKind.i64.wrap (gt v5_4587 0))))) v4_4644 (IntKind.i64.wrap (v4_4644 + (if ((sub (sub (sub v5_4587 (1 : Int) (v5_4587.length : Int)) 0 (IntKind.i64.wrap (4 * (IntKind.i64.wrap (gt v5_4587 0))))) v4_4644 ((sub (sub v5_4587 (1 : Int) (v5_4587.length : Int)) 0 (IntKind.i64.wrap (4 * (IntKind.i64.wrap (gt v5_4587 0))))).length : Int)).length : Int) < (4 : Int) then ((sub (sub (sub v5_4587 (1 : Int) (v5_4587.length : Int)) 0 (IntKind.i64.wrap (4 * (IntKind.i64.wrap (gt v5_4587 0))))) v4_4644 ((sub (sub v5_4587 (1 : Int) (v5_4587.length : Int)) 0 (IntKind.i64.wrap (4 * (IntKind.i64.wrap (gt v5_4587 0))))).length : Int)).length : Int) else (4 : Int))))) 2))).toNat) (IntKind.i64.wrap (gt (sub (sub (sub v5_4587 (1 : Int) (v5_4587.length : Int)) 0 (IntKind.i64.wrap (4 * (IntKind.i64.wrap (gt v5_4587 0))))) v4_4644 (IntKind.i64.wrap (v4_4644 + (if ((sub (sub (sub v5_4587 (1 : Int) (v5_4587.length : Int)) 0 (IntKind.i64.wrap (4 * (IntKind.i64.wrap (gt v5_4587 0))))) v4_4644 ((sub (sub v5_4587 (1 : Int) (v5_4587.length : Int)) 0 (IntKind.i64.wrap (4 * (IntKind.i64.wrap (gt v5_4587 0))))).length : Int)).length : Int) < (4 : Int) then ((sub (sub (sub v5_4587 (1 : Int) (v5_4587.length : Int)) 0 (IntKind.i64.wrap (4 * (IntKind.i64.wrap (gt v5_4587 0))))) v4_4644 ((sub (sub v5_4587 (1 : Int) (v5_4587.length : Int)) 0 (IntKind.i64.wrap (4 * (IntKind.i64.wrap (gt v5_4587 0))))).length : Int)).length : Int) else (4 : Int))))) 3)))])).length]) rfl rfl rfl rfl rfl rfl rfl (.boxM (c := 1) rfl rfl (Nat.le_of_ble_eq_true rfl) rfl) rfl ?_)
            refine DAny.nil (by kernel_rfl) ?_
            repeat (first | refine Safe.seq ?_ | refine Safe.skip ?_ | with_reducible refine thenQ.n ?_ | with_reducible refine blockQ.n ?_)
            refine roundQ.go rfl rfl rfl rfl rfl ?_
            refine SafeOps.quiet0 E_good rfl rfl rfl (v := V.bool false) (.fn rfl) ?_
            refine SafeOps.nil ?_
            repeat (first | refine Safe.seq ?_ | refine Safe.skip ?_ | with_reducible refine thenQ.n ?_ | with_reducible refine blockQ.n ?_)
            refine Safe.condN rfl rfl ?_
            repeat (first | refine Safe.seq ?_ | refine Safe.skip ?_ | with_reducible refine thenQ.n ?_ | with_reducible refine blockQ.n ?_)
            refine Safe.region ?_
            refine SafeOps.quiet0 E_good rfl rfl rfl (v := V.int .i64 v4_4644) (.fn rfl) ?_
            refine SafeOps.quiet0 E_good rfl rfl rfl (v := V.int .i64 4) (.load rfl rfl (.box rfl rfl) rfl) ?_
            refine SafeOps.quiet0 E_good rfl rfl rfl (v := V.int .i64 (IntKind.i64.wrap (v4_4644 + 4))) (.fn rfl) ?_
            refine SafeOps.quiet0 E_good rfl rfl rfl (v := V.int .i64 (IntKind.i64.wrap (v4_4644 + 4))) (.fn rfl) ?_
            refine SafeOps.nil ?_
            repeat (first | refine Safe.seq ?_ | refine Safe.skip ?_ | with_reducible refine thenQ.n ?_ | with_reducible refine blockQ.n ?_)
            exact ⟨_, next_out h, (.ren [9040, 0, 29, 62] [7000, 114, 8, 0] (.cov ⟨rfl, rfl, (upT_cons (.refl _) (upT_cons (.refl _) (upT_cons (.refl _) (upT_cons (.refl _) upT_nil)))), (upOb_cons rfl (.refl _) (upOb_cons rfl (.refl _) (upOb_cons rfl (.refl _) (upOb_cons rfl (.refl _) (upOb_cons rfl (.refl _) (upOb_cons rfl (by exact .loop (upT_cons (.refl _) upT_nil)) upOb_nil)))))), (upOut_cons rfl (upT_cons (.refl _) upT_nil) (upOut_cons rfl (upT_cons (.refl _) (upT_cons (.refl _) (upT_cons (.refl _) (upT_cons (.refl _) (upT_cons (.refl _) (upT_cons (.refl _) upT_nil)))))) upOut_nil)), rfl⟩))⟩
          · skip
            refine Safe.condN rfl hc4647 ?_
            repeat (first | refine Safe.seq ?_ | refine Safe.skip ?_ | with_reducible refine thenQ.n ?_ | with_reducible refine blockQ.n ?_)
            refine Safe.exit ?_
            repeat (first | with_reducible refine thenQ.e ?_ | with_reducible refine blockQ.x rfl ?_ | with_reducible refine blockQ.y rfl ?_)
            replace h := inr_out h hr4646
            repeat (first | refine Safe.seq ?_ | refine Safe.skip ?_ | with_reducible refine thenQ.n ?_ | with_reducible refine blockQ.n ?_)
            refine rfQ.n (.inl rfl) rfl rfl (fun hbusy => by cases hbusy) ?_
            repeat (first | refine Safe.seq ?_ | refine Safe.skip ?_ | with_reducible refine thenQ.n ?_ | with_reducible refine blockQ.n ?_)
            refine Safe.gets (τ := ⟨Try.f24.ntmps, [(5, V.sl 1 (rws (fun n => [V.int .u8 n]) (sub v5_4587 (1 : Int) (v5_4587.length : Int)))), (6, V.ref [7000, 118, 6] 0 (rws (fun l => [V.sl 3 (rws api_Instr.cells l)]) v6_4588).length), (7, V.int .i64 (IntKind.i64.wrap (4 * (IntKind.i64.wrap (gt v5_4587 0))))), (8, V.ptr [8] 0 0), (19, V.int .i64 (IntKind.i64.wrap (gt a0_3816 0))), (20, V.int .i64 v20_4589)], [([8], Obj.box [V.sl 3 (rws api_Instr.cells v80_4645)]), ([39, 2], Obj.box [V.sl 1 (rws (fun n => [V.int .u8 n]) (sub (sub v5_4587 (1 : Int) (v5_4587.length : Int)) 0 (IntKind.i64.wrap (4 * (IntKind.i64.wrap (gt v5_4587 0))))))]), ([39, 3], Obj.box [V.int .i64 4]), ([7000, 118, 6], Obj.rows 1 (rws (fun l => [V.sl 3 (rws api_Instr.cells l)]) v6_4588) false)], [], []⟩) (.freeze [7000, 114, 8, 0] rfl (.cov ⟨rfl, rfl, (upT_cons (.refl _) (upT_cons (.refl _) (upT_cons (.refl _) (upT_cons (.refl _) (upT_cons (.refl _) (upT_cons (.refl _) upT_nil)))))), (upOb_cons rfl (.box (.cons (.full rfl rfl) .nil)) (upOb_cons rfl (.refl _) (upOb_cons rfl (.refl _) (upOb_cons rfl (.refl _) upOb_nil)))), upOut_nil, rfl⟩)) ?_
            repeat (first | refine Safe.seq ?_ | refine Safe.skip ?_ | with_reducible refine thenQ.n ?_ | with_reducible refine blockQ.n ?_)
            refine Safe.regionD (n := 9) [(3, [7000, 118, 6])] [] E_good mixed rfl ?_
            refine DAny.take (i := 0) rfl (by kernel_rfl) [[7000, 118, 6]] (by kernel_rfl) (by kernel_rfl) (by kernel_rfl) rfl rfl rfl (v := V.ref [7000, 118, 6] 0 (rws (fun l => [V.sl 3 (rws api_Instr.cells l)]) v6_4588).length) (fun _ hz => (.fn rfl)) ?_
            refine DAny.take (i := 1) rfl (by kernel_rfl) [[7000, 118, 6]] (by kernel_rfl) (by kernel_rfl) (by kernel_rfl) rfl rfl rfl (v := V.sl 3 (rws api_Instr.cells v80_4645)) (fun _ hz => (.load rfl rfl (.box (hz _ _ rfl rfl) rfl) rfl)) ?_
            refine DAny.take (i := 4) rfl (by kernel_rfl) [[7000, 118, 6]] (by kernel_rfl) (by kernel_rfl) (by kernel_rfl) rfl rfl rfl (v := V.sl 1 (rws (fun n => [V.int .u8 n]) (sub v5_4587 (1 : Int) (v5_4587.length : Int)))) (fun _ hz => (.fn rfl)) ?_
            refine DAny.take (i := 5) rfl (by kernel_rfl) [[7000, 118, 6]] (by kernel_rfl) (by kernel_rfl) (by kernel_rfl) rfl rfl rfl (v := V.int .i64 (IntKind.i64.wrap (4 * (IntKind.i64.wrap (gt v5_4587 0))))) (fun _ hz => (.fn rfl)) ?_
            refine okG h (fun hb4655 h => ?_)
            refine DAny.take (i := 6) rfl (by kernel_rfl) [[7000, 118, 6]] (by kernel_rfl) (by kernel_rfl) (by kernel_rfl) rfl rfl rfl (v := V.sl 1 (rws (fun n => [V.int .u8 n]) (sub (sub v5_4587 (1 : Int) (v5_4587.length : Int)) (IntKind.i64.wrap (4 * (IntKind.i64.wrap (gt v5_4587 0)))) ((sub v5_4587 (1 : Int) (v5_4587.length : Int)).length : Int)))) (fun _ hz => (.slL (f := (fun n => [V.int .u8 n])) rfl rfl rfl rfl rfl hb4655)) ?_
            refine DAny.only (i := 2) rfl (by kernel_rfl) (.quiet rfl rfl rfl (.litM (f := (fun l => [V.sl 3 (rws api_Instr.cells l)])) (xs := [v80_4645]) rfl rfl (by decide) rfl rfl rfl rfl rfl) rfl ?_)
            refine okG h (fun hb4656 h => ?_)
            refine DAny.only (i := 3) rfl (by kernel_rfl) (.appendM (fun l => [V.sl 3 (rws api_Instr.cells l)]) (xs := v6_4588) (ys := [v80_4645]) rfl rfl rfl rfl rfl rfl rfl rfl rfl (.own rfl) (.own rfl) (fun _ => rfl) hb4656 rfl ?_)
            refine DAny.take (i := 7) rfl (by kernel_rfl) [[7000, 118, 6]] (by kernel_rfl) (by kernel_rfl) (by kernel_rfl) rfl rfl rfl (v := V.ref [66] 0 (rws (fun l => [V.sl 3 (rws api_Instr.cells l)]) (v6_4588 ++ [v80_4645])).length) (fun _ hz => (.fn rfl)) ?_
            refine DAny.take (i := 8) rfl (by kernel_rfl) [[7000, 118, 6]] (by kernel_rfl) (by kernel_rfl) (by kernel_rfl) rfl rfl rfl (v := V.sl 1 (rws (fun n => [V.int .u8 n]) (sub (sub v5_4587 (1 : Int) (v5_4587.length : Int)) (IntKind.i64.wrap (4 * (IntKind.i64.wrap (gt v5_4587 0)))) ((sub v5_4587 (1 : Int) (v5_4587.length : Int)).length : Int)))) (fun _ hz => (.fn rfl)) ?_
            refine DAny.nil (by kernel_rfl) ?_
            repeat (first | refine Safe.seq ?_ | refine Safe.skip ?_ | with_reducible refine thenQ.n ?_ | with_reducible refine blockQ.n ?_)
            refine Safe.region ?_
            refine SafeOps.quiet0 E_good rfl rfl rfl (v := V.int .i64 (IntKind.i64.wrap (v20_4589 + 1))) (.fn rfl) ?_
            refine SafeOps.quiet0 E_good rfl rfl rfl (v := V.int .i64 (IntKind.i64.wrap (v20_4589 + 1))) (.fn rfl) ?_
            refine SafeOps.nil ?_
            repeat (first | refine Safe.seq ?_ | refine Safe.skip ?_ | with_reducible refine thenQ.n ?_ | with_reducible refine blockQ.n ?_)
            exact ⟨_, next_out h, (.ren [66] [7000, 118, 6] (.cov ⟨rfl, rfl, (upT_cons (.refl _) (upT_cons (.refl _) (upT_cons (.refl _) (upT_cons (.refl _) upT_nil)))), (upOb_cons rfl (.refl _) upOb_nil), upOut_nil, rfl⟩))⟩
    · skip
      refine Safe.condN rfl hc4591 ?_
      repeat (first | refine Safe.seq ?_ | refine Safe.skip ?_ | with_reducible refine thenQ.n ?_ | with_reducible refine blockQ.n ?_)
      refine Safe.exit ?_
      repeat (first | with_reducible refine thenQ.e ?_ | with_reducible refine blockQ.x rfl ?_ | with_reducible refine blockQ.y rfl ?_)
      replace h := inr_out h hr4590
      repeat (first | refine Safe.seq ?_ | refine Safe.skip ?_ | with_reducible refine thenQ.n ?_ | with_reducible refine blockQ.n ?_)
      refine Safe.region ?_
      refine SafeOps.quiet0 E_good rfl rfl rfl (v := V.sl 1 (rws (fun n => [V.int .u8 n]) v5_4587)) (.fn rfl) ?_
      refine SafeOps.quiet0 E_good rfl rfl rfl (v := V.int .i64 (v5_4587.length : Int)) (.fnE rfl lenE) ?_
      refine SafeOps.quiet0 E_good rfl rfl rfl (v := V.bool (decide ((v5_4587.length : Int) > 0))) (.fn rfl) ?_
      refine SafeOps.quiet0 E_good rfl rfl rfl (v := V.bool (decide ((v5_4587.length : Int) > 0))) (.fn rfl) ?_
      refine ifG h (fun hc4657 h => ?_) (fun hc4657 h => ?_)
      · skip
        refine SafeOps.skip (congrArg (fun b => some (!b)) hc4657) rfl rfl ?_
        refine SafeOps.skip (congrArg (fun b => some (!b)) hc4657) rfl rfl ?_
        refine SafeOps.skip (congrArg (fun b => some (!b)) hc4657) rfl rfl ?_
        refine SafeOps.quiet0 E_good rfl rfl rfl (v := V.bool true) (.pickK rfl hc4657 rfl) ?_
        refine SafeOps.nil ?_
        repeat (first | refine Safe.seq ?_ | refine Safe.skip ?_ | with_reducible refine thenQ.n ?_ | with_reducible refine blockQ.n ?_)
        refine Safe.condK rfl rfl ?_
        repeat (first | refine Safe.seq ?_ | refine Safe.skip ?_ | with_reducible refine thenQ.n ?_ | with_reducible refine blockQ.n ?_)
        refine Safe.region ?_
        refine SafeOps.quiet0 E_good rfl rfl rfl (v := V.nils) (.fn rfl) ?_
        refine SafeOps.quiet0 E_good rfl rfl rfl (v := V.int .i64 2) (.fn rfl) ?_
        refine SafeOps.nil ?_
        repeat (first | refine Safe.seq ?_ | refine Safe.skip ?_ | with_reducible refine thenQ.n ?_ | with_reducible refine blockQ.n ?_)
        refine Safe.ret ?_
        repeat (first | with_reducible refine thenQ.r ?_ | with_reducible refine blockQ.r ?_)
        obtain rfl := Option.some.inj h
        exact retQ.gen (vs := [V.nils, V.int .i64 2]) rfl (.tmp (v := V.nils) rfl (.tmp (v := V.int .i64 2) rfl .nil)) (by exact (.tup (.cons (.nils _) (.cons (.free rfl) .nil)))) (by simp) (.inr rfl)
      · skip
        refine SafeOps.quiet0 E_good (congrArg (fun b => some (!b)) hc4657) rfl rfl (v := V.ref [7000, 118, 6] 0 (rws (fun l => [V.sl 3 (rws api_Instr.cells l)]) v6_4588).length) (.fn rfl) ?_
        refine bindG h ?_
        intro x_4660 he4661 h
        refine SafeOps.quiet0 E_good (congrArg (fun b => some (!b)) hc4657) rfl rfl (v := V.int .i64 x_4660) (.callS rfl (.cons (.full rfl rfl) .nil) (go_code_CheckAll_sc v6_4588 _ he4661) (.plain rfl) rfl) ?_
        refine SafeOps.quiet0 E_good (congrArg (fun b => some (!b)) hc4657) rfl rfl (v := V.bool (x_4660 != 0)) (.fn rfl) ?_
        refine SafeOps.quiet0 E_good rfl rfl rfl (v := V.bool (x_4660 != 0)) (.pickK rfl hc4657 rfl) ?_
        refine SafeOps.nil ?_
        repeat (first | refine Safe.seq ?_ | refine Safe.skip ?_ | with_reducible refine thenQ.n ?_ | with_reducible refine blockQ.n ?_)
        refine ifG h (fun hc4662 h => ?_) (fun hc4662 h => ?_)
        · skip
          refine Safe.condK rfl hc4662 ?_
          repeat (first | refine Safe.seq ?_ | refine Safe.skip ?_ | with_reducible refine thenQ.n ?_ | with_reducible refine blockQ.n ?_)
          refine Safe.region ?_
          refine SafeOps.quiet0 E_good rfl rfl rfl (v := V.nils) (.fn rfl) ?_
          refine SafeOps.quiet0 E_good rfl rfl rfl (v := V.int .i64 2) (.fn rfl) ?_
          refine SafeOps.nil ?_
          repeat (first | refine Safe.seq ?_ | refine Safe.skip ?_ | with_reducible refine thenQ.n ?_ | with_reducible refine blockQ.n ?_)
          refine Safe.ret ?_
          repeat (first | with_reducible refine thenQ.r ?_ | with_reducible refine blockQ.r ?_)
          obtain rfl := Option.some.inj h
          exact retQ.gen (vs := [V.nils, V.int .i64 2]) rfl (.tmp (v := V.nils) rfl (.tmp (v := V.int .i64 2) rfl .nil)) (by exact (.tup (.cons (.nils _) (.cons (.free rfl) .nil)))) (by simp) (.inr rfl)
        · skip
          refine Safe.condN rfl hc4662 ?_
          repeat (first | refine Safe.seq ?_ | refine Safe.skip ?_ | with_reducible refine thenQ.n ?_ | with_reducible refine blockQ.n ?_)
          refine Safe.region ?_
          refine SafeOps.quiet0 E_good rfl rfl rfl (v := V.ref [7000, 118, 6] 0 (rws (fun l => [V.sl 3 (rws api_Instr.cells l)]) v6_4588).length) (.fn rfl) ?_
          refine SafeOps.quiet0 E_good rfl rfl rfl (v := V.ref [7000, 118, 6] 0 (rws (fun l => [V.sl 3 (rws api_Instr.cells l)]) v6_4588).length) (.fn rfl) ?_
          refine SafeOps.quiet0 E_good rfl rfl rfl (v := V.int .i64 0) (.fn rfl) ?_
          refine SafeOps.nil ?_
          repeat (first | refine Safe.seq ?_ | refine Safe.skip ?_ | with_reducible refine thenQ.n ?_ | with_reducible refine blockQ.n ?_)
          refine Safe.ret ?_
          repeat (first | with_reducible refine thenQ.r ?_ | with_reducible refine blockQ.r ?_)
          obtain rfl := Option.some.inj h
          exact retQ.gen (vs := [V.ref [7000, 118, 6] 0 (rws (fun l => [V.sl 3 (rws api_Instr.cells l)]) v6_4588).length, V.int .i64 0]) rfl (.tmp (v := V.ref [7000, 118, 6] 0 (rws (fun l => [V.sl 3 (rws api_Instr.cells l)]) v6_4588).length) rfl (.tmp (v := V.int .i64 0) rfl .nil)) (by exact (.tup (.cons (.own rfl rfl) (.cons (.free rfl) .nil)))) (by simp) (.inr rfl)

noncomputable def go_ravelref04_Read_s14 (a0_4666 : List Int) (v4_5296 : Int) (v5_5297 : List (List api_Instr)) (v16_5298 : Int) : ((List api_Instr) × Int) → Option (((List api_Instr) × Int) ⊕ ((Int × (List (List api_Instr)) × Int) ⊕ ((List (List api_Instr)) × Int)))
  | (v6_5343, v41_5344) =>
    if (decide (v41_5344 < (IntKind.i64.wrap (gt a0_4666 v4_5296)))) = true then
      if 0 ≤ (IntKind.i64.wrap ((IntKind.i64.wrap (v4_5296 + 1)) + (IntKind.i64.wrap (4 * v41_5344)))) ∧ (IntKind.i64.wrap ((IntKind.i64.wrap (v4_5296 + 1)) + (IntKind.i64.wrap (4 * v41_5344)))) < (a0_4666.length : Int) then
        if 0 ≤ (IntKind.i64.wrap ((IntKind.i64.wrap ((IntKind.i64.wrap (v4_5296 + 1)) + (IntKind.i64.wrap (4 * v41_5344)))) + 1)) ∧ (IntKind.i64.wrap ((IntKind.i64.wrap ((IntKind.i64.wrap (v4_5296 + 1)) + (IntKind.i64.wrap (4 * v41_5344)))) + 1)) < (a0_4666.length : Int) then
          if 0 ≤ (IntKind.i64.wrap ((IntKind.i64.wrap ((IntKind.i64.wrap (v4_5296 + 1)) + (IntKind.i64.wrap (4 * v41_5344)))) + 2)) ∧ (IntKind.i64.wrap ((IntKind.i64.wrap ((IntKind.i64.wrap (v4_5296 + 1)) + (IntKind.i64.wrap (4 * v41_5344)))) + 2)) < (a0_4666.length : Int) then
            if 0 ≤ (IntKind.i64.wrap ((IntKind.i64.wrap ((IntKind.i64.wrap (v4_5296 + 1)) + (IntKind.i64.wrap (4 * v41_5344)))) + 3)) ∧ (IntKind.i64.wrap ((IntKind.i64.wrap ((IntKind.i64.wrap (v4_5296 + 1)) + (IntKind.i64.wrap (4 * v41_5344)))) + 3)) < (a0_4666.length : Int) then
              if few (v6_5343 ++ [(api_Instr.mk (IntKind.i64.wrap (gt a0_4666 (IntKind.i64.wrap ((IntKind.i64.wrap (v4_5296 + 1)) + (IntKind.i64.wrap (4 * v41_5344)))))) (IntKind.i64.wrap ((IntKind.i64.wrap (256 * (IntKind.i64.wrap (gt a0_4666 (IntKind.i64.wrap ((IntKind.i64.wrap ((IntKind.i64.wrap (v4_5296 + 1)) + (IntKind.i64.wrap (4 * v41_5344)))) + 1)))))) + (IntKind.i64.wrap (gt a0_4666 (IntKind.i64.wrap ((IntKind.i64.wrap ((IntKind.i64.wrap (v4_5296 + 1)) + (IntKind.i64.wrap (4 * v41_5344)))) + 2)))))) (IntKind.i64.wrap (gt a0_4666 (IntKind.i64.wrap ((IntKind.i64.wrap ((IntKind.i64.wrap (v4_5296 + 1)) + (IntKind.i64.wrap (4 * v41_5344)))) + 3)))))]).length then
                nextO (v6_5343 ++ [(api_Instr.mk (IntKind.i64.wrap (gt a0_4666 (IntKind.i64.wrap ((IntKind.i64.wrap (v4_5296 + 1)) + (IntKind.i64.wrap (4 * v41_5344)))))) (IntKind.i64.wrap ((IntKind.i64.wrap (256 * (IntKind.i64.wrap (gt a0_4666 (IntKind.i64.wrap ((IntKind.i64.wrap ((IntKind.i64.wrap (v4_5296 + 1)) + (IntKind.i64.wrap (4 * v41_5344)))) + 1)))))) + (IntKind.i64.wrap (gt a0_4666 (IntKind.i64.wrap ((IntKind.i64.wrap ((IntKind.i64.wrap (v4_5296 + 1)) + (IntKind.i64.wrap (4 * v41_5344)))) + 2)))))) (IntKind.i64.wrap (gt a0_4666 (IntKind.i64.wrap ((IntKind.i64.wrap ((IntKind.i64.wrap (v4_5296 + 1)) + (IntKind.i64.wrap (4 * v41_5344)))) + 3)))))], IntKind.i64.wrap (v41_5344 + 1))
              else none
            else none
          else none
        else none
      else none
    else
      inrO (
        if 0 ≤ v4_5296 ∧ v4_5296 < (a0_4666.length : Int) then
          if few (v5_5297 ++ [v6_5343]).length then
            nextO (IntKind.i64.wrap (v4_5296 + (IntKind.i64.wrap (1 + (IntKind.i64.wrap (4 * (IntKind.i64.wrap (gt a0_4666 v4_5296))))))), v5_5297 ++ [v6_5343], IntKind.i64.wrap (v16_5298 + 1))
          else none
        else none)

noncomputable def go_ravelref04_Read_s12 (a0_4666 : List Int) : (Int × (List (List api_Instr)) × Int) → Option ((Int × (List (List api_Instr)) × Int) ⊕ ((List (List api_Instr)) × Int))
  | (v4_5296, v5_5297, v16_5298) =>
    if (decide (v16_5298 < (IntKind.i64.wrap (gt a0_4666 0)))) = true then
      if (decide (v4_5296 ≥ (a0_4666.length : Int))) = true then
        inrO (
          some ([], 2))
      else
        if 0 ≤ v4_5296 ∧ v4_5296 < (a0_4666.length : Int) then
          if (decide ((IntKind.i64.wrap ((IntKind.i64.wrap (v4_5296 + 1)) + (IntKind.i64.wrap (4 * (IntKind.i64.wrap (gt a0_4666 v4_5296)))))) > (a0_4666.length : Int))) = true then
            inrO (
              some ([], 2))
          else
            if 0 ≤ v4_5296 ∧ v4_5296 < (a0_4666.length : Int) then
              whileO (go_ravelref04_Read_s14 a0_4666 v4_5296 v5_5297 v16_5298) ([], 0)
            else none
        else none
    else
      inrO (
        if (v4_5296 != (a0_4666.length : Int)) = true then
          some ([], 2)
        else
          (go_ravelref04_CheckAll v5_5297).bind fun x_5357 =>
          if (x_5357 != 0) = true then
            some ([], 2)
          else
            some (v5_5297, 0))

noncomputable def go_ravelref04_Read (a0_4666 : List Int) : Option ((List (List api_Instr)) × Int) :=
  if ((a0_4666.length : Int) == 0) = true then
    some ([], 2)
  else
    if 0 ≤ (0 : Int) ∧ (0 : Int) < (a0_4666.length : Int) then
      whileO (go_ravelref04_Read_s12 a0_4666) (1, [], 0)
    else none

theorem go_ravelref04_Read_sc (a0_4666 : List Int) (r : (List (List api_Instr)) × Int) (h : go_ravelref04_Read a0_4666 = some r) : SC Try.prog gl 25 [V.sl 1 (rws (fun n => [V.int .u8 n]) a0_4666)] (V.tup [V.own 1 (rws (fun l => [V.sl 3 (rws api_Instr.cells l)]) r.1), V.int .i64 r.2]) := by
  rw [go_ravelref04_Read] at h
  refine SC.of E_good Try.func25 rfl (fun _ _ => Try.call25 _ _) rfl ?_
  repeat (first | refine Safe.seq ?_ | refine Safe.skip ?_ | with_reducible refine thenQ.n ?_ | with_reducible refine blockQ.n ?_)
  refine Safe.region ?_
  refine SafeOps.quiet0 E_good rfl rfl rfl (v := V.nils) (.fn rfl) ?_
  refine SafeOps.quiet0 E_good rfl rfl rfl (v := V.int .i64 0) (.fn rfl) ?_
  refine SafeOps.nil ?_
  repeat (first | refine Safe.seq ?_ | refine Safe.skip ?_ | with_reducible refine thenQ.n ?_ | with_reducible refine blockQ.n ?_)
  refine Safe.region ?_
  refine SafeOps.quiet0 E_good rfl rfl rfl (v := V.sl 1 (rws (fun n => [V.int .u8 n]) a0_4666)) (.fn rfl) ?_
  refine SafeOps.quiet0 E_good rfl rfl rfl (v := V.int .i64 (a0_4666.length : Int)) (.fnE rfl lenE) ?_
  refine SafeOps.quiet0 E_good rfl rfl rfl (v := V.bool ((a0_4666.length : Int) == 0)) (.fn rfl) ?_
  refine SafeOps.nil ?_
  repeat (first | refine Safe.seq ?_ | refine Safe.skip ?_ | with_reducible refine thenQ.n ?_ | with_reducible refine blockQ.n ?_)
  refine ifG h (fun hc5014 h => ?_) (fun hc5014 h => ?_)
  · skip
    refine Safe.condK rfl hc5014 ?_
    repeat (first | refine Safe.seq ?_ | refine Safe.skip ?_ | with_reducible refine thenQ.n ?_ | with_reducible refine blockQ.n ?_)
    refine Safe.region ?_
    refine SafeOps.quiet0 E_good rfl rfl rfl (v := V.nils) (.fn rfl) ?_
    refine SafeOps.quiet0 E_good rfl rfl rfl (v := V.int .i64 2) (.fn rfl) ?_
    refine SafeOps.nil ?_
    repeat (first | refine Safe.seq ?_ | refine Safe.skip ?_ | with_reducible refine thenQ.n ?_ | with_reducible refine blockQ.n ?_)
    refine Safe.ret ?_
    repeat (first | with_reducible refine thenQ.r ?_ | with_reducible refine blockQ.r ?_)
    obtain rfl := Option.some.inj h
    exact retQ.gen (vs := [V.nils, V.int .i64 2]) rfl (.tmp (v := V.nils) rfl (.tmp (v := V.int .i64 2) rfl .nil)) (by exact (.tup (.cons (.nils _) (.cons (.free rfl) .nil)))) (by simp) (.inr rfl)
  · skip
    refine Safe.condN rfl hc5014 ?_
    repeat (first | refine Safe.seq ?_ | refine Safe.skip ?_ | with_reducible refine thenQ.n ?_ | with_reducible refine blockQ.n ?_)
    refine Safe.region ?_
    refine SafeOps.quiet0 E_good rfl rfl rfl (v := V.int .i64 1) (.fn rfl) ?_
    refine SafeOps.nil ?_
    repeat (first | refine Safe.seq ?_ | refine Safe.skip ?_ | with_reducible refine thenQ.n ?_ | with_reducible refine blockQ.n ?_)
    refine Safe.region ?_
    refine SafeOps.quiet0 E_good rfl rfl rfl (v := V.nils) (.fn rfl) ?_
    refine SafeOps.nil ?_
    repeat (first | refine Safe.seq ?_ | refine Safe.skip ?_ | with_reducible refine thenQ.n ?_ | with_reducible refine blockQ.n ?_)
    refine Safe.region ?_
    refine SafeOps.quiet0 E_good rfl rfl rfl (v := V.sl 1 (rws (fun n => [V.int .u8 n]) a0_4666)) (.fn rfl) ?_
    refine okG h (fun hb5015 h => ?_)
    refine SafeOps.quiet0 E_good rfl rfl rfl (v := V.spt 1 (rws (fun n => [V.int .u8 n]) a0_4666) (Int.toNat 0) 0) (.idxSlM (f := (fun n => [V.int .u8 n])) rfl rfl rfl rfl rfl hb5015) ?_
    refine SafeOps.quiet0 E_good rfl rfl rfl (v := V.int .u8 (gt a0_4666 0)) (.load rfl rfl (.sptM (f := (fun n => [V.int .u8 n])) hb5015 rfl) rfl) ?_
    refine SafeOps.quiet0 E_good rfl rfl rfl (v := V.int .i64 (IntKind.i64.wrap (gt a0_4666 0))) (.fn rfl) ?_
    refine SafeOps.quiet0 E_good rfl rfl rfl (v := V.int .i64 0) (.fn rfl) ?_
    refine SafeOps.nil ?_
    repeat (first | refine Safe.seq ?_ | refine Safe.skip ?_ | with_reducible refine thenQ.n ?_ | with_reducible refine blockQ.n ?_)
    refine Safe.block ?_
    repeat (first | refine Safe.seq ?_ | refine Safe.skip ?_ | with_reducible refine thenQ.n ?_ | with_reducible refine blockQ.n ?_)
    refine Safe.loopW (fun ((v4_5296, v5_5297, v16_5298) : Int × (List (List api_Instr)) × Int) => ⟨Try.f25.ntmps, [(0, V.sl 1 (rws (fun n => [V.int .u8 n]) a0_4666)), (4, V.int .i64 v4_5296), (5, V.ref [7000, 118, 5] 0 (rws (fun l => [V.sl 3 (rws api_Instr.cells l)]) v5_5297).length), (15, V.int .i64 (IntKind.i64.wrap (gt a0_4666 0))), (16, V.int .i64 v16_5298)], [([7000, 118, 5], Obj.rows 1 (rws (fun l => [V.sl 3 (rws api_Instr.cells l)]) v5_5297) false)], [], []⟩) h (.empty [7000, 118, 5] 1 rfl (.cov ⟨rfl, rfl, (upT_cons (.refl _) (upT_cons (.refl _) (upT_cons (.nilref _) (upT_cons (.refl _) (upT_cons (.refl _) upT_nil))))), (upOb_cons rfl (.refl _) upOb_nil), upOut_nil, rfl⟩)) ?_
    rintro ⟨v4_5296, v5_5297, v16_5298⟩ ohr5299 h hr5299
    replace h : go_ravelref04_Read_s12 a0_4666 (v4_5296, v5_5297, v16_5298) = some ohr5299 := h
    rw [go_ravelref04_Read_s12] at h
    repeat (first | refine Safe.seq ?_ | refine Safe.skip ?_ | with_reducible refine thenQ.n ?_ | with_reducible refine blockQ.n ?_)
    refine Safe.region ?_
    refine SafeOps.quiet0 E_good rfl rfl rfl (v := V.bool (decide (v16_5298 < (IntKind.i64.wrap (gt a0_4666 0))))) (.fn rfl) ?_
    refine SafeOps.nil ?_
    repeat (first | refine Safe.seq ?_ | refine Safe.skip ?_ | with_reducible refine thenQ.n ?_ | with_reducible refine blockQ.n ?_)
    refine ifG h (fun hc5300 h => ?_) (fun hc5300 h => ?_)
    · skip
      refine Safe.condK rfl hc5300 ?_
      repeat (first | refine Safe.seq ?_ | refine Safe.skip ?_ | with_reducible refine thenQ.n ?_ | with_reducible refine blockQ.n ?_)
      refine Safe.block ?_
      repeat (first | refine Safe.seq ?_ | refine Safe.skip ?_ | with_reducible refine thenQ.n ?_ | with_reducible refine blockQ.n ?_)
      refine Safe.region ?_
      refine SafeOps.quiet0 E_good rfl rfl rfl (v := V.int .i64 v4_5296) (.fn rfl) ?_
      refine SafeOps.quiet0 E_good rfl rfl rfl (v := V.sl 1 (rws (fun n => [V.int .u8 n]) a0_4666)) (.fn rfl) ?_
      refine SafeOps.quiet0 E_good rfl rfl rfl (v := V.int .i64 (a0_4666.length : Int)) (.fnE rfl lenE) ?_
      refine SafeOps.quiet0 E_good rfl rfl rfl (v := V.bool (decide (v4_5296 ≥ (a0_4666.length : Int)))) (.fn rfl) ?_
      refine SafeOps.quiet0 E_good rfl rfl rfl (v := V.bool (decide (v4_5296 ≥ (a0_4666.length : Int)))) (.fn rfl) ?_
      refine ifG h (fun hc5301 h => ?_) (fun hc5301 h => ?_)
      · skip
        refine SafeOps.skip (congrArg (fun b => some (!b)) hc5301) rfl rfl ?_
        refine SafeOps.skip (congrArg (fun b => some (!b)) hc5301) rfl rfl ?_
        refine SafeOps.skip (congrArg (fun b => some (!b)) hc5301) rfl rfl ?_
        refine SafeOps.skip (congrArg (fun b => some (!b)) hc5301) rfl rfl ?_
        refine SafeOps.skip (congrArg (fun b => some (!b)) hc5301) rfl rfl ?_
        refine SafeOps.skip (congrArg (fun b => some (!b)) hc5301) rfl rfl ?_
        refine SafeOps.skip (congrArg (fun b => some (!b)) hc5301) rfl rfl ?_
        refine SafeOps.skip (congrArg (fun b => some (!b)) hc5301) rfl rfl ?_
        refine SafeOps.skip (congrArg (fun b => some (!b)) hc5301) rfl rfl ?_
        refine SafeOps.skip (congrArg (fun b => some (!b)) hc5301) rfl rfl ?_
        refine SafeOps.skip (congrArg (fun b => some (!b)) hc5301) rfl rfl ?_
        refine SafeOps.skip (congrArg (fun b => some (!b)) hc5301) rfl rfl ?_
        refine SafeOps.quiet0 E_good rfl rfl rfl (v := V.bool true) (.pickK rfl hc5301 rfl) ?_
        refine SafeOps.nil ?_
        repeat (first | refine Safe.seq ?_ | refine Safe.skip ?_ | with_reducible refine thenQ.n ?_ | with_reducible refine blockQ.n ?_)
        refine Safe.condK rfl rfl ?_
        repeat (first | refine Safe.seq ?_ | refine Safe.skip ?_ | with_reducible refine thenQ.n ?_ | with_reducible refine blockQ.n ?_)
        refine Safe.region ?_
        refine SafeOps.quiet0 E_good rfl rfl rfl (v := V.nils) (.fn rfl) ?_
        refine SafeOps.quiet0 E_good rfl rfl rfl (v := V.int .i64 2) (.fn rfl) ?_
        refine SafeOps.nil ?_
        repeat (first | refine Safe.seq ?_ | refine Safe.skip ?_ | with_reducible refine thenQ.n ?_ | with_reducible refine blockQ.n ?_)
        refine Safe.ret ?_
        repeat (first | with_reducible refine thenQ.r ?_ | with_reducible refine blockQ.r ?_)
        replace h := inr_out h hr5299
        obtain rfl := Option.some.inj h
        exact retQ.gen (vs := [V.nils, V.int .i64 2]) rfl (.tmp (v := V.nils) rfl (.tmp (v := V.int .i64 2) rfl .nil)) (by exact (.tup (.cons (.nils _) (.cons (.free rfl) .nil)))) (by simp) (.inr rfl)
      · skip
        refine SafeOps.quiet0 E_good (congrArg (fun b => some (!b)) hc5301) rfl rfl (v := V.int .i64 v4_5296) (.fn rfl) ?_
        refine SafeOps.quiet0 E_good (congrArg (fun b => some (!b)) hc5301) rfl rfl (v := V.int .i64 (IntKind.i64.wrap (v4_5296 + 1))) (.fn rfl) ?_
        refine SafeOps.quiet0 E_good (congrArg (fun b => some (!b)) hc5301) rfl rfl (v := V.sl 1 (rws (fun n => [V.int .u8 n]) a0_4666)) (.fn rfl) ?_
        refine SafeOps.quiet0 E_good (congrArg (fun b => some (!b)) hc5301) rfl rfl (v := V.int .i64 v4_5296) (.fn rfl) ?_
        refine okG h (fun hb5303 h => ?_)
        refine SafeOps.quiet0 E_good (congrArg (fun b => some (!b)) hc5301) rfl rfl (v := V.spt 1 (rws (fun n => [V.int .u8 n]) a0_4666) (Int.toNat v4_5296) 0) (.idxSlM (f := (fun n => [V.int .u8 n])) rfl rfl rfl rfl rfl hb5303) ?_
        refine SafeOps.quiet0 E_good (congrArg (fun b => some (!b)) hc5301) rfl rfl (v := V.int .u8 (gt a0_4666 v4_5296)) (.load rfl rfl (.sptM (f := (fun n => [V.int .u8 n])) hb5303 rfl) rfl) ?_
        refine SafeOps.quiet0 E_good (congrArg (fun b => some (!b)) hc5301) rfl rfl (v := V.int .i64 (IntKind.i64.wrap (gt a0_4666 v4_5296))) (.fn rfl) ?_
        refine SafeOps.quiet0 E_good (congrArg (fun b => some (!b)) hc5301) rfl rfl (v := V.int .i64 (IntKind.i64.wrap (4 * (IntKind.i64.wrap (gt a0_4666 v4_5296))))) (.fn rfl) ?_
        refine SafeOps.quiet0 E_good (congrArg (fun b => some (!b)) hc5301) rfl rfl (v := V.int .i64 (IntKind.i64.wrap ((IntKind.i64.wrap (v4_5296 + 1)) + (IntKind.i64.wrap (4 * (IntKind.i64.wrap (gt a0_4666 v4_5296))))))) (.fn rfl) ?_
        refine SafeOps.quiet0 E_good (congrArg (fun b => some (!b)) hc5301) rfl rfl (v := V.sl 1 (rws (fun n => [V.int .u8 n]) a0_4666)) (.fn rfl) ?_
        refine SafeOps.quiet0 E_good (congrArg (fun b => some (!b)) hc5301) rfl rfl (v := V.int .i64 (a0_4666.length : Int)) (.fnE rfl lenE) ?_
        refine SafeOps.quiet0 E_good (congrArg (fun b => some (!b)) hc5301) rfl rfl (v := V.bool (decide ((IntKind.i64.wrap ((IntKind.i64.wrap (v4_5296 + 1)) + (IntKind.i64.wrap (4 * (IntKind.i64.wrap (gt a0_4666 v4_5296)))))) > (a0_4666.length : Int)))) (.fn rfl) ?_
        refine SafeOps.quiet0 E_good rfl rfl rfl (v := V.bool (decide ((IntKind.i64.wrap ((IntKind.i64.wrap (v4_5296 + 1)) + (IntKind.i64.wrap (4 * (IntKind.i64.wrap (gt a0_4666 v4_5296)))))) > (a0_4666.length : Int)))) (.pickK rfl hc5301 rfl) ?_
        refine SafeOps.nil ?_
        repeat (first | refine Safe.seq ?_ | refine Safe.skip ?_ | with_reducible refine thenQ.n ?_ | with_reducible refine blockQ.n ?_)
        refine ifG h (fun hc5304 h => ?_) (fun hc5304 h => ?_)
        · skip
          refine Safe.condK rfl hc5304 ?_
          repeat (first | refine Safe.seq ?_ | refine Safe.skip ?_ | with_reducible refine thenQ.n ?_ | with_reducible refine blockQ.n ?_)
          refine Safe.region ?_
          refine SafeOps.quiet0 E_good rfl rfl rfl (v := V.nils) (.fn rfl) ?_
          refine SafeOps.quiet0 E_good rfl rfl rfl (v := V.int .i64 2) (.fn rfl) ?_
          refine SafeOps.nil ?_
          repeat (first | refine Safe.seq ?_ | refine Safe.skip ?_ | with_reducible refine thenQ.n ?_ | with_reducible refine blockQ.n ?_)
          refine Safe.ret ?_
          repeat (first | with_reducible refine thenQ.r ?_ | with_reducible refine blockQ.r ?_)
          replace h := inr_out h hr5299
          obtain rfl := Option.some.inj h
          exact retQ.gen (vs := [V.nils, V.int .i64 2]) rfl (.tmp (v := V.nils) rfl (.tmp (v := V.int .i64 2) rfl .nil)) (by exact (.tup (.cons (.nils _) (.cons (.free rfl) .nil)))) (by simp) (.inr rfl)
        · skip
          refine Safe.condN rfl hc5304 ?_
          repeat (first | refine Safe.seq ?_ | refine Safe.skip ?_ | with_reducible refine thenQ.n ?_ | with_reducible refine blockQ.n ?_)
          refine Safe.region ?_
          refine SafeOps.quiet0 E_good rfl rfl rfl (v := V.nils) (.fn rfl) ?_
          refine SafeOps.nil ?_
          repeat (first | refine Safe.seq ?_ | refine Safe.skip ?_ | with_reducible refine thenQ.n ?_ | with_reducible refine blockQ.n ?_)
          refine Safe.region ?_
          refine SafeOps.quiet0 E_good rfl rfl rfl (v := V.sl 1 (rws (fun n => [V.int .u8 n]) a0_4666)) (.fn rfl) ?_
          refine SafeOps.quiet0 E_good rfl rfl rfl (v := V.int .i64 v4_5296) (.fn rfl) ?_
          refine okG h (fun hb5305 h => ?_)
          refine SafeOps.quiet0 E_good rfl rfl rfl (v := V.spt 1 (rws (fun n => [V.int .u8 n]) a0_4666) (Int.toNat v4_5296) 0) (.idxSlM (f := (fun n => [V.int .u8 n])) rfl rfl rfl rfl rfl hb5305) ?_
          refine SafeOps.quiet0 E_good rfl rfl rfl (v := V.int .u8 (gt a0_4666 v4_5296)) (.load rfl rfl (.sptM (f := (fun n => [V.int .u8 n])) hb5305 rfl) rfl) ?_
          refine SafeOps.quiet0 E_good rfl rfl rfl (v := V.int .i64 (IntKind.i64.wrap (gt a0_4666 v4_5296))) (.fn rfl) ?_
          refine SafeOps.quiet0 E_good rfl rfl rfl (v := V.int .i64 0) (.fn rfl) ?_
          refine SafeOps.nil ?_
          repeat (first | refine Safe.seq ?_ | refine Safe.skip ?_ | with_reducible refine thenQ.n ?_ | with_reducible refine blockQ.n ?_)
          refine Safe.block ?_
          repeat (first | refine Safe.seq ?_ | refine Safe.skip ?_ | with_reducible refine thenQ.n ?_ | with_reducible refine blockQ.n ?_)
          refine Safe.loopW (fun ((v6_5343, v41_5344) : (List api_Instr) × Int) => ⟨Try.f25.ntmps, [(0, V.sl 1 (rws (fun n => [V.int .u8 n]) a0_4666)), (4, V.int .i64 v4_5296), (5, V.ref [7000, 118, 5] 0 (rws (fun l => [V.sl 3 (rws api_Instr.cells l)]) v5_5297).length), (6, V.ref [7000, 118, 6] 0 (rws api_Instr.cells v6_5343).length), (15, V.int .i64 (IntKind.i64.wrap (gt a0_4666 0))), (16, V.int .i64 v16_5298), (23, V.int .i64 v4_5296), (24, V.int .i64 (IntKind.i64.wrap (v4_5296 + 1))), (25, V.sl 1 (rws (fun n => [V.int .u8 n]) a0_4666)), (26, V.int .i64 v4_5296), (28, V.int .u8 (gt a0_4666 v4_5296)), (29, V.int .i64 (IntKind.i64.wrap (gt a0_4666 v4_5296))), (30, V.int .i64 (IntKind.i64.wrap (4 * (IntKind.i64.wrap (gt a0_4666 v4_5296))))), (31, V.int .i64 (IntKind.i64.wrap ((IntKind.i64.wrap (v4_5296 + 1)) + (IntKind.i64.wrap (4 * (IntKind.i64.wrap (gt a0_4666 v4_5296))))))), (32, V.sl 1 (rws (fun n => [V.int .u8 n]) a0_4666)), (33, V.int .i64 (a0_4666.length : Int)), (34, V.bool (decide ((IntKind.i64.wrap ((IntKind.i64.wrap (v4_5296 + 1)) + (IntKind.i64.wrap (4 * (IntKind.i64.wrap (gt a0_4666 v4_5296)))))) > (a0_4666.length : Int)))), (40, V.int .i64 (IntKind.i64.wrap (gt a0_4666 v4_5296))), (41, V.int .i64 v41_5344)], [([7000, 118, 5], Obj.rows 1 (rws (fun l => [V.sl 3 (rws api_Instr.cells l)]) v5_5297) false), ([7000, 118, 6], Obj.rows 3 (rws api_Instr.cells v6_5343) false)], [], []⟩) h (.empty [7000, 118, 6] 3 rfl (.cov ⟨rfl, rfl, (upT_cons (.refl _) (upT_cons (.refl _) (upT_cons (.refl _) (upT_cons (.nilref _) (upT_cons (.refl _) (upT_cons (.refl _) (upT_cons (.refl _) (upT_cons (.refl _) (upT_cons (.refl _) (upT_cons (.refl _) (upT_cons (.refl _) (upT_cons (.refl _) (upT_cons (.refl _) (upT_cons (.refl _) (upT_cons (.refl _) (upT_cons (.refl _) (upT_cons (.refl _) (upT_cons (.refl _) (upT_cons (.refl _) upT_nil))))))))))))))))))), (upOb_cons rfl (.refl _) (upOb_cons rfl (.refl _) upOb_nil)), upOut_nil, rfl⟩)) ?_
          rintro ⟨v6_5343, v41_5344⟩ ohr5345 h hr5345
          replace h : go_ravelref04_Read_s14 a0_4666 v4_5296 v5_5297 v16_5298 (v6_5343, v41_5344) = some ohr5345 := h
          rw [go_ravelref04_Read_s14] at h
          repeat (first | refine Safe.seq ?_ | refine Safe.skip ?_ | with_reducible refine thenQ.n ?_ | with_reducible refine blockQ.n ?_)
          refine Safe.region ?_
          refine SafeOps.quiet0 E_good rfl rfl rfl (v := V.bool (decide (v41_5344 < (IntKind.i64.wrap (gt a0_4666 v4_5296))))) (.fn rfl) ?_
          refine SafeOps.nil ?_
          repeat (first | refine Safe.seq ?_ | refine Safe.skip ?_ | with_reducible refine thenQ.n ?_ | with_reducible refine blockQ.n ?_)
          refine ifG h (fun hc5346 h => ?_) (fun hc5346 h => ?_)
          · skip
            refine Safe.condK rfl hc5346 ?_
            repeat (first | refine Safe.seq ?_ | refine Safe.skip ?_ | with_reducible refine thenQ.n ?_ | with_reducible refine blockQ.n ?_)
            refine Safe.block ?_
            repeat (first | refine Safe.seq ?_ | refine Safe.skip ?_ | with_reducible refine thenQ.n ?_ | with_reducible refine blockQ.n ?_)
            refine Safe.region ?_
            refine SafeOps.quiet0 E_good rfl rfl rfl (v := V.int .i64 v41_5344) (.fn rfl) ?_
            refine SafeOps.quiet0 E_good rfl rfl rfl (v := V.int .i64 v41_5344) (.fn rfl) ?_
            refine SafeOps.nil ?_
            repeat (first | refine Safe.seq ?_ | refine Safe.skip ?_ | with_reducible refine thenQ.n ?_ | with_reducible refine blockQ.n ?_)
            refine Safe.region ?_
            refine SafeOps.quiet0 E_good rfl rfl rfl (v := V.int .i64 v4_5296) (.fn rfl) ?_
            refine SafeOps.quiet0 E_good rfl rfl rfl (v := V.int .i64 (IntKind.i64.wrap (v4_5296 + 1))) (.fn rfl) ?_
            refine SafeOps.quiet0 E_good rfl rfl rfl (v := V.int .i64 v41_5344) (.fn rfl) ?_
            refine SafeOps.quiet0 E_good rfl rfl rfl (v := V.int .i64 (IntKind.i64.wrap (4 * v41_5344))) (.fn rfl) ?_
            refine SafeOps.quiet0 E_good rfl rfl rfl (v := V.int .i64 (IntKind.i64.wrap ((IntKind.i64.wrap (v4_5296 + 1)) + (IntKind.i64.wrap (4 * v41_5344))))) (.fn rfl) ?_
            refine SafeOps.quiet0 E_good rfl rfl rfl (v := V.int .i64 (IntKind.i64.wrap ((IntKind.i64.wrap (v4_5296 + 1)) + (IntKind.i64.wrap (4 * v41_5344))))) (.fn rfl) ?_
            refine SafeOps.nil ?_
            repeat (first | refine Safe.seq ?_ | refine Safe.skip ?_ | with_reducible refine thenQ.n ?_ | with_reducible refine blockQ.n ?_)
            refine Safe.regionD (n := 30) [] [28] E_good mixed rfl ?_
            refine DAny.take (i := 0) rfl (by kernel_rfl) [] (by kernel_rfl) (by kernel_rfl) (by kernel_rfl) rfl rfl rfl (v := V.ref [7000, 118, 6] 0 (rws api_Instr.cells v6_5343).length) (fun _ hz => (.fn rfl)) ?_
            refine DAny.take (i := 1) rfl (by kernel_rfl) [] (by kernel_rfl) (by kernel_rfl) (by kernel_rfl) rfl rfl rfl (v := V.sl 1 (rws (fun n => [V.int .u8 n]) a0_4666)) (fun _ hz => (.fn rfl)) ?_
            refine DAny.take (i := 2) rfl (by kernel_rfl) [] (by kernel_rfl) (by kernel_rfl) (by kernel_rfl) rfl rfl rfl (v := V.int .i64 (IntKind.i64.wrap ((IntKind.i64.wrap (v4_5296 + 1)) + (IntKind.i64.wrap (4 * v41_5344))))) (fun _ hz => (.fn rfl)) ?_
            refine okG h (fun hb5347 h => ?_)
            refine DAny.take (i := 3) rfl (by kernel_rfl) [] (by kernel_rfl) (by kernel_rfl) (by kernel_rfl) rfl rfl rfl (v := V.spt 1 (rws (fun n => [V.int .u8 n]) a0_4666) (Int.toNat (IntKind.i64.wrap ((IntKind.i64.wrap (v4_5296 + 1)) + (IntKind.i64.wrap (4 * v41_5344))))) 0) (fun _ hz => (.idxSlM (f := (fun n => [V.int .u8 n])) rfl rfl rfl rfl rfl hb5347)) ?_
            refine DAny.take (i := 4) rfl (by kernel_rfl) [] (by kernel_rfl) (by kernel_rfl) (by kernel_rfl) rfl rfl rfl (v := V.int .u8 (gt a0_4666 (IntKind.i64.wrap ((IntKind.i64.wrap (v4_5296 + 1)) + (IntKind.i64.wrap (4 * v41_5344)))))) (fun _ hz => (.load rfl rfl (.sptM (f := (fun n => [V.int .u8 n])) hb5347 rfl) rfl)) ?_
            refine DAny.take (i := 5) rfl (by kernel_rfl) [] (by kernel_rfl) (by kernel_rfl) (by kernel_rfl) rfl rfl rfl (v := V.int .i64 (IntKind.i64.wrap (gt a0_4666 (IntKind.i64.wrap ((IntKind.i64.wrap (v4_5296 + 1)) + (IntKind.i64.wrap (4 * v41_5344))))))) (fun _ hz => (.fn rfl)) ?_
            refine DAny.take (i := 6) rfl (by kernel_rfl) [] (by kernel_rfl) (by kernel_rfl) (by kernel_rfl) rfl rfl rfl (v := V.sl 1 (rws (fun n => [V.int .u8 n]) a0_4666)) (fun _ hz => (.fn rfl)) ?_
            refine DAny.take (i := 7) rfl (by kernel_rfl) [] (by kernel_rfl) (by kernel_rfl) (by kernel_rfl) rfl rfl rfl (v := V.int .i64 (IntKind.i64.wrap ((IntKind.i64.wrap (v4_5296 + 1)) + (IntKind.i64.wrap (4 * v41_5344))))) (fun _ hz => (.fn rfl)) ?_
            refine DAny.take (i := 8) rfl (by kernel_rfl) [] (by kernel_rfl) (by kernel_rfl) (by kernel_rfl) rfl rfl rfl (v := V.int .i64 (IntKind.i64.wrap ((IntKind.i64.wrap ((IntKind.i64.wrap (v4_5296 + 1)) + (IntKind.i64.wrap (4 * v41_5344)))) + 1))) (fun _ hz => (.fn rfl)) ?_
            refine okG h (fun hb5348 h => ?_)
            refine DAny.take (i := 9) rfl (by kernel_rfl) [] (by kernel_rfl) (by kernel_rfl) (by kernel_rfl) rfl rfl rfl (v := V.spt 1 (rws (fun n => [V.int .u8 n]) a0_4666) (Int.toNat (IntKind.i64.wrap ((IntKind.i64.wrap ((IntKind.i64.wrap (v4_5296 + 1)) + (IntKind.i64.wrap (4 * v41_5344)))) + 1))) 0) (fun _ hz => (.idxSlM (f := (fun n => [V.int .u8 n])) rfl rfl rfl rfl rfl hb5348)) ?_
            refine DAny.take (i := 10) rfl (by kernel_rfl) [] (by kernel_rfl) (by kernel_rfl) (by kernel_rfl) rfl rfl rfl (v := V.int .u8 (gt a0_4666 (IntKind.i64.wrap ((IntKind.i64.wrap ((IntKind.i64.wrap (v4_5296 + 1)) + (IntKind.i64.wrap (4 * v41_5344)))) + 1)))) (fun _ hz => (.load rfl rfl (.sptM (f := (fun n => [V.int .u8 n])) hb5348 rfl) rfl)) ?_
            refine DAny.take (i := 11) rfl (by kernel_rfl) [] (by kernel_rfl) (by kernel_rfl) (by kernel_rfl) rfl rfl rfl (v := V.int .i64 (IntKind.i64.wrap (gt a0_4666 (IntKind.i64.wrap ((IntKind.i64.wrap ((IntKind.i64.wrap (v4_5296 + 1)) + (IntKind.i64.wrap (4 * v41_5344)))) + 1))))) (fun _ hz => (.fn rfl)) ?_
            refine DAny.take (i := 12) rfl (by kernel_rfl) [] (by kernel_rfl) (by kernel_rfl) (by kernel_rfl) rfl rfl rfl (v := V.int .i64 (IntKind.i64.wrap (256 * (IntKind.i64.wrap (gt a0_4666 (IntKind.i64.wrap ((IntKind.i64.wrap ((IntKind.i64.wrap (v4_5296 + 1)) + (IntKind.i64.wrap (4 * v41_5344)))) + 1))))))) (fun _ hz => (.fn rfl)) ?_
            refine DAny.take (i := 13) rfl (by kernel_rfl) [] (by kernel_rfl) (by kernel_rfl) (by kernel_rfl) rfl rfl rfl (v := V.sl 1 (rws (fun n => [V.int .u8 n]) a0_4666)) (fun _ hz => (.fn rfl)) ?_
            refine DAny.take (i := 14) rfl (by kernel_rfl) [] (by kernel_rfl) (by kernel_rfl) (by kernel_rfl) rfl rfl rfl (v := V.int .i64 (IntKind.i64.wrap ((IntKind.i64.wrap (v4_5296 + 1)) + (IntKind.i64.wrap (4 * v41_5344))))) (fun _ hz => (.fn rfl)) ?_
            refine DAny.take (i := 15) rfl (by kernel_rfl) [] (by kernel_rfl) (by kernel_rfl) (by kernel_rfl) rfl rfl rfl (v := V.int .i64 (IntKind.i64.wrap ((IntKind.i64.wrap ((IntKind.i64.wrap (v4_5296 + 1)) + (IntKind.i64.wrap (4 * v41_5344)))) + 2))) (fun _ hz => (.fn rfl)) ?_
            refine okG h (fun hb5349 h => ?_)
            refine DAny.take (i := 16) rfl (by kernel_rfl) [] (by kernel_rfl) (by kernel_rfl) (by kernel_rfl) rfl rfl rfl (v := V.spt 1 (rws (fun n => [V.int .u8 n]) a0_4666) (Int.toNat (IntKind.i64.wrap ((IntKind.i64.wrap ((IntKind.i64.wrap (v4_5296 + 1)) + (IntKind.i64.wrap (4 * v41_5344)))) + 2))) 0) (fun _ hz => (.idxSlM (f := (fun n => [V.int .u8 n])) rfl rfl rfl rfl rfl hb5349)) ?_
            refine DAny.take (i := 17) rfl (by kernel_rfl) [] (by kernel_rfl) (by kernel_rfl) (by kernel_rfl) rfl rfl rfl (v := V.int .u8 (gt a0_4666 (IntKind.i64.wrap ((IntKind.i64.wrap ((IntKind.i64.wrap (v4_5296 + 1)) + (IntKind.i64.wrap (4 * v41_5344)))) + 2)))) (fun _ hz => (.load rfl rfl (.sptM (f := (fun n => [V.int .u8 n])) hb5349 rfl) rfl)) ?_
            refine DAny.take (i := 18) rfl (by kernel_rfl) [] (by kernel_rfl) (by kernel_rfl) (by kernel_rfl) rfl rfl rfl (v := V.int .i64 (IntKind.i64.wrap (gt a0_4666 (IntKind.i64.wrap ((IntKind.i64.wrap ((IntKind.i64.wrap (v4_5296 + 1)) + (IntKind.i64.wrap (4 * v41_5344)))) + 2))))) (fun _ hz => (.fn rfl)) ?_
            refine DAny.take (i := 19) rfl (by kernel_rfl) [] (by kernel_rfl) (by kernel_rfl) (by kernel_rfl) rfl rfl rfl (v := V.int .i64 (IntKind.i64.wrap ((IntKind.i64.wrap (256 * (IntKind.i64.wrap (gt a0_4666 (IntKind.i64.wrap ((IntKind.i64.wrap ((IntKind.i64.wrap (v4_5296 + 1)) + (IntKind.i64.wrap (4 * v41_5344)))) + 1)))))) + (IntKind.i64.wrap (gt a0_4666 (IntKind.i64.wrap ((IntKind.i64.wrap ((IntKind.i64.wrap (v4_5296 + 1)) + (IntKind.i64.wrap (4 * v41_5344)))) + 2))))))) (fun _ hz => (.fn rfl)) ?_
            refine DAny.take (i := 20) rfl (by kernel_rfl) [] (by kernel_rfl) (by kernel_rfl) (by kernel_rfl) rfl rfl rfl (v := V.sl 1 (rws (fun n => [V.int .u8 n]) a0_4666)) (fun _ hz => (.fn rfl)) ?_
            refine DAny.take (i := 21) rfl (by kernel_rfl) [] (by kernel_rfl) (by kernel_rfl) (by kernel_rfl) rfl rfl rfl (v := V.int .i64 (IntKind.i64.wrap ((IntKind.i64.wrap (v4_5296 + 1)) + (IntKind.i64.wrap (4 * v41_5344))))) (fun _ hz => (.fn rfl)) ?_
            refine DAny.take (i := 22) rfl (by kernel_rfl) [] (by kernel_rfl) (by kernel_rfl) (by kernel_rfl) rfl rfl rfl (v := V.int .i64 (IntKind.i64.wrap ((IntKind.i64.wrap ((IntKind.i64.wrap (v4_5296 + 1)) + (IntKind.i64.wrap (4 * v41_5344)))) + 3))) (fun _ hz => (.fn rfl)) ?_
            refine okG h (fun hb5350 h => ?_)
            refine DAny.take (i := 23) rfl (by kernel_rfl) [] (by kernel_rfl) (by kernel_rfl) (by kernel_rfl) rfl rfl rfl (v := V.spt 1 (rws (fun n => [V.int .u8 n]) a0_4666) (Int.toNat (IntKind.i64.wrap ((IntKind.i64.wrap ((IntKind.i64.wrap (v4_5296 + 1)) + (IntKind.i64.wrap (4 * v41_5344)))) + 3))) 0) (fun _ hz => (.idxSlM (f := (fun n => [V.int .u8 n])) rfl rfl rfl rfl rfl hb5350)) ?_
            refine DAny.take (i := 24) rfl (by kernel_rfl) [] (by kernel_rfl) (by kernel_rfl) (by kernel_rfl) rfl rfl rfl (v := V.int .u8 (gt a0_4666 (IntKind.i64.wrap ((IntKind.i64.wrap ((IntKind.i64.wrap (v4_5296 + 1)) + (IntKind.i64.wrap (4 * v41_5344)))) + 3)))) (fun _ hz => (.load rfl rfl (.sptM (f := (fun n => [V.int .u8 n])) hb5350 rfl) rfl)) ?_
            refine DAny.take (i := 25) rfl (by kernel_rfl) [] (by kernel_rfl) (by kernel_rfl) (by kernel_rfl) rfl rfl rfl (v := V.int .i64 (IntKind.i64.wrap (gt a0_4666 (IntKind.i64.wrap ((IntKind.i64.wrap ((IntKind.i64.wrap (v4_5296 + 1)) + (IntKind.i64.wrap (4 * v41_5344)))) + 3))))) (fun _ hz => (.fn rfl)) ?_
            refine DAny.take (i := 26) rfl (by kernel_rfl) [] (by kernel_rfl) (by kernel_rfl) (by kernel_rfl) rfl rfl rfl (v := V.agg [V.int .i64 (IntKind.i64.wrap (gt a0_4666 (IntKind.i64.wrap ((IntKind.i64.wrap (v4_5296 + 1)) + (IntKind.i64.wrap (4 * v41_5344)))))), V.int .i64 (IntKind.i64.wrap ((IntKind.i64.wrap (256 * (IntKind.i64.wrap (gt a0_4666 (IntKind.i64.wrap ((IntKind.i64.wrap ((IntKind.i64.wrap (v4_5296 + 1)) + (IntKind.i64.wrap (4 * v41_5344)))) + 1)))))) + (IntKind.i64.wrap (gt a0_4666 (IntKind.i64.wrap ((IntKind.i64.wrap ((IntKind.i64.wrap (v4_5296 + 1)) + (IntKind.i64.wrap (4 * v41_5344)))) + 2)))))), V.int .i64 (IntKind.i64.wrap (gt a0_4666 (IntKind.i64.wrap ((IntKind.i64.wrap ((IntKind.i64.wrap (v4_5296 + 1)) + (IntKind.i64.wrap (4 * v41_5344)))) + 3))))]) (fun _ hz => (.fn rfl)) ?_
            refine DAny.only (i := 27) rfl (by kernel_rfl) (.quiet rfl rfl rfl (.litM (f := api_Instr.cells) (xs := [(api_Instr.mk (IntKind.i64.wrap (gt a0_4666 (IntKind.i64.wrap ((IntKind.i64.wrap (v4_5296 + 1)) + (IntKind.i64.wrap (4 * v41_5344)))))) (IntKind.i64.wrap ((IntKind.i64.wrap (256 * (IntKind.i64.wrap (gt a0_4666 (IntKind.i64.wrap ((IntKind.i64.wrap ((IntKind.i64.wrap (v4_5296 + 1)) + (IntKind.i64.wrap (4 * v41_5344)))) + 1)))))) + (IntKind.i64.wrap (gt a0_4666 (IntKind.i64.wrap ((IntKind.i64.wrap ((IntKind.i64.wrap (v4_5296 + 1)) + (IntKind.i64.wrap (4 * v41_5344)))) + 2)))))) (IntKind.i64.wrap (gt a0_4666 (IntKind.i64.wrap ((IntKind.i64.wrap ((IntKind.i64.wrap (v4_5296 + 1)) + (IntKind.i64.wrap (4 * v41_5344)))) + 3)))))]) rfl rfl (by decide) rfl rfl rfl rfl rfl) rfl ?_)
            refine DAny.onlyS (i := 28) rfl (by kernel_rfl) rfl ?_
            refine okG h (fun hb5351 h => ?_)
            refine SafeOps.appendM api_Instr.cells (xs := v6_5343) (ys := [(api_Instr.mk (IntKind.i64.wrap (gt a0_4666 (IntKind.i64.wrap ((IntKind.i64.wrap (v4_5296 + 1)) + (IntKind.i64.wrap (4 * v41_5344)))))) (IntKind.i64.wrap ((IntKind.i64.wrap (256 * (IntKind.i64.wrap (gt a0_4666 (IntKind.i64.wrap ((IntKind.i64.wrap ((IntKind.i64.wrap (v4_5296 + 1)) + (IntKind.i64.wrap (4 * v41_5344)))) + 1)))))) + (IntKind.i64.wrap (gt a0_4666 (IntKind.i64.wrap ((IntKind.i64.wrap ((IntKind.i64.wrap (v4_5296 + 1)) + (IntKind.i64.wrap (4 * v41_5344)))) + 2)))))) (IntKind.i64.wrap (gt a0_4666 (IntKind.i64.wrap ((IntKind.i64.wrap ((IntKind.i64.wrap (v4_5296 + 1)) + (IntKind.i64.wrap (4 * v41_5344)))) + 3)))))]) E_good rfl rfl rfl rfl rfl rfl rfl rfl rfl (.own rfl) (.own rfl) (fun _ => rfl) hb5351 ?_
            refine SafeOps.nil ⟨rfl, ?_⟩
            refine DAny.take (i := 29) rfl (by kernel_rfl) [] (by kernel_rfl) (by kernel_rfl) (by kernel_rfl) rfl rfl rfl (v := V.ref [77] 0 (rws api_Instr.cells (v6_5343 ++ [(api_Instr.mk (IntKind.i64.wrap (gt a0_4666 (IntKind.i64.wrap ((IntKind.i64.wrap (v4_5296 + 1)) + (IntKind.i64.wrap (4 * v41_5344)))))) (IntKind.i64.wrap ((IntKind.i64.wrap (256 * (IntKind.i64.wrap (gt a0_4666 (IntKind.i64.wrap ((IntKind.i64.wrap ((IntKind.i64.wrap (v4_5296 + 1)) + (IntKind.i64.wrap (4 * v41_5344)))) + 1)))))) + (IntKind.i64.wrap (gt a0_4666 (IntKind.i64.wrap ((IntKind.i64.wrap ((IntKind.i64.wrap (v4_5296 + 1)) + (IntKind.i64.wrap (4 * v41_5344)))) + 2)))))) (IntKind.i64.wrap (gt a0_4666 (IntKind.i64.wrap ((IntKind.i64.wrap ((IntKind.i64.wrap (v4_5296 + 1)) + (IntKind.i64.wrap (4 * v41_5344)))) + 3)))))])).length) (fun _ hz => (.fn rfl)) ?_
            refine DAny.nil (by kernel_rfl) ?_
            repeat (first | refine Safe.seq ?_ | refine Safe.skip ?_ | with_reducible refine thenQ.n ?_ | with_reducible refine blockQ.n ?_)
            refine Safe.region ?_
            refine SafeOps.quiet0 E_good rfl rfl rfl (v := V.int .i64 (IntKind.i64.wrap (v41_5344 + 1))) (.fn rfl) ?_
            refine SafeOps.quiet0 E_good rfl rfl rfl (v := V.int .i64 (IntKind.i64.wrap (v41_5344 + 1))) (.fn rfl) ?_
            refine SafeOps.nil ?_
            repeat (first | refine Safe.seq ?_ | refine Safe.skip ?_ | with_reducible refine thenQ.n ?_ | with_reducible refine blockQ.n ?_)
            exact ⟨_, next_out h, (.ren [77] [7000, 118, 6] (.cov ⟨rfl, rfl, (upT_cons (.refl _) (upT_cons (.refl _) (upT_cons (.refl _) (upT_cons (.refl _) (upT_cons (.refl _) (upT_cons (.refl _) (upT_cons (.refl _) (upT_cons (.refl _) (upT_cons (.refl _) (upT_cons (.refl _) (upT_cons (.refl _) (upT_cons (.refl _) (upT_cons (.refl _) (upT_cons (.refl _) (upT_cons (.refl _) (upT_cons (.refl _) (upT_cons (.refl _) (upT_cons (.refl _) (upT_cons (.refl _) upT_nil))))))))))))))))))), (upOb_cons rfl (.refl _) (upOb_cons rfl (.refl _) upOb_nil)), upOut_nil, rfl⟩))⟩
          · skip
            refine Safe.condN rfl hc5346 ?_
            repeat (first | refine Safe.seq ?_ | refine Safe.skip ?_ | with_reducible refine thenQ.n ?_ | with_reducible refine blockQ.n ?_)
            refine Safe.exit ?_
            repeat (first | with_reducible refine thenQ.e ?_ | with_reducible refine blockQ.x rfl ?_ | with_reducible refine blockQ.y rfl ?_)
            replace h := inr_out h hr5345
            repeat (first | refine Safe.seq ?_ | refine Safe.skip ?_ | with_reducible refine thenQ.n ?_ | with_reducible refine blockQ.n ?_)
            refine Safe.region ?_
            refine SafeOps.quiet0 E_good rfl rfl rfl (v := V.int .i64 v4_5296) (.fn rfl) ?_
            refine SafeOps.quiet0 E_good rfl rfl rfl (v := V.sl 1 (rws (fun n => [V.int .u8 n]) a0_4666)) (.fn rfl) ?_
            refine SafeOps.quiet0 E_good rfl rfl rfl (v := V.int .i64 v4_5296) (.fn rfl) ?_
            refine okG h (fun hb5352 h => ?_)
            refine SafeOps.quiet0 E_good rfl rfl rfl (v := V.spt 1 (rws (fun n => [V.int .u8 n]) a0_4666) (Int.toNat v4_5296) 0) (.idxSlM (f := (fun n => [V.int .u8 n])) rfl rfl rfl rfl rfl hb5352) ?_
            refine SafeOps.quiet0 E_good rfl rfl rfl (v := V.int .u8 (gt a0_4666 v4_5296)) (.load rfl rfl (.sptM (f := (fun n => [V.int .u8 n])) hb5352 rfl) rfl) ?_
            refine SafeOps.quiet0 E_good rfl rfl rfl (v := V.int .i64 (IntKind.i64.wrap (gt a0_4666 v4_5296))) (.fn rfl) ?_
            refine SafeOps.quiet0 E_good rfl rfl rfl (v := V.int .i64 (IntKind.i64.wrap (4 * (IntKind.i64.wrap (gt a0_4666 v4_5296))))) (.fn rfl) ?_
            refine SafeOps.quiet0 E_good rfl rfl rfl (v := V.int .i64 (IntKind.i64.wrap (1 + (IntKind.i64.wrap (4 * (IntKind.i64.wrap (gt a0_4666 v4_5296))))))) (.fn rfl) ?_
            refine SafeOps.quiet0 E_good rfl rfl rfl (v := V.int .i64 (IntKind.i64.wrap (v4_5296 + (IntKind.i64.wrap (1 + (IntKind.i64.wrap (4 * (IntKind.i64.wrap (gt a0_4666 v4_5296))))))))) (.fn rfl) ?_
            refine SafeOps.quiet0 E_good rfl rfl rfl (v := V.int .i64 (IntKind.i64.wrap (v4_5296 + (IntKind.i64.wrap (1 + (IntKind.i64.wrap (4 * (IntKind.i64.wrap (gt a0_4666 v4_5296))))))))) (.fn rfl) ?_
            refine SafeOps.nil ?_
            repeat (first | refine Safe.seq ?_ | refine Safe.skip ?_ | with_reducible refine thenQ.n ?_ | with_reducible refine blockQ.n ?_)
            refine Safe.region ?_
            refine SafeOps.quiet0 E_good rfl rfl rfl (v := V.ref [7000, 118, 5] 0 (rws (fun l => [V.sl 3 (rws api_Instr.cells l)]) v5_5297).length) (.fn rfl) ?_
            refine SafeOps.quiet0 E_good rfl rfl rfl (v := V.ref [7000, 118, 6] 0 (rws api_Instr.cells v6_5343).length) (.fn rfl) ?_
            refine SafeOps.freeze [7000, 118, 6] rfl ?_
            refine SafeOps.see 89 (u := V.sl 3 (rws api_Instr.cells v6_5343)) rfl (.full rfl rfl) ?_
            refine SafeOps.quiet1 E_good rfl rfl rfl (.litM (f := (fun l => [V.sl 3 (rws api_Instr.cells l)])) (xs := [v6_5343]) rfl rfl (by decide) rfl rfl rfl rfl rfl) rfl ?_
            refine okG h (fun hb5353 h => ?_)
            refine SafeOps.appendM (fun l => [V.sl 3 (rws api_Instr.cells l)]) (xs := v5_5297) (ys := [v6_5343]) E_good rfl rfl rfl rfl rfl rfl rfl rfl rfl (.own rfl) (.own rfl) (fun _ => rfl) hb5353 ?_
            refine SafeOps.quiet0 E_good rfl rfl rfl (v := V.ref [91] 0 (rws (fun l => [V.sl 3 (rws api_Instr.cells l)]) (v5_5297 ++ [v6_5343])).length) (.fn rfl) ?_
            refine SafeOps.nil ?_
            repeat (first | refine Safe.seq ?_ | refine Safe.skip ?_ | with_reducible refine thenQ.n ?_ | with_reducible refine blockQ.n ?_)
            refine Safe.region ?_
            refine SafeOps.quiet0 E_good rfl rfl rfl (v := V.int .i64 (IntKind.i64.wrap (v16_5298 + 1))) (.fn rfl) ?_
            refine SafeOps.quiet0 E_good rfl rfl rfl (v := V.int .i64 (IntKind.i64.wrap (v16_5298 + 1))) (.fn rfl) ?_
            refine SafeOps.nil ?_
            repeat (first | refine Safe.seq ?_ | refine Safe.skip ?_ | with_reducible refine thenQ.n ?_ | with_reducible refine blockQ.n ?_)
            exact ⟨_, next_out h, (.ren [91] [7000, 118, 5] (.cov ⟨rfl, rfl, (upT_cons (.refl _) (upT_cons (.refl _) (upT_cons (.refl _) (upT_cons (.refl _) (upT_cons (.refl _) upT_nil))))), (upOb_cons rfl (.refl _) upOb_nil), upOut_nil, rfl⟩))⟩
    · skip
      refine Safe.condN rfl hc5300 ?_
      repeat (first | refine Safe.seq ?_ | refine Safe.skip ?_ | with_reducible refine thenQ.n ?_ | with_reducible refine blockQ.n ?_)
      refine Safe.exit ?_
      repeat (first | with_reducible refine thenQ.e ?_ | with_reducible refine blockQ.x rfl ?_ | with_reducible refine blockQ.y rfl ?_)
      replace h := inr_out h hr5299
      repeat (first | refine Safe.seq ?_ | refine Safe.skip ?_ | with_reducible refine thenQ.n ?_ | with_reducible refine blockQ.n ?_)
      refine Safe.region ?_
      refine SafeOps.quiet0 E_good rfl rfl rfl (v := V.int .i64 v4_5296) (.fn rfl) ?_
      refine SafeOps.quiet0 E_good rfl rfl rfl (v := V.sl 1 (rws (fun n => [V.int .u8 n]) a0_4666)) (.fn rfl) ?_
      refine SafeOps.quiet0 E_good rfl rfl rfl (v := V.int .i64 (a0_4666.length : Int)) (.fnE rfl lenE) ?_
      refine SafeOps.quiet0 E_good rfl rfl rfl (v := V.bool (v4_5296 != (a0_4666.length : Int))) (.fn rfl) ?_
      refine SafeOps.quiet0 E_good rfl rfl rfl (v := V.bool (v4_5296 != (a0_4666.length : Int))) (.fn rfl) ?_
      refine ifG h (fun hc5354 h => ?_) (fun hc5354 h => ?_)
      · skip
        refine SafeOps.skip (congrArg (fun b => some (!b)) hc5354) rfl rfl ?_
        refine SafeOps.skip (congrArg (fun b => some (!b)) hc5354) rfl rfl ?_
        refine SafeOps.skip (congrArg (fun b => some (!b)) hc5354) rfl rfl ?_
        refine SafeOps.quiet0 E_good rfl rfl rfl (v := V.bool true) (.pickK rfl hc5354 rfl) ?_
        refine SafeOps.nil ?_
        repeat (first | refine Safe.seq ?_ | refine Safe.skip ?_ | with_reducible refine thenQ.n ?_ | with_reducible refine blockQ.n ?_)
        refine Safe.condK rfl rfl ?_
        repeat (first | refine Safe.seq ?_ | refine Safe.skip ?_ | with_reducible refine thenQ.n ?_ | with_reducible refine blockQ.n ?_)
        refine Safe.region ?_
        refine SafeOps.quiet0 E_good rfl rfl rfl (v := V.nils) (.fn rfl) ?_
        refine SafeOps.quiet0 E_good rfl rfl rfl (v := V.int .i64 2) (.fn rfl) ?_
        refine SafeOps.nil ?_
        repeat (first | refine Safe.seq ?_ | refine Safe.skip ?_ | with_reducible refine thenQ.n ?_ | with_reducible refine blockQ.n ?_)
        refine Safe.ret ?_
        repeat (first | with_reducible refine thenQ.r ?_ | with_reducible refine blockQ.r ?_)
        obtain rfl := Option.some.inj h
        exact retQ.gen (vs := [V.nils, V.int .i64 2]) rfl (.tmp (v := V.nils) rfl (.tmp (v := V.int .i64 2) rfl .nil)) (by exact (.tup (.cons (.nils _) (.cons (.free rfl) .nil)))) (by simp) (.inr rfl)
      · skip
        refine SafeOps.quiet0 E_good (congrArg (fun b => some (!b)) hc5354) rfl rfl (v := V.ref [7000, 118, 5] 0 (rws (fun l => [V.sl 3 (rws api_Instr.cells l)]) v5_5297).length) (.fn rfl) ?_
        refine bindG h ?_
        intro x_5357 he5358 h
        refine SafeOps.quiet0 E_good (congrArg (fun b => some (!b)) hc5354) rfl rfl (v := V.int .i64 x_5357) (.callS rfl (.cons (.full rfl rfl) .nil) (go_ravelref04_CheckAll_sc v5_5297 _ he5358) (.plain rfl) rfl) ?_
        refine SafeOps.quiet0 E_good (congrArg (fun b => some (!b)) hc5354) rfl rfl (v := V.bool (x_5357 != 0)) (.fn rfl) ?_
        refine SafeOps.quiet0 E_good rfl rfl rfl (v := V.bool (x_5357 != 0)) (.pickK rfl hc5354 rfl) ?_
        refine SafeOps.nil ?_
        repeat (first | refine Safe.seq ?_ | refine Safe.skip ?_ | with_reducible refine thenQ.n ?_ | with_reducible refine blockQ.n ?_)
        refine ifG h (fun hc5359 h => ?_) (fun hc5359 h => ?_)
        · skip
          refine Safe.condK rfl hc5359 ?_
          repeat (first | refine Safe.seq ?_ | refine Safe.skip ?_ | with_reducible refine thenQ.n ?_ | with_reducible refine blockQ.n ?_)
          refine Safe.region ?_
          refine SafeOps.quiet0 E_good rfl rfl rfl (v := V.nils) (.fn rfl) ?_
          refine SafeOps.quiet0 E_good rfl rfl rfl (v := V.int .i64 2) (.fn rfl) ?_
          refine SafeOps.nil ?_
          repeat (first | refine Safe.seq ?_ | refine Safe.skip ?_ | with_reducible refine thenQ.n ?_ | with_reducible refine blockQ.n ?_)
          refine Safe.ret ?_
          repeat (first | with_reducible refine thenQ.r ?_ | with_reducible refine blockQ.r ?_)
          obtain rfl := Option.some.inj h
          exact retQ.gen (vs := [V.nils, V.int .i64 2]) rfl (.tmp (v := V.nils) rfl (.tmp (v := V.int .i64 2) rfl .nil)) (by exact (.tup (.cons (.nils _) (.cons (.free rfl) .nil)))) (by simp) (.inr rfl)
        · skip
          refine Safe.condN rfl hc5359 ?_
          repeat (first | refine Safe.seq ?_ | refine Safe.skip ?_ | with_reducible refine thenQ.n ?_ | with_reducible refine blockQ.n ?_)
          refine Safe.region ?_
          refine SafeOps.quiet0 E_good rfl rfl rfl (v := V.ref [7000, 118, 5] 0 (rws (fun l => [V.sl 3 (rws api_Instr.cells l)]) v5_5297).length) (.fn rfl) ?_
          refine SafeOps.quiet0 E_good rfl rfl rfl (v := V.ref [7000, 118, 5] 0 (rws (fun l => [V.sl 3 (rws api_Instr.cells l)]) v5_5297).length) (.fn rfl) ?_
          refine SafeOps.quiet0 E_good rfl rfl rfl (v := V.int .i64 0) (.fn rfl) ?_
          refine SafeOps.nil ?_
          repeat (first | refine Safe.seq ?_ | refine Safe.skip ?_ | with_reducible refine thenQ.n ?_ | with_reducible refine blockQ.n ?_)
          refine Safe.ret ?_
          repeat (first | with_reducible refine thenQ.r ?_ | with_reducible refine blockQ.r ?_)
          obtain rfl := Option.some.inj h
          exact retQ.gen (vs := [V.ref [7000, 118, 5] 0 (rws (fun l => [V.sl 3 (rws api_Instr.cells l)]) v5_5297).length, V.int .i64 0]) rfl (.tmp (v := V.ref [7000, 118, 5] 0 (rws (fun l => [V.sl 3 (rws api_Instr.cells l)]) v5_5297).length) rfl (.tmp (v := V.int .i64 0) rfl .nil)) (by exact (.tup (.cons (.own rfl rfl) (.cons (.free rfl) .nil)))) (by simp) (.inr rfl)

noncomputable def go_ravellaw04_CodeTexts_j1 (x_5386 : Int) (x_5389 : Int) (b_5396 : Bool) : Option Bool :=
  some (b_5396 && (x_5386 == x_5389))

noncomputable def go_ravellaw04_CodeTexts (a0_3564 : List (List api_Instr)) (a1_3565 : List Int) : Option Bool :=
  (go_ravellaw04_live).bind fun x_5373 =>
  (go_ravelref04_Few a0_3564).bind fun x_5375 =>
  if ((!x_5375) || (decide ((a1_3565.length : Int) > 3000))) = true then
    some x_5373
  else
    (go_code_Write a0_3564).bind fun (x_5379, x_5380) =>
    (go_ravelref04_Write a0_3564).bind fun (x_5382, x_5383) =>
    (go_code_Read a1_3565).bind fun (x_5385, x_5386) =>
    (go_ravelref04_Read a1_3565).bind fun (x_5388, x_5389) =>
    if ((x_5373 && ((strOfNums x_5379).toList == (strOfNums x_5382).toList)) && (x_5380 == x_5383)) = true then
      (go_ravelref04_Same x_5385 x_5388).bind fun x_5399 =>
      go_ravellaw04_CodeTexts_j1 x_5386 x_5389 x_5399
    else
      go_ravellaw04_CodeTexts_j1 x_5386 x_5389 false

theorem go_ravellaw04_CodeTexts_sc (a0_3564 : List (List api_Instr)) (a1_3565 : List Int) (r : Bool) (h : go_ravellaw04_CodeTexts a0_3564 a1_3565 = some r) : SC Try.prog gl 8 [V.sl 1 (rws (fun l => [V.sl 3 (rws api_Instr.cells l)]) a0_3564), V.sl 1 (rws (fun n => [V.int .u8 n]) a1_3565)] (V.bool r) := by
  rw [go_ravellaw04_CodeTexts] at h
  refine SC.of E_good Try.func8 rfl (fun _ _ => Try.call8 _ _) rfl ?_
  repeat (first | refine Safe.seq ?_ | refine Safe.skip ?_ | with_reducible refine thenQ.n ?_ | with_reducible refine blockQ.n ?_)
  refine Safe.region ?_
  refine SafeOps.quiet0 E_good rfl rfl rfl (v := V.bool false) (.fn rfl) ?_
  refine SafeOps.nil ?_
  repeat (first | refine Safe.seq ?_ | refine Safe.skip ?_ | with_reducible refine thenQ.n ?_ | with_reducible refine blockQ.n ?_)
  refine Safe.region ?_
  refine bindG h ?_
  intro x_5373 he5374 h
  refine SafeOps.quiet0 E_good rfl rfl rfl (v := V.bool x_5373) (.callP rfl rfl (go_ravellaw04_live_sc  _ he5374) rfl) ?_
  refine SafeOps.quiet0 E_good rfl rfl rfl (v := V.bool x_5373) (.fn rfl) ?_
  refine SafeOps.nil ?_
  repeat (first | refine Safe.seq ?_ | refine Safe.skip ?_ | with_reducible refine thenQ.n ?_ | with_reducible refine blockQ.n ?_)
  refine Safe.region ?_
  refine SafeOps.quiet0 E_good rfl rfl rfl (v := V.sl 1 (rws (fun l => [V.sl 3 (rws api_Instr.cells l)]) a0_3564)) (.fn rfl) ?_
  refine bindG h ?_
  intro x_5375 he5376 h
  refine SafeOps.quiet0 E_good rfl rfl rfl (v := V.bool x_5375) (.callP rfl rfl (go_ravelref04_Few_sc a0_3564 _ he5376) rfl) ?_
  refine SafeOps.quiet0 E_good rfl rfl rfl (v := V.bool (!x_5375)) (.fn rfl) ?_
  refine SafeOps.quiet0 E_good rfl rfl rfl (v := V.bool (!x_5375)) (.fn rfl) ?_
  refine SafeOps.bjoin 4 22 (b := ((!x_5375) || (decide ((a1_3565.length : Int) > 3000)))) (b1 := true) (b0 := decide ((a1_3565.length : Int) > 3000)) (fun hc5377 K => ?_) (fun hc5377 K => ?_) bj_or ?_
  · skip
    refine SafeOps.skip (congrArg (fun b => some (!b)) hc5377) rfl rfl ?_
    refine SafeOps.skip (congrArg (fun b => some (!b)) hc5377) rfl rfl ?_
    refine SafeOps.skip (congrArg (fun b => some (!b)) hc5377) rfl rfl ?_
    refine SafeOps.quiet0 E_good rfl rfl rfl (v := V.bool true) (.pickK rfl hc5377 rfl) ?_
    exact SafeOps.drop' 4 rfl rfl rfl K
  · skip
    refine SafeOps.quiet0 E_good (congrArg (fun b => some (!b)) hc5377) rfl rfl (v := V.sl 1 (rws (fun n => [V.int .u8 n]) a1_3565)) (.fn rfl) ?_
    refine SafeOps.quiet0 E_good (congrArg (fun b => some (!b)) hc5377) rfl rfl (v := V.int .i64 (a1_3565.length : Int)) (.fnE rfl lenE) ?_
    refine SafeOps.quiet0 E_good (congrArg (fun b => some (!b)) hc5377) rfl rfl (v := V.bool (decide ((a1_3565.length : Int) > 3000))) (.fn rfl) ?_
    refine SafeOps.quiet0 E_good rfl rfl rfl (v := V.bool (decide ((a1_3565.length : Int) > 3000))) (.pickK rfl hc5377 rfl) ?_
    exact SafeOps.drop' 4 rfl rfl rfl K
  refine SafeOps.nil ?_
  repeat (first | refine Safe.seq ?_ | refine Safe.skip ?_ | with_reducible refine thenQ.n ?_ | with_reducible refine blockQ.n ?_)
  refine ifG h (fun hc5378 h => ?_) (fun hc5378 h => ?_)
  · skip
    refine Safe.condK rfl hc5378 ?_
    repeat (first | refine Safe.seq ?_ | refine Safe.skip ?_ | with_reducible refine thenQ.n ?_ | with_reducible refine blockQ.n ?_)
    refine Safe.region ?_
    refine SafeOps.quiet0 E_good rfl rfl rfl (v := V.bool x_5373) (.fn rfl) ?_
    refine SafeOps.quiet0 E_good rfl rfl rfl (v := V.bool x_5373) (.fn rfl) ?_
    refine SafeOps.nil ?_
    repeat (first | refine Safe.seq ?_ | refine Safe.skip ?_ | with_reducible refine thenQ.n ?_ | with_reducible refine blockQ.n ?_)
    refine Safe.ret ?_
    repeat (first | with_reducible refine thenQ.r ?_ | with_reducible refine blockQ.r ?_)
    obtain rfl := Option.some.inj h
    exact retQ.gen (vs := [V.bool x_5373]) rfl (.tmp (v := V.bool x_5373) rfl .nil) (.free rfl) (by simp) (.inr rfl)
  · skip
    refine Safe.condN rfl hc5378 ?_
    repeat (first | refine Safe.seq ?_ | refine Safe.skip ?_ | with_reducible refine thenQ.n ?_ | with_reducible refine blockQ.n ?_)
    refine Safe.region ?_
    refine SafeOps.quiet0 E_good rfl rfl rfl (v := V.sl 1 (rws (fun l => [V.sl 3 (rws api_Instr.cells l)]) a0_3564)) (.fn rfl) ?_
    refine bindG h ?_
    rintro ⟨x_5379, x_5380⟩ he5381 h
    refine SafeOps.quiet E_good rfl rfl rfl (v := V.tup [V.ref [26, 0] 0 (rws (fun n => [V.int .u8 n]) x_5379).length, V.int .i64 x_5380]) (.callP rfl rfl (go_code_Write_sc a0_3564 _ he5381) rfl) rfl ?_
    refine SafeOps.quiet0 E_good rfl rfl rfl (v := V.tup [V.ref [26, 0] 0 (rws (fun n => [V.int .u8 n]) x_5379).length, V.int .i64 x_5380]) (.fn rfl) ?_
    refine SafeOps.quiet0 E_good rfl rfl rfl (v := V.ref [26, 0] 0 (rws (fun n => [V.int .u8 n]) x_5379).length) (.fn rfl) ?_
    refine SafeOps.quiet0 E_good rfl rfl rfl (v := V.int .i64 x_5380) (.fn rfl) ?_
    refine SafeOps.quiet0 E_good rfl rfl rfl (v := V.ref [26, 0] 0 (rws (fun n => [V.int .u8 n]) x_5379).length) (.fn rfl) ?_
    refine SafeOps.quiet0 E_good rfl rfl rfl (v := V.int .i64 x_5380) (.fn rfl) ?_
    refine SafeOps.nil ?_
    repeat (first | refine Safe.seq ?_ | refine Safe.skip ?_ | with_reducible refine thenQ.n ?_ | with_reducible refine blockQ.n ?_)
    refine Safe.region ?_
    refine SafeOps.quiet0 E_good rfl rfl rfl (v := V.sl 1 (rws (fun l => [V.sl 3 (rws api_Instr.cells l)]) a0_3564)) (.fn rfl) ?_
    refine bindG h ?_
    rintro ⟨x_5382, x_5383⟩ he5384 h
    refine SafeOps.quiet E_good rfl rfl rfl (v := V.tup [V.ref [31, 0] 0 (rws (fun n => [V.int .u8 n]) x_5382).length, V.int .i64 x_5383]) (.callP rfl rfl (go_ravelref04_Write_sc a0_3564 _ he5384) rfl) rfl ?_
    refine SafeOps.quiet0 E_good rfl rfl rfl (v := V.tup [V.ref [31, 0] 0 (rws (fun n => [V.int .u8 n]) x_5382).length, V.int .i64 x_5383]) (.fn rfl) ?_
    refine SafeOps.quiet0 E_good rfl rfl rfl (v := V.ref [31, 0] 0 (rws (fun n => [V.int .u8 n]) x_5382).length) (.fn rfl) ?_
    refine SafeOps.quiet0 E_good rfl rfl rfl (v := V.int .i64 x_5383) (.fn rfl) ?_
    refine SafeOps.quiet0 E_good rfl rfl rfl (v := V.ref [31, 0] 0 (rws (fun n => [V.int .u8 n]) x_5382).length) (.fn rfl) ?_
    refine SafeOps.quiet0 E_good rfl rfl rfl (v := V.int .i64 x_5383) (.fn rfl) ?_
    refine SafeOps.nil ?_
    repeat (first | refine Safe.seq ?_ | refine Safe.skip ?_ | with_reducible refine thenQ.n ?_ | with_reducible refine blockQ.n ?_)
    refine Safe.region ?_
    refine SafeOps.quiet0 E_good rfl rfl rfl (v := V.sl 1 (rws (fun n => [V.int .u8 n]) a1_3565)) (.fn rfl) ?_
    refine bindG h ?_
    rintro ⟨x_5385, x_5386⟩ he5387 h
    refine SafeOps.quiet E_good rfl rfl rfl (v := V.tup [V.ref [36, 0] 0 (rws (fun l => [V.sl 3 (rws api_Instr.cells l)]) x_5385).length, V.int .i64 x_5386]) (.callP rfl rfl (go_code_Read_sc a1_3565 _ he5387) rfl) rfl ?_
    refine SafeOps.quiet0 E_good rfl rfl rfl (v := V.tup [V.ref [36, 0] 0 (rws (fun l => [V.sl 3 (rws api_Instr.cells l)]) x_5385).length, V.int .i64 x_5386]) (.fn rfl) ?_
    refine SafeOps.quiet0 E_good rfl rfl rfl (v := V.ref [36, 0] 0 (rws (fun l => [V.sl 3 (rws api_Instr.cells l)]) x_5385).length) (.fn rfl) ?_
    refine SafeOps.quiet0 E_good rfl rfl rfl (v := V.int .i64 x_5386) (.fn rfl) ?_
    refine SafeOps.quiet0 E_good rfl rfl rfl (v := V.ref [36, 0] 0 (rws (fun l => [V.sl 3 (rws api_Instr.cells l)]) x_5385).length) (.fn rfl) ?_
    refine SafeOps.quiet0 E_good rfl rfl rfl (v := V.int .i64 x_5386) (.fn rfl) ?_
    refine SafeOps.nil ?_
    repeat (first | refine Safe.seq ?_ | refine Safe.skip ?_ | with_reducible refine thenQ.n ?_ | with_reducible refine blockQ.n ?_)
    refine Safe.region ?_
    refine SafeOps.quiet0 E_good rfl rfl rfl (v := V.sl 1 (rws (fun n => [V.int .u8 n]) a1_3565)) (.fn rfl) ?_
    refine bindG h ?_
    rintro ⟨x_5388, x_5389⟩ he5390 h
    refine SafeOps.quiet E_good rfl rfl rfl (v := V.tup [V.ref [41, 0] 0 (rws (fun l => [V.sl 3 (rws api_Instr.cells l)]) x_5388).length, V.int .i64 x_5389]) (.callP rfl rfl (go_ravelref04_Read_sc a1_3565 _ he5390) rfl) rfl ?_
    refine SafeOps.quiet0 E_good rfl rfl rfl (v := V.tup [V.ref [41, 0] 0 (rws (fun l => [V.sl 3 (rws api_Instr.cells l)]) x_5388).length, V.int .i64 x_5389]) (.fn rfl) ?_
    refine SafeOps.quiet0 E_good rfl rfl rfl (v := V.ref [41, 0] 0 (rws (fun l => [V.sl 3 (rws api_Instr.cells l)]) x_5388).length) (.fn rfl) ?_
    refine SafeOps.quiet0 E_good rfl rfl rfl (v := V.int .i64 x_5389) (.fn rfl) ?_
    refine SafeOps.quiet0 E_good rfl rfl rfl (v := V.ref [41, 0] 0 (rws (fun l => [V.sl 3 (rws api_Instr.cells l)]) x_5388).length) (.fn rfl) ?_
    refine SafeOps.quiet0 E_good rfl rfl rfl (v := V.int .i64 x_5389) (.fn rfl) ?_
    refine SafeOps.nil ?_
    repeat (first | refine Safe.seq ?_ | refine Safe.skip ?_ | with_reducible refine thenQ.n ?_ | with_reducible refine blockQ.n ?_)
    refine Safe.region ?_
    refine SafeOps.quiet0 E_good rfl rfl rfl (v := V.bool x_5373) (.fn rfl) ?_
    refine SafeOps.quiet0 E_good rfl rfl rfl (v := V.bool x_5373) (.fn rfl) ?_
    refine SafeOps.bjoin 6 51 (b := (x_5373 && ((strOfNums x_5379).toList == (strOfNums x_5382).toList))) (b1 := ((strOfNums x_5379).toList == (strOfNums x_5382).toList)) (b0 := false) (fun hc5391 K => ?_) (fun hc5391 K => ?_) bj_and ?_
    · skip
      refine SafeOps.quiet0 E_good (congrArg some hc5391) rfl rfl (v := V.ref [26, 0] 0 (rws (fun n => [V.int .u8 n]) x_5379).length) (.fn rfl) ?_
      refine SafeOps.quiet0 E_good (congrArg some hc5391) rfl rfl (v := V.str (strOfNums x_5379)) (.convB (ns := x_5379) rfl rfl rfl rfl (.full rfl rfl)) ?_
      refine SafeOps.quiet0 E_good (congrArg some hc5391) rfl rfl (v := V.ref [31, 0] 0 (rws (fun n => [V.int .u8 n]) x_5382).length) (.fn rfl) ?_
      refine SafeOps.quiet0 E_good (congrArg some hc5391) rfl rfl (v := V.str (strOfNums x_5382)) (.convB (ns := x_5382) rfl rfl rfl rfl (.full rfl rfl)) ?_
      refine SafeOps.quiet0 E_good (congrArg some hc5391) rfl rfl (v := V.bool ((strOfNums x_5379).toList == (strOfNums x_5382).toList)) (.fn rfl) ?_
      refine SafeOps.quiet0 E_good rfl rfl rfl (v := V.bool ((strOfNums x_5379).toList == (strOfNums x_5382).toList)) (.pickK rfl hc5391 rfl) ?_
      exact SafeOps.drop' 6 rfl rfl rfl K
    · skip
      refine SafeOps.skip (congrArg some hc5391) rfl rfl ?_
      refine SafeOps.skip (congrArg some hc5391) rfl rfl ?_
      refine SafeOps.skip (congrArg some hc5391) rfl rfl ?_
      refine SafeOps.skip (congrArg some hc5391) rfl rfl ?_
      refine SafeOps.skip (congrArg some hc5391) rfl rfl ?_
      refine SafeOps.quiet0 E_good rfl rfl rfl (v := V.bool false) (.pickK rfl hc5391 rfl) ?_
      exact SafeOps.drop' 6 rfl rfl rfl K
    refine SafeOps.quiet0 E_good rfl rfl rfl (v := V.bool (x_5373 && ((strOfNums x_5379).toList == (strOfNums x_5382).toList))) (.fn rfl) ?_
    refine SafeOps.bjoin 4 56 (b := ((x_5373 && ((strOfNums x_5379).toList == (strOfNums x_5382).toList)) && (x_5380 == x_5383))) (b1 := (x_5380 == x_5383)) (b0 := false) (fun hc5392 K => ?_) (fun hc5392 K => ?_) bj_and ?_
    · skip
      refine SafeOps.quiet0 E_good (congrArg some hc5392) rfl rfl (v := V.int .i64 x_5380) (.fn rfl) ?_
      refine SafeOps.quiet0 E_good (congrArg some hc5392) rfl rfl (v := V.int .i64 x_5383) (.fn rfl) ?_
      refine SafeOps.quiet0 E_good (congrArg some hc5392) rfl rfl (v := V.bool (x_5380 == x_5383)) (.fn rfl) ?_
      refine SafeOps.quiet0 E_good rfl rfl rfl (v := V.bool (x_5380 == x_5383)) (.pickK rfl hc5392 rfl) ?_
      exact SafeOps.drop' 4 rfl rfl rfl K
    · skip
      refine SafeOps.skip (congrArg some hc5392) rfl rfl ?_
      refine SafeOps.skip (congrArg some hc5392) rfl rfl ?_
      refine SafeOps.skip (congrArg some hc5392) rfl rfl ?_
      refine SafeOps.quiet0 E_good rfl rfl rfl (v := V.bool false) (.pickK rfl hc5392 rfl) ?_
      exact SafeOps.drop' 4 rfl rfl rfl K
    refine SafeOps.quiet0 E_good rfl rfl rfl (v := V.bool ((x_5373 && ((strOfNums x_5379).toList == (strOfNums x_5382).toList)) && (x_5380 == x_5383))) (.fn rfl) ?_
    refine SafeOps.bsplit 4 61 (fun b_5396 => go_ravellaw04_CodeTexts_j1 x_5386 x_5389 b_5396 = some r) (fun HJ5397 => ?_) (fun b_5396 h => ?_)
    · refine ifG h (fun hc5393 h => ?_) (fun hc5393 h => ?_)
      · skip
        refine SafeOps.quiet0 E_good (congrArg some hc5393) rfl rfl (v := V.ref [36, 0] 0 (rws (fun l => [V.sl 3 (rws api_Instr.cells l)]) x_5385).length) (.fn rfl) ?_
        refine SafeOps.quiet0 E_good (congrArg some hc5393) rfl rfl (v := V.ref [41, 0] 0 (rws (fun l => [V.sl 3 (rws api_Instr.cells l)]) x_5388).length) (.fn rfl) ?_
        refine bindG h ?_
        intro x_5399 he5400 h
        refine SafeOps.quiet0 E_good (congrArg some hc5393) rfl rfl (v := V.bool x_5399) (.callS rfl (.cons (.full rfl rfl) (.cons (.full rfl rfl) .nil)) (go_ravelref04_Same_sc x_5385 x_5388 _ he5400) (.plain rfl) rfl) ?_
        refine SafeOps.quiet0 E_good rfl rfl rfl (v := V.bool x_5399) (.pickK rfl hc5393 rfl) ?_
        exact SafeOps.drop' 4 rfl rfl rfl (HJ5397 _ h)
      · skip
        refine SafeOps.skip (congrArg some hc5393) rfl rfl ?_
        refine SafeOps.skip (congrArg some hc5393) rfl rfl ?_
        refine SafeOps.skip (congrArg some hc5393) rfl rfl ?_
        refine SafeOps.quiet0 E_good rfl rfl rfl (v := V.bool false) (.pickK rfl hc5393 rfl) ?_
        exact SafeOps.drop' 4 rfl rfl rfl (HJ5397 _ h)
    · replace h : go_ravellaw04_CodeTexts_j1 x_5386 x_5389 b_5396 = some r := h
      rw [go_ravellaw04_CodeTexts_j1] at h
      refine SafeOps.quiet0 E_good rfl rfl rfl (v := V.bool b_5396) (.fn rfl) ?_
      refine SafeOps.bjoin 4 66 (b := (b_5396 && (x_5386 == x_5389))) (b1 := (x_5386 == x_5389)) (b0 := false) (fun hc5398 K => ?_) (fun hc5398 K => ?_) bj_and ?_
      · skip
        refine SafeOps.quiet0 E_good (congrArg some hc5398) rfl rfl (v := V.int .i64 x_5386) (.fn rfl) ?_
        refine SafeOps.quiet0 E_good (congrArg some hc5398) rfl rfl (v := V.int .i64 x_5389) (.fn rfl) ?_
        refine SafeOps.quiet0 E_good (congrArg some hc5398) rfl rfl (v := V.bool (x_5386 == x_5389)) (.fn rfl) ?_
        refine SafeOps.quiet0 E_good rfl rfl rfl (v := V.bool (x_5386 == x_5389)) (.pickK rfl hc5398 rfl) ?_
        exact SafeOps.drop' 4 rfl rfl rfl K
      · skip
        refine SafeOps.skip (congrArg some hc5398) rfl rfl ?_
        refine SafeOps.skip (congrArg some hc5398) rfl rfl ?_
        refine SafeOps.skip (congrArg some hc5398) rfl rfl ?_
        refine SafeOps.quiet0 E_good rfl rfl rfl (v := V.bool false) (.pickK rfl hc5398 rfl) ?_
        exact SafeOps.drop' 4 rfl rfl rfl K
      refine SafeOps.quiet0 E_good rfl rfl rfl (v := V.bool (b_5396 && (x_5386 == x_5389))) (.fn rfl) ?_
      refine SafeOps.nil ?_
      repeat (first | refine Safe.seq ?_ | refine Safe.skip ?_ | with_reducible refine thenQ.n ?_ | with_reducible refine blockQ.n ?_)
      refine Safe.ret ?_
      repeat (first | with_reducible refine thenQ.r ?_ | with_reducible refine blockQ.r ?_)
      obtain rfl := Option.some.inj h
      exact retQ.gen (vs := [V.bool (b_5396 && (x_5386 == x_5389))]) rfl (.tmp (v := V.bool (b_5396 && (x_5386 == x_5389))) rfl .nil) (.free rfl) (by simp) (.inr rfl)

end Go.Proofs.Ytdlpecjbafadkaa
