/- Helper lemmas for the claim's theorem: an abstract machine over the model, proved sound; no condition beyond each lemma's own. -/
import Derived.Test.YtgbolkdlghenfaaL01b
set_option linter.unusedVariables false
set_option linter.unusedSimpArgs false
set_option linter.unnecessarySimpa false
set_option linter.unusedSectionVars false
/- Plain laws on the printed functions. -/
namespace Go.Proofs.Ytgbolkdlghenfaa
open Go Go.AM
set_option maxRecDepth 100000
set_option maxHeartbeats 1000000
set_option linter.unusedVariables false
set_option linter.unusedSimpArgs false
theorem new_eq (n : Int) : go_cell_New n = some (if 0 ≤ n ∧ n ≤ 65536 then (List.replicate n.toNat 0, 0) else ([], 1)) := by
  unfold go_cell_New
  by_cases h : 0 ≤ n ∧ n ≤ 65536
  · rw [if_neg (by simp; omega), if_pos (by omega), if_pos h]
  · rw [if_pos (by simp; omega), if_neg h]
theorem rnew_eq (n : Int) : go_ravelref01_New n = some (if 0 ≤ n ∧ n ≤ 65536 then (List.replicate n.toNat 0, 0) else ([], 1)) := by
  unfold go_ravelref01_New
  by_cases h : 0 ≤ n ∧ n ≤ 65536
  · rw [if_neg (by simp; omega), if_pos h]
    have h1 := whileO_run (step := go_ravelref01_New_s1 n) (fun j => (List.replicate j (0 : Int), (j : Int))) n.toNat (fun j hj => by
      have e : List.replicate j (0 : Int) ++ [0] = List.replicate (j + 1) 0 := by rw [List.replicate_succ']
      rw [go_ravelref01_New_s1, if_pos (by simp; omega), e, if_pos (show few _ by unfold few; rw [List.length_replicate]; omega), w64_nat (by omega)]; rfl)
    have h2 : (([] : List Int), (0 : Int)) = (List.replicate 0 (0 : Int), ((0 : Nat) : Int)) := rfl
    rw [h2, h1]
    refine whileO_inr ?_
    rw [go_ravelref01_New_s1, if_neg (by simp; omega)]; rfl
  · rw [if_pos (by simp; omega), if_neg h]
theorem mut_loop {m a : List Int} {u b : Bool} (hl : a.length ≤ 1000000) (hm : m.length ≤ 9223372036854775807) : ∀ (k i : Nat) (v : List Int), i + k = a.length → v.length = a.length → whileO (go_ravellaw01_CellDoes_s4 m u a b) (v, (i : Int)) = some (u && b)
  | 0, i, v, h, hv => by
    have : i = a.length := by omega
    subst this
    refine whileO_inr ?_
    rw [go_ravellaw01_CellDoes_s4, if_neg (by simp), List.nil_append, same_eq hm]
    cases u <;> cases b <;> simp
  | k + 1, i, v, h, hv => by
    rw [whileO_inl (s' := (st v (i : Int) (IntKind.i64.wrap ((gt v (i : Int)) + 1)), ((i + 1 : Nat) : Int)))]
    · exact mut_loop hl hm k (i + 1) _ (by omega) (by rw [st_len]; exact hv)
    · rw [go_ravellaw01_CellDoes_s4, if_pos (by simp; omega), if_pos (by omega), if_pos (by omega), w64_nat (by omega)]; rfl
theorem cellDoes_true {m o : List Int} {x : api_Mic} {n : Int} (hm : ∀ x ∈ m, i64ok x) (hl : m.length ≤ 9223372036854775807) (h8 : m.length * 8 ≤ 140737488355328) (ha : i64ok x.A) : go_ravellaw01_CellDoes m o x n = some true := by
  unfold go_ravellaw01_CellDoes
  rw [live_eq]
  simp only [Option.bind_some]
  rw [if_neg (by simp)]
  split
  · rfl
  · rename_i hg
    simp only [Bool.or_eq_true, Bool.and_eq_true, decide_eq_true_eq, not_or, not_and] at hg
    rw [List.nil_append, if_pos (show fewB 8 m.length from ⟨h8, hl⟩), do_eq hm ha, rdo_eq hm ha, new_eq, rnew_eq]
    simp only [Option.bind_some]
    have hd := doV_len m x
    have hdl : (doV m x).1.length ≤ 1000000 := by
      by_cases h : m.length ≤ 65536
      · omega
      · have : okB m x.At = false := okB_not.2 (by omega)
        unfold doV
        rw [this]; simp
    rw [same_eq (by omega)]
    simp only [Option.bind_some]
    rw [if_pos (by simp)]
    have hrep : (if 0 ≤ n ∧ n ≤ 65536 then (List.replicate n.toNat (0 : Int), (0 : Int)) else ([], 1)).1.length ≤ 65536 := by
      split
      · simp; omega
      · simp
    rw [same_eq (by omega), Option.bind_some]
    unfold go_ravellaw01_CellDoes_j1
    have hck : go_cell_Check m = go_ravelref01_Check m := rfl
    rw [if_pos (by simp [hck]), csame_eq hl, Option.bind_some, same_eq hl, Option.bind_some]
    unfold go_ravellaw01_CellDoes_j2
    have := mut_loop (m := m) (a := (doV m x).1) (u := true) (b := (decide (m = o) == decide (m = o))) hdl hl (doV m x).1.length 0 (doV m x).1 (by omega) rfl
    rw [show ((0 : Nat) : Int) = 0 from rfl] at this
    rw [this]
    simp

end Go.Proofs.Ytgbolkdlghenfaa
