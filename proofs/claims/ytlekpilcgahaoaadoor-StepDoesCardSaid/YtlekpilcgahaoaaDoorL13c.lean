/- Helper lemmas for the claim's theorem: an abstract machine over the model, proved sound; no condition beyond each lemma's own. -/
import Derived.Test.YtlekpilcgahaoaaDoorL13b
set_option linter.unusedVariables false
set_option linter.unusedSimpArgs false
set_option linter.unnecessarySimpa false
set_option linter.unusedSectionVars false
/- Plain laws on the printed functions. -/
namespace Go.Proofs.YtlekpilcgahaoaaDoor
open Go Go.AM
set_option maxRecDepth 100000
set_option maxHeartbeats 1000000
set_option linter.unusedVariables false
set_option linter.unusedSimpArgs false
/-- The task fits the program. -/
def insN (t : api_Task) (p : List api_Instr) : api_Instr := if t.Pc < p.length then gt p t.Pc else api_Instr.mk 9 0 0
def fitB (t : api_Task) (p : List api_Instr) : Bool := chk t && (chkP p && (decide (t.Pc ≤ p.length) && (decide (t.Unit = 0) || (decide (t.Pc < p.length) && (decide ((gt p t.Pc).Op = 1) && decide (t.Unit < (gt p t.Pc).A))))))
theorem chk_bounds {t : api_Task} (h : chk t = true) : t.Id ≥ 0 ∧ (0 ≤ t.Pc ∧ t.Pc ≤ 32) ∧ (0 ≤ t.Unit ∧ t.Unit ≤ 99) ∧ (0 ≤ t.Ran ∧ t.Ran ≤ 1099511627776) := by
  unfold chk at h
  simp [go_life_below] at h
  omega
theorem next_eq {t : api_Task} {p : List api_Instr} (hp : pok p) : go_step_Next t p = some (if fitB t p then (insN t p, 0) else (api_Instr.zero, 1)) := by
  unfold go_step_Next
  rw [check_eq, Option.bind_some, chkE_ne, codeCheck_eq hp, Option.bind_some]
  unfold fitB
  cases hc : chk t with
  | false => simp [go_step_Next_j1]
  | true =>
    obtain ⟨-, hpc, hun, -⟩ := chk_bounds hc
    simp only [Bool.not_true, Bool.false_eq_true, if_false, Bool.true_and]
    cases hk : chkP p with
    | false => simp [go_step_Next_j1]
    | true =>
      simp only [if_true, Bool.true_and]
      unfold go_step_Next_j1 insN
      by_cases h1 : t.Pc ≤ p.length
      · rw [if_neg (by simp; omega)]
        by_cases h2 : t.Pc < p.length
        · rw [if_pos (by simpa using h2), if_pos (by omega)]
          unfold go_step_Next_j2
          by_cases h3 : t.Unit = 0
          · rw [if_neg (by simp [h3])]; simp [h1, h2, h3]
          · by_cases h4 : (gt p t.Pc).Op = 1 ∧ t.Unit < (gt p t.Pc).A
            · rw [if_neg (by simp [h4.1]; omega), if_pos (by simp [h1, h2, h3, h4.1, h4.2]), if_pos h2]
            · rw [if_pos (by simp; omega)]
              rw [if_neg]
              simp [h1, h2, h3]; omega
        · rw [if_neg (by simpa using h2)]
          unfold go_step_Next_j2
          by_cases h3 : t.Unit = 0
          · rw [if_neg (by simp [h3])]; simp [h1, h2, h3]
          · rw [if_pos (by simp; omega)]; simp [h1, h2, h3]
      · rw [if_pos (by simp; omega)]; simp [h1]
theorem fits_eq {t : api_Task} {p : List api_Instr} (hp : pok p) : go_ravelref13_Fits t p = some (fitB t p) := by
  unfold go_ravelref13_Fits
  rw [rcheck_eq, Option.bind_some, chkE_ne, rcodeCheck_eq hp.1, Option.bind_some]
  unfold fitB
  cases hc : chk t with
  | false => simp [go_ravelref13_Fits_j1]
  | true =>
    obtain ⟨-, hpc, hun, -⟩ := chk_bounds hc
    simp only [Bool.not_true, Bool.false_eq_true, if_false, Bool.true_and]
    cases hk : chkP p with
    | false => simp [go_ravelref13_Fits_j1]
    | true =>
      simp only [if_true, Bool.true_and]
      unfold go_ravelref13_Fits_j1
      by_cases h1 : t.Pc ≤ p.length
      · rw [if_neg (by simp; omega)]
        by_cases h3 : t.Unit = 0
        · rw [if_pos (by simp [h3])]; simp [h1, h3]
        · rw [if_neg (by simp [h3])]
          by_cases h2 : t.Pc < p.length
          · rw [if_pos (by simpa using h2), if_pos (by omega)]
            by_cases h4 : (gt p t.Pc).Op = 1
            · rw [if_pos (by simp [h4]), if_pos (by omega)]; simp [h1, h2, h3, h4]
            · rw [if_neg (by simp [h4])]; simp [h3, h4]
          · rw [if_neg (by simpa using h2)]; simp [h2, h3]
      · rw [if_pos (by simp; omega)]; simp [h1]
theorem fit_parts {t : api_Task} {p : List api_Instr} (h : fitB t p = true) : chk t = true ∧ chkP p = true ∧ t.Pc ≤ p.length ∧ (t.Unit = 0 ∨ (t.Pc < p.length ∧ (gt p t.Pc).Op = 1 ∧ t.Unit < (gt p t.Pc).A)) := by
  unfold fitB at h
  simpa [and_assoc] using h
theorem chkP_parts {p : List api_Instr} (h : chkP p = true) : 1 ≤ p.length ∧ p.length ≤ 32 ∧ ∀ x ∈ p, go_ravelref04_may x = true := by
  unfold chkP at h
  simp only [Bool.and_eq_true, decide_eq_true_eq, List.all_eq_true] at h
  exact ⟨h.1.1, h.1.2, h.2⟩
theorem gt_mem {p : List api_Instr} {i : Int} (h : 0 ≤ i ∧ i < p.length) : gt p i ∈ p := by
  have h1 : i = ((i.toNat : Nat) : Int) := by omega
  have h2 : i.toNat < p.length := by omega
  rw [h1, gt_nat h2]
  exact List.getElem_mem _
theorem rnext_eq {t : api_Task} {p : List api_Instr} (hp : pok p) : go_ravelref13_Next t p = some (if fitB t p then (insN t p, 0) else (api_Instr.zero, 1)) := by
  unfold go_ravelref13_Next
  rw [fits_eq hp, Option.bind_some]
  cases hf : fitB t p with
  | false => simp
  | true =>
    obtain ⟨hc, -, hl, -⟩ := fit_parts hf
    obtain ⟨-, hpc, -, -⟩ := chk_bounds hc
    rw [if_neg (by simp)]
    unfold insN
    by_cases h : t.Pc = p.length
    · rw [if_pos (by simp [h])]; simp [h]
    · rw [if_neg (by simp [h]), if_pos (by omega)]; simp; omega
/-- A unit more. -/
def minI (a b : Int) : Int := if a < b then a else b
def doT (t : api_Task) (p : List api_Instr) : api_Task :=
  if (insN t p).Op = 1 ∧ t.Unit + 1 < (insN t p).A then api_Task.mk t.Id t.Tenant t.Prog t.Pc (t.Unit + 1) t.Keeps t.State (t.Ran + 1)
  else api_Task.mk t.Id t.Tenant t.Prog (minI p.length (t.Pc + 1)) 0 t.Keeps t.State (t.Ran + 1)
def doE (t : api_Task) (p : List api_Instr) : api_Effect := if (insN t p).Op = 1 then api_Effect.zero else api_Effect.mk (insN t p).Op (insN t p).A (insN t p).B
def doR (t : api_Task) (p : List api_Instr) : api_Task × api_Effect × Int :=
  if fitB t p then (if t.State = 2 then (if t.Ran = 1099511627776 then (api_Task.zero, api_Effect.zero, 4) else (doT t p, doE t p, 0)) else (api_Task.zero, api_Effect.zero, 9)) else (api_Task.zero, api_Effect.zero, 1)
theorem do_eq {t : api_Task} {p : List api_Instr} (hp : pok p) : go_step_Do t p = some (doR t p) := by
  unfold go_step_Do
  rw [next_eq hp, Option.bind_some]
  unfold doR
  cases hf : fitB t p with
  | false => simp
  | true =>
    obtain ⟨hc, hk, hl, -⟩ := fit_parts hf
    obtain ⟨-, hpc, hun, hran⟩ := chk_bounds hc
    simp only [if_true]
    rw [if_neg (by simp)]
    by_cases hs : t.State = 2
    · rw [if_neg (by simp [hs]), if_pos hs]
      by_cases hr : t.Ran = 1099511627776
      · rw [if_pos (by simp [hr]), if_pos hr]
      · rw [if_neg (by simp [hr]), if_neg hr]
        rw [w64_id (n := t.Unit + 1) (by omega) (by omega)]
        unfold go_step_Do_j1 doT doE
        rw [w64_id (n := t.Pc + 1) (by omega) (by omega), w64_id (n := t.Ran + 1) (by omega) (by omega)]
        by_cases h1 : (insN t p).Op = 1
        · rw [if_pos (by simp [h1])]
          by_cases h2 : t.Unit + 1 < (insN t p).A
          · rw [if_pos (by simpa using h2), if_pos ⟨h1, h2⟩, if_pos h1]
          · rw [if_neg (by simpa using h2), if_neg (show ¬ ((insN t p).Op = 1 ∧ t.Unit + 1 < (insN t p).A) from fun h => h2 h.2), if_pos h1]; rfl
        · rw [if_neg (by simp [h1]), if_neg (show ¬ ((insN t p).Op = 1 ∧ t.Unit + 1 < (insN t p).A) from fun h => h1 h.1), if_neg h1]; rfl
    · rw [if_pos (by simp [hs]), if_neg hs]
theorem rdo_eq {t : api_Task} {p : List api_Instr} (hp : pok p) : go_ravelref13_Do t p = some (doR t p) := by
  unfold go_ravelref13_Do
  rw [rnext_eq hp, Option.bind_some]
  unfold doR
  cases hf : fitB t p with
  | false => simp
  | true =>
    obtain ⟨hc, hk, hl, -⟩ := fit_parts hf
    obtain ⟨-, hpc, hun, hran⟩ := chk_bounds hc
    simp only [if_true]
    rw [if_neg (by simp)]
    by_cases hs : t.State = 2
    · rw [if_neg (by simp [hs]), if_pos hs]
      by_cases hr : t.Ran = 1099511627776
      · rw [if_pos (by simp [hr]), if_pos hr]
      · rw [if_neg (by simp [hr]), if_neg hr]
        rw [w64_id (n := t.Unit + 1) (by omega) (by omega), w64_id (n := t.Ran + 1) (by omega) (by omega)]
        unfold doT doE
        by_cases h1 : (insN t p).Op = 1 ∧ t.Unit + 1 < (insN t p).A
        · rw [if_pos (by simp [h1.1, h1.2]), if_pos h1, if_pos h1.1]
        · rw [if_neg (by simpa using h1), if_neg h1]
          have hm : (if t.Pc < p.length then t.Pc + 1 else t.Pc) = minI p.length (t.Pc + 1) := by unfold minI; split <;> split <;> omega
          rw [← hm]
          unfold go_ravelref13_Do_j1
          rw [w64_id (n := t.Pc + 1) (by omega) (by omega), w64_id (n := t.Ran + 1) (by omega) (by omega)]
          by_cases h2 : t.Pc < p.length <;> by_cases h3 : (insN t p).Op = 1 <;> simp [h2, h3]
    · rw [if_pos (by simp [hs]), if_neg hs]

end Go.Proofs.YtlekpilcgahaoaaDoor
