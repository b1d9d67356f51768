/- Helper lemmas for the claim's theorem: an abstract machine over the model, proved sound; no condition beyond each lemma's own. -/
import Derived.Test.YtlekpilcgahaoaaDoorL13
set_option linter.unusedVariables false
set_option linter.unusedSimpArgs false
set_option linter.unnecessarySimpa false
set_option linter.unusedSectionVars false
/- Plain laws on the printed functions. -/
namespace Go.Proofs.YtlekpilcgahaoaaDoor
open Go Go.AM
set_option maxRecDepth 100000
set_option maxHeartbeats 1000000
set_option linter.unusedVariables false
set_option linter.unusedSimpArgs false
def pok (p : List api_Instr) : Prop := p.length ≤ 9223372036854775807 ∧ ∀ x ∈ p, i64ok x.A
theorem within_pred {a m : Int} (ha : i64ok a) (hm : 0 ≤ m ∧ m ≤ 1000000) : go_code_within (IntKind.i64.wrap (a - 1)) m = (decide (1 ≤ a) && decide (a ≤ m)) := by
  obtain ⟨h1, h2⟩ := ha
  unfold go_code_within
  by_cases h : a = -9223372036854775808
  · subst h
    have : IntKind.i64.wrap (-9223372036854775808 - 1) = 9223372036854775807 := by decide
    rw [this]
    simp; omega
  · rw [w64_id (by omega) (by omega)]
    rw [Bool.eq_iff_iff]; simp; omega
theorem odd_may {x : api_Instr} (h : i64ok x.A) : go_code_odd x = !go_ravelref04_may x := by
  unfold go_code_odd go_code_odd_j3 go_code_odd_j4 go_code_odd_j2 go_ravelref04_may go_ravelref04_in
  rw [within_pred h (by decide), within_pred h (by decide)]
  unfold go_code_within
  by_cases h1 : x.Op = 1
  · rw [Bool.eq_iff_iff]; simp [h1] <;> omega
  by_cases h2 : x.Op = 2
  · rw [Bool.eq_iff_iff]; simp [h2] <;> omega
  by_cases h3 : x.Op = 3
  · rw [Bool.eq_iff_iff]; simp [h3]
  by_cases h4 : x.Op = 4
  · rw [Bool.eq_iff_iff]; simp [h4] <;> omega
  by_cases h5 : x.Op = 5
  · rw [Bool.eq_iff_iff]; simp [h5] <;> omega
  by_cases h6 : x.Op = 6
  · rw [Bool.eq_iff_iff]; simp [h6] <;> omega
  by_cases h7 : x.Op = 7
  · rw [Bool.eq_iff_iff]; simp [h7] <;> omega
  by_cases h8 : x.Op = 8
  · rw [Bool.eq_iff_iff]; simp [h8] <;> omega
  by_cases h9 : x.Op = 9
  · rw [Bool.eq_iff_iff]; simp [h9]
  · rw [Bool.eq_iff_iff]; simp [h1, h2, h3, h4, h5, h6, h7, h8, h9]
def chkP (p : List api_Instr) : Bool := (decide (1 ≤ p.length) && decide (p.length ≤ 32)) && p.all go_ravelref04_may
theorem odd_any {p : List api_Instr} (h : ∀ x ∈ p, i64ok x.A) : p.any go_code_odd = !p.all go_ravelref04_may := by
  induction p with
  | nil => rfl
  | cons x r ih => rw [List.any_cons, List.all_cons, odd_may (h x (by simp)), ih (fun y hy => h y (by simp [hy])), Bool.not_and]
theorem codeCheck_eq {p : List api_Instr} (h : pok p) : go_code_Check p = some (if chkP p then 0 else 1) := by
  unfold go_code_Check chkP
  by_cases hl : ((decide ((p.length : Int) < 1)) || (decide ((p.length : Int) > 32))) = true
  · rw [if_pos hl, if_neg]
    simp only [Bool.or_eq_true, decide_eq_true_eq] at hl
    simp only [Bool.and_eq_true, decide_eq_true_eq]; omega
  · rw [if_neg hl]
    simp only [Bool.or_eq_true, decide_eq_true_eq] at hl
    unfold go_slices_ContainsFunc_api_Instr_api_Instr_odd25 go_slices_IndexFunc_api_Instr_api_Instr_odd25
    rw [whileO_index (step := go_slices_IndexFunc_api_Instr_api_Instr_odd25_s1 p) go_code_odd p h.1 (fun v => rfl)]
    simp only [Option.bind_some]
    rw [idxOf_any, odd_any h.2]
    have h1 : decide (1 ≤ p.length) = true := by simp; omega
    have h2 : decide (p.length ≤ 32) = true := by simp; omega
    rw [h1, h2]
    cases p.all go_ravelref04_may <;> rfl
theorem rcodeCheck_eq {p : List api_Instr} (h : p.length ≤ 9223372036854775807) : go_ravelref04_Check p = some (if chkP p then 0 else 1) := by
  unfold go_ravelref04_Check chkP
  by_cases hl : ((decide ((p.length : Int) < 1)) || (decide ((p.length : Int) > 32))) = true
  · rw [if_pos hl, if_neg]
    simp only [Bool.or_eq_true, decide_eq_true_eq] at hl
    simp only [Bool.and_eq_true, decide_eq_true_eq]; omega
  · rw [if_neg hl]
    simp only [Bool.or_eq_true, decide_eq_true_eq] at hl
    rw [whileO_seek (step := go_ravelref04_Check_s1 p) (fun x => !go_ravelref04_may x) p (fun _ => some 1) (some 0) h (fun i hi => by rw [go_ravelref04_Check_s1, if_pos (by simpa using hi), if_pos (by omega)]) (by rw [go_ravelref04_Check_s1, if_neg (by simp)])]
    rw [seek_any]
    have h1 : decide (1 ≤ p.length) = true := by simp; omega
    have h2 : decide (p.length ≤ 32) = true := by simp; omega
    have h3 : (p.any fun x => !go_ravelref04_may x) = !p.all go_ravelref04_may := by
      clear h h1 h2 hl
      induction p with
      | nil => rfl
      | cons x r ih => rw [List.any_cons, List.all_cons, ih, Bool.not_and]
    rw [h1, h2, h3]
    cases p.all go_ravelref04_may <;> rfl
theorem may_op {x : api_Instr} (h : go_ravelref04_may x = true) : 1 ≤ x.Op ∧ x.Op ≤ 9 := by
  by_cases h1 : x.Op = 1
  · omega
  by_cases h2 : x.Op = 2
  · omega
  by_cases h3 : x.Op = 3
  · omega
  by_cases h4 : x.Op = 4
  · omega
  by_cases h5 : x.Op = 5
  · omega
  by_cases h6 : x.Op = 6
  · omega
  by_cases h7 : x.Op = 7
  · omega
  by_cases h8 : x.Op = 8
  · omega
  by_cases h9 : x.Op = 9
  · omega
  · exfalso
    unfold go_ravelref04_may at h
    simp [h1, h2, h3, h4, h5, h6, h7, h8, h9] at h
theorem may_work {x : api_Instr} (h : go_ravelref04_may x = true) (h1 : x.Op = 1) : 1 ≤ x.A ∧ x.A ≤ 100 := by
  unfold go_ravelref04_may go_ravelref04_in at h
  simp [h1] at h; omega

end Go.Proofs.YtlekpilcgahaoaaDoor
