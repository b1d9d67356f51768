/- Helper lemmas for the claim's theorem: an abstract machine over the model, proved sound; no condition beyond each lemma's own. -/
import Derived.Test.YtdlpecjbafadkaaT3
import Derived.Test.YtdlpecjbafadkaaAmG
set_option linter.unusedVariables false
set_option linter.unusedSimpArgs false
set_option linter.unnecessarySimpa false
set_option linter.unusedSectionVars false
/- Plain laws on the printed functions. -/
namespace Go.Proofs.Ytdlpecjbafadkaa
open Go Go.AM
set_option maxRecDepth 100000
set_option maxHeartbeats 1000000
set_option linter.unusedVariables false
set_option linter.unusedSimpArgs false
def pok (p : List api_Instr) : Prop := p.length ≤ 9223372036854775807 ∧ ∀ x ∈ p, i64ok x.A
theorem within_pred {a m : Int} (ha : i64ok a) (hm : 0 ≤ m ∧ m ≤ 1000000) : go_code_within (IntKind.i64.wrap (a - 1)) m = (decide (1 ≤ a) && decide (a ≤ m)) := by
  obtain ⟨h1, h2⟩ := ha
  unfold go_code_within
  by_cases h : a = -9223372036854775808
  · subst h
    have : IntKind.i64.wrap (-9223372036854775808 - 1) = 9223372036854775807 := by decide
    rw [this]
    simp; omega
  · rw [w64_id (by omega) (by omega)]
    rw [Bool.eq_iff_iff]; simp; omega
theorem odd_may {x : api_Instr} (h : i64ok x.A) : go_code_odd x = !go_ravelref04_may x := by
  unfold go_code_odd go_code_odd_j3 go_code_odd_j4 go_code_odd_j2 go_ravelref04_may go_ravelref04_in
  rw [within_pred h (by decide), within_pred h (by decide)]
  unfold go_code_within
  by_cases h1 : x.Op = 1
  · rw [Bool.eq_iff_iff]; simp [h1] <;> omega
  by_cases h2 : x.Op = 2
  · rw [Bool.eq_iff_iff]; simp [h2] <;> omega
  by_cases h3 : x.Op = 3
  · rw [Bool.eq_iff_iff]; simp [h3]
  by_cases h4 : x.Op = 4
  · rw [Bool.eq_iff_iff]; simp [h4] <;> omega
  by_cases h5 : x.Op = 5
  · rw [Bool.eq_iff_iff]; simp [h5] <;> omega
  by_cases h6 : x.Op = 6
  · rw [Bool.eq_iff_iff]; simp [h6] <;> omega
  by_cases h7 : x.Op = 7
  · rw [Bool.eq_iff_iff]; simp [h7] <;> omega
  by_cases h8 : x.Op = 8
  · rw [Bool.eq_iff_iff]; simp [h8] <;> omega
  by_cases h9 : x.Op = 9
  · rw [Bool.eq_iff_iff]; simp [h9]
  · rw [Bool.eq_iff_iff]; simp [h1, h2, h3, h4, h5, h6, h7, h8, h9]
def chkP (p : List api_Instr) : Bool := (decide (1 ≤ p.length) && decide (p.length ≤ 32)) && p.all go_ravelref04_may
theorem odd_any {p : List api_Instr} (h : ∀ x ∈ p, i64ok x.A) : p.any go_code_odd = !p.all go_ravelref04_may := by
  induction p with
  | nil => rfl
  | cons x r ih => rw [List.any_cons, List.all_cons, odd_may (h x (by simp)), ih (fun y hy => h y (by simp [hy])), Bool.not_and]
theorem codeCheck_eq {p : List api_Instr} (h : pok p) : go_code_Check p = some (if chkP p then 0 else 1) := by
  unfold go_code_Check chkP
  by_cases hl : ((decide ((p.length : Int) < 1)) || (decide ((p.length : Int) > 32))) = true
  · rw [if_pos hl, if_neg]
    simp only [Bool.or_eq_true, decide_eq_true_eq] at hl
    simp only [Bool.and_eq_true, decide_eq_true_eq]; omega
  · rw [if_neg hl]
    simp only [Bool.or_eq_true, decide_eq_true_eq] at hl
    unfold go_slices_ContainsFunc_api_Instr_api_Instr_odd31 go_slices_IndexFunc_api_Instr_api_Instr_odd31
    rw [whileO_index (step := go_slices_IndexFunc_api_Instr_api_Instr_odd31_s1 p) go_code_odd p h.1 (fun v => rfl)]
    simp only [Option.bind_some]
    rw [idxOf_any, odd_any h.2]
    have h1 : decide (1 ≤ p.length) = true := by simp; omega
    have h2 : decide (p.length ≤ 32) = true := by simp; omega
    rw [h1, h2]
    cases p.all go_ravelref04_may <;> rfl
theorem may_op {x : api_Instr} (h : go_ravelref04_may x = true) : 1 ≤ x.Op ∧ x.Op ≤ 9 := by
  by_cases h1 : x.Op = 1
  · omega
  by_cases h2 : x.Op = 2
  · omega
  by_cases h3 : x.Op = 3
  · omega
  by_cases h4 : x.Op = 4
  · omega
  by_cases h5 : x.Op = 5
  · omega
  by_cases h6 : x.Op = 6
  · omega
  by_cases h7 : x.Op = 7
  · omega
  by_cases h8 : x.Op = 8
  · omega
  by_cases h9 : x.Op = 9
  · omega
  · exfalso
    unfold go_ravelref04_may at h
    simp [h1, h2, h3, h4, h5, h6, h7, h8, h9] at h
theorem chkP_parts {p : List api_Instr} (h : chkP p = true) : 1 ≤ p.length ∧ p.length ≤ 32 ∧ ∀ x ∈ p, go_ravelref04_may x = true := by
  unfold chkP at h
  simp only [Bool.and_eq_true, decide_eq_true_eq, List.all_eq_true] at h
  exact ⟨h.1.1, h.1.2, h.2⟩
/-- A program's instructions up to its first exit, and their units. -/
def reach : List api_Instr → List api_Instr
  | [] => []
  | x :: r => if x.Op = 9 then [x] else x :: reach r
def u1 (x : api_Instr) : Int := if x.Op = 1 then x.A else 1
def isX (x : api_Instr) : Bool := x.Op == 9
theorem reach_idx : ∀ (p : List api_Instr), reach p = match p.findIdx? isX with | some i => p.take (i + 1) | none => p
  | [] => rfl
  | x :: r => by
    rw [reach, List.findIdx?_cons, reach_idx r]
    by_cases h : x.Op = 9
    · rw [if_pos h]; simp [isX, h]
    · rw [if_neg h]
      have h1 : isX x = false := by simp [isX, h]
      rw [h1]
      simp only [Bool.false_eq_true, if_false]
      cases List.findIdx? isX r <;> simp
theorem sub_take (p : List api_Instr) (n : Int) : sub p 0 n = p.take n.toNat := by simp [sub]
theorem reached_eq {p : List api_Instr} (h : p.length ≤ 1000000) : go_code_reached p = some (reach p) := by
  unfold go_code_reached go_slices_IndexFunc_api_Instr_api_Instr_140
  rw [whileO_index (step := go_slices_IndexFunc_api_Instr_api_Instr_140_s1 p) isX p (by omega) (fun v => rfl), Option.bind_some, reach_idx]
  unfold idxOf
  cases hf : p.findIdx? isX with
  | none => rfl
  | some i =>
    obtain ⟨hi, -, -⟩ := List.findIdx?_eq_some_iff_getElem.1 hf
    simp only
    rw [if_pos (by simp), w64_id (by omega) (by omega), if_pos (by omega), sub_take]
    congr 2
theorem reach_mem {p : List api_Instr} : ∀ {x : api_Instr}, x ∈ reach p → x ∈ p := by
  induction p with
  | nil => intro x h; exact h
  | cons y r ih =>
    intro x h
    rw [reach] at h
    split at h
    · simp at h; simp [h]
    · rcases List.mem_cons.1 h with h | h
      · simp [h]
      · simp [ih h]
theorem reach_len (p : List api_Instr) : (reach p).length ≤ p.length := by
  induction p with
  | nil => exact Nat.le_refl _
  | cons x r ih =>
    rw [reach]
    split
    · simp
    · simpa using ih
theorem few_eq {l : List (List api_Instr)} (hl : l.length ≤ 9223372036854775807) : go_ravelref04_Few l = some (if l.any (fun p => decide ((p.length : Int) > 100)) then false else decide ((l.length : Int) ≤ 100)) := by
  unfold go_ravelref04_Few
  rw [whileO_seek (step := go_ravelref04_Few_s1 l) (fun p => decide ((p.length : Int) > 100)) l (fun _ => some false) (some (decide ((l.length : Int) ≤ 100))) hl (fun i hi => by rw [go_ravelref04_Few_s1, if_pos (by simpa using hi), if_pos (by omega)]) (by rw [go_ravelref04_Few_s1, if_neg (by simp)]), seek_any]
  split <;> rfl
def spawnsFar (n : Int) (x : api_Instr) : Bool := (x.Op == 2) && decide (x.A ≥ n)
def badP (n : Int) (p : List api_Instr) : Bool := !chkP p || p.any (spawnsFar n)
def ckAll (l : List (List api_Instr)) : Bool := !((decide ((l.length : Int) < 1)) || (decide ((l.length : Int) > 16))) && !l.any (badP l.length)
def poks (l : List (List api_Instr)) : Prop := l.length ≤ 1000000 ∧ ∀ p ∈ l, p.length ≤ 1000000 ∧ pok p
theorem checkAll_inner {l : List (List api_Instr)} (h : poks l) {i : Nat} (hi : i < l.length) : whileO (go_code_CheckAll_s4 l (i : Int)) 0 = if l[i].any (spawnsFar l.length) then inrO (some 1) else nextO (IntKind.i64.wrap ((i : Int) + 1)) := by
  have hp := h.2 _ (List.getElem_mem hi)
  rw [whileO_seek (step := go_code_CheckAll_s4 l (i : Int)) (spawnsFar l.length) l[i] (fun _ => inrO (some 1)) (nextO (IntKind.i64.wrap ((i : Int) + 1))) (by omega)]
  · rw [seek_any]
  · intro j hj
    rw [go_code_CheckAll_s4, gt_nat hi, if_pos (by simpa using hj), if_pos (by omega)]
    have e1 : decide ((j : Int) ≥ 0) = true := by simp
    rw [e1]; rfl
  · rw [go_code_CheckAll_s4, gt_nat hi, if_neg (by simp)]
theorem badP_if {α : Type} {n : Int} {p : List api_Instr} {a b : α} : (if ((if chkP p = true then (0 : Int) else 1) != 0) = true then a else if p.any (spawnsFar n) = true then a else b) = if badP n p = true then a else b := by
  unfold badP
  cases chkP p <;> cases p.any (spawnsFar n) <;> rfl
theorem checkAll_eq {l : List (List api_Instr)} (h : poks l) : go_code_CheckAll l = some (if ckAll l then 0 else 1) := by
  unfold go_code_CheckAll ckAll
  by_cases hl : ((decide ((l.length : Int) < 1)) || (decide ((l.length : Int) > 16))) = true
  · rw [if_pos hl, hl]; rfl
  · rw [if_neg hl]
    rw [whileO_seek (step := go_code_CheckAll_s3 l) (badP l.length) l (fun _ => some 1) (some 0) (by have := h.1; omega), seek_any]
    · rw [Bool.not_eq_true] at hl
      rw [hl]
      cases l.any (badP l.length) <;> rfl
    · intro i hi
      rw [go_code_CheckAll_s3, if_pos (by simpa using hi), if_pos (by omega), gt_nat hi, codeCheck_eq (h.2 _ (List.getElem_mem hi)).2, Option.bind_some, checkAll_inner h hi]
      exact badP_if
    · rw [go_code_CheckAll_s3, if_neg (by simp)]
end Go.Proofs.Ytdlpecjbafadkaa
