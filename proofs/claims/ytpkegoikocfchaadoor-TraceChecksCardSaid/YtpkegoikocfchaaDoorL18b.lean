/- Helper lemmas for the claim's theorem: an abstract machine over the model, proved sound; no condition beyond each lemma's own. -/
import Derived.Test.YtpkegoikocfchaaDoorL18
set_option linter.unusedVariables false
set_option linter.unusedSimpArgs false
set_option linter.unnecessarySimpa false
set_option linter.unusedSectionVars false
/- Plain laws on the printed functions. -/
namespace Go.Proofs.YtpkegoikocfchaaDoor
open Go Go.AM
set_option maxRecDepth 100000
set_option maxHeartbeats 1000000
set_option linter.unusedVariables false
set_option linter.unusedSimpArgs false
/-- The task fits the program. -/
def insN (t : api_Task) (p : List api_Instr) : api_Instr := if t.Pc < p.length then gt p t.Pc else api_Instr.mk 9 0 0
def fitB (t : api_Task) (p : List api_Instr) : Bool := chk t && (chkP p && (decide (t.Pc ≤ p.length) && (decide (t.Unit = 0) || (decide (t.Pc < p.length) && (decide ((gt p t.Pc).Op = 1) && decide (t.Unit < (gt p t.Pc).A))))))
theorem chk_bounds {t : api_Task} (h : chk t = true) : t.Id ≥ 0 ∧ (0 ≤ t.Pc ∧ t.Pc ≤ 32) ∧ (0 ≤ t.Unit ∧ t.Unit ≤ 99) ∧ (0 ≤ t.Ran ∧ t.Ran ≤ 1099511627776) := by
  unfold chk at h
  simp [go_life_below] at h
  omega
theorem next_eq {t : api_Task} {p : List api_Instr} (hp : pok p) : go_step_Next t p = some (if fitB t p then (insN t p, 0) else (api_Instr.zero, 1)) := by
  unfold go_step_Next
  rw [check_eq, Option.bind_some, chkE_ne, codeCheck_eq hp, Option.bind_some]
  unfold fitB
  cases hc : chk t with
  | false => simp [go_step_Next_j1]
  | true =>
    obtain ⟨-, hpc, hun, -⟩ := chk_bounds hc
    simp only [Bool.not_true, Bool.false_eq_true, if_false, Bool.true_and]
    cases hk : chkP p with
    | false => simp [go_step_Next_j1]
    | true =>
      simp only [if_true, Bool.true_and]
      unfold go_step_Next_j1 insN
      by_cases h1 : t.Pc ≤ p.length
      · rw [if_neg (by simp; omega)]
        by_cases h2 : t.Pc < p.length
        · rw [if_pos (by simpa using h2), if_pos (by omega)]
          unfold go_step_Next_j2
          by_cases h3 : t.Unit = 0
          · rw [if_neg (by simp [h3])]; simp [h1, h2, h3]
          · by_cases h4 : (gt p t.Pc).Op = 1 ∧ t.Unit < (gt p t.Pc).A
            · rw [if_neg (by simp [h4.1]; omega), if_pos (by simp [h1, h2, h3, h4.1, h4.2]), if_pos h2]
            · rw [if_pos (by simp; omega)]
              rw [if_neg]
              simp [h1, h2, h3]; omega
        · rw [if_neg (by simpa using h2)]
          unfold go_step_Next_j2
          by_cases h3 : t.Unit = 0
          · rw [if_neg (by simp [h3])]; simp [h1, h2, h3]
          · rw [if_pos (by simp; omega)]; simp [h1, h2, h3]
      · rw [if_pos (by simp; omega)]; simp [h1]
theorem fits_eq {t : api_Task} {p : List api_Instr} (hp : pok p) : go_ravelref13_Fits t p = some (fitB t p) := by
  unfold go_ravelref13_Fits
  rw [rcheck_eq, Option.bind_some, chkE_ne, rcodeCheck_eq hp.1, Option.bind_some]
  unfold fitB
  cases hc : chk t with
  | false => simp [go_ravelref13_Fits_j1]
  | true =>
    obtain ⟨-, hpc, hun, -⟩ := chk_bounds hc
    simp only [Bool.not_true, Bool.false_eq_true, if_false, Bool.true_and]
    cases hk : chkP p with
    | false => simp [go_ravelref13_Fits_j1]
    | true =>
      simp only [if_true, Bool.true_and]
      unfold go_ravelref13_Fits_j1
      by_cases h1 : t.Pc ≤ p.length
      · rw [if_neg (by simp; omega)]
        by_cases h3 : t.Unit = 0
        · rw [if_pos (by simp [h3])]; simp [h1, h3]
        · rw [if_neg (by simp [h3])]
          by_cases h2 : t.Pc < p.length
          · rw [if_pos (by simpa using h2), if_pos (by omega)]
            by_cases h4 : (gt p t.Pc).Op = 1
            · rw [if_pos (by simp [h4]), if_pos (by omega)]; simp [h1, h2, h3, h4]
            · rw [if_neg (by simp [h4])]; simp [h3, h4]
          · rw [if_neg (by simpa using h2)]; simp [h2, h3]
      · rw [if_pos (by simp; omega)]; simp [h1]
theorem fit_parts {t : api_Task} {p : List api_Instr} (h : fitB t p = true) : chk t = true ∧ chkP p = true ∧ t.Pc ≤ p.length ∧ (t.Unit = 0 ∨ (t.Pc < p.length ∧ (gt p t.Pc).Op = 1 ∧ t.Unit < (gt p t.Pc).A)) := by
  unfold fitB at h
  simpa [and_assoc] using h
theorem chkP_parts {p : List api_Instr} (h : chkP p = true) : 1 ≤ p.length ∧ p.length ≤ 32 ∧ ∀ x ∈ p, go_ravelref04_may x = true := by
  unfold chkP at h
  simp only [Bool.and_eq_true, decide_eq_true_eq, List.all_eq_true] at h
  exact ⟨h.1.1, h.1.2, h.2⟩
theorem gt_mem {p : List api_Instr} {i : Int} (h : 0 ≤ i ∧ i < p.length) : gt p i ∈ p := by
  have h1 : i = ((i.toNat : Nat) : Int) := by omega
  have h2 : i.toNat < p.length := by omega
  rw [h1, gt_nat h2]
  exact List.getElem_mem _
theorem rnext_eq {t : api_Task} {p : List api_Instr} (hp : pok p) : go_ravelref13_Next t p = some (if fitB t p then (insN t p, 0) else (api_Instr.zero, 1)) := by
  unfold go_ravelref13_Next
  rw [fits_eq hp, Option.bind_some]
  cases hf : fitB t p with
  | false => simp
  | true =>
    obtain ⟨hc, -, hl, -⟩ := fit_parts hf
    obtain ⟨-, hpc, -, -⟩ := chk_bounds hc
    rw [if_neg (by simp)]
    unfold insN
    by_cases h : t.Pc = p.length
    · rw [if_pos (by simp [h])]; simp [h]
    · rw [if_neg (by simp [h]), if_pos (by omega)]; simp; omega
/-- A unit more. -/
def minI (a b : Int) : Int := if a < b then a else b
def doT (t : api_Task) (p : List api_Instr) : api_Task :=
  if (insN t p).Op = 1 ∧ t.Unit + 1 < (insN t p).A then api_Task.mk t.Id t.Tenant t.Prog t.Pc (t.Unit + 1) t.Keeps t.State (t.Ran + 1)
  else api_Task.mk t.Id t.Tenant t.Prog (minI p.length (t.Pc + 1)) 0 t.Keeps t.State (t.Ran + 1)
def doE (t : api_Task) (p : List api_Instr) : api_Effect := if (insN t p).Op = 1 then api_Effect.zero else api_Effect.mk (insN t p).Op (insN t p).A (insN t p).B
def doR (t : api_Task) (p : List api_Instr) : api_Task × api_Effect × Int :=
  if fitB t p then (if t.State = 2 then (if t.Ran = 1099511627776 then (api_Task.zero, api_Effect.zero, 4) else (doT t p, doE t p, 0)) else (api_Task.zero, api_Effect.zero, 9)) else (api_Task.zero, api_Effect.zero, 1)
theorem do_eq {t : api_Task} {p : List api_Instr} (hp : pok p) : go_step_Do t p = some (doR t p) := by
  unfold go_step_Do
  rw [next_eq hp, Option.bind_some]
  unfold doR
  cases hf : fitB t p with
  | false => simp
  | true =>
    obtain ⟨hc, hk, hl, -⟩ := fit_parts hf
    obtain ⟨-, hpc, hun, hran⟩ := chk_bounds hc
    simp only [if_true]
    rw [if_neg (by simp)]
    by_cases hs : t.State = 2
    · rw [if_neg (by simp [hs]), if_pos hs]
      by_cases hr : t.Ran = 1099511627776
      · rw [if_pos (by simp [hr]), if_pos hr]
      · rw [if_neg (by simp [hr]), if_neg hr]
        rw [w64_id (n := t.Unit + 1) (by omega) (by omega)]
        unfold go_step_Do_j1 doT doE
        rw [w64_id (n := t.Pc + 1) (by omega) (by omega), w64_id (n := t.Ran + 1) (by omega) (by omega)]
        by_cases h1 : (insN t p).Op = 1
        · rw [if_pos (by simp [h1])]
          by_cases h2 : t.Unit + 1 < (insN t p).A
          · rw [if_pos (by simpa using h2), if_pos ⟨h1, h2⟩, if_pos h1]
          · rw [if_neg (by simpa using h2), if_neg (show ¬ ((insN t p).Op = 1 ∧ t.Unit + 1 < (insN t p).A) from fun h => h2 h.2), if_pos h1]; rfl
        · rw [if_neg (by simp [h1]), if_neg (show ¬ ((insN t p).Op = 1 ∧ t.Unit + 1 < (insN t p).A) from fun h => h1 h.1), if_neg h1]; rfl
    · rw [if_pos (by simp [hs]), if_neg hs]
theorem rdo_eq {t : api_Task} {p : List api_Instr} (hp : pok p) : go_ravelref13_Do t p = some (doR t p) := by
  unfold go_ravelref13_Do
  rw [rnext_eq hp, Option.bind_some]
  unfold doR
  cases hf : fitB t p with
  | false => simp
  | true =>
    obtain ⟨hc, hk, hl, -⟩ := fit_parts hf
    obtain ⟨-, hpc, hun, hran⟩ := chk_bounds hc
    simp only [if_true]
    rw [if_neg (by simp)]
    by_cases hs : t.State = 2
    · rw [if_neg (by simp [hs]), if_pos hs]
      by_cases hr : t.Ran = 1099511627776
      · rw [if_pos (by simp [hr]), if_pos hr]
      · rw [if_neg (by simp [hr]), if_neg hr]
        rw [w64_id (n := t.Unit + 1) (by omega) (by omega), w64_id (n := t.Ran + 1) (by omega) (by omega)]
        unfold doT doE
        by_cases h1 : (insN t p).Op = 1 ∧ t.Unit + 1 < (insN t p).A
        · rw [if_pos (by simp [h1.1, h1.2]), if_pos h1, if_pos h1.1]
        · rw [if_neg (by simpa using h1), if_neg h1]
          have hm : (if t.Pc < p.length then t.Pc + 1 else t.Pc) = minI p.length (t.Pc + 1) := by unfold minI; split <;> split <;> omega
          rw [← hm]
          unfold go_ravelref13_Do_j1
          rw [w64_id (n := t.Pc + 1) (by omega) (by omega), w64_id (n := t.Ran + 1) (by omega) (by omega)]
          by_cases h2 : t.Pc < p.length <;> by_cases h3 : (insN t p).Op = 1 <;> simp [h2, h3]
    · rw [if_pos (by simp [hs]), if_neg hs]
def u1 (x : api_Instr) : Int := if x.Op = 1 then x.A else 1
/-- It may do a unit. -/
def okS (t : api_Task) (p : List api_Instr) : Prop := fitB t p = true ∧ t.State = 2 ∧ t.Ran ≠ 1099511627776
theorem doR_ok {t : api_Task} {p : List api_Instr} (h : okS t p) : doR t p = (doT t p, doE t p, 0) := by
  unfold doR; rw [if_pos h.1, if_pos h.2.1, if_neg h.2.2]
theorem doT_same (t : api_Task) (p : List api_Instr) : (doT t p).Id = t.Id ∧ (doT t p).State = t.State ∧ (doT t p).Ran = t.Ran + 1 := by
  unfold doT; split <;> exact ⟨rfl, rfl, rfl⟩
theorem insN_lt {t : api_Task} {p : List api_Instr} (h : t.Pc < p.length) : insN t p = gt p t.Pc := by unfold insN; rw [if_pos h]
theorem insN_end {t : api_Task} {p : List api_Instr} (h : ¬ t.Pc < p.length) : insN t p = api_Instr.mk 9 0 0 := by unfold insN; rw [if_neg h]
theorem work_lt {t : api_Task} {p : List api_Instr} (h : (insN t p).Op = 1) : t.Pc < p.length := by
  by_cases h1 : t.Pc < p.length
  · exact h1
  · rw [insN_end h1] at h; simp at h
theorem fit_work {t : api_Task} {p : List api_Instr} (h : fitB t p = true) (h1 : (insN t p).Op = 1) : t.Unit < (insN t p).A ∧ (insN t p).A ≤ 100 := by
  obtain ⟨hc, hk, hl, hu⟩ := fit_parts h
  obtain ⟨-, hpc, hun, -⟩ := chk_bounds hc
  obtain ⟨-, -, h3⟩ := chkP_parts hk
  have hlt := work_lt h1
  rw [insN_lt hlt] at h1 ⊢
  have := may_work (h3 _ (gt_mem (by omega))) h1
  rcases hu with h | ⟨_, _, h⟩ <;> omega
theorem fit_do {t : api_Task} {p : List api_Instr} (h : okS t p) : fitB (doT t p) p = true := by
  obtain ⟨hf, hs, hr⟩ := h
  obtain ⟨hc, hk, hl, hu⟩ := fit_parts hf
  obtain ⟨hid, hpc, hun, hran⟩ := chk_bounds hc
  obtain ⟨k1, k2, k3⟩ := chkP_parts hk
  have hc' := hc
  unfold chk at hc'
  simp only [Bool.and_eq_true, decide_eq_true_eq] at hc'
  unfold doT
  split
  · rename_i h1
    have hw := fit_work hf h1.1
    have hlt := work_lt h1.1
    rw [insN_lt hlt] at h1 hw
    unfold fitB chk kept
    simp only [Bool.and_eq_true, decide_eq_true_eq, Bool.or_eq_true, go_life_below]
    have e := hc'.1
    have e2 := hc'.2
    unfold kept at e2
    simp only [Bool.and_eq_true, decide_eq_true_eq] at e2
    simp only [go_life_below, Bool.and_eq_true, decide_eq_true_eq] at e
    refine ⟨⟨⟨⟨⟨⟨⟨⟨⟨e.1.1.1.1.1.1.1, e.1.1.1.1.1.1.2⟩, e.1.1.1.1.1.2⟩, e.1.1.1.1.2⟩, by omega, by omega⟩, e.1.1.2⟩, by omega⟩, by omega⟩, e2⟩, hk, hl, .inr ⟨hlt, h1.1, h1.2⟩⟩
  · rename_i h1
    have hm : minI p.length (t.Pc + 1) ≤ p.length ∧ 0 ≤ minI p.length (t.Pc + 1) := by unfold minI; split <;> omega
    unfold fitB chk kept
    simp only [Bool.and_eq_true, decide_eq_true_eq, Bool.or_eq_true, go_life_below]
    have e := hc'.1
    have e2 := hc'.2
    unfold kept at e2
    simp only [Bool.and_eq_true, decide_eq_true_eq] at e2
    simp only [go_life_below, Bool.and_eq_true, decide_eq_true_eq] at e
    refine ⟨⟨⟨⟨⟨⟨⟨⟨⟨e.1.1.1.1.1.1.1, e.1.1.1.1.1.1.2⟩, e.1.1.1.1.1.2⟩, by omega, by omega⟩, by omega, by omega⟩, e.1.1.2⟩, by omega⟩, by omega⟩, e2⟩, hk, hm.1, .inl trivial⟩
theorem few_eq {l : List (List api_Instr)} (hl : l.length ≤ 9223372036854775807) : go_ravelref04_Few l = some (if l.any (fun p => decide ((p.length : Int) > 100)) then false else decide ((l.length : Int) ≤ 100)) := by
  unfold go_ravelref04_Few
  rw [whileO_seek (step := go_ravelref04_Few_s1 l) (fun p => decide ((p.length : Int) > 100)) l (fun _ => some false) (some (decide ((l.length : Int) ≤ 100))) hl (fun i hi => by rw [go_ravelref04_Few_s1, if_pos (by simpa using hi), if_pos (by omega)]) (by rw [go_ravelref04_Few_s1, if_neg (by simp)]), seek_any]
  split <;> rfl
def spawnsFar (n : Int) (x : api_Instr) : Bool := (x.Op == 2) && decide (x.A ≥ n)
def badP (n : Int) (p : List api_Instr) : Bool := !chkP p || p.any (spawnsFar n)
def ckAll (l : List (List api_Instr)) : Bool := !((decide ((l.length : Int) < 1)) || (decide ((l.length : Int) > 16))) && !l.any (badP l.length)
def poks (l : List (List api_Instr)) : Prop := l.length ≤ 1000000 ∧ ∀ p ∈ l, p.length ≤ 1000000 ∧ pok p
theorem checkAll_inner {l : List (List api_Instr)} (h : poks l) {i : Nat} (hi : i < l.length) : whileO (go_code_CheckAll_s14 l (i : Int)) 0 = if l[i].any (spawnsFar l.length) then inrO (some 1) else nextO (IntKind.i64.wrap ((i : Int) + 1)) := by
  have hp := h.2 _ (List.getElem_mem hi)
  rw [whileO_seek (step := go_code_CheckAll_s14 l (i : Int)) (spawnsFar l.length) l[i] (fun _ => inrO (some 1)) (nextO (IntKind.i64.wrap ((i : Int) + 1))) (by omega)]
  · rw [seek_any]
  · intro j hj
    rw [go_code_CheckAll_s14, gt_nat hi, if_pos (by simpa using hj), if_pos (by omega)]
    unfold go_code_CheckAll_j13
    have e1 : decide ((j : Int) ≥ 0) = true := by simp
    rw [e1]; rfl
  · rw [go_code_CheckAll_s14, gt_nat hi, if_neg (by simp)]; rfl
theorem rcheckAll_inner {l : List (List api_Instr)} (h : poks l) {i : Nat} (hi : i < l.length) : whileO (go_ravelref04_CheckAll_s4 l (i : Int)) 0 = if l[i].any (spawnsFar l.length) then inrO (some 1) else nextO (IntKind.i64.wrap ((i : Int) + 1)) := by
  have hp := h.2 _ (List.getElem_mem hi)
  rw [whileO_seek (step := go_ravelref04_CheckAll_s4 l (i : Int)) (spawnsFar l.length) l[i] (fun _ => inrO (some 1)) (nextO (IntKind.i64.wrap ((i : Int) + 1))) (by omega)]
  · rw [seek_any]
  · intro j hj
    rw [go_ravelref04_CheckAll_s4, gt_nat hi, if_pos (by simpa using hj), if_pos (by omega)]; rfl
  · rw [go_ravelref04_CheckAll_s4, gt_nat hi, if_neg (by simp)]
theorem badP_if {α : Type} {n : Int} {p : List api_Instr} {a b : α} : (if ((if chkP p = true then (0 : Int) else 1) != 0) = true then a else if p.any (spawnsFar n) = true then a else b) = if badP n p = true then a else b := by
  unfold badP
  cases chkP p <;> cases p.any (spawnsFar n) <;> rfl
theorem checkAll_eq {l : List (List api_Instr)} (h : poks l) : go_code_CheckAll l = some (if ckAll l then 0 else 1) := by
  unfold go_code_CheckAll ckAll
  by_cases hl : ((decide ((l.length : Int) < 1)) || (decide ((l.length : Int) > 16))) = true
  · rw [if_pos hl, hl]; rfl
  · rw [if_neg hl]
    rw [whileO_seek (step := go_code_CheckAll_s9 l) (badP l.length) l (fun _ => some 1) (some 0) (by have := h.1; omega), seek_any]
    · rw [Bool.not_eq_true] at hl
      rw [hl]
      cases l.any (badP l.length) <;> rfl
    · intro i hi
      rw [go_code_CheckAll_s9, if_pos (by simpa using hi), if_pos (by omega), gt_nat hi, codeCheck_eq (h.2 _ (List.getElem_mem hi)).2, Option.bind_some, checkAll_inner h hi]
      exact badP_if
    · rw [go_code_CheckAll_s9, if_neg (by simp)]
theorem rcheckAll_eq {l : List (List api_Instr)} (h : poks l) : go_ravelref04_CheckAll l = some (if ckAll l then 0 else 1) := by
  unfold go_ravelref04_CheckAll ckAll
  by_cases hl : ((decide ((l.length : Int) < 1)) || (decide ((l.length : Int) > 16))) = true
  · rw [if_pos hl, hl]; rfl
  · rw [if_neg hl]
    rw [whileO_seek (step := go_ravelref04_CheckAll_s3 l) (badP l.length) l (fun _ => some 1) (some 0) (by have := h.1; omega), seek_any]
    · rw [Bool.not_eq_true] at hl
      rw [hl]
      cases l.any (badP l.length) <;> rfl
    · intro i hi
      rw [go_ravelref04_CheckAll_s3, if_pos (by simpa using hi), if_pos (by omega), gt_nat hi, rcodeCheck_eq (h.2 _ (List.getElem_mem hi)).2.1, Option.bind_some, rcheckAll_inner h hi]
      exact badP_if
    · rw [go_ravelref04_CheckAll_s3, if_neg (by simp)]
theorem few_poks {l : List (List api_Instr)} (hl : l.length ≤ 9223372036854775807) (ha : ∀ p ∈ l, ∀ x ∈ p, i64ok x.A) : ∃ r, go_ravelref04_Few l = some r ∧ (r = true → poks l ∧ (∀ p ∈ l, p.length ≤ 100) ∧ l.length ≤ 100) := by
  rw [few_eq hl]
  refine ⟨_, rfl, fun h => ?_⟩
  split at h
  · cases h
  · rename_i hn
    rw [Bool.not_eq_true, List.any_eq_false] at hn
    simp only [decide_eq_true_eq] at h
    have h1 : ∀ p ∈ l, p.length ≤ 100 := fun p hp => by
      have := hn p hp
      simp at this; omega
    exact ⟨⟨by omega, fun p hp => ⟨by have := h1 p hp; omega, by have := h1 p hp; omega, ha p hp⟩⟩, h1, by omega⟩

end Go.Proofs.YtpkegoikocfchaaDoor
