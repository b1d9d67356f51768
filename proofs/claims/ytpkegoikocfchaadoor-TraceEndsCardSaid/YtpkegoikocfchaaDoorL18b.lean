/- Helper lemmas for the claim's theorem: an abstract machine over the model, proved sound; no condition beyond each lemma's own. -/
import Derived.Test.YtpkegoikocfchaaDoorL18
set_option linter.unusedVariables false
set_option linter.unusedSimpArgs false
set_option linter.unnecessarySimpa false
set_option linter.unusedSectionVars false
/- Plain laws on the printed functions. -/
namespace Go.Proofs.YtpkegoikocfchaaDoor
open Go Go.AM
set_option maxRecDepth 100000
set_option maxHeartbeats 1000000
set_option linter.unusedVariables false
set_option linter.unusedSimpArgs false
/-- The task fits the program. -/
def insN (t : api_Task) (p : List api_Instr) : api_Instr := if t.Pc < p.length then gt p t.Pc else api_Instr.mk 9 0 0
def fitB (t : api_Task) (p : List api_Instr) : Bool := chk t && (chkP p && (decide (t.Pc ≤ p.length) && (decide (t.Unit = 0) || (decide (t.Pc < p.length) && (decide ((gt p t.Pc).Op = 1) && decide (t.Unit < (gt p t.Pc).A))))))
theorem chk_bounds {t : api_Task} (h : chk t = true) : t.Id ≥ 0 ∧ (0 ≤ t.Pc ∧ t.Pc ≤ 32) ∧ (0 ≤ t.Unit ∧ t.Unit ≤ 99) ∧ (0 ≤ t.Ran ∧ t.Ran ≤ 1099511627776) := by
  unfold chk at h
  simp [go_life_below] at h
  omega
theorem next_eq {t : api_Task} {p : List api_Instr} (hp : pok p) : go_step_Next t p = some (if fitB t p then (insN t p, 0) else (api_Instr.zero, 1)) := by
  unfold go_step_Next
  rw [check_eq, Option.bind_some, chkE_ne, codeCheck_eq hp, Option.bind_some]
  unfold fitB
  cases hc : chk t with
  | false => simp [go_step_Next_j1]
  | true =>
    obtain ⟨-, hpc, hun, -⟩ := chk_bounds hc
    simp only [Bool.not_true, Bool.false_eq_true, if_false, Bool.true_and]
    cases hk : chkP p with
    | false => simp [go_step_Next_j1]
    | true =>
      simp only [if_true, Bool.true_and]
      unfold go_step_Next_j1 insN
      by_cases h1 : t.Pc ≤ p.length
      · rw [if_neg (by simp; omega)]
        by_cases h2 : t.Pc < p.length
        · rw [if_pos (by simpa using h2), if_pos (by omega)]
          unfold go_step_Next_j2
          by_cases h3 : t.Unit = 0
          · rw [if_neg (by simp [h3])]; simp [h1, h2, h3]
          · by_cases h4 : (gt p t.Pc).Op = 1 ∧ t.Unit < (gt p t.Pc).A
            · rw [if_neg (by simp [h4.1]; omega), if_pos (by simp [h1, h2, h3, h4.1, h4.2]), if_pos h2]
            · rw [if_pos (by simp; omega)]
              rw [if_neg]
              simp [h1, h2, h3]; omega
        · rw [if_neg (by simpa using h2)]
          unfold go_step_Next_j2
          by_cases h3 : t.Unit = 0
          · rw [if_neg (by simp [h3])]; simp [h1, h2, h3]
          · rw [if_pos (by simp; omega)]; simp [h1, h2, h3]
      · rw [if_pos (by simp; omega)]; simp [h1]
theorem fit_parts {t : api_Task} {p : List api_Instr} (h : fitB t p = true) : chk t = true ∧ chkP p = true ∧ t.Pc ≤ p.length ∧ (t.Unit = 0 ∨ (t.Pc < p.length ∧ (gt p t.Pc).Op = 1 ∧ t.Unit < (gt p t.Pc).A)) := by
  unfold fitB at h
  simpa [and_assoc] using h
theorem chkP_parts {p : List api_Instr} (h : chkP p = true) : 1 ≤ p.length ∧ p.length ≤ 32 ∧ ∀ x ∈ p, go_ravelref04_may x = true := by
  unfold chkP at h
  simp only [Bool.and_eq_true, decide_eq_true_eq, List.all_eq_true] at h
  exact ⟨h.1.1, h.1.2, h.2⟩
theorem gt_mem {p : List api_Instr} {i : Int} (h : 0 ≤ i ∧ i < p.length) : gt p i ∈ p := by
  have h1 : i = ((i.toNat : Nat) : Int) := by omega
  have h2 : i.toNat < p.length := by omega
  rw [h1, gt_nat h2]
  exact List.getElem_mem _
/-- A unit more. -/
def minI (a b : Int) : Int := if a < b then a else b
def doT (t : api_Task) (p : List api_Instr) : api_Task :=
  if (insN t p).Op = 1 ∧ t.Unit + 1 < (insN t p).A then api_Task.mk t.Id t.Tenant t.Prog t.Pc (t.Unit + 1) t.Keeps t.State (t.Ran + 1)
  else api_Task.mk t.Id t.Tenant t.Prog (minI p.length (t.Pc + 1)) 0 t.Keeps t.State (t.Ran + 1)
def doE (t : api_Task) (p : List api_Instr) : api_Effect := if (insN t p).Op = 1 then api_Effect.zero else api_Effect.mk (insN t p).Op (insN t p).A (insN t p).B
def doR (t : api_Task) (p : List api_Instr) : api_Task × api_Effect × Int :=
  if fitB t p then (if t.State = 2 then (if t.Ran = 1099511627776 then (api_Task.zero, api_Effect.zero, 4) else (doT t p, doE t p, 0)) else (api_Task.zero, api_Effect.zero, 9)) else (api_Task.zero, api_Effect.zero, 1)
theorem do_eq {t : api_Task} {p : List api_Instr} (hp : pok p) : go_step_Do t p = some (doR t p) := by
  unfold go_step_Do
  rw [next_eq hp, Option.bind_some]
  unfold doR
  cases hf : fitB t p with
  | false => simp
  | true =>
    obtain ⟨hc, hk, hl, -⟩ := fit_parts hf
    obtain ⟨-, hpc, hun, hran⟩ := chk_bounds hc
    simp only [if_true]
    rw [if_neg (by simp)]
    by_cases hs : t.State = 2
    · rw [if_neg (by simp [hs]), if_pos hs]
      by_cases hr : t.Ran = 1099511627776
      · rw [if_pos (by simp [hr]), if_pos hr]
      · rw [if_neg (by simp [hr]), if_neg hr]
        rw [w64_id (n := t.Unit + 1) (by omega) (by omega)]
        unfold go_step_Do_j1 doT doE
        rw [w64_id (n := t.Pc + 1) (by omega) (by omega), w64_id (n := t.Ran + 1) (by omega) (by omega)]
        by_cases h1 : (insN t p).Op = 1
        · rw [if_pos (by simp [h1])]
          by_cases h2 : t.Unit + 1 < (insN t p).A
          · rw [if_pos (by simpa using h2), if_pos ⟨h1, h2⟩, if_pos h1]
          · rw [if_neg (by simpa using h2), if_neg (show ¬ ((insN t p).Op = 1 ∧ t.Unit + 1 < (insN t p).A) from fun h => h2 h.2), if_pos h1]; rfl
        · rw [if_neg (by simp [h1]), if_neg (show ¬ ((insN t p).Op = 1 ∧ t.Unit + 1 < (insN t p).A) from fun h => h1 h.1), if_neg h1]; rfl
    · rw [if_pos (by simp [hs]), if_neg hs]
/-- A program's instructions up to its first exit, and their units. -/
def reach : List api_Instr → List api_Instr
  | [] => []
  | x :: r => if x.Op = 9 then [x] else x :: reach r
def u1 (x : api_Instr) : Int := if x.Op = 1 then x.A else 1
def sumU : List api_Instr → Int
  | [] => 0
  | x :: r => u1 x + sumU r
def un (p : List api_Instr) : Int := sumU (reach p)
def isX (x : api_Instr) : Bool := x.Op == 9
theorem reach_idx : ∀ (p : List api_Instr), reach p = match p.findIdx? isX with | some i => p.take (i + 1) | none => p
  | [] => rfl
  | x :: r => by
    rw [reach, List.findIdx?_cons, reach_idx r]
    by_cases h : x.Op = 9
    · rw [if_pos h]; simp [isX, h]
    · rw [if_neg h]
      have h1 : isX x = false := by simp [isX, h]
      rw [h1]
      simp only [Bool.false_eq_true, if_false]
      cases List.findIdx? isX r <;> simp
theorem sub_take (p : List api_Instr) (n : Int) : sub p 0 n = p.take n.toNat := by simp [sub]
theorem reached_eq {p : List api_Instr} (h : p.length ≤ 1000000) : go_code_reached p = some (reach p) := by
  unfold go_code_reached go_slices_IndexFunc_api_Instr_api_Instr_142
  rw [whileO_index (step := go_slices_IndexFunc_api_Instr_api_Instr_142_s1 p) isX p (by omega) (fun v => rfl), Option.bind_some, reach_idx]
  unfold idxOf
  cases hf : p.findIdx? isX with
  | none => rfl
  | some i =>
    obtain ⟨hi, -, -⟩ := List.findIdx?_eq_some_iff_getElem.1 hf
    simp only
    rw [if_pos (by simp), w64_id (by omega) (by omega), if_pos (by omega), sub_take]
    congr 2
theorem reach_mem {p : List api_Instr} : ∀ {x : api_Instr}, x ∈ reach p → x ∈ p := by
  induction p with
  | nil => intro x h; exact h
  | cons y r ih =>
    intro x h
    rw [reach] at h
    split at h
    · simp at h; simp [h]
    · rcases List.mem_cons.1 h with h | h
      · simp [h]
      · simp [ih h]
theorem reach_len (p : List api_Instr) : (reach p).length ≤ p.length := by
  induction p with
  | nil => exact Nat.le_refl _
  | cons x r ih =>
    rw [reach]
    split
    · simp
    · simpa using ih
theorem u1_bounds {x : api_Instr} (h : go_ravelref04_may x = true) : 1 ≤ u1 x ∧ u1 x ≤ 100 := by
  unfold u1
  split
  · exact may_work h (by assumption)
  · omega
theorem sumU_bounds : ∀ {l : List api_Instr}, (∀ x ∈ l, go_ravelref04_may x = true) → (l.length : Int) ≤ sumU l ∧ sumU l ≤ 100 * l.length
  | [], _ => by simp [sumU]
  | x :: r, h => by
    have := sumU_bounds (l := r) (fun y hy => h y (by simp [hy]))
    have := u1_bounds (h x (by simp))
    simp only [sumU, List.length_cons]; omega
theorem units_loop (l : List api_Instr) (hl : l.length ≤ 1000) (hm : ∀ x ∈ l, go_ravelref04_may x = true) : ∀ (m i : Nat) (n : Int), i + m = l.length → 0 ≤ n → n ≤ 100 * i → whileO (go_code_Units_s1 l) (n, (i : Int)) = some (n + sumU (l.drop i), 0)
  | 0, i, n, h, _, _ => by
    have : i = l.length := by omega
    subst this
    rw [whileO_inr (k := (n, 0)), List.drop_length]
    · simp [sumU]
    · rw [go_code_Units_s1, if_neg (by simp)]; rfl
  | m + 1, i, n, h, h0, h1 => by
    have hi : i < l.length := by omega
    have hb := u1_bounds (hm _ (List.getElem_mem hi))
    rw [List.drop_eq_getElem_cons hi, sumU, whileO_inl (s' := (n + u1 l[i], ((i + 1 : Nat) : Int))), units_loop l hl hm m (i + 1) _ (by omega) (by omega) (by omega), Int.add_assoc]
    rw [go_code_Units_s1, if_pos (by simpa using hi), if_pos (by omega), gt_nat hi, w64_nat (by omega)]
    unfold u1 at hb ⊢
    by_cases hx : l[i].Op = 1
    · rw [if_pos (by simp [hx])]
      rw [if_pos hx] at hb ⊢
      rw [w64_id (n := l[i].A - 1) (by omega) (by omega), w64_id (n := n + (l[i].A - 1)) (by omega) (by omega), show n + (l[i].A - 1) + 1 = n + l[i].A by omega, w64_id (by omega) (by omega)]; rfl
    · rw [if_neg (by simp [hx])]
      rw [if_neg hx] at hb ⊢
      rw [w64_id (by omega) (by omega)]; rfl
theorem units_eq {p : List api_Instr} (hp : pok p) : go_code_Units p = some (if chkP p then (un p, 0) else (0, 1)) := by
  unfold go_code_Units
  rw [codeCheck_eq hp, Option.bind_some]
  cases hk : chkP p with
  | false => rfl
  | true =>
    obtain ⟨h1, h2, h3⟩ := chkP_parts hk
    simp only [if_true]
    rw [if_neg (by decide), reached_eq (by omega), Option.bind_some]
    have hr := reach_len p
    have := units_loop (reach p) (by omega) (fun x hx => h3 x (reach_mem hx)) (reach p).length 0 0 (by omega) (by omega) (by omega)
    simpa [un] using this
def leftV (t : api_Task) (p : List api_Instr) : Int := if (p.take t.Pc.toNat).any isX then 0 else un (p.drop t.Pc.toNat) - t.Unit
theorem un_bounds {p : List api_Instr} (h : ∀ x ∈ p, go_ravelref04_may x = true) (hl : p.length ≤ 32) : 0 ≤ un p ∧ un p ≤ 3200 := by
  have := sumU_bounds (l := reach p) (fun x hx => h x (reach_mem hx))
  have := reach_len p
  unfold un; omega
/-- It may do a unit. -/
def okS (t : api_Task) (p : List api_Instr) : Prop := fitB t p = true ∧ t.State = 2 ∧ t.Ran ≠ 1099511627776
theorem doR_ok {t : api_Task} {p : List api_Instr} (h : okS t p) : doR t p = (doT t p, doE t p, 0) := by
  unfold doR; rw [if_pos h.1, if_pos h.2.1, if_neg h.2.2]
theorem doT_same (t : api_Task) (p : List api_Instr) : (doT t p).Id = t.Id ∧ (doT t p).State = t.State ∧ (doT t p).Ran = t.Ran + 1 := by
  unfold doT; split <;> exact ⟨rfl, rfl, rfl⟩
theorem insN_lt {t : api_Task} {p : List api_Instr} (h : t.Pc < p.length) : insN t p = gt p t.Pc := by unfold insN; rw [if_pos h]
theorem insN_end {t : api_Task} {p : List api_Instr} (h : ¬ t.Pc < p.length) : insN t p = api_Instr.mk 9 0 0 := by unfold insN; rw [if_neg h]
theorem work_lt {t : api_Task} {p : List api_Instr} (h : (insN t p).Op = 1) : t.Pc < p.length := by
  by_cases h1 : t.Pc < p.length
  · exact h1
  · rw [insN_end h1] at h; simp at h
theorem fit_work {t : api_Task} {p : List api_Instr} (h : fitB t p = true) (h1 : (insN t p).Op = 1) : t.Unit < (insN t p).A ∧ (insN t p).A ≤ 100 := by
  obtain ⟨hc, hk, hl, hu⟩ := fit_parts h
  obtain ⟨-, hpc, hun, -⟩ := chk_bounds hc
  obtain ⟨-, -, h3⟩ := chkP_parts hk
  have hlt := work_lt h1
  rw [insN_lt hlt] at h1 ⊢
  have := may_work (h3 _ (gt_mem (by omega))) h1
  rcases hu with h | ⟨_, _, h⟩ <;> omega
theorem fit_unit {t : api_Task} {p : List api_Instr} (h : fitB t p = true) (h1 : (insN t p).Op ≠ 1) : t.Unit = 0 := by
  obtain ⟨hc, hk, hl, hu⟩ := fit_parts h
  rcases hu with h | ⟨h2, h3, _⟩
  · exact h
  · rw [insN_lt h2] at h1; exact absurd h3 h1
theorem fit_do {t : api_Task} {p : List api_Instr} (h : okS t p) : fitB (doT t p) p = true := by
  obtain ⟨hf, hs, hr⟩ := h
  obtain ⟨hc, hk, hl, hu⟩ := fit_parts hf
  obtain ⟨hid, hpc, hun, hran⟩ := chk_bounds hc
  obtain ⟨k1, k2, k3⟩ := chkP_parts hk
  have hc' := hc
  unfold chk at hc'
  simp only [Bool.and_eq_true, decide_eq_true_eq] at hc'
  unfold doT
  split
  · rename_i h1
    have hw := fit_work hf h1.1
    have hlt := work_lt h1.1
    rw [insN_lt hlt] at h1 hw
    unfold fitB chk kept
    simp only [Bool.and_eq_true, decide_eq_true_eq, Bool.or_eq_true, go_life_below]
    have e := hc'.1
    have e2 := hc'.2
    unfold kept at e2
    simp only [Bool.and_eq_true, decide_eq_true_eq] at e2
    simp only [go_life_below, Bool.and_eq_true, decide_eq_true_eq] at e
    refine ⟨⟨⟨⟨⟨⟨⟨⟨⟨e.1.1.1.1.1.1.1, e.1.1.1.1.1.1.2⟩, e.1.1.1.1.1.2⟩, e.1.1.1.1.2⟩, by omega, by omega⟩, e.1.1.2⟩, by omega⟩, by omega⟩, e2⟩, hk, hl, .inr ⟨hlt, h1.1, h1.2⟩⟩
  · rename_i h1
    have hm : minI p.length (t.Pc + 1) ≤ p.length ∧ 0 ≤ minI p.length (t.Pc + 1) := by unfold minI; split <;> omega
    unfold fitB chk kept
    simp only [Bool.and_eq_true, decide_eq_true_eq, Bool.or_eq_true, go_life_below]
    have e := hc'.1
    have e2 := hc'.2
    unfold kept at e2
    simp only [Bool.and_eq_true, decide_eq_true_eq] at e2
    simp only [go_life_below, Bool.and_eq_true, decide_eq_true_eq] at e
    refine ⟨⟨⟨⟨⟨⟨⟨⟨⟨e.1.1.1.1.1.1.1, e.1.1.1.1.1.1.2⟩, e.1.1.1.1.1.2⟩, by omega, by omega⟩, by omega, by omega⟩, e.1.1.2⟩, by omega⟩, by omega⟩, e2⟩, hk, hm.1, .inl trivial⟩
theorem drop_at {p : List api_Instr} {i : Int} (h0 : 0 ≤ i) (h : i < p.length) : p.drop i.toNat = gt p i :: p.drop (i + 1).toNat := by
  have h1 : i = ((i.toNat : Nat) : Int) := by omega
  have h2 : i.toNat < p.length := by omega
  rw [List.drop_eq_getElem_cons h2, show (i + 1).toNat = i.toNat + 1 by omega]
  congr 1
  have := gt_nat h2
  rw [← h1] at this
  exact this.symm
theorem take_at {p : List api_Instr} {i : Int} (h0 : 0 ≤ i) (h : i < p.length) : p.take (i + 1).toNat = p.take i.toNat ++ [gt p i] := by
  have h1 : i = ((i.toNat : Nat) : Int) := by omega
  have h2 : i.toNat < p.length := by omega
  rw [show (i + 1).toNat = i.toNat + 1 by omega, List.take_succ_eq_append_getElem h2]
  congr 2
  have := gt_nat h2
  rw [← h1] at this
  exact this.symm
theorem un_cons (x : api_Instr) (r : List api_Instr) : un (x :: r) = if x.Op = 9 then u1 x else u1 x + un r := by
  unfold un
  rw [reach]
  split
  · simp [sumU]
  · rfl
theorem left_nonneg {t : api_Task} {p : List api_Instr} (h : fitB t p = true) : 0 ≤ leftV t p ∧ leftV t p ≤ 3200 := by
  obtain ⟨hc, hk, hl, hu⟩ := fit_parts h
  obtain ⟨hid, hpc, hun, hran⟩ := chk_bounds hc
  obtain ⟨k1, k2, k3⟩ := chkP_parts hk
  have hb := un_bounds (p := p.drop t.Pc.toNat) (fun x hx => k3 x (List.mem_of_mem_drop hx)) (by rw [List.length_drop]; omega)
  unfold leftV
  split
  · omega
  · rcases hu with h | ⟨h1, h2, h3⟩
    · omega
    · have hb2 := un_bounds (p := p.drop (t.Pc + 1).toNat) (fun x hx => k3 x (List.mem_of_mem_drop hx)) (by rw [List.length_drop]; omega)
      rw [drop_at hpc.1 h1, un_cons] at hb ⊢
      rw [if_neg (by omega)] at hb ⊢
      unfold u1 at hb ⊢
      rw [if_pos h2] at hb ⊢
      omega
theorem left_do {t : api_Task} {p : List api_Instr} (h : fitB t p = true) : leftV (doT t p) p = (if leftV t p ≥ 1 then leftV t p - 1 else 0) := by
  obtain ⟨hc, hk, hl, hu⟩ := fit_parts h
  obtain ⟨hid, hpc, hun, hran⟩ := chk_bounds hc
  obtain ⟨k1, k2, k3⟩ := chkP_parts hk
  have hnn := left_nonneg h
  by_cases hlt : t.Pc < p.length
  · have hb2 := un_bounds (p := p.drop (t.Pc + 1).toNat) (fun x hx => k3 x (List.mem_of_mem_drop hx)) (by rw [List.length_drop]; omega)
    by_cases h1 : (insN t p).Op = 1
    · have hw := fit_work h h1
      by_cases h2 : t.Unit + 1 < (insN t p).A
      · unfold doT
        rw [if_pos ⟨h1, h2⟩]
        unfold leftV at hnn ⊢
        simp only at hnn ⊢
        rw [insN_lt hlt] at h1 h2 hw
        rw [drop_at hpc.1 hlt, un_cons, if_neg (show ¬ (gt p t.Pc).Op = 9 by omega)] at hnn ⊢
        unfold u1 at hnn ⊢
        rw [if_pos h1] at hnn ⊢
        split
        · rw [if_neg (by omega)]
        · rename_i hx
          rw [if_neg hx] at hnn
          rw [if_pos (by omega)]; omega
      · unfold doT
        rw [if_neg (show ¬ ((insN t p).Op = 1 ∧ t.Unit + 1 < (insN t p).A) from fun h => h2 h.2)]
        have hm : minI p.length (t.Pc + 1) = t.Pc + 1 := by unfold minI; rw [if_neg (by omega)]
        rw [insN_lt hlt] at h1 h2 hw
        unfold leftV
        simp only
        rw [hm, take_at hpc.1 hlt, drop_at hpc.1 hlt, un_cons, if_neg (show ¬ (gt p t.Pc).Op = 9 by omega), List.any_append]
        have hx : isX (gt p t.Pc) = false := by simp [isX]; omega
        unfold u1
        rw [if_pos h1]
        simp only [List.any_cons, List.any_nil, hx, Bool.or_false]
        split
        · rfl
        · rw [if_pos (by omega)]; omega
    · have hz := fit_unit h h1
      unfold doT
      rw [if_neg (show ¬ ((insN t p).Op = 1 ∧ t.Unit + 1 < (insN t p).A) from fun h => h1 h.1)]
      have hm : minI p.length (t.Pc + 1) = t.Pc + 1 := by unfold minI; rw [if_neg (by omega)]
      rw [insN_lt hlt] at h1
      unfold leftV
      simp only
      rw [hm, take_at hpc.1 hlt, drop_at hpc.1 hlt, un_cons, List.any_append]
      unfold u1
      rw [if_neg h1]
      simp only [List.any_cons, List.any_nil, Bool.or_false]
      by_cases h9 : (gt p t.Pc).Op = 9
      · have hx : isX (gt p t.Pc) = true := by simp [isX, h9]
        rw [hx, Bool.or_true, if_pos rfl, if_pos h9]
        split <;> split <;> omega
      · have hx : isX (gt p t.Pc) = false := by simp [isX, h9]
        rw [hx, Bool.or_false, if_neg h9]
        split
        · rfl
        · rw [if_pos (by omega)]; omega
  · have hz : t.Unit = 0 := by rcases hu with h | h; exact h; omega
    have he : t.Pc = p.length := by omega
    unfold doT
    rw [insN_end hlt, if_neg (by simp)]
    have hm : minI p.length (t.Pc + 1) = t.Pc := by unfold minI; rw [if_pos (by omega), he]
    unfold leftV
    simp only
    rw [hm]
    have hd : p.drop t.Pc.toNat = [] := by rw [List.drop_eq_nil_iff]; omega
    rw [hd, hz]
    split <;> rfl
theorem few_eq {l : List (List api_Instr)} (hl : l.length ≤ 9223372036854775807) : go_ravelref04_Few l = some (if l.any (fun p => decide ((p.length : Int) > 100)) then false else decide ((l.length : Int) ≤ 100)) := by
  unfold go_ravelref04_Few
  rw [whileO_seek (step := go_ravelref04_Few_s1 l) (fun p => decide ((p.length : Int) > 100)) l (fun _ => some false) (some (decide ((l.length : Int) ≤ 100))) hl (fun i hi => by rw [go_ravelref04_Few_s1, if_pos (by simpa using hi), if_pos (by omega)]) (by rw [go_ravelref04_Few_s1, if_neg (by simp)]), seek_any]
  split <;> rfl
def spawnsFar (n : Int) (x : api_Instr) : Bool := (x.Op == 2) && decide (x.A ≥ n)
def badP (n : Int) (p : List api_Instr) : Bool := !chkP p || p.any (spawnsFar n)
def ckAll (l : List (List api_Instr)) : Bool := !((decide ((l.length : Int) < 1)) || (decide ((l.length : Int) > 16))) && !l.any (badP l.length)
def poks (l : List (List api_Instr)) : Prop := l.length ≤ 1000000 ∧ ∀ p ∈ l, p.length ≤ 1000000 ∧ pok p
theorem checkAll_inner {l : List (List api_Instr)} (h : poks l) {i : Nat} (hi : i < l.length) : whileO (go_code_CheckAll_s14 l (i : Int)) 0 = if l[i].any (spawnsFar l.length) then inrO (some 1) else nextO (IntKind.i64.wrap ((i : Int) + 1)) := by
  have hp := h.2 _ (List.getElem_mem hi)
  rw [whileO_seek (step := go_code_CheckAll_s14 l (i : Int)) (spawnsFar l.length) l[i] (fun _ => inrO (some 1)) (nextO (IntKind.i64.wrap ((i : Int) + 1))) (by omega)]
  · rw [seek_any]
  · intro j hj
    rw [go_code_CheckAll_s14, gt_nat hi, if_pos (by simpa using hj), if_pos (by omega)]
    unfold go_code_CheckAll_j13
    have e1 : decide ((j : Int) ≥ 0) = true := by simp
    rw [e1]; rfl
  · rw [go_code_CheckAll_s14, gt_nat hi, if_neg (by simp)]; rfl
theorem badP_if {α : Type} {n : Int} {p : List api_Instr} {a b : α} : (if ((if chkP p = true then (0 : Int) else 1) != 0) = true then a else if p.any (spawnsFar n) = true then a else b) = if badP n p = true then a else b := by
  unfold badP
  cases chkP p <;> cases p.any (spawnsFar n) <;> rfl
theorem checkAll_eq {l : List (List api_Instr)} (h : poks l) : go_code_CheckAll l = some (if ckAll l then 0 else 1) := by
  unfold go_code_CheckAll ckAll
  by_cases hl : ((decide ((l.length : Int) < 1)) || (decide ((l.length : Int) > 16))) = true
  · rw [if_pos hl, hl]; rfl
  · rw [if_neg hl]
    rw [whileO_seek (step := go_code_CheckAll_s9 l) (badP l.length) l (fun _ => some 1) (some 0) (by have := h.1; omega), seek_any]
    · rw [Bool.not_eq_true] at hl
      rw [hl]
      cases l.any (badP l.length) <;> rfl
    · intro i hi
      rw [go_code_CheckAll_s9, if_pos (by simpa using hi), if_pos (by omega), gt_nat hi, codeCheck_eq (h.2 _ (List.getElem_mem hi)).2, Option.bind_some, checkAll_inner h hi]
      exact badP_if
    · rw [go_code_CheckAll_s9, if_neg (by simp)]
theorem few_poks {l : List (List api_Instr)} (hl : l.length ≤ 9223372036854775807) (ha : ∀ p ∈ l, ∀ x ∈ p, i64ok x.A) : ∃ r, go_ravelref04_Few l = some r ∧ (r = true → poks l ∧ (∀ p ∈ l, p.length ≤ 100) ∧ l.length ≤ 100) := by
  rw [few_eq hl]
  refine ⟨_, rfl, fun h => ?_⟩
  split at h
  · cases h
  · rename_i hn
    rw [Bool.not_eq_true, List.any_eq_false] at hn
    simp only [decide_eq_true_eq] at h
    have h1 : ∀ p ∈ l, p.length ≤ 100 := fun p hp => by
      have := hn p hp
      simp at this; omega
    exact ⟨⟨by omega, fun p hp => ⟨by have := h1 p hp; omega, by have := h1 p hp; omega, ha p hp⟩⟩, h1, by omega⟩

end Go.Proofs.YtpkegoikocfchaaDoor
