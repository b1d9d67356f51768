/- Helper lemmas for the claim's theorem: an abstract machine over the model, proved sound; no condition beyond each lemma's own. -/
import Derived.Test.YtlekpilcgahaoaaDoorL13e
set_option linter.unusedVariables false
set_option linter.unusedSimpArgs false
set_option linter.unnecessarySimpa false
set_option linter.unusedSectionVars false
/- Plain laws on the printed functions. -/
namespace Go.Proofs.YtlekpilcgahaoaaDoor
open Go Go.AM
set_option maxRecDepth 100000
set_option maxHeartbeats 1000000
set_option linter.unusedVariables false
set_option linter.unusedSimpArgs false
/-- It may do a unit. -/
def okS (t : api_Task) (p : List api_Instr) : Prop := fitB t p = true ∧ t.State = 2 ∧ t.Ran ≠ 1099511627776
theorem doR_ok {t : api_Task} {p : List api_Instr} (h : okS t p) : doR t p = (doT t p, doE t p, 0) := by
  unfold doR; rw [if_pos h.1, if_pos h.2.1, if_neg h.2.2]
theorem doR_err {t : api_Task} {p : List api_Instr} (h : (doR t p).2.2 = 0) : okS t p := by
  unfold doR at h
  by_cases h1 : fitB t p = true
  · by_cases h2 : t.State = 2
    · by_cases h3 : t.Ran = 1099511627776
      · simp [h1, h2, h3] at h
      · exact ⟨h1, h2, h3⟩
    · simp [h1, h2] at h
  · simp [h1] at h
theorem doT_same (t : api_Task) (p : List api_Instr) : (doT t p).Id = t.Id ∧ (doT t p).State = t.State ∧ (doT t p).Ran = t.Ran + 1 := by
  unfold doT; split <;> exact ⟨rfl, rfl, rfl⟩
theorem insN_lt {t : api_Task} {p : List api_Instr} (h : t.Pc < p.length) : insN t p = gt p t.Pc := by unfold insN; rw [if_pos h]
theorem insN_end {t : api_Task} {p : List api_Instr} (h : ¬ t.Pc < p.length) : insN t p = api_Instr.mk 9 0 0 := by unfold insN; rw [if_neg h]
theorem work_lt {t : api_Task} {p : List api_Instr} (h : (insN t p).Op = 1) : t.Pc < p.length := by
  by_cases h1 : t.Pc < p.length
  · exact h1
  · rw [insN_end h1] at h; simp at h
theorem fit_work {t : api_Task} {p : List api_Instr} (h : fitB t p = true) (h1 : (insN t p).Op = 1) : t.Unit < (insN t p).A ∧ (insN t p).A ≤ 100 := by
  obtain ⟨hc, hk, hl, hu⟩ := fit_parts h
  obtain ⟨-, hpc, hun, -⟩ := chk_bounds hc
  obtain ⟨-, -, h3⟩ := chkP_parts hk
  have hlt := work_lt h1
  rw [insN_lt hlt] at h1 ⊢
  have := may_work (h3 _ (gt_mem (by omega))) h1
  rcases hu with h | ⟨_, _, h⟩ <;> omega
theorem fit_unit {t : api_Task} {p : List api_Instr} (h : fitB t p = true) (h1 : (insN t p).Op ≠ 1) : t.Unit = 0 := by
  obtain ⟨hc, hk, hl, hu⟩ := fit_parts h
  rcases hu with h | ⟨h2, h3, _⟩
  · exact h
  · rw [insN_lt h2] at h1; exact absurd h3 h1
theorem fit_do {t : api_Task} {p : List api_Instr} (h : okS t p) : fitB (doT t p) p = true := by
  obtain ⟨hf, hs, hr⟩ := h
  obtain ⟨hc, hk, hl, hu⟩ := fit_parts hf
  obtain ⟨hid, hpc, hun, hran⟩ := chk_bounds hc
  obtain ⟨k1, k2, k3⟩ := chkP_parts hk
  have hc' := hc
  unfold chk at hc'
  simp only [Bool.and_eq_true, decide_eq_true_eq] at hc'
  unfold doT
  split
  · rename_i h1
    have hw := fit_work hf h1.1
    have hlt := work_lt h1.1
    rw [insN_lt hlt] at h1 hw
    unfold fitB chk kept
    simp only [Bool.and_eq_true, decide_eq_true_eq, Bool.or_eq_true, go_life_below]
    have e := hc'.1
    have e2 := hc'.2
    unfold kept at e2
    simp only [Bool.and_eq_true, decide_eq_true_eq] at e2
    simp only [go_life_below, Bool.and_eq_true, decide_eq_true_eq] at e
    refine ⟨⟨⟨⟨⟨⟨⟨⟨⟨e.1.1.1.1.1.1.1, e.1.1.1.1.1.1.2⟩, e.1.1.1.1.1.2⟩, e.1.1.1.1.2⟩, by omega, by omega⟩, e.1.1.2⟩, by omega⟩, by omega⟩, e2⟩, hk, hl, .inr ⟨hlt, h1.1, h1.2⟩⟩
  · rename_i h1
    have hm : minI p.length (t.Pc + 1) ≤ p.length ∧ 0 ≤ minI p.length (t.Pc + 1) := by unfold minI; split <;> omega
    unfold fitB chk kept
    simp only [Bool.and_eq_true, decide_eq_true_eq, Bool.or_eq_true, go_life_below]
    have e := hc'.1
    have e2 := hc'.2
    unfold kept at e2
    simp only [Bool.and_eq_true, decide_eq_true_eq] at e2
    simp only [go_life_below, Bool.and_eq_true, decide_eq_true_eq] at e
    refine ⟨⟨⟨⟨⟨⟨⟨⟨⟨e.1.1.1.1.1.1.1, e.1.1.1.1.1.1.2⟩, e.1.1.1.1.1.2⟩, by omega, by omega⟩, by omega, by omega⟩, e.1.1.2⟩, by omega⟩, by omega⟩, e2⟩, hk, hm.1, .inl trivial⟩
theorem drop_at {p : List api_Instr} {i : Int} (h0 : 0 ≤ i) (h : i < p.length) : p.drop i.toNat = gt p i :: p.drop (i + 1).toNat := by
  have h1 : i = ((i.toNat : Nat) : Int) := by omega
  have h2 : i.toNat < p.length := by omega
  rw [List.drop_eq_getElem_cons h2, show (i + 1).toNat = i.toNat + 1 by omega]
  congr 1
  have := gt_nat h2
  rw [← h1] at this
  exact this.symm
theorem take_at {p : List api_Instr} {i : Int} (h0 : 0 ≤ i) (h : i < p.length) : p.take (i + 1).toNat = p.take i.toNat ++ [gt p i] := by
  have h1 : i = ((i.toNat : Nat) : Int) := by omega
  have h2 : i.toNat < p.length := by omega
  rw [show (i + 1).toNat = i.toNat + 1 by omega, List.take_succ_eq_append_getElem h2]
  congr 2
  have := gt_nat h2
  rw [← h1] at this
  exact this.symm
theorem un_cons (x : api_Instr) (r : List api_Instr) : un (x :: r) = if x.Op = 9 then u1 x else u1 x + un r := by
  unfold un
  rw [reach]
  split
  · simp [sumU]
  · rfl
theorem left_nonneg {t : api_Task} {p : List api_Instr} (h : fitB t p = true) : 0 ≤ leftV t p ∧ leftV t p ≤ 3200 := by
  obtain ⟨hc, hk, hl, hu⟩ := fit_parts h
  obtain ⟨hid, hpc, hun, hran⟩ := chk_bounds hc
  obtain ⟨k1, k2, k3⟩ := chkP_parts hk
  have hb := un_bounds (p := p.drop t.Pc.toNat) (fun x hx => k3 x (List.mem_of_mem_drop hx)) (by rw [List.length_drop]; omega)
  unfold leftV
  split
  · omega
  · rcases hu with h | ⟨h1, h2, h3⟩
    · omega
    · have hb2 := un_bounds (p := p.drop (t.Pc + 1).toNat) (fun x hx => k3 x (List.mem_of_mem_drop hx)) (by rw [List.length_drop]; omega)
      rw [drop_at hpc.1 h1, un_cons] at hb ⊢
      rw [if_neg (by omega)] at hb ⊢
      unfold u1 at hb ⊢
      rw [if_pos h2] at hb ⊢
      omega
theorem left_do {t : api_Task} {p : List api_Instr} (h : fitB t p = true) : leftV (doT t p) p = (if leftV t p ≥ 1 then leftV t p - 1 else 0) := by
  obtain ⟨hc, hk, hl, hu⟩ := fit_parts h
  obtain ⟨hid, hpc, hun, hran⟩ := chk_bounds hc
  obtain ⟨k1, k2, k3⟩ := chkP_parts hk
  have hnn := left_nonneg h
  by_cases hlt : t.Pc < p.length
  · have hb2 := un_bounds (p := p.drop (t.Pc + 1).toNat) (fun x hx => k3 x (List.mem_of_mem_drop hx)) (by rw [List.length_drop]; omega)
    by_cases h1 : (insN t p).Op = 1
    · have hw := fit_work h h1
      by_cases h2 : t.Unit + 1 < (insN t p).A
      · unfold doT
        rw [if_pos ⟨h1, h2⟩]
        unfold leftV at hnn ⊢
        simp only at hnn ⊢
        rw [insN_lt hlt] at h1 h2 hw
        rw [drop_at hpc.1 hlt, un_cons, if_neg (show ¬ (gt p t.Pc).Op = 9 by omega)] at hnn ⊢
        unfold u1 at hnn ⊢
        rw [if_pos h1] at hnn ⊢
        split
        · rw [if_neg (by omega)]
        · rename_i hx
          rw [if_neg hx] at hnn
          rw [if_pos (by omega)]; omega
      · unfold doT
        rw [if_neg (show ¬ ((insN t p).Op = 1 ∧ t.Unit + 1 < (insN t p).A) from fun h => h2 h.2)]
        have hm : minI p.length (t.Pc + 1) = t.Pc + 1 := by unfold minI; rw [if_neg (by omega)]
        rw [insN_lt hlt] at h1 h2 hw
        unfold leftV
        simp only
        rw [hm, take_at hpc.1 hlt, drop_at hpc.1 hlt, un_cons, if_neg (show ¬ (gt p t.Pc).Op = 9 by omega), List.any_append]
        have hx : isX (gt p t.Pc) = false := by simp [isX]; omega
        unfold u1
        rw [if_pos h1]
        simp only [List.any_cons, List.any_nil, hx, Bool.or_false]
        split
        · rfl
        · rw [if_pos (by omega)]; omega
    · have hz := fit_unit h h1
      unfold doT
      rw [if_neg (show ¬ ((insN t p).Op = 1 ∧ t.Unit + 1 < (insN t p).A) from fun h => h1 h.1)]
      have hm : minI p.length (t.Pc + 1) = t.Pc + 1 := by unfold minI; rw [if_neg (by omega)]
      rw [insN_lt hlt] at h1
      unfold leftV
      simp only
      rw [hm, take_at hpc.1 hlt, drop_at hpc.1 hlt, un_cons, List.any_append]
      unfold u1
      rw [if_neg h1]
      simp only [List.any_cons, List.any_nil, Bool.or_false]
      by_cases h9 : (gt p t.Pc).Op = 9
      · have hx : isX (gt p t.Pc) = true := by simp [isX, h9]
        rw [hx, Bool.or_true, if_pos rfl, if_pos h9]
        split <;> split <;> omega
      · have hx : isX (gt p t.Pc) = false := by simp [isX, h9]
        rw [hx, Bool.or_false, if_neg h9]
        split
        · rfl
        · rw [if_pos (by omega)]; omega
  · have hz : t.Unit = 0 := by rcases hu with h | h; exact h; omega
    have he : t.Pc = p.length := by omega
    unfold doT
    rw [insN_end hlt, if_neg (by simp)]
    have hm : minI p.length (t.Pc + 1) = t.Pc := by unfold minI; rw [if_pos (by omega), he]
    unfold leftV
    simp only
    rw [hm]
    have hd : p.drop t.Pc.toNat = [] := by rw [List.drop_eq_nil_iff]; omega
    rw [hd, hz]
    split <;> rfl
/-- Several units, one by one. -/
def it (p : List api_Instr) : Nat → api_Task → api_Task
  | 0, t => t
  | k + 1, t => it p k (doT t p)
theorem it_last (p : List api_Instr) : ∀ (k : Nat) (t : api_Task), it p (k + 1) t = doT (it p k t) p
  | 0, _ => rfl
  | k + 1, t => by rw [it, it_last p k (doT t p)]; rfl
theorem slR_ok {p : List api_Instr} : ∀ (m : Nat) (n : Int) (t : api_Task), (slR p m n t).2.2.2 = 0 → 1 ≤ m →
    ∃ k, 1 ≤ k ∧ k ≤ m ∧ slR p m n t = (it p k t, doE (it p (k - 1) t) p, n + k, 0) ∧ (∀ i, i < k → okS (it p i t) p) ∧ (∀ i, i + 1 < k → (doE (it p i t) p).Kind = 0) ∧ ((doE (it p (k - 1) t) p).Kind = 0 → k = m)
  | 0, n, t, _, hm => by omega
  | m + 1, n, t, h, _ => by
    rw [slR] at h ⊢
    by_cases he : (doR t p).2.2 = 0
    · have hok := doR_err he
      rw [if_neg (by simp [he])] at h ⊢
      have hr := doR_ok hok
      rw [hr] at h ⊢
      simp only at h ⊢
      by_cases hk : (doE t p).Kind = 0
      · rw [if_neg (by simp [hk])] at h ⊢
        cases m with
        | zero =>
          refine ⟨1, by omega, by omega, ?_, ?_, by omega, by omega⟩
          · rw [slR]
            simp only [it, Nat.sub_self, doE_zero hok.1 hk]
            congr 3
          · intro i hi
            have : i = 0 := by omega
            subst this; exact hok
        | succ m =>
          obtain ⟨k, k1, k2, k3, k4, k5, k6⟩ := slR_ok (m + 1) (n + 1) (doT t p) h (by omega)
          obtain ⟨j, rfl⟩ : ∃ j, k = j + 1 := ⟨k - 1, by omega⟩
          refine ⟨j + 1 + 1, by omega, by omega, ?_, ?_, ?_, ?_⟩
          · rw [k3]
            simp only [Nat.add_sub_cancel, it]
            congr 3; omega
          · intro i hi
            cases i with
            | zero => exact hok
            | succ i => exact k4 i (by omega)
          · intro i hi
            cases i with
            | zero => exact hk
            | succ i => exact k5 i (by omega)
          · intro hz
            have := k6 (by simpa [it] using hz)
            omega
      · rw [if_pos hk] at h ⊢
        refine ⟨1, by omega, by omega, ?_, ?_, by omega, ?_⟩
        · simp only [it, Nat.sub_self]; congr 3
        · intro i hi
          have : i = 0 := by omega
          subst this; exact hok
        · intro hz; exact absurd hz hk
    · rw [if_pos (by simp [he])] at h
      exact absurd h he
theorem it_left {p : List api_Instr} : ∀ (k : Nat) (t : api_Task), fitB t p = true → (∀ i, i < k → okS (it p i t) p) → leftV (it p k t) p = (if leftV t p ≥ k then leftV t p - k else 0) ∧ (it p k t).Ran = t.Ran + k ∧ (it p k t).State = t.State ∧ (it p k t).Id = t.Id ∧ fitB (it p k t) p = true
  | 0, t, h, _ => by
    have := left_nonneg h
    refine ⟨by rw [it, if_pos (by omega)]; omega, by rw [it]; omega, rfl, rfl, h⟩
  | k + 1, t, h, hk => by
    obtain ⟨h1, h2, h3, h4, h5⟩ := it_left k t h (fun i hi => hk i (by omega))
    have hok := hk k (by omega)
    obtain ⟨d1, d2, d3⟩ := doT_same (it p k t) p
    rw [it_last]
    refine ⟨?_, by rw [d3, h2]; omega, by rw [d2, h3], by rw [d1, h4], fit_do hok⟩
    rw [left_do h5, h1]
    split <;> split <;> split <;> omega
theorem stepBudget_true {t : api_Task} {p : List api_Instr} {b : Int} (hp : pok p) (hb : i64ok b) : go_ravellaw13_StepBudget t p b = some true := by
  unfold go_ravellaw13_StepBudget
  rw [live_eq, left_eq hp, slice_eq hp]
  simp only [Option.bind_some]
  rw [if_neg (by simp)]
  split
  · rfl
  · unfold leftR sliceR
    cases hf : fitB t p with
    | false => simp
    | true =>
      simp only [if_true, true_and]
      by_cases hbb : 1 ≤ b ∧ b ≤ 100
      · rw [if_pos hbb]
        by_cases he : (slR p b.toNat 0 t).2.2.2 = 0
        · obtain ⟨k, k1, k2, k3, k4, k5, k6⟩ := slR_ok _ _ _ he (by omega)
          obtain ⟨i1, i2, i3, i4, i5⟩ := it_left k t hf k4
          have hl := left_nonneg hf
          have hc := chk_bounds (fit_parts hf).1
          have hc2 := chk_bounds (fit_parts i5).1
          rw [k3]
          simp only
          rw [if_neg (by simp), left_eq hp]
          unfold leftR
          rw [i5]
          simp only [if_true, Option.bind_some]
          rw [i1, i2, w64_id (n := leftV t p - (0 + (k : Int))) (by omega) (by omega), w64_id (n := t.Ran + (0 + (k : Int))) (by omega) (by omega)]
          have hm : (if leftV t p ≥ (k : Int) then leftV t p - k else 0) = (if 0 > leftV t p - (0 + (k : Int)) then 0 else leftV t p - (0 + (k : Int))) := by split <;> split <;> omega
          rw [hm]
          by_cases hz : (doE (it p (k - 1) t) p).Kind = 0
          · have := k6 hz
            simp [hz]; omega
          · simp [hz]; omega
        · rw [if_pos (by simp [he])]
      · rw [if_neg hbb]; simp

end Go.Proofs.YtlekpilcgahaoaaDoor
