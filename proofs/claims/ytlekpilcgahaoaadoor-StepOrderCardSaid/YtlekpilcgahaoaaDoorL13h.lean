/- Helper lemmas for the claim's theorem: an abstract machine over the model, proved sound; no condition beyond each lemma's own. -/
import Derived.Test.YtlekpilcgahaoaaDoorL13g
set_option linter.unusedVariables false
set_option linter.unusedSimpArgs false
set_option linter.unnecessarySimpa false
set_option linter.unusedSectionVars false
/- Plain laws on the printed functions. -/
namespace Go.Proofs.YtlekpilcgahaoaaDoor
open Go Go.AM
set_option maxRecDepth 100000
set_option maxHeartbeats 1000000
set_option linter.unusedVariables false
set_option linter.unusedSimpArgs false
theorem left_pos {t : api_Task} {p : List api_Instr} (hf : fitB t p = true) (h : 0 < leftV t p) : t.Pc < p.length := by
  obtain ⟨hc, hk, hle, hu⟩ := fit_parts hf
  obtain ⟨hid, hpc, hun, hran⟩ := chk_bounds hc
  by_cases he : t.Pc < p.length
  · exact he
  · exfalso
    unfold leftV at h
    have hd : p.drop t.Pc.toNat = [] := by rw [List.drop_eq_nil_iff]; omega
    rw [hd] at h
    have hz : un ([] : List api_Instr) = 0 := rfl
    rw [hz] at h
    split at h <;> omega
theorem order_loop {p : List api_Instr} (hp : pok p) (id U : Int) (hU : U ≤ 3200) : ∀ (m : Nat) (n : Int) (t : api_Task), 0 ≤ n → n + m = U → fitB t p = true → t.State = 2 → t.Ran = n → t.Id = id → leftV t p = m →
    whileO (go_ravellaw13_StepOrder_s2 id p true U) (t.Pc, t.Unit, n, t.Id, t.Tenant, t.Prog, t.Pc, t.Unit, t.Keeps.a0, t.Keeps.a1, t.Keeps.a2, t.Keeps.a3, t.State, t.Ran) = some true
  | 0, n, t, h0, h, hf, hs, hr, hi, hl => by
    have hle : go_step_Left (api_Task.mk t.Id t.Tenant t.Prog t.Pc t.Unit (A4_Int.mk t.Keeps.a0 t.Keeps.a1 t.Keeps.a2 t.Keeps.a3) t.State t.Ran) p = some (leftR t p) := left_eq hp
    have h2 : leftR t p = (0, 0) := by unfold leftR; rw [hf, hl]; rfl
    refine whileO_inr ?_
    rw [go_ravellaw13_StepOrder_s2, if_neg (by simp; omega), hle, h2]
    simp [hr, hi]; omega
  | m + 1, n, t, h0, h, hf, hs, hr, hi, hl => by
    have hle : go_step_Left (api_Task.mk t.Id t.Tenant t.Prog t.Pc t.Unit (A4_Int.mk t.Keeps.a0 t.Keeps.a1 t.Keeps.a2 t.Keeps.a3) t.State t.Ran) p = some (leftR t p) := left_eq hp
    have h2 : leftR t p = ((m : Int) + 1, 0) := by unfold leftR; rw [hf, hl]; rfl
    have hd : go_step_Do (api_Task.mk t.Id t.Tenant t.Prog t.Pc t.Unit (A4_Int.mk t.Keeps.a0 t.Keeps.a1 t.Keeps.a2 t.Keeps.a3) t.State t.Ran) p = some (doR t p) := do_eq hp
    have hok : okS t p := ⟨hf, hs, by omega⟩
    have hlt := left_pos hf (by omega)
    obtain ⟨hc, hk, hlx, hu⟩ := fit_parts hf
    obtain ⟨hid, hpc, hun, hran⟩ := chk_bounds hc
    obtain ⟨d1, d2, d3⟩ := doT_same t p
    have hld := left_do (p := p) hf
    rw [hl, if_pos (by omega)] at hld
    have ih := order_loop hp id U hU m (n + 1) (doT t p) (by omega) (by omega) (fit_do hok) (by rw [d2, hs]) (by rw [d3, hr]) (by rw [d1, hi]) (by rw [hld]; omega)
    have hw : IntKind.i64.wrap (U - n) = (m : Int) + 1 := by rw [w64_id (by omega) (by omega)]; omega
    rw [← ih]
    refine whileO_inl ?_
    rw [go_ravellaw13_StepOrder_s2, if_pos (by simp; omega), if_neg (by simp; omega), hle, hd, doR_ok hok, h2]
    simp only [Option.bind_some]
    rw [if_pos (by omega), hw, w64_id (n := t.Ran + 1) (by omega) (by omega), d3, if_neg (by simp), ← insN_lt hlt, w64_id (n := n + 1) (by omega) (by omega), w64_id (n := t.Unit + 1) (by omega) (by omega), w64_id (n := t.Pc + 1) (by omega) (by omega)]
    by_cases h1 : (insN t p).Op = 1
    · have hfw := fit_work hf h1
      have e : doE t p = api_Effect.zero := by unfold doE; rw [if_pos h1]
      rw [if_pos (by simp [h1]), e, if_neg (by simp [eff_self])]
      by_cases h3 : t.Unit + 1 = (insN t p).A
      · have h4 : ¬ ((insN t p).Op = 1 ∧ t.Unit + 1 < (insN t p).A) := by omega
        have hT : doT t p = api_Task.mk t.Id t.Tenant t.Prog (t.Pc + 1) 0 t.Keeps t.State (t.Ran + 1) := by
          unfold doT minI; rw [if_neg h4, if_neg (by omega)]
        rw [if_pos (by simp [h3]), hT]; rfl
      · have h4 : (insN t p).Op = 1 ∧ t.Unit + 1 < (insN t p).A := ⟨h1, by omega⟩
        have hT : doT t p = api_Task.mk t.Id t.Tenant t.Prog t.Pc (t.Unit + 1) t.Keeps t.State (t.Ran + 1) := by
          unfold doT; rw [if_pos h4]
        rw [if_neg (by simp [h3]), hT]; rfl
    · have h4 : ¬ ((insN t p).Op = 1 ∧ t.Unit + 1 < (insN t p).A) := by omega
      have e : doE t p = api_Effect.mk (insN t p).Op (insN t p).A (insN t p).B := by unfold doE; rw [if_neg h1]
      have hz := fit_unit hf h1
      have hT : doT t p = api_Task.mk t.Id t.Tenant t.Prog (t.Pc + 1) 0 t.Keeps t.State (t.Ran + 1) := by
        unfold doT minI; rw [if_neg h4, if_neg (by omega)]
      rw [if_neg (by simp [h1]), e, if_neg (by simp [eff_self]), hT, hz]; rfl
theorem stepOrder_true {id : Int} {p : List api_Instr} (hp : pok p) : go_ravellaw13_StepOrder id p = some true := by
  unfold go_ravellaw13_StepOrder
  rw [live_eq]
  simp only [Option.bind_some]
  rw [if_neg (by simp)]
  split
  · rfl
  · rename_i hg
    simp only [Bool.or_eq_true, decide_eq_true_eq, not_or] at hg
    rw [(fresh_eq (by omega)).1, units_eq hp, codeCheck_eq hp]
    simp only [Option.bind_some]
    cases hk : chkP p with
    | false => simp
    | true =>
      simp only [if_true]
      rw [if_neg (by simp)]
      obtain ⟨h1, h2, h3⟩ := chkP_parts hk
      have hub := un_bounds h3 h2
      have hfr := fr_fit (p := p) (id := id) (by omega) hk
      exact order_loop hp id (un p) hub.2 (un p).toNat 0 (frT id) (by omega) (by omega) hfr.1 rfl rfl rfl (by rw [hfr.2]; omega)

end Go.Proofs.YtlekpilcgahaoaaDoor
