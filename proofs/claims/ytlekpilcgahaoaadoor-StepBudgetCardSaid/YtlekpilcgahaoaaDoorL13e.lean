/- Helper lemmas for the claim's theorem: an abstract machine over the model, proved sound; no condition beyond each lemma's own. -/
import Derived.Test.YtlekpilcgahaoaaDoorL13d
set_option linter.unusedVariables false
set_option linter.unusedSimpArgs false
set_option linter.unnecessarySimpa false
set_option linter.unusedSectionVars false
/- Plain laws on the printed functions. -/
namespace Go.Proofs.YtlekpilcgahaoaaDoor
open Go Go.AM
set_option maxRecDepth 100000
set_option maxHeartbeats 1000000
set_option linter.unusedVariables false
set_option linter.unusedSimpArgs false
/-- Several units. -/
def slR (p : List api_Instr) : Nat → Int → api_Task → api_Task × api_Effect × Int × Int
  | 0, n, t => (t, api_Effect.zero, n, 0)
  | m + 1, n, t => if (doR t p).2.2 ≠ 0 then (api_Task.zero, api_Effect.zero, 0, (doR t p).2.2) else if (doR t p).2.1.Kind ≠ 0 then ((doR t p).1, (doR t p).2.1, n + 1, 0) else slR p m (n + 1) (doR t p).1
def sliceR (t : api_Task) (p : List api_Instr) (b : Int) : api_Task × api_Effect × Int × Int :=
  if fitB t p ∧ 1 ≤ b ∧ b ≤ 100 then slR p b.toNat 0 t else (api_Task.zero, api_Effect.zero, 0, 1)
theorem insN_op {t : api_Task} {p : List api_Instr} (h : fitB t p = true) : 1 ≤ (insN t p).Op ∧ (insN t p).Op ≤ 9 := by
  obtain ⟨hc, hk, hl, -⟩ := fit_parts h
  obtain ⟨-, hpc, -, -⟩ := chk_bounds hc
  obtain ⟨-, -, h3⟩ := chkP_parts hk
  unfold insN
  split
  · exact may_op (h3 _ (gt_mem (by omega)))
  · simp
theorem doE_zero {t : api_Task} {p : List api_Instr} (h : fitB t p = true) (hk : (doE t p).Kind = 0) : doE t p = api_Effect.zero := by
  have := insN_op h
  unfold doE at *
  split
  · rfl
  · rename_i h1
    rw [if_neg h1] at hk
    simp only at hk; omega
theorem doR_zero {t : api_Task} {p : List api_Instr} (h : (doR t p).2.2 = 0) (hk : (doR t p).2.1.Kind = 0) : (doR t p).2.1 = api_Effect.zero := by
  unfold doR at h hk ⊢
  by_cases h1 : fitB t p = true
  · by_cases h2 : t.State = 2
    · by_cases h3 : t.Ran = 1099511627776
      · simp [h1, h2, h3]
      · simp only [if_pos h1, if_pos h2, if_neg h3] at hk ⊢
        exact doE_zero h1 hk
    · simp [h1, h2]
  · simp [h1]
abbrev SlS := Int × Int × Int × Int × Int × Int × Int × Int × Int × Int × Int × Int × Int × Int × Int
def slS (n : Int) (t : api_Task) (x : api_Effect) : SlS := (n, t.Id, t.Tenant, t.Prog, t.Pc, t.Unit, t.Keeps.a0, t.Keeps.a1, t.Keeps.a2, t.Keeps.a3, t.State, t.Ran, x.Kind, x.A, x.B)
theorem slice_loop {p : List api_Instr} (hp : pok p) (b : Int) (hb : b ≤ 100) : ∀ (m : Nat) (n : Int) (t : api_Task), 0 ≤ n → n + m = b → whileO (go_step_Slice_s2 p b) (slS n t api_Effect.zero) = some (slR p m n t)
  | 0, n, t, _, h => by
    rw [whileO_inr]
    rw [slS, go_step_Slice_s2, if_neg (by simp [api_Effect.zero]; omega)]
    rfl
  | m + 1, n, t, h0, h => by
    have hd : go_step_Do (api_Task.mk t.Id t.Tenant t.Prog t.Pc t.Unit (A4_Int.mk t.Keeps.a0 t.Keeps.a1 t.Keeps.a2 t.Keeps.a3) t.State t.Ran) p = some (doR t p) := do_eq hp
    have hstep : go_step_Slice_s2 p b (slS n t api_Effect.zero) = if ((doR t p).2.2 != 0) = true then inrO (some (api_Task.zero, api_Effect.zero, 0, (doR t p).2.2)) else nextO (slS (n + 1) (doR t p).1 (doR t p).2.1) := by
      rw [slS, go_step_Slice_s2, if_pos (by simp [api_Effect.zero]; omega), hd, w64_id (by omega) (by omega)]; rfl
    rw [slR]
    by_cases he : (doR t p).2.2 = 0
    · rw [if_neg (by simp [he])] at hstep
      rw [if_neg (by simp [he]), whileO_inl hstep]
      by_cases hk : (doR t p).2.1.Kind = 0
      · rw [if_neg (by simp [hk]), doR_zero he hk]
        exact slice_loop hp b hb m (n + 1) _ (by omega) (by omega)
      · rw [if_pos hk, whileO_inr]
        rw [slS, go_step_Slice_s2, if_neg (by simp [hk])]; rfl
    · rw [if_pos (by simp [he])] at hstep
      rw [if_pos he, whileO_inr hstep]
theorem slice_eq {t : api_Task} {p : List api_Instr} {b : Int} (hp : pok p) : go_step_Slice t p b = some (sliceR t p b) := by
  unfold go_step_Slice
  rw [next_eq hp, Option.bind_some]
  unfold sliceR
  cases hf : fitB t p with
  | false => simp
  | true =>
    simp only [if_true, true_and]
    by_cases hb : 1 ≤ b ∧ b ≤ 100
    · rw [if_neg (by simp; omega), if_pos hb]
      exact slice_loop hp b hb.2 b.toNat 0 t (by omega) (by omega)
    · rw [if_pos (by simp; omega), if_neg hb]
abbrev RsS := Int × Int × Int × Int × Int × Int × Int × Int × Int × Int × Int × Int
def rsS (n : Int) (t : api_Task) : RsS := (n, t.Id, t.Tenant, t.Prog, t.Pc, t.Unit, t.Keeps.a0, t.Keeps.a1, t.Keeps.a2, t.Keeps.a3, t.State, t.Ran)
theorem rslice_loop {p : List api_Instr} (hp : pok p) (b : Int) (hb : b ≤ 100) : ∀ (m : Nat) (n : Int) (t : api_Task), 0 ≤ n → n + m = b → whileO (go_ravelref13_Slice_s2 p b) (rsS (n + 1) t) = some (slR p m n t)
  | 0, n, t, _, h => by
    have : n = b := by omega
    subst this
    rw [whileO_inr]
    rw [rsS, go_ravelref13_Slice_s2, if_neg (by simp; omega)]
    rfl
  | m + 1, n, t, h0, h => by
    have hd : go_ravelref13_Do (api_Task.mk t.Id t.Tenant t.Prog t.Pc t.Unit (A4_Int.mk t.Keeps.a0 t.Keeps.a1 t.Keeps.a2 t.Keeps.a3) t.State t.Ran) p = some (doR t p) := rdo_eq hp
    have hstep : go_ravelref13_Slice_s2 p b (rsS (n + 1) t) = if ((doR t p).2.2 != 0) = true then inrO (some (api_Task.zero, api_Effect.zero, 0, (doR t p).2.2)) else if ((doR t p).2.1.Kind != 0) = true then inrO (some ((doR t p).1, (doR t p).2.1, n + 1, 0)) else nextO (rsS (n + 1 + 1) (doR t p).1) := by
      rw [rsS, go_ravelref13_Slice_s2, if_pos (by simp; omega), hd, w64_id (by omega) (by omega)]; rfl
    rw [slR]
    by_cases he : (doR t p).2.2 = 0
    · rw [if_neg (by simp [he])] at hstep
      rw [if_neg (by simp [he])]
      by_cases hk : (doR t p).2.1.Kind = 0
      · rw [if_neg (by simp [hk])] at hstep
        rw [if_neg (by simp [hk]), whileO_inl hstep]
        exact rslice_loop hp b hb m (n + 1) _ (by omega) (by omega)
      · rw [if_pos (by simp [hk])] at hstep
        rw [if_pos hk, whileO_inr hstep]
    · rw [if_pos (by simp [he])] at hstep
      rw [if_pos he, whileO_inr hstep]
theorem rslice_eq {t : api_Task} {p : List api_Instr} {b : Int} (hp : pok p) : go_ravelref13_Slice t p b = some (sliceR t p b) := by
  unfold go_ravelref13_Slice
  rw [fits_eq hp, Option.bind_some]
  unfold sliceR
  cases hf : fitB t p with
  | false => simp
  | true =>
    simp only [true_and]
    by_cases hb : 1 ≤ b ∧ b ≤ 100
    · rw [if_neg (by simp; omega), if_pos hb]
      exact rslice_loop hp b hb.2 b.toNat 0 t (by omega) (by omega)
    · rw [if_pos (by simp; omega), if_neg hb]
theorem eff_beq (x y : api_Effect) : api_Effect.beq x y = true ↔ x = y := by
  obtain ⟨a, b, c⟩ := x; obtain ⟨d, e, f⟩ := y; simp [api_Effect.beq]
theorem ins_beq (x y : api_Instr) : api_Instr.beq x y = true ↔ x = y := by
  obtain ⟨a, b, c⟩ := x; obtain ⟨d, e, f⟩ := y; simp [api_Instr.beq]
theorem eff_self (x : api_Effect) : api_Effect.beq x x = true := (eff_beq x x).2 rfl
theorem ins_self (x : api_Instr) : api_Instr.beq x x = true := (ins_beq x x).2 rfl
theorem live_eq : go_ravellaw13_live = some true := by
  unfold go_ravellaw13_live
  have hp : pok [api_Instr.mk 1 3 0, api_Instr.mk 3 0 0] := ⟨by decide, by simp [i64ok]⟩
  simp only [new_eq, Option.bind_some, move_eq, slice_eq hp]
  decide
theorem stepDoes_true {t : api_Task} {p : List api_Instr} {b : Int} (hp : pok p) : go_ravellaw13_StepDoes t p b = some true := by
  unfold go_ravellaw13_StepDoes
  rw [live_eq, do_eq hp, rdo_eq hp, slice_eq hp, rslice_eq hp, left_eq hp, rleft_eq hp, next_eq hp, rnext_eq hp]
  simp only [Option.bind_some]
  rw [if_neg (by simp)]
  split
  · rfl
  · simp [task_self, eff_self, ins_self]

end Go.Proofs.YtlekpilcgahaoaaDoor
