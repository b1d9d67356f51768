/- Helper lemmas for the claim's theorem: an abstract machine over the model, proved sound; no condition beyond each lemma's own. -/
import Derived.Test.YtlekpilcgahaoaaDoorL13c
set_option linter.unusedVariables false
set_option linter.unusedSimpArgs false
set_option linter.unnecessarySimpa false
set_option linter.unusedSectionVars false
/- Plain laws on the printed functions. -/
namespace Go.Proofs.YtlekpilcgahaoaaDoor
open Go Go.AM
set_option maxRecDepth 100000
set_option maxHeartbeats 1000000
set_option linter.unusedVariables false
set_option linter.unusedSimpArgs false
/-- A program's instructions up to its first exit, and their units. -/
def reach : List api_Instr → List api_Instr
  | [] => []
  | x :: r => if x.Op = 9 then [x] else x :: reach r
def u1 (x : api_Instr) : Int := if x.Op = 1 then x.A else 1
def sumU : List api_Instr → Int
  | [] => 0
  | x :: r => u1 x + sumU r
def un (p : List api_Instr) : Int := sumU (reach p)
def isX (x : api_Instr) : Bool := x.Op == 9
theorem reach_idx : ∀ (p : List api_Instr), reach p = match p.findIdx? isX with | some i => p.take (i + 1) | none => p
  | [] => rfl
  | x :: r => by
    rw [reach, List.findIdx?_cons, reach_idx r]
    by_cases h : x.Op = 9
    · rw [if_pos h]; simp [isX, h]
    · rw [if_neg h]
      have h1 : isX x = false := by simp [isX, h]
      rw [h1]
      simp only [Bool.false_eq_true, if_false]
      cases List.findIdx? isX r <;> simp
theorem sub_take (p : List api_Instr) (n : Int) : sub p 0 n = p.take n.toNat := by simp [sub]
theorem sub_drop (p : List api_Instr) (n : Int) : sub p n (p.length : Int) = p.drop n.toNat := by unfold sub; rw [List.take_of_length_le (by simp)]
theorem reached_eq {p : List api_Instr} (h : p.length ≤ 1000000) : go_code_reached p = some (reach p) := by
  unfold go_code_reached go_slices_IndexFunc_api_Instr_api_Instr_138
  rw [whileO_index (step := go_slices_IndexFunc_api_Instr_api_Instr_138_s1 p) isX p (by omega) (fun v => rfl), Option.bind_some, reach_idx]
  unfold idxOf
  cases hf : p.findIdx? isX with
  | none => rfl
  | some i =>
    obtain ⟨hi, -, -⟩ := List.findIdx?_eq_some_iff_getElem.1 hf
    simp only
    rw [if_pos (by simp), w64_id (by omega) (by omega), if_pos (by omega), sub_take]
    congr 2
theorem reach_mem {p : List api_Instr} : ∀ {x : api_Instr}, x ∈ reach p → x ∈ p := by
  induction p with
  | nil => intro x h; exact h
  | cons y r ih =>
    intro x h
    rw [reach] at h
    split at h
    · simp at h; simp [h]
    · rcases List.mem_cons.1 h with h | h
      · simp [h]
      · simp [ih h]
theorem reach_len (p : List api_Instr) : (reach p).length ≤ p.length := by
  induction p with
  | nil => exact Nat.le_refl _
  | cons x r ih =>
    rw [reach]
    split
    · simp
    · simpa using ih
theorem u1_bounds {x : api_Instr} (h : go_ravelref04_may x = true) : 1 ≤ u1 x ∧ u1 x ≤ 100 := by
  unfold u1
  split
  · exact may_work h (by assumption)
  · omega
theorem sumU_bounds : ∀ {l : List api_Instr}, (∀ x ∈ l, go_ravelref04_may x = true) → (l.length : Int) ≤ sumU l ∧ sumU l ≤ 100 * l.length
  | [], _ => by simp [sumU]
  | x :: r, h => by
    have := sumU_bounds (l := r) (fun y hy => h y (by simp [hy]))
    have := u1_bounds (h x (by simp))
    simp only [sumU, List.length_cons]; omega
theorem units_loop (l : List api_Instr) (hl : l.length ≤ 1000) (hm : ∀ x ∈ l, go_ravelref04_may x = true) : ∀ (m i : Nat) (n : Int), i + m = l.length → 0 ≤ n → n ≤ 100 * i → whileO (go_code_Units_s1 l) (n, (i : Int)) = some (n + sumU (l.drop i), 0)
  | 0, i, n, h, _, _ => by
    have : i = l.length := by omega
    subst this
    rw [whileO_inr (k := (n, 0)), List.drop_length]
    · simp [sumU]
    · rw [go_code_Units_s1, if_neg (by simp)]; rfl
  | m + 1, i, n, h, h0, h1 => by
    have hi : i < l.length := by omega
    have hb := u1_bounds (hm _ (List.getElem_mem hi))
    rw [List.drop_eq_getElem_cons hi, sumU, whileO_inl (s' := (n + u1 l[i], ((i + 1 : Nat) : Int))), units_loop l hl hm m (i + 1) _ (by omega) (by omega) (by omega), Int.add_assoc]
    rw [go_code_Units_s1, if_pos (by simpa using hi), if_pos (by omega), gt_nat hi, w64_nat (by omega)]
    unfold u1 at hb ⊢
    by_cases hx : l[i].Op = 1
    · rw [if_pos (by simp [hx])]
      rw [if_pos hx] at hb ⊢
      rw [w64_id (n := l[i].A - 1) (by omega) (by omega), w64_id (n := n + (l[i].A - 1)) (by omega) (by omega), show n + (l[i].A - 1) + 1 = n + l[i].A by omega, w64_id (by omega) (by omega)]; rfl
    · rw [if_neg (by simp [hx])]
      rw [if_neg hx] at hb ⊢
      rw [w64_id (by omega) (by omega)]; rfl
theorem units_eq {p : List api_Instr} (hp : pok p) : go_code_Units p = some (if chkP p then (un p, 0) else (0, 1)) := by
  unfold go_code_Units
  rw [codeCheck_eq hp, Option.bind_some]
  cases hk : chkP p with
  | false => rfl
  | true =>
    obtain ⟨h1, h2, h3⟩ := chkP_parts hk
    simp only [if_true]
    rw [if_neg (by decide), reached_eq (by omega), Option.bind_some]
    have hr := reach_len p
    have := units_loop (reach p) (by omega) (fun x hx => h3 x (reach_mem hx)) (reach p).length 0 0 (by omega) (by omega) (by omega)
    simpa [un] using this
theorem run_eq {p : List api_Instr} (h : p.length ≤ 1000000) : go_ravelref04_Run p = some (reach p) := by
  unfold go_ravelref04_Run
  rw [whileO_seek (step := go_ravelref04_Run_s1 p) isX p (fun i => some (p.take (i + 1))) (some p) (by omega)]
  · rw [reach_idx]
    have : ∀ (l : List api_Instr) (i : Nat), seek isX (fun i => some (p.take (i + 1))) (some p) i l = some (match l.findIdx? isX with | some k => p.take (i + k + 1) | none => p) := by
      intro l
      induction l with
      | nil => intro i; rfl
      | cons x r ih =>
        intro i
        rw [seek, List.findIdx?_cons]
        cases hx : isX x with
        | true => simp
        | false =>
          simp only [Bool.false_eq_true, if_false]
          rw [ih]
          cases List.findIdx? isX r with
          | none => rfl
          | some k => simp only [Option.map_some]; congr 2; omega
    rw [this p 0]
    cases List.findIdx? isX p <;> simp
  · intro i hi
    rw [go_ravelref04_Run_s1, if_pos (by simpa using hi), if_pos (by omega), gt_nat hi]
    show (if (p[i].Op == 9) = true then _ else _) = if isX p[i] = true then _ else _
    unfold isX
    split
    · rw [w64_nat (by omega), if_pos (by omega), sub_take]; rfl
    · rfl
  · rw [go_ravelref04_Run_s1, if_neg (by simp)]
def leftV (t : api_Task) (p : List api_Instr) : Int := if (p.take t.Pc.toNat).any isX then 0 else un (p.drop t.Pc.toNat) - t.Unit
def leftR (t : api_Task) (p : List api_Instr) : Int × Int := if fitB t p then (leftV t p, 0) else (0, 1)
theorem pok_drop {p : List api_Instr} (h : pok p) (n : Nat) : pok (p.drop n) := ⟨by rw [List.length_drop]; have := h.1; omega, fun x hx => h.2 x (List.mem_of_mem_drop hx)⟩
theorem chkP_drop {p : List api_Instr} (h : chkP p = true) {n : Nat} (hn : n < p.length) : chkP (p.drop n) = true := by
  obtain ⟨h1, h2, h3⟩ := chkP_parts h
  unfold chkP
  simp only [Bool.and_eq_true, decide_eq_true_eq, List.all_eq_true, List.length_drop]
  exact ⟨⟨by omega, by omega⟩, fun x hx => h3 x (List.mem_of_mem_drop hx)⟩
theorem un_bounds {p : List api_Instr} (h : ∀ x ∈ p, go_ravelref04_may x = true) (hl : p.length ≤ 32) : 0 ≤ un p ∧ un p ≤ 3200 := by
  have := sumU_bounds (l := reach p) (fun x hx => h x (reach_mem hx))
  have := reach_len p
  unfold un; omega
theorem left_eq {t : api_Task} {p : List api_Instr} (hp : pok p) : go_step_Left t p = some (leftR t p) := by
  unfold go_step_Left
  rw [next_eq hp, Option.bind_some]
  unfold leftR
  cases hf : fitB t p with
  | false => simp
  | true =>
    obtain ⟨hc, hk, hl, hu⟩ := fit_parts hf
    obtain ⟨-, hpc, hun, hran⟩ := chk_bounds hc
    obtain ⟨k1, k2, k3⟩ := chkP_parts hk
    simp only [if_true]
    rw [if_neg (by simp)]
    unfold leftV
    by_cases he : t.Pc = p.length
    · rw [if_pos (by simp [he])]
      have h0 : t.Unit = 0 := by rcases hu with h | h; exact h; omega
      have hd : p.drop t.Pc.toNat = [] := by rw [List.drop_eq_nil_iff]; omega
      rw [hd, h0]
      split <;> rfl
    · rw [if_neg (by simp [he]), if_pos (by omega), sub_take]
      unfold go_slices_ContainsFunc_api_Instr_api_Instr_130 go_slices_IndexFunc_api_Instr_api_Instr_130
      rw [whileO_index (step := go_slices_IndexFunc_api_Instr_api_Instr_130_s1 (p.take t.Pc.toNat)) isX _ (by rw [List.length_take]; omega) (fun v => rfl)]
      simp only [Option.bind_some]
      rw [idxOf_any]
      cases hx : (p.take t.Pc.toNat).any isX with
      | true => rfl
      | false =>
        simp only [Bool.false_eq_true, if_false]
        rw [if_pos (by omega), sub_drop, units_eq (pok_drop hp _), chkP_drop hk (by omega)]
        have := un_bounds (p := p.drop t.Pc.toNat) (fun x hx => k3 x (List.mem_of_mem_drop hx)) (by rw [List.length_drop]; omega)
        simp only [if_true, Option.bind_some]
        rw [if_neg (by decide), w64_id (by omega) (by omega)]
theorem rleft_loop (l : List api_Instr) (hl : l.length ≤ 1000) (hm : ∀ x ∈ l, go_ravelref04_may x = true) : ∀ (m i : Nat) (n : Int), i + m = l.length → -1000 ≤ n → n ≤ 100 * i → whileO (go_ravelref13_Left_s3 l) (n, (i : Int)) = some (n + sumU (l.drop i), 0)
  | 0, i, n, h, _, _ => by
    have : i = l.length := by omega
    subst this
    rw [whileO_inr (k := (n, 0)), List.drop_length]
    · simp [sumU]
    · rw [go_ravelref13_Left_s3, if_neg (by simp)]; rfl
  | m + 1, i, n, h, h0, h1 => by
    have hi : i < l.length := by omega
    have hb := u1_bounds (hm _ (List.getElem_mem hi))
    rw [List.drop_eq_getElem_cons hi, sumU, whileO_inl (s' := (n + u1 l[i], ((i + 1 : Nat) : Int))), rleft_loop l hl hm m (i + 1) _ (by omega) (by omega) (by omega), Int.add_assoc]
    rw [go_ravelref13_Left_s3, if_pos (by simpa using hi), if_pos (by omega), gt_nat hi, w64_nat (by omega)]
    unfold u1 at hb ⊢
    by_cases hx : l[i].Op = 1
    · rw [if_pos (by simp [hx])]
      rw [if_pos hx] at hb ⊢
      rw [w64_id (by omega) (by omega)]; rfl
    · rw [if_neg (by simp [hx])]
      rw [if_neg hx] at hb ⊢
      rw [w64_id (by omega) (by omega)]; rfl
theorem rleft_eq {t : api_Task} {p : List api_Instr} (hp : pok p) : go_ravelref13_Left t p = some (leftR t p) := by
  unfold go_ravelref13_Left
  rw [fits_eq hp, Option.bind_some]
  unfold leftR
  cases hf : fitB t p with
  | false => rfl
  | true =>
    obtain ⟨hc, hk, hl, hu⟩ := fit_parts hf
    obtain ⟨-, hpc, hun, hran⟩ := chk_bounds hc
    obtain ⟨k1, k2, k3⟩ := chkP_parts hk
    rw [if_neg (by simp), if_pos (by omega)]
    simp only [if_true]
    unfold leftV
    have hrest : (if 0 ≤ t.Pc ∧ t.Pc ≤ (p.length : Int) then (go_ravelref04_Run (sub p t.Pc (p.length : Int))).bind fun x => whileO (go_ravelref13_Left_s3 x) (IntKind.i64.wrap (0 - t.Unit), 0) else none) = some (un (p.drop t.Pc.toNat) - t.Unit, 0) := by
      rw [if_pos (by omega), sub_drop, run_eq (by rw [List.length_drop]; omega), Option.bind_some, w64_id (by omega) (by omega)]
      have hr := reach_len (p.drop t.Pc.toNat)
      rw [List.length_drop] at hr
      have := rleft_loop (reach (p.drop t.Pc.toNat)) (by omega) (fun x hx => k3 x (List.mem_of_mem_drop (reach_mem hx))) _ 0 (0 - t.Unit) (Nat.zero_add _) (by omega) (by omega)
      rw [List.drop_zero] at this
      rw [show (0 : Int) = ((0 : Nat) : Int) from rfl] at this ⊢
      rw [this]
      unfold un
      congr 2; omega
    rw [whileO_seek (step := go_ravelref13_Left_s2 t p) isX (sub p 0 t.Pc) (fun _ => some (0, 0)) (some (un (p.drop t.Pc.toNat) - t.Unit, 0)) (by rw [sub_take, List.length_take]; omega)]
    · rw [seek_any, sub_take]
      split <;> rfl
    · intro i hi
      rw [go_ravelref13_Left_s2, if_pos (by simpa using hi), if_pos (by omega)]; rfl
    · rw [go_ravelref13_Left_s2, if_neg (by simp), hrest]

end Go.Proofs.YtlekpilcgahaoaaDoor
