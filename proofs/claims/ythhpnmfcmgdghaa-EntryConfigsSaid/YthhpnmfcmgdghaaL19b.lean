/- Helper lemmas for the claim's theorem: an abstract machine over the model, proved sound; no condition beyond each lemma's own. -/
import Derived.Test.YthhpnmfcmgdghaaL19
set_option linter.unusedVariables false
set_option linter.unusedSimpArgs false
set_option linter.unnecessarySimpa false
set_option linter.unusedSectionVars false
/- Plain laws on the printed functions. -/
namespace Go.Proofs.Ythhpnmfcmgdghaa
open Go Go.AM
set_option maxRecDepth 100000
set_option maxHeartbeats 1000000
set_option linter.unusedVariables false
set_option linter.unusedSimpArgs false
def pok (p : List api_Instr) : Prop := p.length ≤ 9223372036854775807 ∧ ∀ x ∈ p, i64ok x.A
theorem within_pred {a m : Int} (ha : i64ok a) (hm : 0 ≤ m ∧ m ≤ 1000000) : go_code_within (IntKind.i64.wrap (a - 1)) m = (decide (1 ≤ a) && decide (a ≤ m)) := by
  obtain ⟨h1, h2⟩ := ha
  unfold go_code_within
  by_cases h : a = -9223372036854775808
  · subst h
    have : IntKind.i64.wrap (-9223372036854775808 - 1) = 9223372036854775807 := by decide
    rw [this]
    simp; omega
  · rw [w64_id (by omega) (by omega)]
    rw [Bool.eq_iff_iff]; simp; omega
theorem odd_may {x : api_Instr} (h : i64ok x.A) : go_code_odd x = !go_ravelref04_may x := by
  unfold go_code_odd go_code_odd_j3 go_code_odd_j4 go_code_odd_j2 go_ravelref04_may go_ravelref04_in
  rw [within_pred h (by decide), within_pred h (by decide)]
  unfold go_code_within
  by_cases h1 : x.Op = 1
  · rw [Bool.eq_iff_iff]; simp [h1] <;> omega
  by_cases h2 : x.Op = 2
  · rw [Bool.eq_iff_iff]; simp [h2] <;> omega
  by_cases h3 : x.Op = 3
  · rw [Bool.eq_iff_iff]; simp [h3]
  by_cases h4 : x.Op = 4
  · rw [Bool.eq_iff_iff]; simp [h4] <;> omega
  by_cases h5 : x.Op = 5
  · rw [Bool.eq_iff_iff]; simp [h5] <;> omega
  by_cases h6 : x.Op = 6
  · rw [Bool.eq_iff_iff]; simp [h6] <;> omega
  by_cases h7 : x.Op = 7
  · rw [Bool.eq_iff_iff]; simp [h7] <;> omega
  by_cases h8 : x.Op = 8
  · rw [Bool.eq_iff_iff]; simp [h8] <;> omega
  by_cases h9 : x.Op = 9
  · rw [Bool.eq_iff_iff]; simp [h9]
  · rw [Bool.eq_iff_iff]; simp [h1, h2, h3, h4, h5, h6, h7, h8, h9]
def chkP (p : List api_Instr) : Bool := (decide (1 ≤ p.length) && decide (p.length ≤ 32)) && p.all go_ravelref04_may
theorem odd_any {p : List api_Instr} (h : ∀ x ∈ p, i64ok x.A) : p.any go_code_odd = !p.all go_ravelref04_may := by
  induction p with
  | nil => rfl
  | cons x r ih => rw [List.any_cons, List.all_cons, odd_may (h x (by simp)), ih (fun y hy => h y (by simp [hy])), Bool.not_and]
theorem codeCheck_eq {p : List api_Instr} (h : pok p) : go_code_Check p = some (if chkP p then 0 else 1) := by
  unfold go_code_Check chkP
  by_cases hl : ((decide ((p.length : Int) < 1)) || (decide ((p.length : Int) > 32))) = true
  · rw [if_pos hl, if_neg]
    simp only [Bool.or_eq_true, decide_eq_true_eq] at hl
    simp only [Bool.and_eq_true, decide_eq_true_eq]; omega
  · rw [if_neg hl]
    simp only [Bool.or_eq_true, decide_eq_true_eq] at hl
    unfold go_slices_ContainsFunc_api_Instr_api_Instr_odd62 go_slices_IndexFunc_api_Instr_api_Instr_odd62
    rw [whileO_index (step := go_slices_IndexFunc_api_Instr_api_Instr_odd62_s1 p) go_code_odd p h.1 (fun v => rfl)]
    simp only [Option.bind_some]
    rw [idxOf_any, odd_any h.2]
    have h1 : decide (1 ≤ p.length) = true := by simp; omega
    have h2 : decide (p.length ≤ 32) = true := by simp; omega
    rw [h1, h2]
    cases p.all go_ravelref04_may <;> rfl
theorem rcodeCheck_eq {p : List api_Instr} (h : p.length ≤ 9223372036854775807) : go_ravelref04_Check p = some (if chkP p then 0 else 1) := by
  unfold go_ravelref04_Check chkP
  by_cases hl : ((decide ((p.length : Int) < 1)) || (decide ((p.length : Int) > 32))) = true
  · rw [if_pos hl, if_neg]
    simp only [Bool.or_eq_true, decide_eq_true_eq] at hl
    simp only [Bool.and_eq_true, decide_eq_true_eq]; omega
  · rw [if_neg hl]
    simp only [Bool.or_eq_true, decide_eq_true_eq] at hl
    rw [whileO_seek (step := go_ravelref04_Check_s1 p) (fun x => !go_ravelref04_may x) p (fun _ => some 1) (some 0) h (fun i hi => by rw [go_ravelref04_Check_s1, if_pos (by simpa using hi), if_pos (by omega)]) (by rw [go_ravelref04_Check_s1, if_neg (by simp)])]
    rw [seek_any]
    have h1 : decide (1 ≤ p.length) = true := by simp; omega
    have h2 : decide (p.length ≤ 32) = true := by simp; omega
    have h3 : (p.any fun x => !go_ravelref04_may x) = !p.all go_ravelref04_may := by
      clear h h1 h2 hl
      induction p with
      | nil => rfl
      | cons x r ih => rw [List.any_cons, List.all_cons, ih, Bool.not_and]
    rw [h1, h2, h3]
    cases p.all go_ravelref04_may <;> rfl
theorem loop_some {K : Type} {step : Int → Option (Int ⊕ K)} (n : Nat) (hs : ∀ i : Nat, i < n → (∃ k, step (i : Int) = some (.inr k)) ∨ step (i : Int) = some (.inl ((i + 1 : Nat) : Int))) (he : ∃ k, step (n : Int) = some (.inr k)) : ∃ k, whileO step 0 = some k := by
  have key : ∀ (m i : Nat), i + m = n → ∃ k, whileO step (i : Int) = some k := by
    intro m
    induction m with
    | zero =>
      intro i h
      have : i = n := by omega
      subst this
      obtain ⟨k, hk⟩ := he
      exact ⟨k, whileO_inr hk⟩
    | succ m ih =>
      intro i h
      rcases hs i (by omega) with ⟨k, hk⟩ | hk
      · exact ⟨k, whileO_inr hk⟩
      · rw [whileO_inl hk]; exact ih (i + 1) (by omega)
  exact key n 0 (by omega)
theorem few_eq {l : List (List api_Instr)} (hl : l.length ≤ 9223372036854775807) : go_ravelref04_Few l = some (if l.any (fun p => decide ((p.length : Int) > 100)) then false else decide ((l.length : Int) ≤ 100)) := by
  unfold go_ravelref04_Few
  rw [whileO_seek (step := go_ravelref04_Few_s1 l) (fun p => decide ((p.length : Int) > 100)) l (fun _ => some false) (some (decide ((l.length : Int) ≤ 100))) hl (fun i hi => by rw [go_ravelref04_Few_s1, if_pos (by simpa using hi), if_pos (by omega)]) (by rw [go_ravelref04_Few_s1, if_neg (by simp)]), seek_any]
  split <;> rfl
def spawnsFar (n : Int) (x : api_Instr) : Bool := (x.Op == 2) && decide (x.A ≥ n)
def badP (n : Int) (p : List api_Instr) : Bool := !chkP p || p.any (spawnsFar n)
def ckAll (l : List (List api_Instr)) : Bool := !((decide ((l.length : Int) < 1)) || (decide ((l.length : Int) > 16))) && !l.any (badP l.length)
def poks (l : List (List api_Instr)) : Prop := l.length ≤ 1000000 ∧ ∀ p ∈ l, p.length ≤ 1000000 ∧ pok p
theorem checkAll_inner {l : List (List api_Instr)} (h : poks l) {i : Nat} (hi : i < l.length) : whileO (go_code_CheckAll_s4 l (i : Int)) 0 = if l[i].any (spawnsFar l.length) then inrO (some 1) else nextO (IntKind.i64.wrap ((i : Int) + 1)) := by
  have hp := h.2 _ (List.getElem_mem hi)
  rw [whileO_seek (step := go_code_CheckAll_s4 l (i : Int)) (spawnsFar l.length) l[i] (fun _ => inrO (some 1)) (nextO (IntKind.i64.wrap ((i : Int) + 1))) (by omega)]
  · rw [seek_any]
  · intro j hj
    rw [go_code_CheckAll_s4, gt_nat hi, if_pos (by simpa using hj), if_pos (by omega)]
    have e1 : decide ((j : Int) ≥ 0) = true := by simp
    rw [e1]; rfl
  · rw [go_code_CheckAll_s4, gt_nat hi, if_neg (by simp)]
theorem rcheckAll_inner {l : List (List api_Instr)} (h : poks l) {i : Nat} (hi : i < l.length) : whileO (go_ravelref04_CheckAll_s4 l (i : Int)) 0 = if l[i].any (spawnsFar l.length) then inrO (some 1) else nextO (IntKind.i64.wrap ((i : Int) + 1)) := by
  have hp := h.2 _ (List.getElem_mem hi)
  rw [whileO_seek (step := go_ravelref04_CheckAll_s4 l (i : Int)) (spawnsFar l.length) l[i] (fun _ => inrO (some 1)) (nextO (IntKind.i64.wrap ((i : Int) + 1))) (by omega)]
  · rw [seek_any]
  · intro j hj
    rw [go_ravelref04_CheckAll_s4, gt_nat hi, if_pos (by simpa using hj), if_pos (by omega)]; rfl
  · rw [go_ravelref04_CheckAll_s4, gt_nat hi, if_neg (by simp)]
theorem badP_if {α : Type} {n : Int} {p : List api_Instr} {a b : α} : (if ((if chkP p = true then (0 : Int) else 1) != 0) = true then a else if p.any (spawnsFar n) = true then a else b) = if badP n p = true then a else b := by
  unfold badP
  cases chkP p <;> cases p.any (spawnsFar n) <;> rfl
theorem checkAll_eq {l : List (List api_Instr)} (h : poks l) : go_code_CheckAll l = some (if ckAll l then 0 else 1) := by
  unfold go_code_CheckAll ckAll
  by_cases hl : ((decide ((l.length : Int) < 1)) || (decide ((l.length : Int) > 16))) = true
  · rw [if_pos hl, hl]; rfl
  · rw [if_neg hl]
    rw [whileO_seek (step := go_code_CheckAll_s3 l) (badP l.length) l (fun _ => some 1) (some 0) (by have := h.1; omega), seek_any]
    · rw [Bool.not_eq_true] at hl
      rw [hl]
      cases l.any (badP l.length) <;> rfl
    · intro i hi
      rw [go_code_CheckAll_s3, if_pos (by simpa using hi), if_pos (by omega), gt_nat hi, codeCheck_eq (h.2 _ (List.getElem_mem hi)).2, Option.bind_some, checkAll_inner h hi]
      exact badP_if
    · rw [go_code_CheckAll_s3, if_neg (by simp)]
theorem rcheckAll_eq {l : List (List api_Instr)} (h : poks l) : go_ravelref04_CheckAll l = some (if ckAll l then 0 else 1) := by
  unfold go_ravelref04_CheckAll ckAll
  by_cases hl : ((decide ((l.length : Int) < 1)) || (decide ((l.length : Int) > 16))) = true
  · rw [if_pos hl, hl]; rfl
  · rw [if_neg hl]
    rw [whileO_seek (step := go_ravelref04_CheckAll_s3 l) (badP l.length) l (fun _ => some 1) (some 0) (by have := h.1; omega), seek_any]
    · rw [Bool.not_eq_true] at hl
      rw [hl]
      cases l.any (badP l.length) <;> rfl
    · intro i hi
      rw [go_ravelref04_CheckAll_s3, if_pos (by simpa using hi), if_pos (by omega), gt_nat hi, rcodeCheck_eq (h.2 _ (List.getElem_mem hi)).2.1, Option.bind_some, rcheckAll_inner h hi]
      exact badP_if
    · rw [go_ravelref04_CheckAll_s3, if_neg (by simp)]
def tens (ws qs : List Int) : List api_Tenant := List.zipWith (fun w q => api_Tenant.mk w q 0 0 0) ws qs
theorem tens_len {ws qs : List Int} (h : ws.length = qs.length) : (tens ws qs).length = ws.length := by unfold tens; rw [List.length_zipWith]; omega
theorem tens_get {ws qs : List Int} {i : Nat} (h1 : i < ws.length) (h2 : i < qs.length) : (tens ws qs)[i]'(by unfold tens; rw [List.length_zipWith]; omega) = api_Tenant.mk ws[i] qs[i] 0 0 0 := by unfold tens; rw [List.getElem_zipWith]
def ckT (l : List api_Tenant) : Bool := !((decide ((l.length : Int) < 1)) || (decide ((l.length : Int) > 16))) && !l.any go_lodge_odd
theorem lodgeCheck_eq {l : List api_Tenant} (h : l.length ≤ 1000000) : go_lodge_Check l = some (if ckT l then 0 else 1) := by
  unfold go_lodge_Check ckT
  by_cases hl : ((decide ((l.length : Int) < 1)) || (decide ((l.length : Int) > 16))) = true
  · rw [if_pos hl, hl]; rfl
  · rw [if_neg hl]
    unfold go_slices_ContainsFunc_api_Tenant_api_Tenant_odd64 go_slices_IndexFunc_api_Tenant_api_Tenant_odd64
    rw [whileO_index (step := go_slices_IndexFunc_api_Tenant_api_Tenant_odd64_s1 l) go_lodge_odd l (by omega) (fun v => rfl)]
    simp only [Option.bind_some]
    rw [idxOf_any]
    rw [Bool.not_eq_true] at hl
    rw [hl]
    cases l.any go_lodge_odd <;> rfl
theorem rodd_eq (x : api_Tenant) : ((((((!(go_ravelref14_in (x.Weight) 1 16)) || (!(go_ravelref14_in (x.Quota) 0 256))) || (decide ((x.Live) < 0))) || (decide ((x.Live) > (x.Quota)))) || (!(go_ravelref14_in (x.Tag) 0 1152921504606846976))) || (!(go_ravelref14_in (x.Ran) 0 1099511627776))) = go_lodge_odd x := by
  unfold go_lodge_odd go_lodge_within_int go_lodge_within_int64 go_ravelref14_in
  rw [Bool.eq_iff_iff]; simp; omega
theorem tenCheck_eq {l : List api_Tenant} (h : l.length ≤ 1000000) : go_ravelref14_Check l = some (if ckT l then 0 else 1) := by
  unfold go_ravelref14_Check ckT
  by_cases hl : ((decide ((l.length : Int) < 1)) || (decide ((l.length : Int) > 16))) = true
  · rw [if_pos hl, hl]; rfl
  · rw [if_neg hl]
    rw [whileO_seek (step := go_ravelref14_Check_s1 l) go_lodge_odd l (fun _ => some 1) (some 0) (by omega), seek_any]
    · rw [Bool.not_eq_true] at hl
      rw [hl]
      cases l.any go_lodge_odd <;> rfl
    · intro i hi
      rw [go_ravelref14_Check_s1, if_pos (by simpa using hi), if_pos (by omega), rodd_eq]
    · rw [go_ravelref14_Check_s1, if_neg (by simp)]
def nwE (ws qs : List Int) : Int := if ws.length = qs.length ∧ ckT (tens ws qs) = true then 0 else 1
theorem ckT_len {l : List api_Tenant} (h : l.length > 16) : ckT l = false := by unfold ckT; simp; omega
theorem lodgeNew_eq {ws qs : List Int} (hw : ws.length ≤ 100) (hq : qs.length ≤ 100) : ∃ r, go_lodge_New ws qs = some (r, nwE ws qs) := by
  unfold go_lodge_New nwE
  by_cases he : ws.length = qs.length
  · by_cases hl : ws.length ≤ 16
    · have htl := tens_len he
      rw [if_neg (by simp; omega), if_pos (by omega), Int.toNat_natCast]
      have hrep : (List.replicate ws.length api_Tenant.zero).length = ws.length := List.length_replicate
      have hstep : ∀ i, i < ws.length → go_lodge_New_s2 ws qs ((tens ws qs).take i ++ List.replicate (ws.length - i) api_Tenant.zero, (i : Int)) = some (.inl ((tens ws qs).take (i + 1) ++ List.replicate (ws.length - (i + 1)) api_Tenant.zero, ((i + 1 : Nat) : Int))) := fun i hi => by
        have hi2 : i < qs.length := by omega
        have hi3 : i < (tens ws qs).length := by omega
        rw [go_lodge_New_s2, Int.toNat_natCast, hrep, if_pos (by simpa using hi), if_pos (by omega), if_pos (by omega), if_pos (by simp; omega), gt_nat hi, gt_nat hi2, w64_nat (by omega)]
        have e : List.replicate (ws.length - i) api_Tenant.zero = api_Tenant.zero :: List.replicate (ws.length - (i + 1)) api_Tenant.zero := by
          rw [show ws.length - i = (ws.length - (i + 1)) + 1 by omega, List.replicate_succ]
        have htk : ((tens ws qs).take i).length = i := by rw [List.length_take]; omega
        have e2 : st ((tens ws qs).take i ++ List.replicate (ws.length - i) api_Tenant.zero) (i : Int) (api_Tenant.mk ws[i] qs[i] 0 0 0) = (tens ws qs).take (i + 1) ++ List.replicate (ws.length - (i + 1)) api_Tenant.zero := by
          unfold st
          rw [e, Int.toNat_natCast, List.set_append_right _ _ (by omega), htk, Nat.sub_self, List.take_succ_eq_append_getElem hi3, tens_get hi hi2, List.append_assoc]
          rfl
        rw [e2]; rfl
      have h1 := whileO_run (step := go_lodge_New_s2 ws qs) (fun i => ((tens ws qs).take i ++ List.replicate (ws.length - i) api_Tenant.zero, (i : Int))) ws.length hstep
      simp only [List.take_zero, List.nil_append, Nat.sub_zero, Nat.sub_self, List.replicate_zero, List.append_nil] at h1
      have h0 : (List.replicate ws.length api_Tenant.zero, (0 : Int)) = (List.replicate ws.length api_Tenant.zero, ((0 : Nat) : Int)) := rfl
      rw [h0, h1, List.take_of_length_le (by omega)]
      have hend : go_lodge_New_s2 ws qs (tens ws qs, (ws.length : Int)) = inrO (some (if ckT (tens ws qs) = true then (tens ws qs, 0) else ([], 1))) := by
        rw [go_lodge_New_s2, Int.toNat_natCast, hrep, if_neg (by simp), lodgeCheck_eq (by omega), Option.bind_some]
        cases ckT (tens ws qs) <;> rfl
      rw [whileO_inr hend]
      cases ckT (tens ws qs) with
      | true => exact ⟨_, by rw [if_pos rfl, if_pos ⟨he, rfl⟩]⟩
      | false => exact ⟨_, by rw [if_neg (by simp), if_neg (by simp)]⟩
    · rw [if_pos (by simp; omega), if_neg (by rw [ckT_len (by rw [tens_len he]; omega)]; simp)]
      exact ⟨_, rfl⟩
  · rw [if_pos (by simp; omega), if_neg (fun h => he h.1)]
    exact ⟨_, rfl⟩
theorem tenNew_eq {ws qs : List Int} (hw : ws.length ≤ 100) (hq : qs.length ≤ 100) : ∃ r, go_ravelref14_New ws qs = some (r, nwE ws qs) := by
  unfold go_ravelref14_New nwE
  by_cases he : ws.length = qs.length
  · have htl := tens_len he
    rw [if_neg (by simp; omega)]
    have hstep : ∀ i, i < ws.length → go_ravelref14_New_s2 ws qs ((tens ws qs).take i, (i : Int)) = some (.inl ((tens ws qs).take (i + 1), ((i + 1 : Nat) : Int))) := fun i hi => by
      have hi2 : i < qs.length := by omega
      have hi3 : i < (tens ws qs).length := by omega
      rw [go_ravelref14_New_s2, if_pos (by simpa using hi), if_pos (by omega), if_pos (by omega), gt_nat hi, gt_nat hi2, if_pos (show few _ by unfold few; simp; omega), w64_nat (by omega), List.take_succ_eq_append_getElem hi3, tens_get hi hi2]; rfl
    have h1 := whileO_run (step := go_ravelref14_New_s2 ws qs) (fun i => ((tens ws qs).take i, (i : Int))) ws.length hstep
    simp only [List.take_zero] at h1
    have h0 : (([] : List api_Tenant), (0 : Int)) = ([], ((0 : Nat) : Int)) := rfl
    rw [h0, h1, List.take_of_length_le (by omega)]
    have hend : go_ravelref14_New_s2 ws qs (tens ws qs, (ws.length : Int)) = inrO (some (if ckT (tens ws qs) = true then (tens ws qs, 0) else ([], 1))) := by
      rw [go_ravelref14_New_s2, if_neg (by simp), tenCheck_eq (by omega), Option.bind_some]
      cases ckT (tens ws qs) <;> rfl
    rw [whileO_inr hend]
    cases ckT (tens ws qs) with
    | true => exact ⟨_, by rw [if_pos rfl, if_pos ⟨he, rfl⟩]⟩
    | false => exact ⟨_, by rw [if_neg (by simp), if_neg (by simp)]⟩
  · rw [if_pos (by simp; omega), if_neg (fun h => he h.1)]
    exact ⟨_, rfl⟩
def oddS (n : Int) : Bool := (go_sema_New n).2 != 0
def farC (c : api_Config) (x : api_Instr) : Bool := ((x.Op == 5) && decide (x.A ≥ c.Fds)) || (((x.Op == 7) || (x.Op == 8)) && decide (x.A ≥ (c.Sems.length : Int)))
structure cok (c : api_Config) : Prop where
  progs : poks c.Progs
  ws : c.Weights.length ≤ 100
  qs : c.Quotas.length ≤ 100
  sems : c.Sems.length ≤ 100
theorem far_inner {c : api_Config} (h : cok c) {i : Nat} (hi : i < c.Progs.length) : whileO (go_entry_Config_s12 c (i : Int)) 0 = if c.Progs[i].any (farC c) then inrO (some 1) else nextO (IntKind.i64.wrap ((i : Int) + 1)) := by
  have hp := h.progs.2 _ (List.getElem_mem hi)
  rw [whileO_seek (step := go_entry_Config_s12 c (i : Int)) (farC c) c.Progs[i] (fun _ => inrO (some 1)) (nextO (IntKind.i64.wrap ((i : Int) + 1))) (by omega)]
  · rw [seek_any]
  · intro j hj
    rw [go_entry_Config_s12, gt_nat hi, if_pos (by simpa using hj), if_pos (by omega)]
    unfold go_entry_Config_j13
    rw [gt_nat hi, gt_nat hj]
    have e1 : decide ((j : Int) ≥ 0) = true := by simp
    have e2 : decide ((i : Int) ≥ 0) = true := by simp
    rw [e1, e2]
    unfold farC
    simp only [if_true]
    by_cases h5 : c.Progs[i][j].Op = 5
    · rw [if_pos (by simp [h5])]
      simp [h5]
    · rw [if_neg (by simp [h5])]
      by_cases h7 : c.Progs[i][j].Op = 7
      · simp [h7]
      · rw [if_neg (by simp [h7])]
        by_cases h8 : c.Progs[i][j].Op = 8
        · simp [h8]
        · simp [h5, h7, h8]
  · rw [go_entry_Config_s12, gt_nat hi, if_neg (by simp)]
theorem rfar_inner {c : api_Config} (h : cok c) {i : Nat} (hi : i < c.Progs.length) : whileO (go_ravelref19_Config_s6 c (i : Int)) 0 = if c.Progs[i].any (farC c) then inrO (some 1) else nextO (IntKind.i64.wrap ((i : Int) + 1)) := by
  have hp := h.progs.2 _ (List.getElem_mem hi)
  rw [whileO_seek (step := go_ravelref19_Config_s6 c (i : Int)) (farC c) c.Progs[i] (fun _ => inrO (some 1)) (nextO (IntKind.i64.wrap ((i : Int) + 1))) (by omega)]
  · rw [seek_any]
  · intro j hj
    rw [go_ravelref19_Config_s6, gt_nat hi, if_pos (by simpa using hj), if_pos (by omega)]; rfl
  · rw [go_ravelref19_Config_s6, gt_nat hi, if_neg (by simp)]
def restE (c : api_Config) : Int := if c.Sems.any oddS = true then 1 else if c.Progs.any (fun p => p.any (farC c)) = true then 1 else 0
theorem far_eq {c : api_Config} (h : cok c) : whileO (go_entry_Config_s9 c) 0 = some (if c.Progs.any (fun p => p.any (farC c)) = true then 1 else 0) := by
  rw [whileO_seek (step := go_entry_Config_s9 c) (fun p => p.any (farC c)) c.Progs (fun _ => some 1) (some 0) (by have := h.progs.1; omega), seek_any]
  · split <;> rfl
  · intro i hi
    rw [go_entry_Config_s9, if_pos (by simpa using hi), if_pos (by omega), far_inner h hi, gt_nat hi]
  · rw [go_entry_Config_s9, if_neg (by simp)]
theorem rfar_eq {c : api_Config} (h : cok c) : whileO (go_ravelref19_Config_s5 c) 0 = some (if c.Progs.any (fun p => p.any (farC c)) = true then 1 else 0) := by
  rw [whileO_seek (step := go_ravelref19_Config_s5 c) (fun p => p.any (farC c)) c.Progs (fun _ => some 1) (some 0) (by have := h.progs.1; omega), seek_any]
  · split <;> rfl
  · intro i hi
    rw [go_ravelref19_Config_s5, if_pos (by simpa using hi), if_pos (by omega), rfar_inner h hi, gt_nat hi]
  · rw [go_ravelref19_Config_s5, if_neg (by simp)]
theorem sems_eq {l : List Int} (h : l.length ≤ 100) : go_slices_ContainsFunc_int_int_135 l = some (l.any oddS) := by
  unfold go_slices_ContainsFunc_int_int_135 go_slices_IndexFunc_int_int_135
  rw [whileO_index (step := go_slices_IndexFunc_int_int_135_s1 l) oddS l (by omega) (fun v => rfl)]
  simp only [Option.bind_some]
  rw [idxOf_any]
theorem rrest_eq {c : api_Config} (h : cok c) : whileO (go_ravelref19_Config_s2 c) 0 = some (restE c) := by
  unfold restE
  rw [whileO_seek (step := go_ravelref19_Config_s2 c) oddS c.Sems (fun _ => some 1) (some (if c.Progs.any (fun p => p.any (farC c)) = true then 1 else 0)) (by have := h.sems; omega), seek_any]
  · split <;> rfl
  · intro i hi
    rw [go_ravelref19_Config_s2, if_pos (by simpa using hi), if_pos (by omega)]; rfl
  · rw [go_ravelref19_Config_s2, if_neg (by simp), rfar_eq h]
def cfgE (c : api_Config) : Int :=
  if ckAll c.Progs = true ∧ nwE c.Weights c.Quotas = 0 then restE c else 1
theorem config_eq {c : api_Config} (h : cok c) : ∃ e, go_entry_Config c = some e ∧ go_ravelref19_Config c = some e := by
  have hb : (((!(((((go_entry_within c.Workers 1 64) && (go_entry_within c.Cap 1 1024)) && (go_entry_within c.Budget 1 100)) && (go_entry_within c.Tasks 1 256)) && (go_entry_within c.Fds 0 16))) || (decide ((IntKind.i64.wrap (c.Workers * (IntKind.i64.wrap (c.Cap + 2)))) > 65536))) || (decide ((c.Sems.length : Int) > 8))) = (((((((!(go_ravelref19_in c.Workers 1 64)) || (!(go_ravelref19_in c.Cap 1 1024))) || (decide ((IntKind.i64.wrap (c.Workers * (IntKind.i64.wrap (c.Cap + 2)))) > 65536))) || (!(go_ravelref19_in c.Budget 1 100))) || (!(go_ravelref19_in c.Tasks 1 256))) || (!(go_ravelref19_in c.Fds 0 16))) || (decide ((c.Sems.length : Int) > 8))) := by
    have e : ∀ a b d, go_entry_within a b d = go_ravelref19_in a b d := fun _ _ _ => rfl
    simp only [e]
    generalize go_ravelref19_in c.Workers 1 64 = a1
    generalize go_ravelref19_in c.Cap 1 1024 = a2
    generalize go_ravelref19_in c.Budget 1 100 = a3
    generalize go_ravelref19_in c.Tasks 1 256 = a4
    generalize go_ravelref19_in c.Fds 0 16 = a5
    generalize decide ((IntKind.i64.wrap (c.Workers * (IntKind.i64.wrap (c.Cap + 2)))) > 65536) = a6
    generalize decide ((c.Sems.length : Int) > 8) = a7
    cases a1 <;> cases a2 <;> cases a3 <;> cases a4 <;> cases a5 <;> cases a6 <;> cases a7 <;> rfl
  unfold go_entry_Config go_ravelref19_Config
  rw [hb]
  split
  · exact ⟨1, rfl, rfl⟩
  · obtain ⟨r1, h1⟩ := lodgeNew_eq h.ws h.qs
    obtain ⟨r2, h2⟩ := tenNew_eq h.ws h.qs
    rw [checkAll_eq h.progs, rcheckAll_eq h.progs, h1, h2, sems_eq h.sems, far_eq h, rrest_eq h]
    simp only [Option.bind_some]
    refine ⟨cfgE c, ?_, ?_⟩
    · unfold cfgE restE
      cases ckAll c.Progs with
      | false => simp
      | true =>
        by_cases hn : nwE c.Weights c.Quotas = 0
        · simp only [hn]
          cases c.Sems.any oddS <;> simp
        · simp [hn]
    · unfold cfgE
      cases ckAll c.Progs with
      | false => by_cases hn : nwE c.Weights c.Quotas = 0 <;> simp [hn]
      | true => by_cases hn : nwE c.Weights c.Quotas = 0 <;> simp [hn]
theorem ints_some {a b : List Int} (ha : a.length ≤ 1000000) : ∃ r, go_ravelref06_SameInts a b = some r := by
  unfold go_ravelref06_SameInts
  by_cases h : a.length = b.length
  · rw [if_neg (by simp [h])]
    refine loop_some a.length (fun i hi => ?_) ⟨true, by rw [go_ravelref06_SameInts_s1, if_neg (by simp)]; rfl⟩
    rw [go_ravelref06_SameInts_s1, if_pos (by simpa using hi), if_pos (by omega), if_pos (by omega), w64_nat (by omega)]
    split
    · exact .inl ⟨false, rfl⟩
    · exact .inr rfl
  · rw [if_pos (by simp; omega)]; exact ⟨_, rfl⟩
theorem one_some {a b : List api_Instr} (ha : a.length ≤ 1000000) : ∃ r, go_ravelref04_SameOne a b = some r := by
  unfold go_ravelref04_SameOne
  by_cases h : a.length = b.length
  · rw [if_neg (by simp [h])]
    refine loop_some a.length (fun i hi => ?_) ⟨true, by rw [go_ravelref04_SameOne_s1, if_neg (by simp)]; rfl⟩
    rw [go_ravelref04_SameOne_s1, if_pos (by simpa using hi), if_pos (by omega), if_pos (by omega), w64_nat (by omega)]
    split
    · exact .inl ⟨false, rfl⟩
    · exact .inr rfl
  · rw [if_pos (by simp; omega)]; exact ⟨_, rfl⟩
theorem progs_some {a b : List (List api_Instr)} (ha : poks a) : ∃ r, go_ravelref04_Same a b = some r := by
  unfold go_ravelref04_Same
  by_cases h : a.length = b.length
  · rw [if_neg (by simp [h])]
    have hl := ha.1
    refine loop_some a.length (fun i hi => ?_) ⟨true, by rw [go_ravelref04_Same_s1, if_neg (by simp)]; rfl⟩
    have hi2 : i < b.length := by omega
    obtain ⟨r, hr⟩ := one_some (a := a[i]) (b := b[i]) (ha.2 _ (List.getElem_mem hi)).1
    rw [go_ravelref04_Same_s1, if_pos (by simpa using hi), if_pos (by omega), if_pos (by omega), gt_nat hi, gt_nat hi2, hr, Option.bind_some, w64_nat (by omega)]
    split
    · exact .inl ⟨false, rfl⟩
    · exact .inr rfl
  · rw [if_pos (by simp; omega)]; exact ⟨_, rfl⟩
theorem ints_eq (a b : List Int) : go_slices_Equal_int_int a b = go_ravelref06_SameInts a b := rfl
theorem progs_eq (a b : List (List api_Instr)) : go_code_Same a b = go_ravelref04_Same a b := by
  have : go_slices_EqualFunc_api_Instr_api_Instr_api_Instr_api_Instr_Instr60 a b = go_ravelref04_Same a b := rfl
  unfold go_code_Same
  rw [this]
  cases go_ravelref04_Same a b <;> rfl
theorem same_tot {a b : api_Config} (ha : cok a) : ∃ r, go_entry_Same a b = some r ∧ go_ravelref19_Same a b = some r := by
  obtain ⟨r1, h1⟩ := ints_some (b := b.Weights) (show a.Weights.length ≤ 1000000 by have := ha.ws; omega)
  obtain ⟨r2, h2⟩ := ints_some (b := b.Quotas) (show a.Quotas.length ≤ 1000000 by have := ha.qs; omega)
  obtain ⟨r3, h3⟩ := ints_some (b := b.Sems) (show a.Sems.length ≤ 1000000 by have := ha.sems; omega)
  obtain ⟨r4, h4⟩ := progs_some (b := b.Progs) ha.progs
  unfold go_entry_Same go_ravelref19_Same go_entry_Same_j1 go_ravelref19_Same_j1 go_entry_Same_j2 go_ravelref19_Same_j2 go_entry_Same_j3 go_ravelref19_Same_j3
  simp only [ints_eq, progs_eq, h1, h2, h3, h4, Option.bind_some]
  have key : ∀ X : Option Bool, (∃ r, X = some r) → ∃ r, X = some r ∧ X = some r := fun X ⟨r, h⟩ => ⟨r, h, h⟩
  apply key
  repeat' split
  all_goals exact ⟨_, rfl⟩
theorem fewC_eq {c : api_Config} (hl : c.Progs.length ≤ 9223372036854775807) : ∃ r, go_ravelref19_FewConfig c = some r ∧ (r = true → (∀ p ∈ c.Progs, p.length ≤ 100) ∧ c.Progs.length ≤ 100 ∧ c.Weights.length ≤ 100 ∧ c.Quotas.length ≤ 100 ∧ c.Sems.length ≤ 100) := by
  unfold go_ravelref19_FewConfig
  rw [few_eq hl, Option.bind_some]
  refine ⟨_, rfl, fun h => ?_⟩
  simp only [Bool.and_eq_true, decide_eq_true_eq] at h
  obtain ⟨⟨⟨h1, h2⟩, h3⟩, h4⟩ := h
  split at h1
  · cases h1
  · rename_i ha
    rw [Bool.not_eq_true, List.any_eq_false] at ha
    simp only [decide_eq_true_eq] at h1
    refine ⟨fun p hp => ?_, by omega, by omega, by omega, by omega⟩
    have := ha p hp
    simp at this; omega
theorem entryConfigs_true {c o : api_Config} (hc : c.Progs.length ≤ 9223372036854775807) (ho : o.Progs.length ≤ 9223372036854775807) (hp : ∀ p ∈ c.Progs, ∀ x ∈ p, i64ok x.A) : go_ravellaw19_EntryConfigs c o = some true := by
  unfold go_ravellaw19_EntryConfigs
  obtain ⟨r, h1, h2⟩ := fewC_eq hc
  obtain ⟨q, h3, h4⟩ := fewC_eq ho
  rw [live_eq, h1, h3]
  simp only [Option.bind_some]
  cases r with
  | false => rfl
  | true =>
    rw [if_neg (by simp)]
    cases q with
    | false => rfl
    | true =>
      obtain ⟨g1, g2, g3, g4, g5⟩ := h2 rfl
      have hok : cok c := ⟨⟨by omega, fun p hp' => ⟨by have := g1 p hp'; omega, by have := g1 p hp'; omega, hp p hp'⟩⟩, g3, g4, g5⟩
      obtain ⟨e, e1, e2⟩ := config_eq hok
      obtain ⟨s, s1, s2⟩ := same_tot (b := o) hok
      rw [if_neg (by simp), if_pos trivial, e1, e2, s1, s2]
      simp

end Go.Proofs.Ythhpnmfcmgdghaa
