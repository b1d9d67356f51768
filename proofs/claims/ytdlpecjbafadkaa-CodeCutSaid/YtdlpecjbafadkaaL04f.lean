/- Helper lemmas for the claim's theorem: an abstract machine over the model, proved sound; no condition beyond each lemma's own. -/
import Derived.Test.YtdlpecjbafadkaaL04e
set_option linter.unusedVariables false
set_option linter.unusedSimpArgs false
set_option linter.unnecessarySimpa false
set_option linter.unusedSectionVars false
/- Plain laws on the printed functions. -/
namespace Go.Proofs.Ytdlpecjbafadkaa
open Go Go.AM
set_option maxRecDepth 100000
set_option maxHeartbeats 1000000
set_option linter.unusedVariables false
set_option linter.unusedSimpArgs false
theorem cnt_loop {p more : List api_Instr} {n : Int} (hl : p.length ≤ 100) : ∀ (m i : Nat) (r : Int) (e : Bool), i + m = p.length → 0 ≤ r ∧ r ≤ i →
    whileO (go_ravellaw04_CodeUnits_s5 p more true n) (r, e, (i : Int)) = whileO (go_ravellaw04_CodeUnits_s5 p more true n) (r + (if e = true then 0 else ((reach (p.drop i)).length : Int)), (e || (p.drop i).any isX), (p.length : Int))
  | 0, i, r, e, h, hr => by
    have : i = p.length := by omega
    subst this
    rw [List.drop_length]
    cases e <;> simp [reach]
  | m + 1, i, r, e, h, hr => by
    have hi : i < p.length := by omega
    rw [List.drop_eq_getElem_cons hi, List.any_cons, reach]
    have hx : isX p[i] = (p[i].Op == 9) := rfl
    cases e with
    | true =>
      have hst : go_ravellaw04_CodeUnits_s5 p more true n (r, true, (i : Int)) = some (.inl (r, true, ((i + 1 : Nat) : Int))) := by
        rw [go_ravellaw04_CodeUnits_s5, if_pos (by simpa using hi), if_pos (by omega), if_neg (by simp)]
        unfold go_ravellaw04_CodeUnits_j6
        rw [gt_nat hi, w64_nat (by omega)]; rfl
      rw [whileO_inl hst, cnt_loop hl m (i + 1) r true (by omega) (by omega)]
      simp
    | false =>
      have hst : go_ravellaw04_CodeUnits_s5 p more true n (r, false, (i : Int)) = some (.inl (r + 1, (p[i].Op == 9), ((i + 1 : Nat) : Int))) := by
        rw [go_ravellaw04_CodeUnits_s5, if_pos (by simpa using hi), if_pos (by omega), if_pos (by simp)]
        unfold go_ravellaw04_CodeUnits_j6
        rw [gt_nat hi, w64_nat (by omega), w64_id (n := r + 1) (by omega) (by omega)]; rfl
      rw [whileO_inl hst, cnt_loop hl m (i + 1) (r + 1) _ (by omega) (by omega), hx, Bool.false_or]
      by_cases h9 : p[i].Op = 9
      · simp [h9]
      · have h9' : (p[i].Op == 9) = false := by simpa using h9
        rw [h9', if_neg h9]
        simp only [Bool.false_eq_true, if_false, List.length_cons]
        congr 2
        omega
theorem codeUnits_true {p more : List api_Instr} (hp : pok p) (hm : pok more) : go_ravellaw04_CodeUnits p more = some true := by
  unfold go_ravellaw04_CodeUnits
  rw [live_eq]
  simp only [Option.bind_some]
  rw [if_neg (by simp)]
  split
  · rfl
  · rename_i hg
    simp only [Bool.or_eq_true, decide_eq_true_eq, not_or] at hg
    rw [units_eq hp, codeCheck_eq hp]
    simp only [Option.bind_some]
    cases hc : chkP p with
    | false => rfl
    | true =>
      simp only [if_true]
      rw [if_neg (by simp)]
      have hl := cnt_loop (p := p) (more := more) (n := un p) (by omega) p.length 0 0 false (by omega) (by omega)
      rw [show ((0 : Nat) : Int) = 0 from rfl, List.drop_zero, Bool.false_or, if_neg (by simp), Int.zero_add] at hl
      rw [hl]
      have hrl := reach_len p
      have hsb := sumU_bounds (l := reach p) (fun x hx => (chkP_parts hc).2.2 x (reach_mem hx))
      have hpm : pok (p ++ more) := ⟨by rw [List.length_append]; omega, fun x hx => by
        rcases List.mem_append.1 hx with h | h
        · exact hp.2 x h
        · exact hm.2 x h⟩
      refine whileO_inr (k := true) ?_
      rw [go_ravellaw04_CodeUnits_s5, if_neg (by simp), w64_id (n := 100 * ((reach p).length : Int)) (by omega) (by omega), if_neg (by unfold un; simp; omega), List.nil_append, if_pos (show few p.length by unfold few; omega), if_pos (show few (p ++ more).length by unfold few; rw [List.length_append]; omega), units_eq hpm, codeCheck_eq hpm]
      simp only [Option.bind_some]
      cases hc2 : chkP (p ++ more) with
      | false => rfl
      | true =>
        simp only [if_true]
        rw [if_neg (by simp), un_append]
        cases hx : p.any isX with
        | true => simp
        | false =>
          have hmb := un_bounds (p := more) (fun x hx => (chkP_parts hc2).2.2 x (List.mem_append.2 (.inr hx))) (by have := (chkP_parts hc2).2.1; rw [List.length_append] at this; omega)
          simp; omega

end Go.Proofs.Ytdlpecjbafadkaa
