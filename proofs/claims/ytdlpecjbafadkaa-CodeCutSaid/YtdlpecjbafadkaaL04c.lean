/- Helper lemmas for the claim's theorem: an abstract machine over the model, proved sound; no condition beyond each lemma's own. -/
import Derived.Test.YtdlpecjbafadkaaL04b
set_option linter.unusedVariables false
set_option linter.unusedSimpArgs false
set_option linter.unnecessarySimpa false
set_option linter.unusedSectionVars false
/- Plain laws on the printed functions. -/
namespace Go.Proofs.Ytdlpecjbafadkaa
open Go Go.AM
set_option maxRecDepth 100000
set_option maxHeartbeats 1000000
set_option linter.unusedVariables false
set_option linter.unusedSimpArgs false
theorem reach_append : ∀ (p q : List api_Instr), reach (p ++ q) = if p.any isX = true then reach p else p ++ reach q
  | [], q => by simp
  | x :: r, q => by
    have ih := reach_append r q
    rw [List.cons_append, reach, reach, List.any_cons]
    by_cases h : x.Op = 9
    · have h1 : isX x = true := by simp [isX, h]
      rw [if_pos h, if_pos h, h1]; rfl
    · have h1 : isX x = false := by simp [isX, h]
      rw [if_neg h, if_neg h, h1, ih, Bool.false_or]
      split <;> rfl
theorem reach_noexit : ∀ (p : List api_Instr), p.any isX = false → reach p = p
  | [], _ => rfl
  | x :: r, h => by
    rw [List.any_cons, Bool.or_eq_false_iff] at h
    have h1 : ¬ x.Op = 9 := by have := h.1; simpa [isX] using this
    rw [reach, if_neg h1, reach_noexit r h.2]
theorem sumU_append : ∀ (a b : List api_Instr), sumU (a ++ b) = sumU a + sumU b
  | [], b => by simp [sumU]
  | x :: r, b => by rw [List.cons_append, sumU, sumU, sumU_append r b]; omega
theorem un_append (p q : List api_Instr) : un (p ++ q) = if p.any isX = true then un p else un p + un q := by
  unfold un
  rw [reach_append]
  split
  · rfl
  · rename_i h
    rw [Bool.not_eq_true] at h
    rw [sumU_append, reach_noexit p h]
theorem chkP_one {p : List api_Instr} (h : chkP p = true) {x : api_Instr} (hx : x ∈ p) : chkP [x] = true := by
  have := (chkP_parts h).2.2 x hx
  unfold chkP; simp [this]
theorem chkP_append {p q : List api_Instr} (h1 : chkP p = true) (h2 : chkP q = true) (h : (p ++ q).length ≤ 32) : chkP (p ++ q) = true := by
  obtain ⟨a1, a2, a3⟩ := chkP_parts h1
  obtain ⟨b1, b2, b3⟩ := chkP_parts h2
  unfold chkP
  simp only [Bool.and_eq_true, decide_eq_true_eq, List.all_eq_true, List.length_append, List.mem_append]
  rw [List.length_append] at h
  exact ⟨⟨by omega, by omega⟩, fun x hx => hx.elim (a3 x) (b3 x)⟩
theorem exit_loop {step : Bool × Int → Option ((Bool × Int) ⊕ Bool)} {p : List api_Instr} (hl : p.length ≤ 1000000) (hs : ∀ (i : Nat) (hi : i < p.length) (e : Bool), step (e, (i : Int)) = nextO ((e || (p[i].Op == 9)), ((i + 1 : Nat) : Int))) :
    ∀ (m i : Nat) (e : Bool), i + m = p.length → whileO step (e, (i : Int)) = whileO step ((e || (p.drop i).any isX), (p.length : Int))
  | 0, i, e, h => by
    have : i = p.length := by omega
    subst this
    rw [List.drop_length]; simp
  | m + 1, i, e, h => by
    have hi : i < p.length := by omega
    rw [whileO_inl (hs i hi e), exit_loop hl hs m (i + 1) _ (by omega), List.drop_eq_getElem_cons hi, List.any_cons, Bool.or_assoc]
    rfl
theorem codeParts_true {p q : List api_Instr} (hp : pok p) (hq : pok q) : go_ravellaw04_CodeParts p q = some true := by
  unfold go_ravellaw04_CodeParts
  rw [live_eq]
  simp only [Option.bind_some]
  rw [if_neg (by simp)]
  split
  · rfl
  · rename_i hg
    simp only [Bool.or_eq_true, decide_eq_true_eq, not_or] at hg
    have hpx : ∀ x ∈ p, pok [x] := fun x hx => ⟨by simp, fun y hy => by simp at hy; subst hy; exact hp.2 y hx⟩
    have h1 := whileO_run (step := go_ravellaw04_CodeParts_s2 p q true) (fun j => (j : Int)) p.length (fun j hj => by
      have hm := List.getElem_mem hj
      rw [go_ravellaw04_CodeParts_s2, if_pos (by simpa using hj), if_pos (by omega), gt_nat hj, codeCheck_eq (hpx _ hm), codeCheck_eq hp]
      simp only [Option.bind_some]
      cases hc : chkP p with
      | true => rw [chkP_one hc hm, w64_nat (by omega)]; rfl
      | false =>
        rw [w64_nat (by omega)]
        cases chkP [p[j]] <;> rfl)
    have h0 : (0 : Int) = ((0 : Nat) : Int) := rfl
    rw [h0, h1]
    have hpq : pok (p ++ q) := ⟨by rw [List.length_append]; omega, fun x hx => by rcases List.mem_append.1 hx with h | h; exact hp.2 x h; exact hq.2 x h⟩
    refine whileO_inr (k := true) ?_
    rw [go_ravellaw04_CodeParts_s2, if_neg (by simp), units_eq hp, units_eq hq]
    simp only [Option.bind_some, List.nil_append]
    rw [if_pos (show few p.length by unfold few; omega), if_pos (show few (p ++ q).length by unfold few; rw [List.length_append]; omega), units_eq hpq]
    simp only [Option.bind_some]
    cases hc1 : chkP p with
    | false => simp
    | true =>
      cases hc2 : chkP q with
      | false => simp
      | true =>
        simp only [if_true]
        rw [if_neg (by simp)]
        have hb1 := un_bounds (chkP_parts hc1).2.2 (chkP_parts hc1).2.1
        have hb2 := un_bounds (chkP_parts hc2).2.2 (chkP_parts hc2).2.1
        have hx := exit_loop (step := go_ravellaw04_CodeParts_s4 p q true (un p) (un q) (if chkP (p ++ q) = true then (un (p ++ q), (0 : Int)) else (0, 1)).1 (if chkP (p ++ q) = true then (un (p ++ q), (0 : Int)) else (0, 1)).2) (p := p) (by omega) (fun i hi e => by
          rw [go_ravellaw04_CodeParts_s4, if_pos (by simpa using hi), if_pos (by omega), gt_nat hi, w64_nat (by omega)]) p.length 0 false (by omega)
        rw [show ((0 : Nat) : Int) = 0 from rfl] at hx
        rw [hx, List.drop_zero, Bool.false_or]
        have hend : go_ravellaw04_CodeParts_s4 p q true (un p) (un q) (if chkP (p ++ q) = true then (un (p ++ q), (0 : Int)) else (0, 1)).1 (if chkP (p ++ q) = true then (un (p ++ q), (0 : Int)) else (0, 1)).2 (p.any isX, (p.length : Int)) = inrO (some true) := by
          rw [go_ravellaw04_CodeParts_s4, if_neg (by simp), List.nil_append]
          by_cases hlen : (p ++ q).length ≤ 32
          · rw [if_neg (by simp at hlen ⊢; omega), chkP_append hc1 hc2 hlen, un_append, w64_id (n := un p + un q) (by omega) (by omega)]
            cases p.any isX <;> simp
          · have hch : chkP (p ++ q) = false := by
              unfold chkP
              have : decide ((p ++ q).length ≤ 32) = false := by simpa using hlen
              rw [this]; simp
            rw [if_pos (by simp at hlen ⊢; omega), hch]; rfl
        rw [whileO_inr hend]; rfl

end Go.Proofs.Ytdlpecjbafadkaa
