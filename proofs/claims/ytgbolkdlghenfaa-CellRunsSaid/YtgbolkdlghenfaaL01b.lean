/- Helper lemmas for the claim's theorem: an abstract machine over the model, proved sound; no condition beyond each lemma's own. -/
import Derived.Test.YtgbolkdlghenfaaL01
set_option linter.unusedVariables false
set_option linter.unusedSimpArgs false
set_option linter.unnecessarySimpa false
set_option linter.unusedSectionVars false
/- Plain laws on the printed functions. -/
namespace Go.Proofs.Ytgbolkdlghenfaa
open Go Go.AM
set_option maxRecDepth 100000
set_option maxHeartbeats 1000000
set_option linter.unusedVariables false
set_option linter.unusedSimpArgs false
theorem doV_ok {m : List Int} {o : api_Mic} (hm : ∀ x ∈ m, i64ok x) (ha : i64ok o.A) (hb : i64ok o.B) : ∀ x ∈ (doV m o).1, i64ok x := by
  have hst : ∀ (i y : Int), i64ok y → ∀ x ∈ st m i y, i64ok x := fun i y hy x hx => by
    unfold st at hx
    rcases List.mem_or_eq_of_mem_set hx with h | h
    · exact hm x h
    · subst h; exact hy
  unfold doV
  split
  · split
    · exact hm
    · split
      · exact hst _ _ ha
      · split
        · split
          · exact hst _ _ hb
          · exact hm
        · split
          · intro x hx; cases hx
          · rename_i h
            refine hst _ _ ?_
            unfold over at h
            simp at h
            unfold i64ok; omega
  · intro x hx; cases hx
def runV : List api_Mic → List Int → List Int → List Int × List Int × Int
  | [], m, out => (m, out, 0)
  | o :: r, m, out => if (doV m o).2.2 ≠ 0 then ([], [], (doV m o).2.2) else runV r (doV m o).1 (out ++ [(doV m o).2.1])
theorem run_loop {step : (List Int × List Int × Int) → Option ((List Int × List Int × Int) ⊕ (List Int × List Int × Int))} {l : List api_Mic} (hl : l.length ≤ 1000000) (ha : ∀ o ∈ l, i64ok o.A ∧ i64ok o.B)
    (he : ∀ m out, step (m, out, (l.length : Int)) = inrO (some (m, out, 0)))
    (hs : ∀ (i : Nat) (hi : i < l.length) m out, (∀ x ∈ m, i64ok x) → out.length ≤ i → step (m, out, (i : Int)) = if ((doV m l[i]).2.2 != 0) = true then inrO (some ([], [], (doV m l[i]).2.2)) else nextO ((doV m l[i]).1, out ++ [(doV m l[i]).2.1], ((i + 1 : Nat) : Int))) :
    ∀ (q i : Nat) (m out : List Int), i + q = l.length → (∀ x ∈ m, i64ok x) → out.length ≤ i → whileO step (m, out, (i : Int)) = some (runV (l.drop i) m out)
  | 0, i, m, out, h, hm, ho => by
    have : i = l.length := by omega
    subst this
    rw [List.drop_length, runV, whileO_inr (he m out)]
  | q + 1, i, m, out, h, hm, ho => by
    have hi : i < l.length := by omega
    have h1 := hs i hi m out hm ho
    have hab := ha _ (List.getElem_mem hi)
    rw [List.drop_eq_getElem_cons hi, runV]
    by_cases e : (doV m l[i]).2.2 = 0
    · rw [if_neg (by simp [e])] at h1
      rw [if_neg (by simp [e]), whileO_inl h1]
      exact run_loop hl ha he hs q (i + 1) _ _ (by omega) (doV_ok hm hab.1 hab.2) (by simp; omega)
    · rw [if_pos (by simp [e])] at h1
      rw [if_pos e, whileO_inr h1]
theorem all_eq {m : List Int} {l : List api_Mic} (hm : ∀ x ∈ m, i64ok x) (hl : l.length ≤ 1000000) (ha : ∀ o ∈ l, i64ok o.A ∧ i64ok o.B) (h : m.length ≤ 65536) : go_cell_All m l = some (runV l m []) := by
  have hc : go_cell_Check m = 0 := by unfold go_cell_Check; rw [if_neg (by simp; omega)]
  unfold go_cell_All
  rw [hc, if_neg (by simp), clone_eq h, Option.bind_some, if_pos (by omega)]
  refine run_loop (step := go_cell_All_s2 l) hl ha (fun m out => ?_) (fun i hi m out hm ho => ?_) l.length 0 m [] (by omega) hm (by simp)
  · rw [go_cell_All_s2, if_neg (by simp)]
  · rw [go_cell_All_s2, if_pos (by simpa using hi), if_pos (by omega), gt_nat hi, do_eq hm (ha _ (List.getElem_mem hi)).1]
    simp only [Option.bind_some]
    split
    · rfl
    · rw [if_pos (show few _ by unfold few; simp; omega), w64_nat (by omega)]
theorem rall_eq {m : List Int} {l : List api_Mic} (hm : ∀ x ∈ m, i64ok x) (hl : l.length ≤ 1000000) (ha : ∀ o ∈ l, i64ok o.A ∧ i64ok o.B) (h : m.length ≤ 65536) : go_ravelref01_All m l = some (runV l m []) := by
  have hc : go_ravelref01_Check m = 0 := by unfold go_ravelref01_Check; rw [if_neg (by simp; omega)]
  unfold go_ravelref01_All
  rw [hc, if_neg (by simp), List.nil_append, if_pos (show few m.length by unfold few; omega)]
  refine run_loop (step := go_ravelref01_All_s2 l) hl ha (fun m out => ?_) (fun i hi m out hm ho => ?_) l.length 0 m [] (by omega) hm (by simp)
  · rw [go_ravelref01_All_s2, if_neg (by simp)]
  · rw [go_ravelref01_All_s2, if_pos (by simpa using hi), if_pos (by omega), gt_nat hi, rdo_eq hm (ha _ (List.getElem_mem hi)).1]
    simp only [Option.bind_some]
    split
    · rfl
    · rw [if_pos (show few _ by unfold few; simp; omega), w64_nat (by omega)]
theorem runV_len : ∀ (l : List api_Mic) (m out : List Int), (runV l m out).1.length ≤ m.length ∧ (runV l m out).2.1.length ≤ out.length + l.length
  | [], m, out => by simp [runV]
  | o :: r, m, out => by
    rw [runV]
    split
    · simp
    · have h1 := runV_len r (doV m o).1 (out ++ [(doV m o).2.1])
      have h2 := doV_len m o
      simp at h1 ⊢; omega
theorem cellRuns_true {m : List Int} {l : List api_Mic} (hm : ∀ x ∈ m, i64ok x) (ha : ∀ o ∈ l, i64ok o.A ∧ i64ok o.B) : go_ravellaw01_CellRuns m l = some true := by
  unfold go_ravellaw01_CellRuns
  rw [live_eq]
  simp only [Option.bind_some]
  rw [if_neg (by simp)]
  split
  · rfl
  · rename_i hg
    simp only [Bool.or_eq_true, decide_eq_true_eq, not_or] at hg
    rw [all_eq hm (by omega) ha (by omega), rall_eq hm (by omega) ha (by omega)]
    have h1 := runV_len l m []
    simp only [Option.bind_some]
    rw [if_pos trivial, same_eq (by omega), Option.bind_some]
    unfold go_ravellaw01_CellRuns_j1 go_ravellaw01_CellRuns_j2
    rw [if_pos (by simp), same_eq (a := (runV l m []).2.1) (by simp at h1; omega), Option.bind_some]
    simp
theorem cellSwap_true {m : List Int} {i old x : Int} (hl : m.length ≤ 9223372036854775807) : go_ravellaw01_CellSwap m i old x = some true := by
  unfold go_ravellaw01_CellSwap
  rw [live_eq]
  simp only [Option.bind_some]
  rw [if_neg (by simp)]
  split
  · rfl
  · rename_i hg
    simp only [decide_eq_true_eq] at hg
    rw [load_eq, cas_eq]
    simp only [Option.bind_some]
    cases h : okB m i with
    | false => simp
    | true =>
      obtain ⟨h1, h2⟩ := okB_iff.1 h
      simp only [if_true]
      rw [if_neg (by simp)]
      unfold go_ravellaw01_CellSwap_j1
      by_cases e : gt m i = old
      · rw [if_pos e]
        simp only
        rw [cas_eq, okB_st, h]
        simp only [Option.bind_some, if_true]
        rw [gt_st h2.1 h2.2]
        by_cases e2 : x = old
        · rw [if_pos e2]
          simp only
          rw [load_eq, okB_st, okB_st, h, st_st]
          simp only [Option.bind_some, if_true]
          rw [gt_st h2.1 h2.2, csame_eq (by rw [st_len]; omega)]
          simp [e, e2, mget, mput]
        · rw [if_neg e2]
          simp only
          rw [load_eq, okB_st, h]
          simp only [Option.bind_some, if_true]
          rw [gt_st h2.1 h2.2, csame_eq (by rw [st_len]; omega)]
          have e3 : ¬ old = x := fun h => e2 h.symm
          simp [e, e3, mget, mput]
      · rw [if_neg e]
        simp only
        rw [cas_eq, h]
        simp only [Option.bind_some, if_true]
        rw [if_neg e]
        simp only
        rw [load_eq, h]
        simp only [Option.bind_some, if_true]
        rw [csame_eq (by omega)]
        simp [e, mget, mput]

end Go.Proofs.Ytgbolkdlghenfaa
