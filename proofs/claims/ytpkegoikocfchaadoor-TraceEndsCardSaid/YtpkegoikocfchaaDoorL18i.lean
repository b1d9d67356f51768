/- Helper lemmas for the claim's theorem: an abstract machine over the model, proved sound; no condition beyond each lemma's own. -/
import Derived.Test.YtpkegoikocfchaaDoorL18h
set_option linter.unusedVariables false
set_option linter.unusedSimpArgs false
set_option linter.unnecessarySimpa false
set_option linter.unusedSectionVars false
/- Plain laws on the printed functions. -/
namespace Go.Proofs.YtpkegoikocfchaaDoor
open Go Go.AM
set_option maxRecDepth 100000
set_option maxHeartbeats 1000000
set_option linter.unusedVariables false
set_option linter.unusedSimpArgs false
theorem born_len (l : List api_Event) : (bornL l).length ≤ l.length := by
  unfold bornL; rw [List.length_map]; exact List.length_filter_le _ _
def cntL (l : List api_Event) (k : Int) : Nat := (l.filter fun x => x.Kind == k).length
theorem cnt_take {l : List api_Event} {i : Nat} (hi : i < l.length) (k : Int) : cntL (l.take (i + 1)) k = cntL (l.take i) k + if l[i].Kind = k then 1 else 0 := by
  rw [List.take_succ_eq_append_getElem hi]
  unfold cntL
  rw [List.filter_append, List.length_append]
  by_cases h : l[i].Kind = k
  · rw [if_pos h, List.filter_cons_of_pos (by simpa using h)]; rfl
  · rw [if_neg h, List.filter_cons_of_neg (by simpa using h)]; rfl
theorem cnt_le (l : List api_Event) (k : Int) : cntL l k ≤ l.length := List.length_filter_le _ _
theorem cnt_loop (l : List api_Event) (q : Int) (hl : l.length ≤ 1000000) : ∀ (k i : Nat), i + k = l.length → whileO (go_trace_Count_s1 l q) (((cntL (l.take i) q : Nat) : Int), (i : Int)) = some ((cntL l q : Nat) : Int)
  | 0, i, h => by
    have : i = l.length := by omega
    subst this
    rw [List.take_length]
    refine whileO_inr ?_
    rw [go_trace_Count_s1, if_neg (by simp)]; rfl
  | k + 1, i, h => by
    have hi : i < l.length := by omega
    rw [← cnt_loop l q hl k (i + 1) (by omega)]
    refine whileO_inl ?_
    have := cnt_le (l.take i) q
    rw [List.length_take] at this
    rw [go_trace_Count_s1, if_pos (by simpa using hi), if_pos (by omega), gt_nat hi, w64_nat (by omega), cnt_take hi]
    by_cases hx : l[i].Kind = q
    · rw [if_pos (by simpa using hx), if_pos hx, w64_nat (by omega)]; rfl
    · rw [if_neg (by simpa using hx), if_neg hx, w64_nat (by omega)]; rfl
theorem count_eq {l : List api_Event} (hl : l.length ≤ 1000000) (q : Int) : go_trace_Count l q = some ((cntL l q : Nat) : Int) := cnt_loop l q hl l.length 0 (by omega)
theorem tkR_len {ps : List (List api_Instr)} (l : List api_Event) : (tkR ps l).1.length ≤ l.length := by
  unfold tkR tasksM
  have := born_len l
  repeat' split
  all_goals simp; try omega
end Go.Proofs.YtpkegoikocfchaaDoor
