/- Helper lemmas for the claim's theorem: an abstract machine over the model, proved sound; no condition beyond each lemma's own. -/
import Derived.Test.YtbcapidhhbkkcaaL08c
import Derived.Test.YtbcapidhhbkkcaaAmG
set_option linter.unusedVariables false
set_option linter.unusedSimpArgs false
set_option linter.unnecessarySimpa false
set_option linter.unusedSectionVars false
/- Plain laws on the printed functions. -/
namespace Go.Proofs.Ytbcapidhhbkkcaa
open Go Go.AM
set_option maxRecDepth 100000
set_option maxHeartbeats 1000000
set_option linter.unusedVariables false
set_option linter.unusedSimpArgs false
theorem may_parts {t : api_Timer} (h : go_ravelref08_may t = true) : 0 ≤ t.At ∧ t.At ≤ 1125899906842624 ∧ 0 ≤ t.Id := by
  unfold go_ravelref08_may at h
  simp at h; omega
theorem add_no {h : List api_Timer} {t : api_Timer} (hf : Fine h) (hm : go_ravelref08_may t = false) : go_heap_Add h t = some ([], 1) := by
  have hm2 : go_heap_may t = false := hm
  rw [go_heap_Add, (fine_ck hf).1, Option.bind_some, hm2, if_pos (by simp)]
theorem add_cases {h : List api_Timer} (t : api_Timer) (hf : Fine h) : (∃ a, go_heap_Add h t = some (a, 0) ∧ a.Perm (t :: h) ∧ Fine a) ∨ ∃ c, c ≠ 0 ∧ go_heap_Add h t = some ([], c) := by
  have hl := hf.1
  cases hm : go_ravelref08_may t with
  | false => exact .inr ⟨1, by decide, add_no hf hm⟩
  | true =>
    have hm2 : go_heap_may t = true := hm
    rcases find_ok t.Id (by omega) hf with ⟨i, hi, e, _, f2⟩ | ⟨hno, _, f2⟩
    · refine .inr ⟨6, by decide, ?_⟩
      rw [go_heap_Add, (fine_ck hf).1, Option.bind_some, hm2, if_neg (by simp), f2, Option.bind_some]; rfl
    · by_cases h6 : h.length = 256
      · refine .inr ⟨7, by decide, ?_⟩
        rw [go_heap_Add, (fine_ck hf).1, Option.bind_some, hm2, if_neg (by simp), f2, Option.bind_some]
        show (if ((5 : Int) == 0) = true then _ else _) = _
        rw [if_neg (by decide), if_pos (by simp [h6])]
      · exact .inl (add_yes hf hm hno (by omega))
theorem perm_at {h : List api_Timer} {i : Nat} (hi : i < h.length) : h.Perm (h[i] :: h.eraseIdx i) := (era_perm hi).symm
theorem back_j2 {h : List api_Timer} (hf : Fine h) : go_ravellaw08_HeapBack_j2 h true = some true := by
  unfold go_ravellaw08_HeapBack_j2
  have hl := hf.1
  obtain ⟨g1, g2, g3, g4⟩ := (fine_iff h).1 hf
  have hrun := whileO_run (step := go_ravellaw08_HeapBack_s4 h true) (fun j => (j : Int)) h.length (fun j hj => by
    obtain ⟨h', r1, r2, r3⟩ := reset_at hf (perm_at hj) (w := h[j].At) (by have := may_parts (g2 _ (List.getElem_mem hj)); omega)
    have hsame : go_heap_Same h' h = some true := same_perm (by have := r3.1; omega) (r2.trans (perm_at hj).symm)
    rw [go_ravellaw08_HeapBack_s4, if_pos (by simpa using hj), if_pos (pos_int hj), gt_nat hj, r1, Option.bind_some]
    show (if ((0 : Int) != 0) = true then _ else _) = _
    rw [if_neg (by decide), hsame, Option.bind_some, if_neg (by simp), w64_nat (by omega)]; rfl)
  rw [show (0 : Int) = ((0 : Nat) : Int) from rfl, hrun]
  refine whileO_inr (k := true) ?_
  rw [go_ravellaw08_HeapBack_s4, if_neg (by simp)]
  cases h with
  | nil => rw [least_none.1]; rfl
  | cons t r =>
    rw [(least_yes hf rfl).1, Option.bind_some]
    show inrO (if ((0 : Int) != 0) = true then _ else _) = _
    rw [if_neg (by decide)]
    have hrun2 := whileO_run (step := go_ravellaw08_HeapBack_s5 (t :: r) true t) (fun j => (j : Int)) (t :: r).length (fun j hj => by
      have hm : lessB (t :: r)[j] t = false := by
        have := head_min g4 j j hj (Nat.le_refl _)
        rw [gt_nat hj] at this; exact this
      have hm2 : go_ravelref08_Less (t :: r)[j] t = false := hm
      rw [go_ravellaw08_HeapBack_s5, if_pos (by simp; simp at hj; omega), if_pos (pos_int hj), gt_nat hj, hm2, if_neg (by simp), w64_nat (by omega)]; rfl)
    rw [show ((0 : Nat) : Int) = 0 from rfl] at hrun2
    rw [hrun2]
    have : whileO (go_ravellaw08_HeapBack_s5 (t :: r) true t) (((t :: r).length : Nat) : Int) = some true := by
      refine whileO_inr ?_
      rw [go_ravellaw08_HeapBack_s5, if_neg (by simp)]; rfl
    rw [this]; rfl
theorem heapBack_true {h : List api_Timer} {t : api_Timer} : go_ravellaw08_HeapBack h t = some true := by
  unfold go_ravellaw08_HeapBack
  rw [live_ok, Option.bind_some, if_neg (by simp)]
  split
  · rfl
  · by_cases hf : Fine h
    · rw [(fine_ck hf).1, Option.bind_some, if_neg (by simp)]
      have hl := hf.1
      rcases add_cases t hf with ⟨a, e1, p1, f1⟩ | ⟨c, hc, e1⟩
      · rw [e1, Option.bind_some]
        obtain ⟨h', c1, c2, c3⟩ := cancel_at f1 p1
        show (if ((0 : Int) == 0) = true then _ else _) = _
        rw [if_pos (by decide), c1, Option.bind_some]
        show (if ((0 : Int) != 0) = true then _ else _) = _
        rw [if_neg (by decide), same_perm (by have := c3.1; omega) c2, Option.bind_some]
        unfold go_ravellaw08_HeapBack_j6
        have hal : a.length = h.length + 1 := by rw [p1.length_eq]; rfl
        rw [hal, w64_id (by omega) (by omega), if_neg (by simp)]
        exact back_j2 hf
      · rw [e1, Option.bind_some]
        show (if (c == 0) = true then _ else _) = _
        rw [if_neg (by simpa using hc)]
        exact back_j2 hf
    · rw [(bad_ck hf).1]; rfl

end Go.Proofs.Ytbcapidhhbkkcaa
