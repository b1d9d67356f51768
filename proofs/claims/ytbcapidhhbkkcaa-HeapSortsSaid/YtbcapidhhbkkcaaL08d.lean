/- Helper lemmas for the claim's theorem: an abstract machine over the model, proved sound; no condition beyond each lemma's own. -/
import Derived.Test.YtbcapidhhbkkcaaL08c
import Derived.Test.YtbcapidhhbkkcaaAmG
set_option linter.unusedVariables false
set_option linter.unusedSimpArgs false
set_option linter.unnecessarySimpa false
set_option linter.unusedSectionVars false
/- Plain laws on the printed functions. -/
namespace Go.Proofs.Ytbcapidhhbkkcaa
open Go Go.AM
set_option maxRecDepth 100000
set_option maxHeartbeats 1000000
set_option linter.unusedVariables false
set_option linter.unusedSimpArgs false
theorem split_le {mn mx : Int} (h : mn ≤ mx) : ∀ {s : List api_Timer}, Srt s → s.filter (fun t => decide (t.At ≤ mn)) ++ (s.filter fun t => !decide (t.At ≤ mn)).filter (fun t => decide (t.At ≤ mx)) = s.filter fun t => decide (t.At ≤ mx)
  | [], _ => rfl
  | t :: s, hs => by
    have hs2 := List.pairwise_cons.1 hs
    by_cases ht : t.At ≤ mn
    · rw [List.filter_cons_of_pos (by simpa using ht), List.filter_cons_of_neg (by simpa using ht), List.filter_cons_of_pos (by simp; omega), List.cons_append, split_le h hs2.2]
    · have h1 : (t :: s).filter (fun t => decide (t.At ≤ mn)) = [] := List.filter_eq_nil_iff.2 fun u hu => by
        rcases List.mem_cons.1 hu with rfl | hu
        · simpa using ht
        · have := hs2.1 u hu
          rw [← Bool.not_eq_true, lessB_iff] at this
          simp; omega
      have h2 : (t :: s).filter (fun t => !decide (t.At ≤ mn)) = t :: s := List.filter_eq_self.2 fun u hu => by
        have := List.filter_eq_nil_iff.1 h1 u hu
        simpa using this
      rw [h1, h2, List.nil_append]
theorem rest_rest {mn mx : Int} (h : mn ≤ mx) (s : List api_Timer) : (s.filter fun t => !decide (t.At ≤ mn)).filter (fun t => !decide (t.At ≤ mx)) = s.filter fun t => !decide (t.At ≤ mx) := by
  rw [List.filter_filter]
  congr 1
  funext t
  by_cases h1 : t.At ≤ mx
  · simp [h1]
  · have : ¬ t.At ≤ mn := by omega
    simp [h1, this]
theorem fine_srt {h : List api_Timer} (hf : Fine h) : (∀ t ∈ srt h, go_ravelref08_may t = true) ∧ ((srt h).map fun t => t.Id).Nodup := by
  obtain ⟨_, g2, g3, _⟩ := (fine_iff h).1 hf
  exact ⟨fun t ht => g2 t ((srt_perm h).mem_iff.1 ht), (((srt_perm h).map fun t => t.Id).nodup_iff).2 g3⟩
theorem may_parts {t : api_Timer} (h : go_ravelref08_may t = true) : 0 ≤ t.At ∧ t.At ≤ 1125899906842624 ∧ 0 ≤ t.Id := by
  unfold go_ravelref08_may at h
  simp at h; omega
theorem fin_sorts {h : List api_Timer} {a b : Int} (hf : Fine h) : ((go_heap_Expire h (if b < a then b else a)).bind fun (x_4962, x_4963, x_4964) =>
        (go_heap_Expire x_4963 (if b > a then b else a)).bind fun (x_4966, x_4967, x_4968) =>
        (go_heap_Expire h (if b > a then b else a)).bind fun (x_4970, x_4971, x_4972) =>
        if (((true && (x_4964 == 0)) && (x_4968 == 0)) && (x_4972 == 0)) = true then
          if few ([] ++ x_4962).length then
            if few (([] ++ x_4962) ++ x_4966).length then
              (go_ravelref01_Same (([] ++ x_4962) ++ x_4966) x_4970).bind fun x_4991 =>
              go_ravellaw08_HeapSorts_j3 x_4967 x_4971 x_4991
            else none
          else none
        else
          go_ravellaw08_HeapSorts_j3 x_4967 x_4971 false) = some true := by
  obtain ⟨mn, hmn⟩ : ∃ mn, (if b < a then b else a) = mn := ⟨_, rfl⟩
  obtain ⟨mx, hmx⟩ : ∃ mx, (if b > a then b else a) = mx := ⟨_, rfl⟩
  have hle : mn ≤ mx := by
    rw [← hmn, ← hmx]
    split <;> split <;> omega
  rw [hmn, hmx]
  have hl := hf.1
  have hsl := srt_len h
  obtain ⟨l1, e1, p1, f1⟩ := expire_yes hf mn
  obtain ⟨l2, e2, p2, f2⟩ := expire_yes f1 mx
  obtain ⟨l3, e3, p3, f3⟩ := expire_yes hf mx
  have hs1 : srt l1 = restL mn h := srt_of (restL_srt mn h) p1.symm
  have hd : dueL mn h ++ dueL mx l1 = dueL mx h := by
    unfold dueL
    rw [hs1, ← List.map_append]
    unfold restL
    rw [split_le hle (srt_srt h)]
  have hr : restL mx l1 = restL mx h := by
    unfold restL
    rw [hs1]
    unfold restL
    rw [rest_rest hle]
  have hdl : (dueL mx h).length ≤ 900 := by
    unfold dueL
    rw [List.length_map]
    exact Nat.le_trans (List.length_filter_le _ _) (by omega)
  have hdl1 : (dueL mn h).length ≤ 900 := by
    unfold dueL
    rw [List.length_map]
    exact Nat.le_trans (List.length_filter_le _ _) (by omega)
  rw [e1]
  simp only [Option.bind_some]
  rw [e2]
  simp only [Option.bind_some]
  rw [e3]
  simp only [Option.bind_some]
  rw [if_pos (by decide), List.nil_append, if_pos (few_ok (by omega)), if_pos (few_ok (by rw [hd]; omega)), hd, ints_go hdl, Option.bind_some]
  unfold go_ravellaw08_HeapSorts_j3
  rw [if_pos rfl, same_perm (by have := f2.1; omega) (p2.trans (hr ▸ p3.symm))]; rfl
theorem heapSorts_true {h : List api_Timer} {a b : Int} : go_ravellaw08_HeapSorts h a b = some true := by
  unfold go_ravellaw08_HeapSorts
  rw [live_ok, Option.bind_some, if_neg (by simp)]
  split
  · rfl
  · by_cases hf : Fine h
    · have hl := hf.1
      have hsl := srt_len h
      obtain ⟨g1, g2⟩ := fine_srt hf
      obtain ⟨l1, e1, p1, f1⟩ := expire_yes hf 4611686018427387904
      have hd : dueL 4611686018427387904 h = (srt h).map (·.Id) := by
        unfold dueL
        rw [List.filter_eq_self.2 fun t ht => by have := may_parts (g1 t ht); simp; omega]
      have hr : restL 4611686018427387904 h = [] := List.filter_eq_nil_iff.2 fun t ht => by have := may_parts (g1 t ht); simp; omega
      rw [hr] at p1
      have hl1 : l1 = [] := p1.eq_nil
      subst hl1
      rw [(sorted_yes hf).1, e1, hd]
      simp only [Option.bind_some]
      rw [if_neg (by simp), if_neg (by simp)]
      have hrun := whileO_run (step := go_ravellaw08_HeapSorts_s2 h a b true (srt h) ((srt h).map (·.Id))) (fun j => (j : Int)) (srt h).length (fun j hj => by
        have hj2 : j < ((srt h).map (·.Id)).length := by simpa using hj
        rw [go_ravellaw08_HeapSorts_s2, if_pos (by simpa using hj), if_pos (pos_int hj), if_pos (pos_int hj2), gt_nat hj, gt_nat hj2, if_neg (by simp)]
        by_cases h0 : j = 0
        · subst h0
          rw [if_neg (by simp)]; rfl
        · have hjm : j - 1 < (srt h).length := by omega
          have hw : IntKind.i64.wrap ((j : Int) - 1) = ((j - 1 : Nat) : Int) := by rw [w64_id (by omega) (by omega)]; omega
          have hlt : lessB (srt h)[j - 1] (srt h)[j] = true := by
            have h1 := List.pairwise_iff_getElem.1 (srt_srt h) (j - 1) j hjm hj (by omega)
            have hne : (srt h)[j - 1] ≠ (srt h)[j] := fun e => by
              have := idx_one g2 hjm hj (by rw [e])
              omega
            rcases less_total hne with h2 | h2
            · exact h2
            · rw [h1] at h2; cases h2
          have hlt2 : go_ravelref08_Less (srt h)[j - 1] (srt h)[j] = true := hlt
          rw [if_pos (by simp; omega), hw, if_pos (pos_int hjm), gt_nat hjm, hlt2, if_neg (by simp), w64_nat (by omega)]; rfl)
      rw [show (0 : Int) = ((0 : Nat) : Int) from rfl, hrun]
      refine whileO_inr (k := true) ?_
      rw [go_ravellaw08_HeapSorts_s2, if_neg (by simp)]
      exact congrArg inrO (fin_sorts hf)
    · rw [(sorted_no hf).1, (expire_no hf _).1]; rfl
end Go.Proofs.Ytbcapidhhbkkcaa
