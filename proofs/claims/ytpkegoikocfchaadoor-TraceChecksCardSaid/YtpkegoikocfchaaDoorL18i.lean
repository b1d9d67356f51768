/- Helper lemmas for the claim's theorem: an abstract machine over the model, proved sound; no condition beyond each lemma's own. -/
import Derived.Test.YtpkegoikocfchaaDoorL18h
set_option linter.unusedVariables false
set_option linter.unusedSimpArgs false
set_option linter.unnecessarySimpa false
set_option linter.unusedSectionVars false
/- Plain laws on the printed functions. -/
namespace Go.Proofs.YtpkegoikocfchaaDoor
open Go Go.AM
set_option maxRecDepth 100000
set_option maxHeartbeats 1000000
set_option linter.unusedVariables false
set_option linter.unusedSimpArgs false
theorem rof_loop (l : List api_Event) (id : Int) (hl : l.length ≤ 1000000) : ∀ (k i : Nat), i + k = l.length → whileO (go_ravelref18_Of_s1 l id) (ofL (l.take i) id, (i : Int)) = some (ofL l id)
  | 0, i, h => by
    have : i = l.length := by omega
    subst this
    rw [List.take_length]
    refine whileO_inr ?_
    rw [go_ravelref18_Of_s1, if_neg (by simp)]; rfl
  | k + 1, i, h => by
    have hi : i < l.length := by omega
    rw [← rof_loop l id hl k (i + 1) (by omega)]
    refine whileO_inl ?_
    rw [go_ravelref18_Of_s1, if_pos (by simpa using hi), if_pos (by omega), gt_nat hi, List.take_succ_eq_append_getElem hi, w64_nat (by omega)]
    have hle : (ofL (l.take i) id).length ≤ i := by
      have := List.length_filter_le (fun x : api_Event => x.Id == id) (l.take i)
      unfold ofL; rw [List.length_take] at this; omega
    have e1 : ofL (l.take i ++ [l[i]]) id = if l[i].Id = id then ofL (l.take i) id ++ [l[i]] else ofL (l.take i) id := by
      unfold ofL
      rw [List.filter_append]
      by_cases hx : l[i].Id = id
      · rw [if_pos hx, List.filter_cons_of_pos (by simpa using hx)]; rfl
      · rw [if_neg hx, List.filter_cons_of_neg (by simpa using hx)]; simp
    rw [e1]
    by_cases hx : l[i].Id = id
    · rw [if_pos (by simpa using hx), if_pos hx, if_pos (few_le (by simp; omega))]; rfl
    · rw [if_neg (by simpa using hx), if_neg hx]; rfl
theorem rof_eq {l : List api_Event} (hl : l.length ≤ 1000000) (id : Int) : go_ravelref18_Of l id = some (ofL l id) := by
  unfold go_ravelref18_Of
  have := rof_loop l id hl l.length 0 (by omega)
  simpa [ofL] using this
theorem sub_take0 {α : Type} (l : List α) (k : Nat) : sub l 0 (k : Int) = l.take k := by simp [sub]
theorem rck_loop {ps : List (List api_Instr)} (hp : poks ps) {l : List api_Event} (hl : l.length ≤ 65536) : ∀ (k i : Nat), i + k = runN ps [] l → whileO (go_ravelref18_Check_s1 ps l) (i : Int) = some (((runN ps [] l : Nat) : Int), 0)
  | 0, i, h => by
    have hle := runN_le (ps := ps) l []
    have hi : i = runN ps [] l := by omega
    rw [← hi]
    refine whileO_inr ?_
    by_cases hlt : i < l.length
    · have hf := run_fail hi.symm hlt
      have hol := ofL_le (l.take (i + 1)) l[i].Id
      rw [List.length_take] at hol
      obtain ⟨t', h1, -⟩ := one_eq hp (own := ofL (l.take (i + 1)) l[i].Id) (by omega)
      rw [go_ravelref18_Check_s1, if_pos (by simpa using hlt), if_pos (by omega), w64_nat (by omega), if_pos (by omega), gt_nat hlt, sub_take0, rof_eq (by rw [List.length_take]; omega), Option.bind_some, h1, Option.bind_some, hf]
      rfl
    · have : i = l.length := by omega
      subst this
      rw [go_ravelref18_Check_s1, if_neg (by simp)]; rfl
  | k + 1, i, h => by
    have hle := runN_le (ps := ps) l []
    have hlt : i < l.length := by omega
    rw [← rck_loop hp hl k (i + 1) (by omega)]
    refine whileO_inl ?_
    have hgd := run_good (ps := ps) (l := l) rfl (i := i) (by omega) l[i].Id
    have hol := ofL_le (l.take (i + 1)) l[i].Id
    rw [List.length_take] at hol
    obtain ⟨t', h1, -⟩ := one_eq hp (own := ofL (l.take (i + 1)) l[i].Id) (by omega)
    obtain ⟨y, hy⟩ := Option.ne_none_iff_exists'.1 hgd
    rw [go_ravelref18_Check_s1, if_pos (by simpa using hlt), if_pos (by omega), w64_nat (by omega), if_pos (by omega), gt_nat hlt, sub_take0, rof_eq (by rw [List.length_take]; omega), Option.bind_some, h1, Option.bind_some, hy]
    rfl
theorem rtcheck_eq {ps : List (List api_Instr)} (hp : poks ps) (l : List api_Event) : go_ravelref18_Check ps l = some (ckR ps l) := by
  unfold go_ravelref18_Check ckR
  rw [rcheckAll_eq hp, Option.bind_some]
  cases hc : ckAll ps with
  | false => simp
  | true =>
    by_cases hl : l.length ≤ 65536
    · rw [if_neg (by simp; omega), if_pos ⟨rfl, hl⟩]
      exact rck_loop hp hl (runN ps [] l) 0 (by omega)
    · rw [if_pos (by simp; omega), if_neg (fun h => hl h.2)]
theorem born_take {l : List api_Event} {i : Nat} (hi : i < l.length) : bornL (l.take (i + 1)) = if l[i].Kind = 1 then bornL (l.take i) ++ [l[i].Id] else bornL (l.take i) := by
  rw [List.take_succ_eq_append_getElem hi]
  unfold bornL
  rw [List.filter_append, List.map_append]
  by_cases h : l[i].Kind = 1
  · rw [if_pos h, List.filter_cons_of_pos (by simpa using h)]; rfl
  · rw [if_neg h, List.filter_cons_of_neg (by simpa using h)]; simp
theorem born_len (l : List api_Event) : (bornL l).length ≤ l.length := by
  unfold bornL; rw [List.length_map]; exact List.length_filter_le _ _
theorem rts_loop {ps : List (List api_Instr)} (hp : poks ps) {l : List api_Event} (hl : l.length ≤ 65536) (hall : runN ps [] l = l.length) : ∀ (k i : Nat), i + k = l.length → whileO (go_ravelref18_Tasks_s1 ps l) (tasksM (runM ps [] l) (bornL (l.take i)), (i : Int)) = some (tasksM (runM ps [] l) (bornL l), 0)
  | 0, i, h => by
    have : i = l.length := by omega
    subst this
    rw [List.take_length]
    refine whileO_inr ?_
    rw [go_ravelref18_Tasks_s1, if_neg (by simp)]; rfl
  | k + 1, i, h => by
    have hi : i < l.length := by omega
    rw [← rts_loop hp hl hall k (i + 1) (by omega)]
    refine whileO_inl ?_
    rw [go_ravelref18_Tasks_s1, if_pos (by simpa using hi), if_pos (by omega), gt_nat hi, born_take hi, w64_nat (by omega)]
    by_cases hk : l[i].Kind = 1
    · have hol := ofL_le l l[i].Id
      obtain ⟨t', h1, h2⟩ := one_eq hp (own := ofL l l[i].Id) (by omega)
      have hmem : l[i].Id ∈ bornL l := by
        unfold bornL; rw [List.mem_map]; exact ⟨l[i], by rw [List.mem_filter]; exact ⟨List.getElem_mem hi, by simpa using hk⟩, rfl⟩
      have hne := (runM_born (ps := ps) l [] hall l[i].Id).1 (.inl hmem)
      obtain ⟨e, he⟩ := Option.ne_none_iff_exists'.1 hne
      have hmap := run_map l [] hall l[i].Id
      rw [he] at hmap
      have ht := h2 e hmap
      have hbl := born_len (l.take i)
      rw [List.length_take] at hbl
      have e2 : tasksM (runM ps [] l) (bornL (l.take i) ++ [l[i].Id]) = tasksM (runM ps [] l) (bornL (l.take i)) ++ [t'] := by
        unfold tasksM; rw [List.map_append, List.map_cons, List.map_nil, he, ht]; rfl
      rw [if_pos (by simpa using hk), rof_eq (by omega), Option.bind_some, h1, Option.bind_some, if_pos hk, e2]
      simp only
      rw [if_pos (few_le (by simp [tasksM]; omega))]; rfl
    · rw [if_neg (by simpa using hk), if_neg hk]; rfl
theorem rttasks_eq {ps : List (List api_Instr)} (hp : poks ps) {l : List api_Event} (hl : l.length ≤ 65536) : go_ravelref18_Tasks ps l = some (tkR ps l) := by
  unfold go_ravelref18_Tasks tkR
  rw [rtcheck_eq hp, Option.bind_some, ckR_if hl]
  have hle := runN_le (ps := ps) l []
  cases hc : ckAll ps with
  | false => rfl
  | true =>
    rw [if_pos rfl, if_pos ⟨rfl, hl⟩]
    simp only
    rw [if_neg (by simp)]
    by_cases hall : runN ps [] l = l.length
    · rw [if_neg (by simp; omega), if_pos hall]
      have := rts_loop hp hl hall l.length 0 (by omega)
      simpa [tasksM, bornL] using this
    · rw [if_pos (by simp; omega), if_neg hall]
def cntL (l : List api_Event) (k : Int) : Nat := (l.filter fun x => x.Kind == k).length
theorem cnt_take {l : List api_Event} {i : Nat} (hi : i < l.length) (k : Int) : cntL (l.take (i + 1)) k = cntL (l.take i) k + if l[i].Kind = k then 1 else 0 := by
  rw [List.take_succ_eq_append_getElem hi]
  unfold cntL
  rw [List.filter_append, List.length_append]
  by_cases h : l[i].Kind = k
  · rw [if_pos h, List.filter_cons_of_pos (by simpa using h)]; rfl
  · rw [if_neg h, List.filter_cons_of_neg (by simpa using h)]; rfl
theorem cnt_le (l : List api_Event) (k : Int) : cntL l k ≤ l.length := List.length_filter_le _ _
theorem cnt_loop (l : List api_Event) (q : Int) (hl : l.length ≤ 1000000) : ∀ (k i : Nat), i + k = l.length → whileO (go_trace_Count_s1 l q) (((cntL (l.take i) q : Nat) : Int), (i : Int)) = some ((cntL l q : Nat) : Int)
  | 0, i, h => by
    have : i = l.length := by omega
    subst this
    rw [List.take_length]
    refine whileO_inr ?_
    rw [go_trace_Count_s1, if_neg (by simp)]; rfl
  | k + 1, i, h => by
    have hi : i < l.length := by omega
    rw [← cnt_loop l q hl k (i + 1) (by omega)]
    refine whileO_inl ?_
    have := cnt_le (l.take i) q
    rw [List.length_take] at this
    rw [go_trace_Count_s1, if_pos (by simpa using hi), if_pos (by omega), gt_nat hi, w64_nat (by omega), cnt_take hi]
    by_cases hx : l[i].Kind = q
    · rw [if_pos (by simpa using hx), if_pos hx, w64_nat (by omega)]; rfl
    · rw [if_neg (by simpa using hx), if_neg hx, w64_nat (by omega)]; rfl
theorem count_eq {l : List api_Event} (hl : l.length ≤ 1000000) (q : Int) : go_trace_Count l q = some ((cntL l q : Nat) : Int) := cnt_loop l q hl l.length 0 (by omega)
theorem rcnt_loop (l : List api_Event) (q : Int) (hl : l.length ≤ 1000000) : ∀ (k i : Nat), i + k = l.length → whileO (go_ravelref18_Count_s1 l q) (((cntL (l.take i) q : Nat) : Int), (i : Int)) = some ((cntL l q : Nat) : Int)
  | 0, i, h => by
    have : i = l.length := by omega
    subst this
    rw [List.take_length]
    refine whileO_inr ?_
    rw [go_ravelref18_Count_s1, if_neg (by simp)]; rfl
  | k + 1, i, h => by
    have hi : i < l.length := by omega
    rw [← rcnt_loop l q hl k (i + 1) (by omega)]
    refine whileO_inl ?_
    have := cnt_le (l.take i) q
    rw [List.length_take] at this
    rw [go_ravelref18_Count_s1, if_pos (by simpa using hi), if_pos (by omega), gt_nat hi, w64_nat (by omega), cnt_take hi]
    by_cases hx : l[i].Kind = q
    · rw [if_pos (by simpa using hx), if_pos hx, w64_nat (by omega)]; rfl
    · rw [if_neg (by simpa using hx), if_neg hx, w64_nat (by omega)]; rfl
theorem rcount_eq {l : List api_Event} (hl : l.length ≤ 1000000) (q : Int) : go_ravelref18_Count l q = some ((cntL l q : Nat) : Int) := rcnt_loop l q hl l.length 0 (by omega)
theorem sameT_self (l : List api_Task) (hl : l.length ≤ 1000000) : go_ravelref18_SameTasks l l = some true := by
  unfold go_ravelref18_SameTasks
  rw [if_neg (by simp)]
  have : ∀ (k i : Nat), i + k = l.length → whileO (go_ravelref18_SameTasks_s1 l l) (i : Int) = some true := by
    intro k
    induction k with
    | zero =>
      intro i h
      refine whileO_inr ?_
      rw [go_ravelref18_SameTasks_s1, if_neg (by simp; omega)]; rfl
    | succ k ih =>
      intro i h
      rw [← ih (i + 1) (by omega)]
      refine whileO_inl ?_
      rw [go_ravelref18_SameTasks_s1, if_pos (by simp; omega), if_pos (by omega), if_pos (by omega), task_self, if_neg (by simp), w64_nat (by omega)]; rfl
  exact this l.length 0 (by omega)
theorem same_self (l : List api_Event) (hl : l.length ≤ 1000000) : go_ravelref18_Same l l = some true := by
  unfold go_ravelref18_Same
  rw [if_neg (by simp)]
  have hb : ∀ x : api_Event, api_Event.beq x x = true := fun x => by simp [api_Event.beq]
  have : ∀ (k i : Nat), i + k = l.length → whileO (go_ravelref18_Same_s1 l l) (i : Int) = some true := by
    intro k
    induction k with
    | zero =>
      intro i h
      refine whileO_inr ?_
      rw [go_ravelref18_Same_s1, if_neg (by simp; omega)]; rfl
    | succ k ih =>
      intro i h
      rw [← ih (i + 1) (by omega)]
      refine whileO_inl ?_
      rw [go_ravelref18_Same_s1, if_pos (by simp; omega), if_pos (by omega), if_pos (by omega), hb, if_neg (by simp), w64_nat (by omega)]; rfl
  exact this l.length 0 (by omega)
theorem tkR_len {ps : List (List api_Instr)} (l : List api_Event) : (tkR ps l).1.length ≤ l.length := by
  unfold tkR tasksM
  have := born_len l
  repeat' split
  all_goals simp; try omega
theorem traceChecks_true {ps : List (List api_Instr)} {l : List api_Event} {id kd : Int} (hn : ps.length ≤ 9223372036854775807) (ha : ∀ p ∈ ps, ∀ x ∈ p, i64ok x.A) (hl : l.length ≤ 9223372036854775807) : go_ravellaw18_TraceChecks ps l id kd = some true := by
  unfold go_ravellaw18_TraceChecks
  obtain ⟨r, h1, h2⟩ := few_poks hn ha
  rw [tlive_eq, h1]
  simp only [Option.bind_some]
  cases r with
  | false => rfl
  | true =>
    obtain ⟨hp, _, _⟩ := h2 rfl
    by_cases h200 : l.length ≤ 200
    · have ht := tkR_len (ps := ps) l
      have hol := ofL_le l id
      rw [if_neg (by simp; omega), tcheck_eq hp, rtcheck_eq hp, ttasks_eq hp, rttasks_eq hp (by omega)]
      simp only [Option.bind_some]
      rw [if_pos (by simp), sameT_self _ (by omega), Option.bind_some]
      unfold go_ravellaw18_TraceChecks_j1
      rw [if_pos (by simp), tof_eq (by omega), rof_eq (by omega)]
      simp only [Option.bind_some]
      rw [same_self _ (by omega), Option.bind_some]
      unfold go_ravellaw18_TraceChecks_j2 go_ravellaw18_TraceChecks_j3
      rw [if_pos rfl, count_eq (by omega), rcount_eq (by omega)]
      simp only [Option.bind_some]
      rw [held_eq]; simp
    · rw [if_pos (by simp; omega)]

end Go.Proofs.YtpkegoikocfchaaDoor
