/- Helper lemmas for the claim's theorem: an abstract machine over the model, proved sound; no condition beyond each lemma's own. -/
import Derived.Test.YtpkegoikocfchaaDoorL18d
set_option linter.unusedVariables false
set_option linter.unusedSimpArgs false
set_option linter.unnecessarySimpa false
set_option linter.unusedSectionVars false
/- Plain laws on the printed functions. -/
namespace Go.Proofs.YtpkegoikocfchaaDoor
open Go Go.AM
set_option maxRecDepth 100000
set_option maxHeartbeats 1000000
set_option linter.unusedVariables false
set_option linter.unusedSimpArgs false
def stC (i : Nat) (b : List Int) (m : Mp) : Int × List Int × Mp := ((i : Int), b, m)
theorem born_cons (x : api_Event) (r : List api_Event) : bornL (x :: r) = if x.Kind = 1 then x.Id :: bornL r else bornL r := by
  unfold bornL
  by_cases h : x.Kind = 1 <;> simp [List.filter_cons, h]
theorem check_loop {ps : List (List api_Instr)} (hp : poks ps) {l : List api_Event} (hl : l.length ≤ 65536) : ∀ (k i : Nat) (b : List Int) (m : Mp), i + k = l.length → b.length ≤ i → MGood ps m →
    whileO (go_trace_Check_s57 ps l) (stC i b m) = some (((i + runN ps m (l.drop i) : Nat) : Int), 0)
  | 0, i, b, m, h, hb, hm => by
    have : i = l.length := by omega
    subst this
    rw [List.drop_length]
    refine whileO_inr (k := _) ?_
    rw [stC, go_trace_Check_s57, if_neg (by simp)]
    unfold go_trace_Check_j41 go_trace_Check_j42
    rw [if_pos (by simp)]; rfl
  | k + 1, i, b, m, h, hb, hm => by
    have hi : i < l.length := by omega
    have hst := ckstep hp hl hi hb hm
    unfold roundC at hst
    rw [List.drop_eq_getElem_cons hi]
    simp only [runN]
    cases he : mayS ps (mget m l[i].Id) l[i] with
    | none =>
      rw [he] at hst
      exact whileO_inr hst
    | some e =>
      rw [he] at hst
      rw [show stC i b m = ((i : Int), b, m) from rfl, whileO_inl hst]
      have := check_loop hp hl k (i + 1) (if l[i].Kind = 1 then b ++ [l[i].Id] else b) (mput m l[i].Id e) (by omega) (by split <;> (try rw [List.length_append, List.length_singleton]) <;> omega) (hm.put he)
      rw [show ∀ (b : List Int) (m : Mp), (((i + 1 : Nat) : Int), b, m) = stC (i + 1) b m from fun _ _ => rfl, this]
      simp only [Option.some.injEq, Prod.mk.injEq, and_true]
      omega
theorem mgood0 (ps : List (List api_Instr)) : MGood ps [] := fun k e h => by cases h
def ckR (ps : List (List api_Instr)) (l : List api_Event) : Int × Int := if ckAll ps = true ∧ l.length ≤ 65536 then ((runN ps [] l : Nat), 0) else (0, 1)
theorem tcheck_eq {ps : List (List api_Instr)} (hp : poks ps) (l : List api_Event) : go_trace_Check ps l = some (ckR ps l) := by
  unfold go_trace_Check ckR
  rw [checkAll_eq hp, Option.bind_some]
  cases hc : ckAll ps with
  | false => simp
  | true =>
    by_cases hl : l.length ≤ 65536
    · rw [if_neg (by simp; omega), if_pos ⟨rfl, hl⟩]
      have := check_loop hp hl l.length 0 [] [] (by omega) (by simp) (mgood0 ps)
      simpa [stC] using this
    · rw [if_pos (by simp; omega), if_neg (fun h => hl h.2)]
theorem runM_born {ps : List (List api_Instr)} : ∀ (l : List api_Event) (m : Mp), runN ps m l = l.length → ∀ id, (id ∈ bornL l ∨ mget m id ≠ none) ↔ mget (runM ps m l) id ≠ none
  | [], m, _, id => by simp [bornL, runM]
  | x :: r, m, h, id => by
    simp only [runN, List.length_cons] at h
    simp only [runM]
    cases he : mayS ps (mget m x.Id) x with
    | none => rw [he] at h; simp at h
    | some e =>
      rw [he] at h
      simp only at h ⊢
      rw [← runM_born r (mput m x.Id e) (by omega) id, mget_mput, born_cons]
      have hk := may_kind he
      by_cases hi : id = x.Id
      · subst hi
        simp only [if_true]
        by_cases h1 : x.Kind = 1
        · simp [h1]
        · rw [if_neg h1]
          have : mget m x.Id ≠ none := fun h => h1 (hk.2 h)
          simp [this]
      · rw [if_neg hi]
        split <;> simp [hi]
/-- The tasks behind all. -/
def tasksM (m : Mp) (b : List Int) : List api_Task := b.map fun id => ((mget m id).getD trace_seen.zero).Task
theorem tail_loop {m : Mp} {b : List Int} (hb : b.length ≤ 65536) (hm : ∀ id ∈ b, mget m id ≠ none) : ∀ (k i : Nat), i + k = b.length → whileO (go_trace_Tasks_s43 b) (tasksM m (b.take i), (i : Int), m) = some (tasksM m b, 0)
  | 0, i, h => by
    have : i = b.length := by omega
    subst this
    rw [List.take_length]
    refine whileO_inr ?_
    rw [go_trace_Tasks_s43, if_neg (by simp)]; rfl
  | k + 1, i, h => by
    have hi : i < b.length := by omega
    rw [← tail_loop hb hm k (i + 1) (by omega)]
    have hne := hm _ (List.getElem_mem hi)
    obtain ⟨e, he⟩ := Option.ne_none_iff_exists'.1 hne
    refine whileO_inl ?_
    rw [go_trace_Tasks_s43, if_pos (by simpa using hi), if_pos (by omega), gt_nat hi, he]
    simp only [mcase]
    rw [if_pos (few_le (by simp [tasksM]; omega)), mput_same he, w64_nat (by omega), List.take_succ_eq_append_getElem hi]
    have : tasksM m (b.take i ++ [b[i]]) = tasksM m (b.take i) ++ [e.Task] := by
      unfold tasksM; rw [List.map_append, List.map_cons, List.map_nil, he]; rfl
    rw [this]; rfl
theorem tasks_loop {ps : List (List api_Instr)} (hp : poks ps) {l : List api_Event} (hl : l.length ≤ 65536) : ∀ (k i : Nat) (b : List Int) (m : Mp), i + k = l.length → b.length ≤ i → MGood ps m → (∀ id ∈ b, mget m id ≠ none) →
    whileO (go_trace_Tasks_s58 ps l) (stC i b m) = some (if runN ps m (l.drop i) = (l.drop i).length then (tasksM (runM ps m (l.drop i)) (b ++ bornL (l.drop i)), 0) else ([], 2))
  | 0, i, b, m, h, hb, hm, hbm => by
    have : i = l.length := by omega
    subst this
    rw [List.drop_length, if_pos (by rfl)]
    have h2 := tail_loop (m := m) (b := b) (by omega) hbm b.length 0 (by omega)
    rw [show bornL [] = [] from rfl, List.append_nil, show runM ps m [] = m from rfl, ← h2]
    have : go_trace_Tasks_s58 ps l (stC l.length b m) = inrO (whileO (go_trace_Tasks_s43 b) ([], 0, m)) := by
      rw [stC, go_trace_Tasks_s58, if_neg (by simp)]
      unfold go_trace_Tasks_j41 go_trace_Tasks_j42
      rw [if_pos (by simp), if_neg (by simp)]
    rw [show (tasksM m (b.take 0), ((0 : Nat) : Int), m) = (([] : List api_Task), (0 : Int), m) by simp [tasksM]] at h2 ⊢
    rw [h2] at this ⊢
    exact whileO_inr this
  | k + 1, i, b, m, h, hb, hm, hbm => by
    have hi : i < l.length := by omega
    have hst := tkstep hp hl hi hb hm
    unfold roundC at hst
    rw [List.drop_eq_getElem_cons hi]
    simp only [runN, runM, List.length_cons, born_cons]
    cases he : mayS ps (mget m l[i].Id) l[i] with
    | none =>
      rw [he] at hst
      simp only
      rw [if_neg (by omega)]
      exact whileO_inr hst
    | some e =>
      rw [he] at hst
      simp only
      rw [show stC i b m = ((i : Int), b, m) from rfl, whileO_inl hst]
      have := tasks_loop hp hl k (i + 1) (if l[i].Kind = 1 then b ++ [l[i].Id] else b) (mput m l[i].Id e) (by omega) (by split <;> (try rw [List.length_append, List.length_singleton]) <;> omega) (hm.put he) (fun id hid => by
        rw [mget_mput]
        by_cases hx : id = l[i].Id
        · rw [if_pos hx]; simp
        · rw [if_neg hx]
          split at hid
          · rcases List.mem_append.1 hid with h1 | h1
            · exact hbm _ h1
            · exact absurd (List.mem_singleton.1 h1) hx
          · exact hbm _ hid)
      rw [show ∀ (b : List Int) (m : Mp), (((i + 1 : Nat) : Int), b, m) = stC (i + 1) b m from fun _ _ => rfl, this]
      by_cases hr : runN ps (mput m l[i].Id e) (l.drop (i + 1)) = (l.drop (i + 1)).length
      · rw [if_pos hr, if_pos (show runN ps (mput m l[i].Id e) (l.drop (i + 1)) + 1 = (l.drop (i + 1)).length + 1 by omega)]
        by_cases hk : l[i].Kind = 1
        · simp [hk]
        · simp [hk]
      · rw [if_neg hr, if_neg (show ¬ runN ps (mput m l[i].Id e) (l.drop (i + 1)) + 1 = (l.drop (i + 1)).length + 1 by omega)]
def tkR (ps : List (List api_Instr)) (l : List api_Event) : List api_Task × Int :=
  if ckAll ps = true ∧ l.length ≤ 65536 then (if runN ps [] l = l.length then (tasksM (runM ps [] l) (bornL l), 0) else ([], 2)) else ([], 1)
theorem ttasks_eq {ps : List (List api_Instr)} (hp : poks ps) (l : List api_Event) : go_trace_Tasks ps l = some (tkR ps l) := by
  unfold go_trace_Tasks tkR
  rw [checkAll_eq hp, Option.bind_some]
  cases hc : ckAll ps with
  | false => simp
  | true =>
    by_cases hl : l.length ≤ 65536
    · rw [if_neg (by simp; omega), if_pos ⟨rfl, hl⟩]
      have := tasks_loop hp hl l.length 0 [] [] (by omega) (by simp) (mgood0 ps) (fun _ h => by cases h)
      simpa [stC] using this
    · rw [if_pos (by simp; omega), if_neg (fun h => hl h.2)]
theorem of_loop (l : List api_Event) (id : Int) (hl : l.length ≤ 1000000) : ∀ (k i : Nat), i + k = l.length → whileO (go_trace_Of_s1 l id) (ofL (l.take i) id, (i : Int)) = some (ofL l id)
  | 0, i, h => by
    have : i = l.length := by omega
    subst this
    rw [List.take_length]
    refine whileO_inr ?_
    rw [go_trace_Of_s1, if_neg (by simp)]; rfl
  | k + 1, i, h => by
    have hi : i < l.length := by omega
    rw [← of_loop l id hl k (i + 1) (by omega)]
    refine whileO_inl ?_
    rw [go_trace_Of_s1, if_pos (by simpa using hi), if_pos (by omega), gt_nat hi, List.take_succ_eq_append_getElem hi, w64_nat (by omega)]
    have hle : (ofL (l.take i) id).length ≤ i := by
      have := List.length_filter_le (fun x : api_Event => x.Id == id) (l.take i)
      unfold ofL; rw [List.length_take] at this; omega
    have e1 : ofL (l.take i ++ [l[i]]) id = if l[i].Id = id then ofL (l.take i) id ++ [l[i]] else ofL (l.take i) id := by
      unfold ofL
      rw [List.filter_append]
      by_cases hx : l[i].Id = id
      · rw [if_pos hx, List.filter_cons_of_pos (by simpa using hx)]; rfl
      · rw [if_neg hx, List.filter_cons_of_neg (by simpa using hx)]; simp
    rw [e1]
    by_cases hx : l[i].Id = id
    · rw [if_pos (by simpa using hx), if_pos hx, if_pos (few_le (by simp; omega))]; rfl
    · rw [if_neg (by simpa using hx), if_neg hx]; rfl
theorem tof_eq {l : List api_Event} (hl : l.length ≤ 1000000) (id : Int) : go_trace_Of l id = some (ofL l id) := by
  unfold go_trace_Of
  have := of_loop l id hl l.length 0 (by omega)
  simpa [ofL] using this
def exP : List (List api_Instr) := [[(api_Instr.mk 1 1 0), (api_Instr.mk 9 0 0)]]
def exL : List api_Event := [(api_Event.mk 1 7 0), (api_Event.mk 2 7 1), (api_Event.mk 2 7 9), (api_Event.mk 5 7 0)]
theorem exP_ok : poks exP := by
  unfold poks exP pok
  refine ⟨by simp, fun p hp => ?_⟩
  simp only [List.mem_singleton] at hp
  subst hp
  refine ⟨by simp, by simp, fun x hx => ?_⟩
  simp only [List.mem_cons, List.not_mem_nil, or_false] at hx
  rcases hx with rfl | rfl <;> exact ⟨by decide, by decide⟩
theorem tlive_eq : go_ravellaw18_live = some true := by
  unfold go_ravellaw18_live
  have := tcheck_eq exP_ok exL
  unfold exP exL at this
  rw [this, Option.bind_some]
  have h : ckR exP exL = (4, 0) := by decide
  unfold exP exL at h
  rw [h]; rfl

end Go.Proofs.YtpkegoikocfchaaDoor
