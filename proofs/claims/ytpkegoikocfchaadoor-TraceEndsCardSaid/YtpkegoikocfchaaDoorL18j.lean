/- Helper lemmas for the claim's theorem: an abstract machine over the model, proved sound; no condition beyond each lemma's own. -/
import Derived.Test.YtpkegoikocfchaaDoorL18i
set_option linter.unusedVariables false
set_option linter.unusedSimpArgs false
set_option linter.unnecessarySimpa false
set_option linter.unusedSectionVars false
/- Plain laws on the printed functions. -/
namespace Go.Proofs.YtpkegoikocfchaaDoor
open Go Go.AM
set_option maxRecDepth 100000
set_option maxHeartbeats 1000000
set_option linter.unusedVariables false
set_option linter.unusedSimpArgs false
theorem cnt_snoc (l : List api_Event) (x : api_Event) (k : Int) : cntL (l ++ [x]) k = cntL l k + if x.Kind = k then 1 else 0 := by
  unfold cntL
  rw [List.filter_append, List.length_append]
  by_cases h : x.Kind = k
  · rw [if_pos h, List.filter_cons_of_pos (by simpa using h)]; rfl
  · rw [if_neg h, List.filter_cons_of_neg (by simpa using h)]; rfl
/-- What holds of a task behind each of its events. -/
theorem life_ind {ps : List (List api_Instr)} {P : List api_Event → trace_seen → Prop} (h0 : ∀ x e, mayS ps none x = some e → P [x] e) (h1 : ∀ own e x e', P own e → mayS ps (some e) x = some e' → P (own ++ [x]) e') :
    ∀ (own : List api_Event) (e : trace_seen), lifeO ps none own = some (some e) → P own e := by
  have gen : ∀ (r acc : List api_Event) (e0 e : trace_seen), P acc e0 → lifeO ps (some e0) r = some (some e) → P (acc ++ r) e := by
    intro r
    induction r with
    | nil => intro acc e0 e hp h; simp only [lifeO, Option.some.injEq] at h; subst h; simpa using hp
    | cons x r ih =>
      intro acc e0 e hp h
      rw [lifeO] at h
      cases he : mayS ps (some e0) x with
      | none => rw [he] at h; cases h
      | some e1 =>
        rw [he] at h
        have := ih (acc ++ [x]) e1 e (h1 _ _ _ _ hp he) h
        simpa using this
  intro own e h
  cases own with
  | nil => simp [lifeO] at h
  | cons x r =>
    rw [lifeO] at h
    cases he : mayS ps none x with
    | none => rw [he] at h; cases h
    | some e1 => rw [he] at h; exact gen r [x] e1 e (h0 _ _ he) h
structure Seen (own : List api_Event) (e : trace_seen) : Prop where
  last : ∃ h : own.length ≠ 0, own[own.length - 1]'(by omega) = e.last
  wt : (e.last.Kind = 3 → 3 ≤ e.Task.State ∧ e.Task.State ≤ 6) ∧ (e.last.Kind ≠ 3 → e.Task.State = 1 ∨ e.Task.State = 7)
  ov : e.Task.State = 7 ↔ (e.last.Kind = 5 ∨ e.last.Kind = 6)
  adj : ∀ i (h : i + 1 < own.length), (own[i].Kind = 3 → own[i + 1].Kind = 4 ∨ own[i + 1].Kind = 6) ∧ (own[i + 1].Kind = 4 → own[i].Kind = 3) ∧ own[i].Kind ≠ 5 ∧ own[i].Kind ≠ 6 ∧ own[i + 1].Kind ≠ 1
  first : ∃ h : 0 < own.length, own[0].Kind = 1 ∧ e.Task.Id = own[0].Id
  cnt : (e.Task.State ≠ 7 → cntL own 3 = cntL own 4 + if e.last.Kind = 3 then 1 else 0) ∧ cntL own 4 ≤ cntL own 3 ∧ cntL own 3 ≤ cntL own 4 + 1
  ran : e.Task.Ran = cntL own 2
theorem snoc_adj {own : List api_Event} {x : api_Event} (hl : own.length ≠ 0) {Q : api_Event → api_Event → Prop} (h : ∀ i (h : i + 1 < own.length), Q own[i] own[i + 1]) (hq : Q (own[own.length - 1]'(by omega)) x) : ∀ i (h : i + 1 < (own ++ [x]).length), Q (own ++ [x])[i] (own ++ [x])[i + 1] := by
  intro i hi
  rw [List.length_append, List.length_singleton] at hi
  by_cases h1 : i + 1 < own.length
  · rw [List.getElem_append_left (by omega), List.getElem_append_left h1]; exact h i h1
  · have : i = own.length - 1 := by omega
    subst this
    rw [List.getElem_append_left (by omega), List.getElem_append_right (by omega)]
    simpa [show own.length - 1 + 1 - own.length = 0 by omega] using hq
theorem snoc_last (own : List api_Event) (x : api_Event) : ∃ h : (own ++ [x]).length ≠ 0, (own ++ [x])[(own ++ [x]).length - 1]'(by omega) = x := ⟨by simp, by simp⟩
theorem held_range {n : Int} (h : go_trace_Held n ≠ 0) : 3 ≤ go_trace_Held n ∧ go_trace_Held n ≤ 6 ∧ 4 ≤ n ∧ n ≤ 7 := by
  rw [held_eq] at h ⊢
  unfold go_ravelref18_Held at h ⊢
  by_cases hc : 4 ≤ n ∧ n ≤ 7
  · rw [if_pos (by simpa using hc), w64_id (by omega) (by omega)]; omega
  · rw [if_neg (by simpa using hc)] at h; exact absurd rfl h
theorem doT_ids (t : api_Task) (p : List api_Instr) : (doT t p).Id = t.Id ∧ (doT t p).Prog = t.Prog ∧ (doT t p).Ran = t.Ran + 1 := by
  unfold doT; split <;> exact ⟨rfl, rfl, rfl⟩
/-- The ways an event may come behind others. -/
theorem may_cases {ps : List (List api_Instr)} {e e' : trace_seen} {x : api_Event} (h : mayS ps (some e) x = some e') :
    e'.last = x ∧ ((x.Kind = 2 ∧ e.Task.State = 1 ∧ fitB e.Task (gt ps e.Task.Prog) = true ∧ (insN e.Task (gt ps e.Task.Prog)).Op = x.A ∧ ¬ (e.last.Kind = 2 ∧ e.last.A = 9) ∧ e.Task.Ran ≠ 1099511627776 ∧ e'.Task = Tk.to (doT (Tk.to e.Task 2) (gt ps e.Task.Prog)) 1) ∨
    (x.Kind = 3 ∧ e.Task.State = 1 ∧ e.last.Kind = 2 ∧ 3 ≤ x.A ∧ x.A ≤ 6 ∧ e.last.A ≠ 9 ∧ e'.Task = Tk.to e.Task x.A) ∨
    (x.Kind = 4 ∧ 3 ≤ e.Task.State ∧ e.Task.State ≤ 6 ∧ e'.Task = Tk.to e.Task 1) ∨
    (x.Kind = 5 ∧ e.Task.State = 1 ∧ e'.Task = Tk.to e.Task 7) ∨
    (x.Kind = 6 ∧ e.Task.State ≠ 7 ∧ e'.Task = Tk.to e.Task 7)) := by
  unfold mayS at h
  simp only at h
  by_cases h2 : x.Kind = 2
  · rw [if_pos h2] at h
    split at h
    · rename_i hc; injection h with h; subst h
      exact ⟨rfl, .inl ⟨h2, hc.2.1, hc.1, hc.2.2.1, hc.2.2.2.1, hc.2.2.2.2, rfl⟩⟩
    · cases h
  · rw [if_neg h2] at h
    by_cases h3 : x.Kind = 3
    · rw [if_pos h3] at h
      split at h
      · rename_i hc; injection h with h; subst h
        have hr := held_range (n := e.last.A) (by rw [← hc.2.2.2]; exact hc.2.2.1)
        exact ⟨rfl, .inr (.inl ⟨h3, hc.1, hc.2.1, by rw [hc.2.2.2]; exact hr.1, by rw [hc.2.2.2]; exact hr.2.1, by omega, rfl⟩)⟩
      · cases h
    · rw [if_neg h3] at h
      by_cases h4 : x.Kind = 4
      · rw [if_pos h4] at h
        split at h
        · rename_i hc; injection h with h; subst h
          exact ⟨rfl, .inr (.inr (.inl ⟨h4, hc.1, hc.2.1, rfl⟩))⟩
        · cases h
      · rw [if_neg h4] at h
        by_cases h5 : x.Kind = 5
        · rw [if_pos h5] at h
          split at h
          · rename_i hc; injection h with h; subst h
            exact ⟨rfl, .inr (.inr (.inr (.inl ⟨h5, hc.1, rfl⟩)))⟩
          · cases h
        · rw [if_neg h5] at h
          by_cases h6 : x.Kind = 6
          · rw [if_pos h6] at h
            split at h
            · rename_i hc; injection h with h; subst h
              exact ⟨rfl, .inr (.inr (.inr (.inr ⟨h6, hc.1, rfl⟩)))⟩
            · cases h
          · rw [if_neg h6] at h; cases h
theorem may_born {ps : List (List api_Instr)} {e : trace_seen} {x : api_Event} (h : mayS ps none x = some e) : x.Kind = 1 ∧ chk (newT x.Id 0 x.A) = true ∧ x.A < ps.length ∧ e = ⟨newT x.Id 0 x.A, x⟩ := by
  unfold mayS at h
  simp only at h
  split at h
  · rename_i hc; injection h with h; exact ⟨hc.2.1, hc.1, hc.2.2, h.symm⟩
  · cases h
theorem seen_all {ps : List (List api_Instr)} {own : List api_Event} {e : trace_seen} (h : lifeO ps none own = some (some e)) : Seen own e := by
  refine life_ind (P := Seen) (fun x e h => ?_) (fun own e x e' s h => ?_) own e h
  · obtain ⟨k1, k2, k3, rfl⟩ := may_born h
    have hc : ∀ k, cntL [x] k = if x.Kind = k then 1 else 0 := fun k => (cnt_snoc [] x k).trans (by rw [show cntL [] k = 0 from rfl, Nat.zero_add])
    refine ⟨⟨by simp, rfl⟩, ⟨fun h => by simp only at h; omega, fun _ => .inl rfl⟩, ⟨fun h => by simp [newT] at h, fun h => by simp only at h; omega⟩, fun i hi => by simp at hi, ⟨by simp, k1, rfl⟩, ?_, ?_⟩
    · rw [hc, hc, k1]; simp
    · rw [hc, k1]; simp [newT]
  · obtain ⟨hlast, hc⟩ := may_cases h
    obtain ⟨hl, hle⟩ := s.last
    obtain ⟨hf0, hf1, hf2⟩ := s.first
    have hid := doT_ids (Tk.to e.Task 2) (gt ps e.Task.Prog)
    have c2 := cnt_snoc own x 2
    have c3 := cnt_snoc own x 3
    have c4 := cnt_snoc own x 4
    have w1 := s.wt.1
    have w2 := s.wt.2
    have wo := s.ov
    have wc := s.cnt
    have wr := s.ran
    -- what is asked of the new event
    have fin : (e'.Task.Id = e.Task.Id) → ((x.Kind = 3 → 3 ≤ e'.Task.State ∧ e'.Task.State ≤ 6) ∧ (x.Kind ≠ 3 → e'.Task.State = 1 ∨ e'.Task.State = 7)) → (e'.Task.State = 7 ↔ (x.Kind = 5 ∨ x.Kind = 6)) →
        ((e.last.Kind = 3 → x.Kind = 4 ∨ x.Kind = 6) ∧ (x.Kind = 4 → e.last.Kind = 3) ∧ e.last.Kind ≠ 5 ∧ e.last.Kind ≠ 6 ∧ x.Kind ≠ 1) →
        ((e'.Task.State ≠ 7 → cntL (own ++ [x]) 3 = cntL (own ++ [x]) 4 + if x.Kind = 3 then 1 else 0) ∧ cntL (own ++ [x]) 4 ≤ cntL (own ++ [x]) 3 ∧ cntL (own ++ [x]) 3 ≤ cntL (own ++ [x]) 4 + 1) → e'.Task.Ran = cntL (own ++ [x]) 2 → Seen (own ++ [x]) e' := by
      intro a1 a2 a3 a4 a5 a6
      refine ⟨by rw [hlast]; exact snoc_last own x, by rw [hlast]; exact a2, by rw [hlast]; exact a3, ?_, ⟨by simp, ?_⟩, by rw [hlast]; exact a5, a6⟩
      · exact snoc_adj hl (Q := fun a b => (a.Kind = 3 → b.Kind = 4 ∨ b.Kind = 6) ∧ (b.Kind = 4 → a.Kind = 3) ∧ a.Kind ≠ 5 ∧ a.Kind ≠ 6 ∧ b.Kind ≠ 1) s.adj (by rw [hle]; exact a4)
      · rw [List.getElem_append_left hf0]; exact ⟨hf1, a1.trans hf2⟩
    rcases hc with ⟨k, b1, b2, b3, b4, b5, b6⟩ | ⟨k, b1, b2, b3, b4, b5, b6⟩ | ⟨k, b1, b2, b6⟩ | ⟨k, b1, b6⟩ | ⟨k, b1, b6⟩
    · rw [k] at c2 c3 c4
      simp only [if_pos, show ¬ ((2 : Int) = 3) by omega, show ¬ ((2 : Int) = 4) by omega, if_false] at c2 c3 c4
      have t1 : e'.Task.State = 1 := by rw [b6]; rfl
      have n3 : ¬ e.last.Kind = 3 := fun h => by have := w1 h; omega
      have n5 : ¬ (e.last.Kind = 5 ∨ e.last.Kind = 6) := fun h => by have := wo.2 h; omega
      refine fin (by rw [b6]; exact hid.1) (by omega) (by omega) (by omega) ?_ ?_
      · rw [if_neg (by omega)]
        have := wc.1 (by omega)
        rw [if_neg n3] at this
        omega
      · have : e'.Task.Ran = e.Task.Ran + 1 := by rw [b6]; exact hid.2.2
        omega
    · rw [k] at c2 c3 c4
      simp only [if_pos, show ¬ ((3 : Int) = 2) by omega, show ¬ ((3 : Int) = 4) by omega, if_false] at c2 c3 c4
      have t1 : e'.Task.State = x.A := by rw [b6]; rfl
      have n5 : ¬ (e.last.Kind = 5 ∨ e.last.Kind = 6) := fun h => by have := wo.2 h; omega
      refine fin (by rw [b6]; rfl) (by omega) (by omega) (by omega) ?_ ?_
      · rw [if_pos k]
        have := wc.1 (by omega)
        rw [if_neg (by omega)] at this
        omega
      · have : e'.Task.Ran = e.Task.Ran := by rw [b6]; rfl
        omega
    · rw [k] at c2 c3 c4
      simp only [if_pos, show ¬ ((4 : Int) = 2) by omega, show ¬ ((4 : Int) = 3) by omega, if_false] at c2 c3 c4
      have t1 : e'.Task.State = 1 := by rw [b6]; rfl
      have n5 : ¬ (e.last.Kind = 5 ∨ e.last.Kind = 6) := fun h => by have := wo.2 h; omega
      have y3 : e.last.Kind = 3 := by
        apply Classical.byContradiction; intro h; have := w2 h; omega
      refine fin (by rw [b6]; rfl) (by omega) (by omega) (by omega) ?_ ?_
      · rw [if_neg (by omega)]
        have := wc.1 (by omega)
        rw [if_pos y3] at this
        omega
      · have : e'.Task.Ran = e.Task.Ran := by rw [b6]; rfl
        omega
    · rw [k] at c2 c3 c4
      simp only [show ¬ ((5 : Int) = 2) by omega, show ¬ ((5 : Int) = 3) by omega, show ¬ ((5 : Int) = 4) by omega, if_false] at c2 c3 c4
      have t1 : e'.Task.State = 7 := by rw [b6]; rfl
      have n3 : ¬ e.last.Kind = 3 := fun h => by have := w1 h; omega
      have n5 : ¬ (e.last.Kind = 5 ∨ e.last.Kind = 6) := fun h => by have := wo.2 h; omega
      refine fin (by rw [b6]; rfl) (by omega) (by omega) (by omega) ⟨fun h => absurd t1 h, by omega, by omega⟩ ?_
      have : e'.Task.Ran = e.Task.Ran := by rw [b6]; rfl
      omega
    · rw [k] at c2 c3 c4
      simp only [show ¬ ((6 : Int) = 2) by omega, show ¬ ((6 : Int) = 3) by omega, show ¬ ((6 : Int) = 4) by omega, if_false] at c2 c3 c4
      have t1 : e'.Task.State = 7 := by rw [b6]; rfl
      have n5 : ¬ (e.last.Kind = 5 ∨ e.last.Kind = 6) := fun h => by have := wo.2 h; omega
      refine fin (by rw [b6]; rfl) (by omega) (by omega) (by omega) ⟨fun h => absurd t1 h, by omega, by omega⟩ ?_
      have : e'.Task.Ran = e.Task.Ran := by rw [b6]; rfl
      omega
theorem mem_of {l : List api_Event} {id : Int} {x : api_Event} (h : x ∈ ofL l id) : x.Id = id := by
  unfold ofL at h; rw [List.mem_filter] at h; simpa using h.2
theorem tasks_at {ps : List (List api_Instr)} {l : List api_Event} (hall : runN ps [] l = l.length) {i : Nat} (hi : i < (tasksM (runM ps [] l) (bornL l)).length) :
    ∃ e, (tasksM (runM ps [] l) (bornL l))[i] = e.Task ∧ lifeO ps none (ofL l e.Task.Id) = some (some e) ∧ Seen (ofL l e.Task.Id) e := by
  have hb : i < (bornL l).length := by unfold tasksM at hi; rwa [List.length_map] at hi
  have hne := (runM_born (ps := ps) l [] hall (bornL l)[i]).1 (.inl (List.getElem_mem hb))
  obtain ⟨e, he⟩ := Option.ne_none_iff_exists'.1 hne
  have hmap := run_map l [] hall (bornL l)[i]
  rw [he, show mget ([] : Mp) (bornL l)[i] = none from rfl] at hmap
  have hs := seen_all hmap
  obtain ⟨f0, f1, f2⟩ := hs.first
  have hid : e.Task.Id = (bornL l)[i] := by rw [f2]; exact mem_of (List.getElem_mem f0)
  refine ⟨e, ?_, by rw [hid]; exact hmap, by rw [hid]; exact hs⟩
  simp only [tasksM, List.getElem_map, he]; rfl
end Go.Proofs.YtpkegoikocfchaaDoor
