/- Helper lemmas for the claim's theorem: an abstract machine over the model, proved sound; no condition beyond each lemma's own. -/
import Derived.Test.YtpkegoikocfchaaDoorL18b
set_option linter.unusedVariables false
set_option linter.unusedSimpArgs false
set_option linter.unnecessarySimpa false
set_option linter.unusedSectionVars false
/- Plain laws on the printed functions. -/
namespace Go.Proofs.YtpkegoikocfchaaDoor
open Go Go.AM
set_option maxRecDepth 100000
set_option maxHeartbeats 1000000
set_option linter.unusedVariables false
set_option linter.unusedSimpArgs false
/-- A task as far as it was seen, behind one event more; none: it may not come. -/
def mayS (ps : List (List api_Instr)) (s : Option trace_seen) (x : api_Event) : Option trace_seen :=
  match s with
  | none => if chk (newT x.Id 0 x.A) = true ∧ x.Kind = 1 ∧ x.A < ps.length then some ⟨newT x.Id 0 x.A, x⟩ else none
  | some e =>
    if x.Kind = 2 then
      (if fitB e.Task (gt ps e.Task.Prog) = true ∧ e.Task.State = 1 ∧ (insN e.Task (gt ps e.Task.Prog)).Op = x.A ∧ ¬ (e.last.Kind = 2 ∧ e.last.A = 9) ∧ e.Task.Ran ≠ 1099511627776 then some ⟨Tk.to (doT (Tk.to e.Task 2) (gt ps e.Task.Prog)) 1, x⟩ else none)
    else if x.Kind = 3 then (if e.Task.State = 1 ∧ e.last.Kind = 2 ∧ x.A ≠ 0 ∧ x.A = go_trace_Held e.last.A then some ⟨Tk.to e.Task x.A, x⟩ else none)
    else if x.Kind = 4 then (if 3 ≤ e.Task.State ∧ e.Task.State ≤ 6 ∧ x.A = 0 then some ⟨Tk.to e.Task 1, x⟩ else none)
    else if x.Kind = 5 then (if e.Task.State = 1 ∧ e.last.Kind = 2 ∧ e.last.A = 9 ∧ x.A = 0 then some ⟨Tk.to e.Task 7, x⟩ else none)
    else if x.Kind = 6 then (if e.Task.State ≠ 7 ∧ x.A = 0 then some ⟨Tk.to e.Task 7, x⟩ else none)
    else none
/-- Its program is there. -/
def gdS (ps : List (List api_Instr)) (e : trace_seen) : Prop := 0 ≤ e.Task.Prog ∧ e.Task.Prog < ps.length
theorem gd_may {ps : List (List api_Instr)} {s : Option trace_seen} {x : api_Event} {e : trace_seen} (hs : ∀ e0, s = some e0 → gdS ps e0) (h : mayS ps s x = some e) : gdS ps e ∧ e.last = x := by
  unfold mayS at h
  cases s with
  | none =>
    simp only at h
    split at h
    · rename_i hc
      injection h with h; subst h
      have h1 := hc.1
      unfold chk newT at h1
      simp [go_life_below] at h1
      exact ⟨⟨by simp [newT]; omega, by simp [newT]; omega⟩, rfl⟩
    · cases h
  | some e0 =>
    have hg := hs e0 rfl
    have hd : ∀ p, (doT (Tk.to e0.Task 2) p).Prog = e0.Task.Prog := fun p => by unfold doT; split <;> rfl
    simp only at h
    repeat' split at h
    all_goals first | (cases h; done) | (injection h with h; subst h; refine ⟨?_, rfl⟩; first | exact hg | exact ⟨by show 0 ≤ (doT (Tk.to e0.Task 2) _).Prog; rw [hd]; exact hg.1, by show (doT (Tk.to e0.Task 2) _).Prog < _; rw [hd]; exact hg.2⟩)
/-- Who is seen, id by id. -/
abbrev Mp := List (Int × trace_seen)
def runN (ps : List (List api_Instr)) : Mp → List api_Event → Nat
  | _, [] => 0
  | m, x :: r => match mayS ps (mget m x.Id) x with | none => 0 | some e => runN ps (mput m x.Id e) r + 1
def runM (ps : List (List api_Instr)) : Mp → List api_Event → Mp
  | m, [] => m
  | m, x :: r => match mayS ps (mget m x.Id) x with | none => m | some e => runM ps (mput m x.Id e) r
def bornL (l : List api_Event) : List Int := (l.filter fun x => x.Kind == 1).map (·.Id)
def lifeO (ps : List (List api_Instr)) : Option trace_seen → List api_Event → Option (Option trace_seen)
  | s, [] => some s
  | s, x :: r => match mayS ps s x with | none => none | some e => lifeO ps (some e) r
def ofL (l : List api_Event) (id : Int) : List api_Event := l.filter fun x => x.Id == id
theorem mget_mput {m : Mp} {k : Int} {e : trace_seen} (q : Int) : mget (mput m k e) q = if q = k then some e else mget m q := by
  induction m with
  | nil => simp [mput, mget]
  | cons p r ih =>
    obtain ⟨x, v⟩ := p
    simp only [mput]
    by_cases h : k = x
    · subst h; simp only [if_true, mget]
      by_cases h2 : q = k <;> simp [h2]
    · rw [if_neg h]
      simp only [mget, ih]
      by_cases h2 : q = x
      · subst h2; rw [if_pos rfl, if_pos rfl, if_neg (Ne.symm h)]
      · rw [if_neg h2, if_neg h2]
theorem may_kind {ps : List (List api_Instr)} {s : Option trace_seen} {x : api_Event} {e : trace_seen} (h : mayS ps s x = some e) : x.Kind = 1 ↔ s = none := by
  unfold mayS at h
  cases s with
  | none =>
    simp only at h
    split at h
    · rename_i hc; simp [hc.2.1]
    · cases h
  | some e0 =>
    simp only at h
    constructor
    · intro h1
      simp [h1] at h
    · intro h1; cases h1
def MGood (ps : List (List api_Instr)) (m : Mp) : Prop := ∀ k e, mget m k = some e → gdS ps e
theorem MGood.put {ps : List (List api_Instr)} {m : Mp} (h : MGood ps m) {x : api_Event} {e : trace_seen} (he : mayS ps (mget m x.Id) x = some e) : MGood ps (mput m x.Id e) := fun k e' hk => by
  rw [mget_mput] at hk
  split at hk
  · injection hk with hk; subst hk
    exact (gd_may (fun e0 h0 => h _ _ h0) he).1
  · exact h k e' hk
theorem runN_le {ps : List (List api_Instr)} : ∀ (l : List api_Event) (m : Mp), runN ps m l ≤ l.length
  | [], _ => Nat.le_refl _
  | x :: r, m => by
    simp only [runN, List.length_cons]
    split
    · omega
    · have := runN_le (ps := ps) r (mput m x.Id ‹_›); omega
theorem runN_take {ps : List (List api_Instr)} : ∀ (l : List api_Event) (m : Mp) (k : Nat), runN ps m (l.take k) = min k (runN ps m l)
  | [], _, k => by simp [runN]
  | x :: r, m, 0 => by simp [runN]
  | x :: r, m, k + 1 => by
    simp only [List.take_succ_cons, runN]
    split
    · omega
    · rw [runN_take r]; omega
theorem ofL_cons (x : api_Event) (r : List api_Event) (id : Int) : ofL (x :: r) id = if x.Id = id then x :: ofL r id else ofL r id := by
  simp [ofL, List.filter_cons]
/-- All may come just if each task's may. -/
theorem run_all {ps : List (List api_Instr)} : ∀ (l : List api_Event) (m : Mp), runN ps m l = l.length ↔ ∀ id, lifeO ps (mget m id) (ofL l id) ≠ none
  | [], m => by simp [runN, ofL, lifeO]
  | x :: r, m => by
    simp only [runN, List.length_cons]
    cases he : mayS ps (mget m x.Id) x with
    | none =>
      simp only
      constructor
      · intro h; omega
      · intro h
        have := h x.Id
        rw [ofL_cons, if_pos rfl, lifeO, he] at this
        exact absurd rfl this
    | some e =>
      simp only
      have ih := run_all (ps := ps) r (mput m x.Id e)
      constructor
      · intro h id
        have h2 := (ih.1 (by omega)) id
        rw [mget_mput] at h2
        rw [ofL_cons]
        by_cases hi : x.Id = id
        · subst hi; rw [if_pos rfl] at h2 ⊢; rw [lifeO, he]; exact h2
        · rw [if_neg hi]; rw [if_neg (Ne.symm hi)] at h2; exact h2
      · intro h
        have : runN ps (mput m x.Id e) r = r.length := ih.2 fun id => by
          have h2 := h id
          rw [mget_mput]
          rw [ofL_cons] at h2
          by_cases hi : x.Id = id
          · subst hi; rw [if_pos rfl] at h2 ⊢; rw [lifeO, he] at h2; exact h2
          · rw [if_neg hi] at h2; rw [if_neg (Ne.symm hi)]; exact h2
        omega
theorem run_map {ps : List (List api_Instr)} : ∀ (l : List api_Event) (m : Mp), runN ps m l = l.length → ∀ id, lifeO ps (mget m id) (ofL l id) = some (mget (runM ps m l) id)
  | [], m, _, id => by simp [ofL, lifeO, runM]
  | x :: r, m, h, id => by
    simp only [runN, List.length_cons] at h
    simp only [runM]
    cases he : mayS ps (mget m x.Id) x with
    | none => rw [he] at h; simp at h
    | some e =>
      rw [he] at h
      simp only at h ⊢
      rw [← run_map r (mput m x.Id e) (by omega) id, mget_mput, ofL_cons]
      by_cases hi : x.Id = id
      · subst hi; rw [if_pos rfl, if_pos rfl, lifeO, he]
      · rw [if_neg hi, if_neg (Ne.symm hi)]
theorem run_fail {ps : List (List api_Instr)} {l : List api_Event} {n : Nat} (hn : runN ps [] l = n) (h : n < l.length) : lifeO ps none (ofL (l.take (n + 1)) l[n].Id) = none := by
  have h1 : runN ps [] (l.take (n + 1)) = n := by rw [runN_take, hn]; omega
  have h2 : runN ps [] (l.take n) = (l.take n).length := by rw [runN_take, hn, List.length_take]; omega
  have h3 : ¬ runN ps [] (l.take (n + 1)) = (l.take (n + 1)).length := by rw [h1, List.length_take]; omega
  rw [run_all] at h3
  have h4 := (run_all _ _).1 h2
  apply Classical.byContradiction
  intro hc
  apply h3
  intro id
  by_cases hi : id = l[n].Id
  · subst hi; exact hc
  · have : ofL (l.take (n + 1)) id = ofL (l.take n) id := by
      rw [List.take_succ_eq_append_getElem h]
      unfold ofL
      rw [List.filter_append, List.filter_cons_of_neg (by simpa using Ne.symm hi), List.filter_nil, List.append_nil]
    rw [this]; exact h4 id
theorem run_good {ps : List (List api_Instr)} {l : List api_Event} {n : Nat} (hn : runN ps [] l = n) {i : Nat} (hi : i < n) (id : Int) : lifeO ps none (ofL (l.take (i + 1)) id) ≠ none := by
  have hle := runN_le (ps := ps) l []
  have h2 : runN ps [] (l.take (i + 1)) = (l.take (i + 1)).length := by rw [runN_take, hn, List.length_take]; omega
  exact (run_all _ _).1 h2 id
/-- How a round goes. -/
def roundC {K : Type} (N : K) (ps : List (List api_Instr)) (l : List api_Event) (i : Nat) (b : List Int) (m : Mp) (h : i < l.length) : Option ((Int × List Int × Mp) ⊕ K) :=
  match mayS ps (mget m l[i].Id) l[i] with
  | none => some (.inr N)
  | some e => some (.inl (((i + 1 : Nat) : Int), (if l[i].Kind = 1 then b ++ [l[i].Id] else b), mput m l[i].Id e))
theorem leg12 : legB 1 2 = true := by decide
theorem leg21 : legB 2 1 = true := by decide
theorem to_to (t : api_Task) (a b : Int) : Tk.to (Tk.to t a) b = Tk.to t b := rfl
theorem fit_to {t : api_Task} {p : List api_Instr} (h : fitB t p = true) {s : Int} (hs : go_life_state s = true) : fitB (Tk.to t s) p = true := by
  obtain ⟨h1, h2, h3, h4⟩ := fit_parts h
  unfold fitB
  have := chk_to h1 hs
  simp only [this, h2, Bool.true_and]
  unfold fitB at h
  simp only [h1, h2, Bool.true_and] at h
  exact h
end Go.Proofs.YtpkegoikocfchaaDoor
