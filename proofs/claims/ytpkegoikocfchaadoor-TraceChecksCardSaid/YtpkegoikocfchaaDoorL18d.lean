/- Helper lemmas for the claim's theorem: an abstract machine over the model, proved sound; no condition beyond each lemma's own. -/
import Derived.Test.YtpkegoikocfchaaDoorL18c
set_option linter.unusedVariables false
set_option linter.unusedSimpArgs false
set_option linter.unnecessarySimpa false
set_option linter.unusedSectionVars false
/- Plain laws on the printed functions. -/
namespace Go.Proofs.YtpkegoikocfchaaDoor
open Go Go.AM
set_option maxRecDepth 100000
set_option maxHeartbeats 1000000
set_option linter.unusedVariables false
set_option linter.unusedSimpArgs false
/-- What a unit comes to. -/
theorem did_eq {ps : List (List api_Instr)} (hp : poks ps) {e : trace_seen} (hg : gdS ps e) {x : api_Event} {γ : Type} (N : γ) (F : api_Task → γ) (D : api_Task → Bool → γ) (hD : ∀ t c, D t c = if c = true then F t else N) :
    ((go_step_Next e.Task (gt ps e.Task.Prog)).bind fun r =>
      if ((((r.2 != 0) || (e.Task.State != 1)) || (r.1.Op != x.A)) || ((e.last.Kind == 2) && (e.last.A == 9))) = true then some N
      else (go_life_Move e.Task 2).bind fun r2 => if (r2.2 != 0) = true then some N else
        (go_step_Do r2.1 (gt ps e.Task.Prog)).bind fun r3 => if (r3.2.2 != 0) = true then some N else
          (go_life_Move r3.1 1).bind fun r4 => some (D r4.1 (r4.2 == 0))) =
    some (if fitB e.Task (gt ps e.Task.Prog) = true ∧ e.Task.State = 1 ∧ (insN e.Task (gt ps e.Task.Prog)).Op = x.A ∧ ¬ (e.last.Kind = 2 ∧ e.last.A = 9) ∧ e.Task.Ran ≠ 1099511627776 then F (Tk.to (doT (Tk.to e.Task 2) (gt ps e.Task.Prog)) 1) else N) := by
  have hpk : pok (gt ps e.Task.Prog) := by
    have : gt ps e.Task.Prog ∈ ps := by
      have h1 : e.Task.Prog = ((e.Task.Prog.toNat : Nat) : Int) := by have := hg.1; omega
      have h2 : e.Task.Prog.toNat < ps.length := by have := hg.1; have := hg.2; omega
      rw [h1, gt_nat h2]; exact List.getElem_mem _
    exact (hp.2 _ this).2
  generalize hpp : gt ps e.Task.Prog = p at *
  rw [next_eq hpk, Option.bind_some]
  cases hf : fitB e.Task p with
  | false => simp
  | true =>
    simp only [if_true]
    by_cases hs : e.Task.State = 1
    · by_cases ho : (insN e.Task p).Op = x.A
      · by_cases hl : e.last.Kind = 2 ∧ e.last.A = 9
        · rw [if_pos (by simp [hl.1, hl.2]), if_neg (fun h => h.2.2.2.1 hl)]
        · rw [if_neg (by simp [hs, ho]; intro h; exact fun h2 => hl ⟨h, h2⟩)]
          have hc := (fit_parts hf).1
          rw [move_eq, mvR_ok hc (by rw [hs]; exact leg12), Option.bind_some, if_neg (by simp), do_eq hpk, Option.bind_some]
          by_cases hr : e.Task.Ran = 1099511627776
          · have : (doR (Tk.to e.Task 2) p).2.2 ≠ 0 := by
              unfold doR
              rw [if_pos (fit_to hf (by decide)), if_pos (by rfl), if_pos (by exact hr)]; simp
            rw [if_pos (by simpa using this), if_neg (fun h => h.2.2.2.2 hr)]
          · have hok : okS (Tk.to e.Task 2) p := ⟨fit_to hf (by decide), rfl, hr⟩
            rw [doR_ok hok]
            simp only
            rw [if_neg (by simp)]
            have hf2 := fit_do hok
            have hc2 := (fit_parts hf2).1
            have hs2 : (doT (Tk.to e.Task 2) p).State = 2 := (doT_same _ _).2.1
            rw [move_eq, mvR_ok hc2 (by rw [hs2]; exact leg21), Option.bind_some, hD, if_pos (by rfl), if_pos ⟨trivial, hs, ho, hl, hr⟩]
      · rw [if_pos (by simp [ho]), if_neg (fun h => ho h.2.2.1)]
    · rw [if_pos (by simp [hs]), if_neg (fun h => hs h.2.1)]
theorem few_le {n : Nat} (h : n ≤ 1000000) : few n := by unfold few; omega
theorem ck61_false {l : List api_Event} {i : Nat} (h : i < l.length) (b : List Int) (m : Mp) : go_trace_Check_j61 l (i : Int) false b m = some (.inr ((i : Int), (0 : Int))) := by
  unfold go_trace_Check_j61 go_trace_Check_j41 go_trace_Check_j42
  rw [if_pos (by rfl), if_neg (by simp)]; rfl
theorem ck61_true (l : List api_Event) {i : Nat} (hi : i < 1000000) (b : List Int) (m : Mp) : go_trace_Check_j61 l (i : Int) true b m = some (.inl (((i + 1 : Nat) : Int), b, m)) := by
  unfold go_trace_Check_j61
  rw [if_neg (by simp), w64_nat (by omega)]; rfl
theorem ck61_if {l : List api_Event} {i : Nat} (h : i < l.length) (hi : i < 1000000) (c : Bool) (b : List Int) (m : Mp) : go_trace_Check_j61 l (i : Int) c b m = if c = true then some (.inl (((i + 1 : Nat) : Int), b, m)) else some (.inr ((i : Int), (0 : Int))) := by
  cases c with
  | true => rw [ck61_true l hi]; rfl
  | false => rw [ck61_false h]; rfl
theorem ck62_eq (l : List api_Event) (i : Int) (c : Bool) (b : List Int) (m : Mp) : go_trace_Check_j62 l i c b m = go_trace_Check_j61 l i c b m := rfl
theorem ckstep {ps : List (List api_Instr)} (hp : poks ps) {l : List api_Event} (hl : l.length ≤ 65536) {i : Nat} (h : i < l.length) {b : List Int} (hb : b.length ≤ i) {m : Mp} (hm : MGood ps m) :
    go_trace_Check_s57 ps l ((i : Int), b, m) = roundC ((i : Int), (0 : Int)) ps l i b m h := by
  have hi6 : i < 1000000 := by omega
  rw [go_trace_Check_s57, if_pos (by simpa using h), if_pos (by omega), gt_nat h]
  unfold roundC
  generalize hx : l[i] = x
  cases hg : mget m x.Id with
  | none =>
    simp only [mcase]
    rw [new_eq, Option.bind_some]
    unfold nwR mayS
    by_cases hc : chk (newT x.Id 0 x.A) = true
    · rw [if_pos hc]
      simp only
      rw [if_neg (by simp)]
      by_cases hk : x.Kind = 1
      · rw [if_neg (by simp [hk])]
        by_cases ha : x.A < ps.length
        · rw [if_neg (by simpa using ha), if_pos (few_le (by simp; omega)), if_pos ⟨hc, hk, ha⟩, ck62_eq, ck61_true l hi6, if_pos hk]
        · rw [if_pos (by simp; omega), if_neg (fun h' => ha h'.2.2), ck62_eq, (ck61_false h)]
      · rw [if_pos (by simp [hk]), if_neg (fun h' => hk h'.2.1), ck62_eq, (ck61_false h)]
    · rw [if_neg hc]
      simp only
      rw [if_pos (by simp), if_neg (fun h' => hc h'.1), ck62_eq, (ck61_false h)]
  | some e =>
    simp only [mcase]
    have hge := hm _ _ hg
    unfold mayS
    simp only
    by_cases h2 : x.Kind = 2
    · rw [if_pos (by simp [h2]), if_pos h2, if_pos (show 0 ≤ e.Task.Prog ∧ e.Task.Prog < (ps.length : Int) from hge)]
      have key := did_eq hp hge (x := x) (γ := (Int × List Int × Mp) ⊕ (Int × Int)) (.inr ((i : Int), (0 : Int))) (fun t => .inl (((i + 1 : Nat) : Int), b, mput m x.Id ⟨t, x⟩)) (fun t c => if c = true then .inl (((i + 1 : Nat) : Int), b, mput m x.Id ⟨t, x⟩) else .inr ((i : Int), (0 : Int))) (fun _ _ => rfl)
      have hsome : ∀ (c : Bool) (t : api_Task), go_trace_Check_j61 l (i : Int) c b (mput m x.Id ⟨t, x⟩) = some (if c = true then .inl (((i + 1 : Nat) : Int), b, mput m x.Id ⟨t, x⟩) else .inr ((i : Int), (0 : Int))) := fun c t => by
        rw [ck61_if h hi6]; cases c <;> rfl
      simp only [hsome, if_true, if_false, Bool.false_eq_true]
      refine Eq.trans ?_ (key.trans ?_)
      · rfl
      · split
        · simp only [h2]; rfl
        · rfl
    · rw [if_neg (by simp [h2]), if_neg h2]
      have hk1 : ∀ e', mayS ps (some e) x = some e' → ¬ x.Kind = 1 := fun e' he hk => by
        have := (may_kind he).1 hk; cases this
      by_cases h3 : x.Kind = 3
      · rw [if_pos (by simp [h3]), if_pos h3]
        by_cases a1 : e.Task.State = 1
        · rw [if_pos (by simp [a1])]
          by_cases a2 : e.last.Kind = 2
          · rw [if_pos (by simp [a2])]
            by_cases a3 : x.A = 0
            · rw [if_neg (by simp [a3]), (ck61_false h), if_neg (fun h' => h'.2.2.1 a3)]
            · rw [if_pos (by simp [a3])]
              by_cases a4 : x.A = go_trace_Held e.last.A
              · have : (x.A == go_trace_Held e.last.A) = true := by simp [← a4]
                rw [this, if_pos rfl, ck61_true l hi6, if_pos ⟨a1, a2, a3, a4⟩]; simp [h3]; rfl
              · have : (x.A == go_trace_Held e.last.A) = false := by simpa using a4
                rw [this, if_neg (by simp), (ck61_false h), if_neg (fun h' => a4 h'.2.2.2)]
          · rw [if_neg (by simp [a2]), (ck61_false h), if_neg (fun h' => a2 h'.2.1)]
        · rw [if_neg (by simp [a1]), (ck61_false h), if_neg (fun h' => a1 h'.1)]
      · rw [if_neg (by simp [h3]), if_neg h3]
        by_cases h4 : x.Kind = 4
        · rw [if_pos (by simp [h4]), if_pos h4]
          by_cases a1 : 3 ≤ e.Task.State ∧ e.Task.State ≤ 6 ∧ x.A = 0
          · have : (go_life_Waits e.Task.State && (x.A == 0)) = true := by simp [go_life_Waits, a1.1, a1.2.1, a1.2.2]
            rw [this, if_pos rfl, ck61_true l hi6, if_pos a1]; simp [h4]; rfl
          · have : (go_life_Waits e.Task.State && (x.A == 0)) = false := by
              rw [← Bool.not_eq_true]; intro h; apply a1; simp [go_life_Waits] at h; omega
            rw [this, if_neg (by simp), (ck61_false h), if_neg a1]
        · rw [if_neg (by simp [h4]), if_neg h4]
          by_cases h5 : x.Kind = 5
          · rw [if_pos (by simp [h5]), if_pos h5]
            by_cases a1 : e.Task.State = 1 ∧ e.last.Kind = 2 ∧ e.last.A = 9 ∧ x.A = 0
            · have : ((((e.Task.State == 1) && (e.last.Kind == 2)) && (e.last.A == 9)) && (x.A == 0)) = true := by simp [a1.1, a1.2.1, a1.2.2.1, a1.2.2.2]
              rw [this, if_pos rfl, ck61_true l hi6, if_pos a1]; simp [h5]; rfl
            · have : ((((e.Task.State == 1) && (e.last.Kind == 2)) && (e.last.A == 9)) && (x.A == 0)) = false := by
                rw [← Bool.not_eq_true]; intro h; apply a1; simp at h; exact ⟨h.1.1.1, h.1.1.2, h.1.2, h.2⟩
              rw [this, if_neg (by simp), (ck61_false h), if_neg a1]
          · rw [if_neg (by simp [h5]), if_neg h5]
            by_cases h6 : x.Kind = 6
            · rw [if_pos (by simp [h6]), if_pos h6]
              by_cases a1 : e.Task.State ≠ 7 ∧ x.A = 0
              · have : ((e.Task.State != 7) && (x.A == 0)) = true := by simp [a1.1, a1.2]
                rw [this, if_pos rfl, ck61_true l hi6, if_pos a1]; simp [h6]; rfl
              · have : ((e.Task.State != 7) && (x.A == 0)) = false := by
                  rw [← Bool.not_eq_true]; intro h; apply a1; simp at h; exact h
                rw [this, if_neg (by simp), (ck61_false h), if_neg a1]
            · rw [if_neg (by simp [h6]), if_neg h6, (ck61_false h)]
theorem tk61_false {l : List api_Event} {i : Nat} (h : i < l.length) (b : List Int) (m : Mp) : go_trace_Tasks_j62 l (i : Int) false b m = some (.inr (([] : List api_Task), (2 : Int))) := by
  unfold go_trace_Tasks_j62 go_trace_Tasks_j41 go_trace_Tasks_j42
  rw [if_pos (by rfl), if_neg (by simp), if_pos (by simpa using h)]; rfl
theorem tk61_true (l : List api_Event) {i : Nat} (hi : i < 1000000) (b : List Int) (m : Mp) : go_trace_Tasks_j62 l (i : Int) true b m = some (.inl (((i + 1 : Nat) : Int), b, m)) := by
  unfold go_trace_Tasks_j62
  rw [if_neg (by simp), w64_nat (by omega)]; rfl
theorem tk61_if {l : List api_Event} {i : Nat} (h : i < l.length) (hi : i < 1000000) (c : Bool) (b : List Int) (m : Mp) : go_trace_Tasks_j62 l (i : Int) c b m = if c = true then some (.inl (((i + 1 : Nat) : Int), b, m)) else some (.inr (([] : List api_Task), (2 : Int))) := by
  cases c with
  | true => rw [tk61_true l hi]; rfl
  | false => rw [tk61_false h]; rfl
theorem tk62_eq (l : List api_Event) (i : Int) (c : Bool) (b : List Int) (m : Mp) : go_trace_Tasks_j63 l i c b m = go_trace_Tasks_j62 l i c b m := rfl
theorem tkstep {ps : List (List api_Instr)} (hp : poks ps) {l : List api_Event} (hl : l.length ≤ 65536) {i : Nat} (h : i < l.length) {b : List Int} (hb : b.length ≤ i) {m : Mp} (hm : MGood ps m) :
    go_trace_Tasks_s58 ps l ((i : Int), b, m) = roundC (([] : List api_Task), (2 : Int)) ps l i b m h := by
  have hi6 : i < 1000000 := by omega
  rw [go_trace_Tasks_s58, if_pos (by simpa using h), if_pos (by omega), gt_nat h]
  unfold roundC
  generalize hx : l[i] = x
  cases hg : mget m x.Id with
  | none =>
    simp only [mcase]
    rw [new_eq, Option.bind_some]
    unfold nwR mayS
    by_cases hc : chk (newT x.Id 0 x.A) = true
    · rw [if_pos hc]
      simp only
      rw [if_neg (by simp)]
      by_cases hk : x.Kind = 1
      · rw [if_neg (by simp [hk])]
        by_cases ha : x.A < ps.length
        · rw [if_neg (by simpa using ha), if_pos (few_le (by simp; omega)), if_pos ⟨hc, hk, ha⟩, tk62_eq, tk61_true l hi6, if_pos hk]
        · rw [if_pos (by simp; omega), if_neg (fun h' => ha h'.2.2), tk62_eq, (tk61_false h)]
      · rw [if_pos (by simp [hk]), if_neg (fun h' => hk h'.2.1), tk62_eq, (tk61_false h)]
    · rw [if_neg hc]
      simp only
      rw [if_pos (by simp), if_neg (fun h' => hc h'.1), tk62_eq, (tk61_false h)]
  | some e =>
    simp only [mcase]
    have hge := hm _ _ hg
    unfold mayS
    simp only
    by_cases h2 : x.Kind = 2
    · rw [if_pos (by simp [h2]), if_pos h2, if_pos (show 0 ≤ e.Task.Prog ∧ e.Task.Prog < (ps.length : Int) from hge)]
      have key := did_eq hp hge (x := x) (γ := (Int × List Int × Mp) ⊕ (List api_Task × Int)) (.inr (([] : List api_Task), (2 : Int))) (fun t => .inl (((i + 1 : Nat) : Int), b, mput m x.Id ⟨t, x⟩)) (fun t c => if c = true then .inl (((i + 1 : Nat) : Int), b, mput m x.Id ⟨t, x⟩) else .inr (([] : List api_Task), (2 : Int))) (fun _ _ => rfl)
      have hsome : ∀ (c : Bool) (t : api_Task), go_trace_Tasks_j62 l (i : Int) c b (mput m x.Id ⟨t, x⟩) = some (if c = true then .inl (((i + 1 : Nat) : Int), b, mput m x.Id ⟨t, x⟩) else .inr (([] : List api_Task), (2 : Int))) := fun c t => by
        rw [tk61_if h hi6]; cases c <;> rfl
      simp only [hsome, if_true, if_false, Bool.false_eq_true]
      refine Eq.trans ?_ (key.trans ?_)
      · rfl
      · split
        · simp only [h2]; rfl
        · rfl
    · rw [if_neg (by simp [h2]), if_neg h2]
      have hk1 : ∀ e', mayS ps (some e) x = some e' → ¬ x.Kind = 1 := fun e' he hk => by
        have := (may_kind he).1 hk; cases this
      by_cases h3 : x.Kind = 3
      · rw [if_pos (by simp [h3]), if_pos h3]
        by_cases a1 : e.Task.State = 1
        · rw [if_pos (by simp [a1])]
          by_cases a2 : e.last.Kind = 2
          · rw [if_pos (by simp [a2])]
            by_cases a3 : x.A = 0
            · rw [if_neg (by simp [a3]), (tk61_false h), if_neg (fun h' => h'.2.2.1 a3)]
            · rw [if_pos (by simp [a3])]
              by_cases a4 : x.A = go_trace_Held e.last.A
              · have : (x.A == go_trace_Held e.last.A) = true := by simp [← a4]
                rw [this, if_pos rfl, tk61_true l hi6, if_pos ⟨a1, a2, a3, a4⟩]; simp [h3]; rfl
              · have : (x.A == go_trace_Held e.last.A) = false := by simpa using a4
                rw [this, if_neg (by simp), (tk61_false h), if_neg (fun h' => a4 h'.2.2.2)]
          · rw [if_neg (by simp [a2]), (tk61_false h), if_neg (fun h' => a2 h'.2.1)]
        · rw [if_neg (by simp [a1]), (tk61_false h), if_neg (fun h' => a1 h'.1)]
      · rw [if_neg (by simp [h3]), if_neg h3]
        by_cases h4 : x.Kind = 4
        · rw [if_pos (by simp [h4]), if_pos h4]
          by_cases a1 : 3 ≤ e.Task.State ∧ e.Task.State ≤ 6 ∧ x.A = 0
          · have : (go_life_Waits e.Task.State && (x.A == 0)) = true := by simp [go_life_Waits, a1.1, a1.2.1, a1.2.2]
            rw [this, if_pos rfl, tk61_true l hi6, if_pos a1]; simp [h4]; rfl
          · have : (go_life_Waits e.Task.State && (x.A == 0)) = false := by
              rw [← Bool.not_eq_true]; intro h; apply a1; simp [go_life_Waits] at h; omega
            rw [this, if_neg (by simp), (tk61_false h), if_neg a1]
        · rw [if_neg (by simp [h4]), if_neg h4]
          by_cases h5 : x.Kind = 5
          · rw [if_pos (by simp [h5]), if_pos h5]
            by_cases a1 : e.Task.State = 1 ∧ e.last.Kind = 2 ∧ e.last.A = 9 ∧ x.A = 0
            · have : ((((e.Task.State == 1) && (e.last.Kind == 2)) && (e.last.A == 9)) && (x.A == 0)) = true := by simp [a1.1, a1.2.1, a1.2.2.1, a1.2.2.2]
              rw [this, if_pos rfl, tk61_true l hi6, if_pos a1]; simp [h5]; rfl
            · have : ((((e.Task.State == 1) && (e.last.Kind == 2)) && (e.last.A == 9)) && (x.A == 0)) = false := by
                rw [← Bool.not_eq_true]; intro h; apply a1; simp at h; exact ⟨h.1.1.1, h.1.1.2, h.1.2, h.2⟩
              rw [this, if_neg (by simp), (tk61_false h), if_neg a1]
          · rw [if_neg (by simp [h5]), if_neg h5]
            by_cases h6 : x.Kind = 6
            · rw [if_pos (by simp [h6]), if_pos h6]
              by_cases a1 : e.Task.State ≠ 7 ∧ x.A = 0
              · have : ((e.Task.State != 7) && (x.A == 0)) = true := by simp [a1.1, a1.2]
                rw [this, if_pos rfl, tk61_true l hi6, if_pos a1]; simp [h6]; rfl
              · have : ((e.Task.State != 7) && (x.A == 0)) = false := by
                  rw [← Bool.not_eq_true]; intro h; apply a1; simp at h; exact h
                rw [this, if_neg (by simp), (tk61_false h), if_neg a1]
            · rw [if_neg (by simp [h6]), if_neg h6, (tk61_false h)]

end Go.Proofs.YtpkegoikocfchaaDoor
