/- Helper lemmas for the claim's theorem: an abstract machine over the model, proved sound; no condition beyond each lemma's own. -/
import Derived.Test.YtpkegoikocfchaaDoorL18f
set_option linter.unusedVariables false
set_option linter.unusedSimpArgs false
set_option linter.unnecessarySimpa false
set_option linter.unusedSectionVars false
/- Plain laws on the printed functions. -/
namespace Go.Proofs.YtpkegoikocfchaaDoor
open Go Go.AM
set_option maxRecDepth 100000
set_option maxHeartbeats 1000000
set_option linter.unusedVariables false
set_option linter.unusedSimpArgs false
theorem runN_app {ps : List (List api_Instr)} : ∀ (l r : List api_Event) (m : Mp), runN ps m l = l.length → runN ps m (l ++ r) = l.length + runN ps (runM ps m l) r
  | [], r, m, _ => by simp [runM]
  | x :: l, r, m, h => by
    simp only [runN, List.length_cons, List.cons_append, runM] at h ⊢
    cases he : mayS ps (mget m x.Id) x with
    | none => rw [he] at h; simp at h
    | some e =>
      rw [he] at h
      simp only at h ⊢
      rw [runN_app l r _ (by omega)]; omega
/-- What is known of a task, by its own events. -/
def lastOk (e : trace_seen) : Prop := (e.last.Kind = 5 ∨ e.last.Kind = 6) → e.Task.State = 7
theorem may_last {ps : List (List api_Instr)} {s : Option trace_seen} {x : api_Event} {e : trace_seen} (h : mayS ps s x = some e) : lastOk e := by
  unfold mayS at h
  cases s with
  | none =>
    simp only at h
    split at h
    · rename_i hc
      injection h with h; subst h
      intro h; simp only at h; omega
    · cases h
  | some e0 =>
    simp only at h
    repeat' split at h
    all_goals first | (cases h; done) | (injection h with h; subst h; intro hk; simp only at hk; first | rfl | omega)
theorem may_over {ps : List (List api_Instr)} {e : trace_seen} {x : api_Event} (h : e.Task.State = 7) : mayS ps (some e) x = none := by
  unfold mayS
  simp only
  repeat' split
  all_goals first | rfl | (rename_i hc; exfalso; first | omega | (have := hc.2.1; omega) | (have := hc.1; omega))
theorem life_last {ps : List (List api_Instr)} : ∀ (own : List api_Event) (s : Option trace_seen) (e : trace_seen), lifeO ps s own = some (some e) → own ≠ [] → e.last = own.getLast! ∧ lastOk e
  | [], _, _, _, h => absurd rfl h
  | x :: r, s, e, h, _ => by
    rw [lifeO] at h
    cases he : mayS ps s x with
    | none => rw [he] at h; cases h
    | some e0 =>
      rw [he] at h
      simp only at h
      cases r with
      | nil =>
        simp only [lifeO, Option.some.injEq] at h
        subst h
        have hl : e0.last = x := by
          unfold mayS at he
          cases s with
          | none =>
            simp only at he
            split at he
            · injection he with he; subst he; rfl
            · cases he
          | some _ =>
            simp only at he
            repeat' split at he
            all_goals first | (cases he; done) | (injection he with he; subst he; rfl)
        exact ⟨by simpa [List.getLast!] using hl, may_last he⟩
      | cons y r =>
        have := life_last (y :: r) (some e0) e h (by simp)
        simpa [List.getLast!] using this
theorem chk_new {i p : Int} : chk (newT i 0 p) = true ↔ 0 ≤ i ∧ 0 ≤ p ∧ p < 16 := by
  unfold chk newT kept
  simp [go_life_below, go_life_state]
theorem last_get (l : List api_Event) (h : l.length ≠ 0) : l.getLast! = l[l.length - 1]'(by omega) := by
  cases l with
  | nil => exact absurd rfl h
  | cons y r =>
    simp only [List.getLast!, List.length_cons, Nat.add_sub_cancel]
    rw [List.getLast_eq_getElem]; simp
theorem traceMore_true {ps : List (List api_Instr)} {l : List api_Event} {x : api_Event} (hn : ps.length ≤ 9223372036854775807) (ha : ∀ p ∈ ps, ∀ x ∈ p, i64ok x.A) (hl : l.length ≤ 9223372036854775807) : go_ravellaw18_TraceMore ps l x = some true := by
  unfold go_ravellaw18_TraceMore
  obtain ⟨r, h1, h2⟩ := few_poks hn ha
  rw [tlive_eq, h1]
  simp only [Option.bind_some]
  cases r with
  | false => rfl
  | true =>
    obtain ⟨hp, _, _⟩ := h2 rfl
    by_cases h100 : l.length ≤ 100
    · rw [if_neg (by simp; omega), tcheck_eq hp, Option.bind_some, ckR_if (l := l) (by omega)]
      cases hca : ckAll ps with
      | false => rfl
      | true =>
        simp only [if_true]
        by_cases hall : runN ps [] l = l.length
        · rw [if_neg (by simp [hall]), List.nil_append, if_pos (few_le (by omega)), if_pos (few_le (by simp; omega)), tcheck_eq hp, Option.bind_some, tof_eq (by omega), Option.bind_some, ckR_if (by simp; omega), if_pos hca, runN_app l [x] [] hall, hall]
          have hmap := run_map l [] hall x.Id
          rw [show mget ([] : Mp) x.Id = none from rfl] at hmap
          have hq : runN ps (runM ps [] l) [x] = (match mayS ps (mget (runM ps [] l) x.Id) x with | none => 0 | some _ => 1) := by
            simp only [runN]; cases mayS ps (mget (runM ps [] l) x.Id) x <;> rfl
          generalize runN ps (runM ps [] l) [x] = q at hq ⊢
          have hps : ps.length ≤ 16 := by
            unfold ckAll at hca; simp at hca; omega
          have hone : ∀ q : Nat, q ≤ 1 → (((0 : Int) != 0) || decide (((l.length + q : Nat) : Int) < (l.length : Int)) || decide (((l.length + q : Nat) : Int) > IntKind.i64.wrap ((l.length : Int) + 1))) = false := fun q hq => by
            rw [w64_id (by omega) (by omega)]; simp; omega
          cases hg : mget (runM ps [] l) x.Id with
          | none =>
            rw [hg] at hmap hq
            have hown : ofL l x.Id = [] := by
              cases ho : ofL l x.Id with
              | nil => rfl
              | cons y r =>
                rw [ho] at hmap
                rw [lifeO] at hmap
                cases he : mayS ps none y with
                | none => rw [he] at hmap; cases hmap
                | some e0 =>
                  rw [he] at hmap
                  simp only at hmap
                  have : ∀ (r : List api_Event) (e0 : trace_seen), lifeO ps (some e0) r ≠ some none := by
                    intro r
                    induction r with
                    | nil => intro e0 h; simp [lifeO] at h
                    | cons y r ih =>
                      intro e0 h
                      rw [lifeO] at h
                      split at h
                      · cases h
                      · exact ih _ h
                  exact absurd hmap (this r e0)
            rw [hown]
            have hb : ((mayS ps none x).isSome = true) ↔ (((x.Kind = 1 ∧ 0 ≤ x.Id) ∧ 0 ≤ x.A) ∧ x.A < ps.length) := by
              unfold mayS
              simp only [chk_new]
              split
              · rename_i h; simp; omega
              · rename_i h; simp; intro a b c; apply Classical.byContradiction; intro d; apply h; omega
            cases he : mayS ps none x with
            | none =>
              rw [he] at hb hq
              simp only at hq
              subst hq
              simp only
              rw [if_neg (by rw [hone 0 (by omega)]; simp), if_pos (by rfl)]
              rw [w64_id (by omega) (by omega)]
              have hq : ((((x.Kind == 1) && (decide (x.Id ≥ 0))) && (decide (x.A ≥ 0))) && (decide (x.A < (ps.length : Int)))) = false := by
                rw [← Bool.not_eq_true]; intro h; simp at h; have := hb.2 ⟨⟨⟨h.1.1.1, h.1.1.2⟩, h.1.2⟩, h.2⟩; cases this
              rw [hq]; simp; omega
            | some e =>
              rw [he] at hb hq
              simp only at hq
              subst hq
              simp only
              rw [if_neg (by rw [hone 1 (by omega)]; simp), if_pos (by rfl)]
              rw [w64_id (by omega) (by omega)]
              obtain ⟨⟨⟨k1, k2⟩, k3⟩, k4⟩ := hb.1 rfl
              simp [k1, k2, k3, k4]
          | some e =>
            rw [hg] at hmap hq
            have hne : ofL l x.Id ≠ [] := by intro h; rw [h] at hmap; simp [lifeO] at hmap
            have hlen : (ofL l x.Id).length ≠ 0 := fun h => hne (List.length_eq_zero_iff.1 h)
            have hl1 := ofL_le l x.Id
            obtain ⟨hlast, hok⟩ := life_last _ _ _ hmap hne
            have hkind : x.Kind = 1 → mayS ps (some e) x = none := fun hk => by
              cases h : mayS ps (some e) x with
              | none => rfl
              | some e' => have := (may_kind h).1 hk; cases this
            have hgl : gt (ofL l x.Id) (IntKind.i64.wrap (((ofL l x.Id).length : Int) - 1)) = e.last := by
              rw [w64_id (by omega) (by omega), show ((ofL l x.Id).length : Int) - 1 = (((ofL l x.Id).length - 1 : Nat) : Int) by omega, gt_nat (by omega), hlast]
              exact (last_get _ hlen).symm
            cases he : mayS ps (some e) x with
            | none =>
              rw [he] at hq
              simp only at hq
              subst hq
              simp only
              rw [if_neg (by rw [hone 0 (by omega)]; simp), if_neg (by simp; exact hne)]
              split
              · simp
              · rw [if_pos (by rw [w64_id (by omega) (by omega)]; omega)]; simp
            | some e' =>
              have hk1 : ¬ x.Kind = 1 := fun hk => by rw [hkind hk] at he; cases he
              have hs7 : ¬ e.Task.State = 7 := fun h => by rw [may_over h] at he; cases he
              rw [he] at hq
              simp only at hq
              subst hq
              simp only
              rw [if_neg (by rw [hone 1 (by omega)]; simp), if_neg (by simp; exact hne), if_neg (by simpa using hk1), if_pos (by rw [w64_id (by omega) (by omega)]; omega), hgl]
              have h5 : ¬ e.last.Kind = 5 := fun h => hs7 (hok (.inl h))
              have h6 : ¬ e.last.Kind = 6 := fun h => hs7 (hok (.inr h))
              simp [h5, h6]
        · rw [if_pos (by simp; omega)]
    · rw [if_pos (by simp; omega)]

end Go.Proofs.YtpkegoikocfchaaDoor
