/- Helper lemmas for the claim's theorem: an abstract machine over the model, proved sound; no condition beyond each lemma's own. -/
import Derived.Test.YtpkegoikocfchaaDoorL18g
set_option linter.unusedVariables false
set_option linter.unusedSimpArgs false
set_option linter.unnecessarySimpa false
set_option linter.unusedSectionVars false
/- Plain laws on the printed functions. -/
namespace Go.Proofs.YtpkegoikocfchaaDoor
open Go Go.AM
set_option maxRecDepth 100000
set_option maxHeartbeats 1000000
set_option linter.unusedVariables false
set_option linter.unusedSimpArgs false
/-- The state of the reference's loop. -/
abbrev OnS := Int × Int × Int × Int × Int × Int × Int × Int × Int × Int × Int × Int
def onS (i : Nat) (t : api_Task) : OnS := ((i : Int), t.Id, t.Tenant, t.Prog, t.Pc, t.Unit, t.Keeps.a0, t.Keeps.a1, t.Keeps.a2, t.Keeps.a3, t.State, t.Ran)
theorem fit_un {t : api_Task} {p : List api_Instr} (hs : t.State = 1) (h : fitB t p = false) : fitB (Tk.to t 2) p = false := by
  rw [← Bool.not_eq_true] at h ⊢
  intro h2
  apply h
  have := fit_to (s := 1) h2 (by decide)
  rw [to_to] at this
  have e : Tk.to t 1 = t := by
    obtain ⟨a, b, c, d, e, f, g, i⟩ := t
    simp only at hs; subst hs; rfl
  rwa [e] at this
theorem held_eq (n : Int) : go_trace_Held n = go_ravelref18_Held n := by
  unfold go_trace_Held go_ravelref18_Held
  by_cases h : 4 ≤ n ∧ n ≤ 7
  · have : n = 4 ∨ n = 5 ∨ n = 6 ∨ n = 7 := by omega
    rcases this with rfl | rfl | rfl | rfl <;> rfl
  · rw [if_neg (by simp; omega), if_neg (by simp; omega), if_neg (by simp; omega), if_neg (by simp; omega), if_neg (by simp; omega)]
theorem one_first {ps : List (List api_Instr)} {own : List api_Event} (hl : own.length ≤ 65536) (h : 0 < own.length) (t : api_Task) :
    go_ravelref18_One_s1 ps own (onS 0 t) = match mayS ps none own[0] with | none => some (.inr (t, false)) | some e => some (.inl (onS 1 e.Task)) := by
  rw [onS, go_ravelref18_One_s1, if_pos (by simpa using h), if_pos (by omega), gt_nat h, if_pos (by rfl), rnew_eq, Option.bind_some]
  generalize hx : own[0] = x
  unfold nwR mayS
  by_cases hc : chk (newT x.Id 0 x.A) = true
  · rw [if_pos hc]
    simp only
    by_cases hk : x.Kind = 1
    · by_cases ha : x.A < ps.length
      · rw [if_neg (by simp [hk]; omega), if_pos ⟨hc, hk, ha⟩]; rfl
      · rw [if_pos (by simp; omega), if_neg (fun h => ha h.2.2)]; rfl
    · rw [if_pos (by simp [hk]), if_neg (fun h => hk h.2.1)]; rfl
  · rw [if_neg hc]
    simp only
    rw [if_pos (by simp), if_neg (fun h => hc h.1)]; rfl
theorem one_step {ps : List (List api_Instr)} (hp : poks ps) {own : List api_Event} (hl : own.length ≤ 65536) {i : Nat} (h : i < own.length) (hi0 : 0 < i) {e0 : trace_seen} (hg : gdS ps e0) (hlast : e0.last = own[i - 1]) :
    (∃ t', mayS ps (some e0) own[i] = none ∧ go_ravelref18_One_s1 ps own (onS i e0.Task) = some (.inr (t', false))) ∨
    ∃ e, mayS ps (some e0) own[i] = some e ∧ go_ravelref18_One_s1 ps own (onS i e0.Task) = some (.inl (onS (i + 1) e.Task)) := by
  have hw : IntKind.i64.wrap ((i : Int) - 1) = ((i - 1 : Nat) : Int) := by rw [w64_id (by omega) (by omega)]; omega
  rw [onS, go_ravelref18_One_s1, if_pos (by simpa using h), if_pos (by omega), gt_nat h, if_neg (by simp; omega), hw, if_pos (by omega), gt_nat (show i - 1 < own.length by omega), ← hlast, w64_nat (by omega)]
  generalize hx : own[i] = x
  obtain ⟨t, lst⟩ := e0
  simp only at hlast hg ⊢
  have hpk : pok (gt ps t.Prog) := by
    have : gt ps t.Prog ∈ ps := by
      have h1 : t.Prog = ((t.Prog.toNat : Nat) : Int) := by have := hg.1; simp only at this; omega
      have h2 : t.Prog.toNat < ps.length := by have a := hg.1; have b := hg.2; simp only at a b; omega
      rw [h1, gt_nat h2]; exact List.getElem_mem _
    exact (hp.2 _ this).2
  have hm2 : x.Kind = 2 → mayS ps (some ⟨t, lst⟩) x = if fitB t (gt ps t.Prog) = true ∧ t.State = 1 ∧ (insN t (gt ps t.Prog)).Op = x.A ∧ ¬ (lst.Kind = 2 ∧ lst.A = 9) ∧ t.Ran ≠ 1099511627776 then some ⟨Tk.to (doT (Tk.to t 2) (gt ps t.Prog)) 1, x⟩ else none := fun h => by
    unfold mayS; simp only; rw [if_pos h]
  have hm3 : x.Kind = 3 → mayS ps (some ⟨t, lst⟩) x = if t.State = 1 ∧ lst.Kind = 2 ∧ x.A ≠ 0 ∧ x.A = go_trace_Held lst.A then some ⟨Tk.to t x.A, x⟩ else none := fun h => by
    unfold mayS; simp only; rw [if_neg (show ¬ x.Kind = 2 by omega), if_pos h]
  have hm4 : x.Kind = 4 → mayS ps (some ⟨t, lst⟩) x = if 3 ≤ t.State ∧ t.State ≤ 6 ∧ x.A = 0 then some ⟨Tk.to t 1, x⟩ else none := fun h => by
    unfold mayS; simp only; rw [if_neg (show ¬ x.Kind = 2 by omega), if_neg (show ¬ x.Kind = 3 by omega), if_pos h]
  have hm5 : x.Kind = 5 → mayS ps (some ⟨t, lst⟩) x = if t.State = 1 ∧ lst.Kind = 2 ∧ lst.A = 9 ∧ x.A = 0 then some ⟨Tk.to t 7, x⟩ else none := fun h => by
    unfold mayS; simp only; rw [if_neg (show ¬ x.Kind = 2 by omega), if_neg (show ¬ x.Kind = 3 by omega), if_neg (show ¬ x.Kind = 4 by omega), if_pos h]
  have hm6 : x.Kind = 6 → mayS ps (some ⟨t, lst⟩) x = if t.State ≠ 7 ∧ x.A = 0 then some ⟨Tk.to t 7, x⟩ else none := fun h => by
    unfold mayS; simp only; rw [if_neg (show ¬ x.Kind = 2 by omega), if_neg (show ¬ x.Kind = 3 by omega), if_neg (show ¬ x.Kind = 4 by omega), if_neg (show ¬ x.Kind = 5 by omega), if_pos h]
  have hm0 : ¬ x.Kind = 2 → ¬ x.Kind = 3 → ¬ x.Kind = 4 → ¬ x.Kind = 5 → ¬ x.Kind = 6 → mayS ps (some ⟨t, lst⟩) x = none := fun a b c d e => by
    unfold mayS; simp only; rw [if_neg a, if_neg b, if_neg c, if_neg d, if_neg e]
  by_cases h2 : x.Kind = 2
  · rw [if_pos (by simp [h2]), if_pos (show 0 ≤ t.Prog ∧ t.Prog < (ps.length : Int) from hg)]
    change (∃ t', _ ∧ (go_ravelref13_Next t (gt ps t.Prog)).bind _ = _) ∨ ∃ e, _ ∧ (go_ravelref13_Next t (gt ps t.Prog)).bind _ = _
    rw [rnext_eq hpk]
    simp only [Option.bind_some]
    by_cases hs : t.State = 1
    · by_cases hl9 : lst.Kind = 2 ∧ lst.A = 9
      · left
        rw [if_pos (by simp [hl9.1, hl9.2])]
        exact ⟨_, (hm2 h2).trans (if_neg (fun h => h.2.2.2.1 hl9)), rfl⟩
      · cases hf : fitB t (gt ps t.Prog) with
        | false =>
          left
          have hmm : mayS ps (some ⟨t, lst⟩) x = none := (hm2 h2).trans (if_neg (fun h => by rw [hf] at h; cases h.1))
          have hf2 := fit_un hs hf
          simp only [Bool.false_eq_true, if_false]
          split
          · exact ⟨_, hmm, rfl⟩
          · change ∃ t', _ ∧ (go_ravelref13_Do (Tk.to t 2) (gt ps t.Prog)).bind _ = _
            rw [rdo_eq hpk]
            simp only [Option.bind_some]
            unfold doR
            rw [hf2]
            exact ⟨_, hmm, rfl⟩
        | true =>
          simp only [if_true]
          by_cases ho : (insN t (gt ps t.Prog)).Op = x.A
          · rw [if_neg (by simp [hs, ho]; intro a b; exact absurd ⟨a, b⟩ hl9)]
            change (∃ t', _ ∧ (go_ravelref13_Do (Tk.to t 2) (gt ps t.Prog)).bind _ = _) ∨ ∃ e, _ ∧ (go_ravelref13_Do (Tk.to t 2) (gt ps t.Prog)).bind _ = _
            rw [rdo_eq hpk]
            simp only [Option.bind_some]
            by_cases hr : t.Ran = 1099511627776
            · left
              have hmm : mayS ps (some ⟨t, lst⟩) x = none := (hm2 h2).trans (if_neg (fun h => h.2.2.2.2 hr))
              have hdr : doR (Tk.to t 2) (gt ps t.Prog) = (api_Task.zero, api_Effect.zero, 4) := by
                unfold doR
                rw [if_pos (fit_to hf (by decide)), if_pos (show (Tk.to t 2).State = 2 from rfl), if_pos (show (Tk.to t 2).Ran = _ from hr)]
              rw [hdr]
              exact ⟨_, hmm, rfl⟩
            · right
              have hok : okS (Tk.to t 2) (gt ps t.Prog) := ⟨fit_to hf (by decide), rfl, hr⟩
              rw [doR_ok hok]
              exact ⟨_, (hm2 h2).trans (if_pos ⟨hf, hs, ho, hl9, hr⟩), rfl⟩
          · left
            rw [if_pos (by simp; exact .inr (fun e => ho e.symm))]
            exact ⟨_, (hm2 h2).trans (if_neg (fun h => ho h.2.2.1)), rfl⟩
    · left
      rw [if_pos (by simp [hs])]
      exact ⟨_, (hm2 h2).trans (if_neg (fun h => hs h.2.1)), rfl⟩
  · rw [if_neg (by simp [h2])]
    by_cases h3 : x.Kind = 3
    · rw [if_pos (by simp [h3])]
      by_cases a1 : t.State = 1
      · rw [if_neg (by simp [a1])]
        by_cases a2 : lst.Kind = 2
        · rw [if_neg (by simp [a2])]
          by_cases a3 : x.A = 0
          · left; rw [if_pos (by simp [a3])]; exact ⟨_, (hm3 h3).trans (if_neg (fun h => h.2.2.1 a3)), rfl⟩
          · rw [if_neg (by simp [a3]), ← held_eq]
            by_cases a4 : x.A = go_trace_Held lst.A
            · right; rw [if_neg (by simp [← a4])]; exact ⟨_, (hm3 h3).trans (if_pos ⟨a1, a2, a3, a4⟩), rfl⟩
            · left; rw [if_pos (by simpa using a4)]; exact ⟨_, (hm3 h3).trans (if_neg (fun h => a4 h.2.2.2)), rfl⟩
        · left; rw [if_pos (by simp [a2])]; exact ⟨_, (hm3 h3).trans (if_neg (fun h => a2 h.2.1)), rfl⟩
      · left; rw [if_pos (by simp [a1])]; exact ⟨_, (hm3 h3).trans (if_neg (fun h => a1 h.1)), rfl⟩
    · rw [if_neg (by simp [h3])]
      by_cases h4 : x.Kind = 4
      · rw [if_pos (by simp [h4])]
        by_cases a1 : 3 ≤ t.State ∧ t.State ≤ 6 ∧ x.A = 0
        · right; rw [if_neg (by simp [go_ravelref12_Waits, a1.1, a1.2.1, a1.2.2])]; exact ⟨_, (hm4 h4).trans (if_pos a1), rfl⟩
        · left; rw [if_pos (by rw [Bool.or_eq_true]; simp [go_ravelref12_Waits]; omega)]; exact ⟨_, (hm4 h4).trans (if_neg a1), rfl⟩
      · rw [if_neg (by simp [h4])]
        by_cases h5 : x.Kind = 5
        · rw [if_pos (by simp [h5])]
          by_cases a1 : t.State = 1 ∧ lst.Kind = 2 ∧ lst.A = 9 ∧ x.A = 0
          · right; rw [if_neg (by simp [a1.1, a1.2.1, a1.2.2.1, a1.2.2.2])]; exact ⟨_, (hm5 h5).trans (if_pos a1), rfl⟩
          · left; rw [if_pos (by simp; omega)]; exact ⟨_, (hm5 h5).trans (if_neg a1), rfl⟩
        · rw [if_neg (by simp [h5])]
          by_cases h6 : x.Kind = 6
          · skip
            by_cases a1 : t.State ≠ 7 ∧ x.A = 0
            · right; rw [if_neg (by simp [h6, a1.1, a1.2])]; exact ⟨_, (hm6 h6).trans (if_pos a1), rfl⟩
            · left; rw [if_pos (by simp [h6]; omega)]; exact ⟨_, (hm6 h6).trans (if_neg a1), rfl⟩
          · left; rw [if_pos (by simp [h6])]; exact ⟨_, hm0 h2 h3 h4 h5 h6, rfl⟩
theorem one_loop {ps : List (List api_Instr)} (hp : poks ps) {own : List api_Event} (hl : own.length ≤ 65536) : ∀ (k i : Nat) (e0 : trace_seen), i + k = own.length → (hi : 0 < i) → gdS ps e0 → (hil : i ≤ own.length) → e0.last = own[i - 1]'(by omega) →
    ∃ t', whileO (go_ravelref18_One_s1 ps own) (onS i e0.Task) = some (t', (lifeO ps (some e0) (own.drop i)).isSome) ∧ ∀ e, lifeO ps (some e0) (own.drop i) = some (some e) → t' = e.Task
  | 0, i, e0, h, hi, hg, hil, hlast => by
    have : i = own.length := by omega
    subst this
    rw [List.drop_length]
    refine ⟨e0.Task, whileO_inr ?_, fun e h => ?_⟩
    · rw [onS, go_ravelref18_One_s1, if_neg (by simp)]; rfl
    · simp only [lifeO, Option.some.injEq] at h; rw [h]
  | k + 1, i, e0, h, hi, hg, hil, hlast => by
    have hlt : i < own.length := by omega
    rw [List.drop_eq_getElem_cons hlt, lifeO]
    rcases one_step hp hl hlt hi hg hlast with ⟨t', h1, h2⟩ | ⟨e, h1, h2⟩
    · rw [h1]
      exact ⟨t', whileO_inr h2, fun e h => by cases h⟩
    · rw [h1]
      simp only
      have hgd := gd_may (fun e' he' => by cases he'; exact hg) h1
      rw [whileO_inl h2]
      exact one_loop hp hl k (i + 1) e (by omega) (by omega) hgd.1 (by omega) (by rw [hgd.2]; rfl)
theorem one_eq {ps : List (List api_Instr)} (hp : poks ps) {own : List api_Event} (hl : own.length ≤ 65536) : ∃ t', go_ravelref18_One ps own = some (t', (lifeO ps none own).isSome) ∧ ∀ e, lifeO ps none own = some (some e) → t' = e.Task := by
  unfold go_ravelref18_One
  rw [show ((0, 0, 0, 0, 0, 0, 0, 0, 0, 0, 0, 0) : OnS) = onS 0 api_Task.zero from rfl]
  by_cases h : own.length = 0
  · have : own = [] := List.length_eq_zero_iff.1 h
    subst this
    refine ⟨api_Task.zero, whileO_inr ?_, fun e h => by simp [lifeO] at h⟩
    rw [onS, go_ravelref18_One_s1, if_neg (by simp)]; rfl
  · have hlt : 0 < own.length := by omega
    have hf := one_first (ps := ps) hl hlt api_Task.zero
    have hd : own = own[0] :: own.drop 1 := by
      have := List.drop_eq_getElem_cons hlt; simpa using this
    have hlf : lifeO ps none own = match mayS ps none own[0] with | none => none | some e => lifeO ps (some e) (own.drop 1) := by
      conv => lhs; rw [hd]
      rfl
    rw [hlf]
    cases he : mayS ps none own[0] with
    | none =>
      rw [he] at hf
      exact ⟨_, whileO_inr hf, fun e h => by cases h⟩
    | some e =>
      rw [he] at hf
      simp only
      have hgd := gd_may (fun e' he' => by cases he') he
      rw [whileO_inl hf]
      exact one_loop hp hl (own.length - 1) 1 e (by omega) (by omega) hgd.1 (by omega) (by rw [hgd.2])

end Go.Proofs.YtpkegoikocfchaaDoor
