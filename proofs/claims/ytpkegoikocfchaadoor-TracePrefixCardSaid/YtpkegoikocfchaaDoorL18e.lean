/- Helper lemmas for the claim's theorem: an abstract machine over the model, proved sound; no condition beyond each lemma's own. -/
import Derived.Test.YtpkegoikocfchaaDoorL18d
set_option linter.unusedVariables false
set_option linter.unusedSimpArgs false
set_option linter.unnecessarySimpa false
set_option linter.unusedSectionVars false
/- Plain laws on the printed functions. -/
namespace Go.Proofs.YtpkegoikocfchaaDoor
open Go Go.AM
set_option maxRecDepth 100000
set_option maxHeartbeats 1000000
set_option linter.unusedVariables false
set_option linter.unusedSimpArgs false
def stC (i : Nat) (b : List Int) (m : Mp) : Int × List Int × Mp := ((i : Int), b, m)
theorem check_loop {ps : List (List api_Instr)} (hp : poks ps) {l : List api_Event} (hl : l.length ≤ 65536) : ∀ (k i : Nat) (b : List Int) (m : Mp), i + k = l.length → b.length ≤ i → MGood ps m →
    whileO (go_trace_Check_s57 ps l) (stC i b m) = some (((i + runN ps m (l.drop i) : Nat) : Int), 0)
  | 0, i, b, m, h, hb, hm => by
    have : i = l.length := by omega
    subst this
    rw [List.drop_length]
    refine whileO_inr (k := _) ?_
    rw [stC, go_trace_Check_s57, if_neg (by simp)]
    unfold go_trace_Check_j41 go_trace_Check_j42
    rw [if_pos (by simp)]; rfl
  | k + 1, i, b, m, h, hb, hm => by
    have hi : i < l.length := by omega
    have hst := ckstep hp hl hi hb hm
    unfold roundC at hst
    rw [List.drop_eq_getElem_cons hi]
    simp only [runN]
    cases he : mayS ps (mget m l[i].Id) l[i] with
    | none =>
      rw [he] at hst
      exact whileO_inr hst
    | some e =>
      rw [he] at hst
      rw [show stC i b m = ((i : Int), b, m) from rfl, whileO_inl hst]
      have := check_loop hp hl k (i + 1) (if l[i].Kind = 1 then b ++ [l[i].Id] else b) (mput m l[i].Id e) (by omega) (by split <;> (try rw [List.length_append, List.length_singleton]) <;> omega) (hm.put he)
      rw [show ∀ (b : List Int) (m : Mp), (((i + 1 : Nat) : Int), b, m) = stC (i + 1) b m from fun _ _ => rfl, this]
      simp only [Option.some.injEq, Prod.mk.injEq, and_true]
      omega
theorem mgood0 (ps : List (List api_Instr)) : MGood ps [] := fun k e h => by cases h
def ckR (ps : List (List api_Instr)) (l : List api_Event) : Int × Int := if ckAll ps = true ∧ l.length ≤ 65536 then ((runN ps [] l : Nat), 0) else (0, 1)
theorem tcheck_eq {ps : List (List api_Instr)} (hp : poks ps) (l : List api_Event) : go_trace_Check ps l = some (ckR ps l) := by
  unfold go_trace_Check ckR
  rw [checkAll_eq hp, Option.bind_some]
  cases hc : ckAll ps with
  | false => simp
  | true =>
    by_cases hl : l.length ≤ 65536
    · rw [if_neg (by simp; omega), if_pos ⟨rfl, hl⟩]
      have := check_loop hp hl l.length 0 [] [] (by omega) (by simp) (mgood0 ps)
      simpa [stC] using this
    · rw [if_pos (by simp; omega), if_neg (fun h => hl h.2)]
def exP : List (List api_Instr) := [[(api_Instr.mk 1 1 0), (api_Instr.mk 9 0 0)]]
def exL : List api_Event := [(api_Event.mk 1 7 0), (api_Event.mk 2 7 1), (api_Event.mk 2 7 9), (api_Event.mk 5 7 0)]
theorem exP_ok : poks exP := by
  unfold poks exP pok
  refine ⟨by simp, fun p hp => ?_⟩
  simp only [List.mem_singleton] at hp
  subst hp
  refine ⟨by simp, by simp, fun x hx => ?_⟩
  simp only [List.mem_cons, List.not_mem_nil, or_false] at hx
  rcases hx with rfl | rfl <;> exact ⟨by decide, by decide⟩
theorem tlive_eq : go_ravellaw18_live = some true := by
  unfold go_ravellaw18_live
  have := tcheck_eq exP_ok exL
  unfold exP exL at this
  rw [this, Option.bind_some]
  have h : ckR exP exL = (4, 0) := by decide
  unfold exP exL at h
  rw [h]; rfl

end Go.Proofs.YtpkegoikocfchaaDoor
