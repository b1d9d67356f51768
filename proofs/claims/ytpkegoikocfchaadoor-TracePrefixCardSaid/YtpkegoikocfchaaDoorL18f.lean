/- Helper lemmas for the claim's theorem: an abstract machine over the model, proved sound; no condition beyond each lemma's own. -/
import Derived.Test.YtpkegoikocfchaaDoorL18e
set_option linter.unusedVariables false
set_option linter.unusedSimpArgs false
set_option linter.unnecessarySimpa false
set_option linter.unusedSectionVars false
/- Plain laws on the printed functions. -/
namespace Go.Proofs.YtpkegoikocfchaaDoor
open Go Go.AM
set_option maxRecDepth 100000
set_option maxHeartbeats 1000000
set_option linter.unusedVariables false
set_option linter.unusedSimpArgs false
theorem cut_in {a N n : Int} (hN : 1 ≤ N) (hN2 : N ≤ 1000) (hn : n = N - 1) : 0 ≤ Int.tmod (IntKind.i64.wrap (IntKind.i64.wrap (Int.tmod a N + n) + 1)) N ∧ Int.tmod (IntKind.i64.wrap (IntKind.i64.wrap (Int.tmod a N + n) + 1)) N < N := by
  have h1 := Int.tmod_lt_of_pos a (b := N) (by omega)
  have h2 : -N < Int.tmod a N := Int.lt_tmod_of_pos a (by omega)
  rw [w64_id (n := Int.tmod a N + n) (by omega) (by omega), w64_id (by omega) (by omega), Int.tmod_eq_emod_of_nonneg (by omega)]
  exact ⟨Int.emod_nonneg _ (by omega), Int.emod_lt_of_pos _ (by omega)⟩
theorem ckR_if {ps : List (List api_Instr)} {l : List api_Event} (hl : l.length ≤ 65536) : ckR ps l = if ckAll ps = true then (((runN ps [] l : Nat) : Int), 0) else (0, 1) := by
  unfold ckR
  cases ckAll ps with
  | true => rw [if_pos ⟨rfl, hl⟩, if_pos rfl]
  | false => rfl
theorem tracePrefix_true {ps : List (List api_Instr)} {l : List api_Event} {c : Int} (hn : ps.length ≤ 9223372036854775807) (ha : ∀ p ∈ ps, ∀ x ∈ p, i64ok x.A) (hl : l.length ≤ 9223372036854775807) : go_ravellaw18_TracePrefix ps l c = some true := by
  unfold go_ravellaw18_TracePrefix
  obtain ⟨r, h1, h2⟩ := few_poks hn ha
  rw [tlive_eq, h1]
  simp only [Option.bind_some]
  cases r with
  | false => rfl
  | true =>
    obtain ⟨hp, _, _⟩ := h2 rfl
    by_cases h200 : l.length ≤ 200
    · rw [if_neg (by simp; omega), w64_id (n := (l.length : Int) + 1) (by omega) (by omega), if_pos (by omega), if_pos (by omega), tcheck_eq hp, Option.bind_some]
      have hc := cut_in (a := c) (N := (l.length : Int) + 1) (n := (l.length : Int)) (by omega) (by omega) (by omega)
      generalize hk : Int.tmod (IntKind.i64.wrap (IntKind.i64.wrap (Int.tmod c ((l.length : Int) + 1) + (l.length : Int)) + 1)) ((l.length : Int) + 1) = k at hc ⊢
      have hlt : (l.take k.toNat).length ≤ 65536 := by rw [List.length_take]; omega
      rw [if_pos (by omega), tcheck_eq hp, Option.bind_some, sub_take' l k, ckR_if (by omega), ckR_if hlt, runN_take, checkAll_eq hp]
      have hle := runN_le (ps := ps) l []
      cases hca : ckAll ps with
      | false => simp
      | true =>
        simp only [if_true, Option.bind_some]
        rw [if_pos]
        · rfl
        · simp only [Bool.true_and, beq_self_eq_true, bne_self_eq_false, Bool.false_or, beq_iff_eq]
          split <;> omega
    · rw [if_pos (by simp; omega)]
  where sub_take' (l : List api_Event) (k : Int) : sub l 0 k = l.take k.toNat := by simp [sub]
end Go.Proofs.YtpkegoikocfchaaDoor
