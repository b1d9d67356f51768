/- Helper lemmas for the claim's theorem: an abstract machine over the model, proved sound; no condition beyond each lemma's own. -/
import Derived.Test.YtpkegoikocfchaaDoorL18f
set_option linter.unusedVariables false
set_option linter.unusedSimpArgs false
set_option linter.unnecessarySimpa false
set_option linter.unusedSectionVars false
/- Plain laws on the printed functions. -/
namespace Go.Proofs.YtpkegoikocfchaaDoor
open Go Go.AM
set_option maxRecDepth 100000
set_option maxHeartbeats 1000000
set_option linter.unusedVariables false
set_option linter.unusedSimpArgs false
theorem traceAlone_true {ps : List (List api_Instr)} {l : List api_Event} {c : Int} (hn : ps.length ≤ 9223372036854775807) (ha : ∀ p ∈ ps, ∀ x ∈ p, i64ok x.A) (hl : l.length ≤ 9223372036854775807) : go_ravellaw18_TraceAlone ps l c = some true := by
  unfold go_ravellaw18_TraceAlone
  obtain ⟨r, h1, h2⟩ := few_poks hn ha
  rw [tlive_eq, h1]
  simp only [Option.bind_some]
  cases r with
  | false => rfl
  | true =>
    obtain ⟨hp, _, _⟩ := h2 rfl
    by_cases h100 : l.length ≤ 100
    · rw [if_neg (by simp; omega), tcheck_eq hp, Option.bind_some, ckR_if (l := l) (by omega)]
      cases hca : ckAll ps with
      | false => rfl
      | true =>
        simp only [if_true]
        rw [if_neg (by simp)]
        have hloop := alone_loop hp h100 hca c (runN ps [] l : Nat) l.length 0 true (by omega)
        rw [List.drop_zero, Bool.true_and] at hloop
        rw [show ((true, (0 : Int)) : Bool × Int) = (true, ((0 : Nat) : Int)) from rfl, hloop]
        have hall : (l.all fun x => decide (runN ps [] (ofL l x.Id) = (ofL l x.Id).length)) = ((runN ps [] l : Nat) == (l.length : Nat)) := by
          rw [Bool.eq_iff_iff, List.all_eq_true]
          simp only [decide_eq_true_eq, beq_iff_eq]
          exact (all_own l).symm
        rw [hall]
        refine whileO_inr ?_
        have hcast : (((runN ps [] l : Nat) : Int) == ((l.length : Nat) : Int)) = ((runN ps [] l : Nat) == (l.length : Nat)) := by
          rw [Bool.eq_iff_iff]; simp; omega
        rw [go_ravellaw18_TraceAlone_s2, if_neg (by simp), hcast, if_neg (by simp)]
        by_cases hl2 : l.length < 2
        · rw [if_pos (by simp; omega)]; rfl
        · rw [if_neg (by simp; omega), w64_id (n := (l.length : Int) - 1) (by omega) (by omega), if_pos (by omega), if_pos (by omega)]
          have hc := cut_in2 (a := c) (N := (l.length : Int) - 1) (n := (l.length : Int)) (by omega) (by omega) (by omega)
          generalize hk : Int.tmod (IntKind.i64.wrap (IntKind.i64.wrap (Int.tmod c ((l.length : Int) - 1) + (l.length : Int)) - 1)) ((l.length : Int) - 1) = k at hc ⊢
          obtain ⟨j, rfl⟩ : ∃ j : Nat, k = (j : Int) := ⟨k.toNat, by omega⟩
          have hj : j + 1 < l.length := by omega
          rw [w64_nat (by omega), if_pos (by omega), if_pos (by omega), gt_nat (show j < l.length by omega), gt_nat hj]
          by_cases hid : l[j].Id = l[j + 1].Id
          · rw [if_pos (by simpa using hid)]; rfl
          · rw [if_neg (by simpa using hid), List.nil_append, if_pos (few_le (by omega)), if_pos (by omega), if_pos (by omega)]
            have hst1 : st l (j : Int) l[j + 1] = l.set j l[j + 1] := by simp [st]
            rw [hst1, if_pos (by simp; omega), if_pos (by simp; omega)]
            have hst2 : st (l.set j l[j + 1]) ((j + 1 : Nat) : Int) l[j] = (l.set j l[j + 1]).set (j + 1) l[j] := by simp [st]
            rw [hst2, tcheck_eq hp, Option.bind_some, ckR_if (by simp; omega), if_pos hca]
            simp only
            have hsw := swap_all (ps := ps) hj hid
            have : ((((runN ps [] ((l.set j l[j + 1]).set (j + 1) l[j]) : Nat) : Int) == ((l.length : Nat) : Int)) == ((runN ps [] l : Nat) == (l.length : Nat))) = true := by
              rw [beq_iff_eq, Bool.eq_iff_iff]
              simp only [beq_iff_eq]
              constructor
              · intro h; exact hsw.1 (by omega)
              · intro h; have := hsw.2 h; omega
            rw [this]; rfl
    · rw [if_pos (by simp; omega)]
end Go.Proofs.YtpkegoikocfchaaDoor
