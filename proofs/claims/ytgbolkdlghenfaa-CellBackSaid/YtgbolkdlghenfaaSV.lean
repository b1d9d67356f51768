/- Helper lemmas for the claim's theorem: an abstract machine over the model, proved sound; no condition beyond each lemma's own. -/
import Derived.Test.YtgbolkdlghenfaaSL
import Derived.Test.YtgbolkdlghenfaaT1
import Derived.Test.YtgbolkdlghenfaaAmF
import Derived.Test.YtgbolkdlghenfaaAmD
set_option linter.unusedVariables false
set_option linter.unusedSimpArgs false
set_option linter.unnecessarySimpa false
set_option linter.unusedSectionVars false
namespace Go.Proofs.Ytgbolkdlghenfaa
open Go Go.AM
set_option maxRecDepth 100000
theorem vt_2 {us : List V} (h : VT E 2 us) : ∃ x : Int, us = [V.int .i64 x] ∧ i64ok x := by
  obtain ⟨n, h1, h2⟩ := VT.int_inv (E := E) (t := 2) rfl rfl h
  exact ⟨n, h1, wf_i64 h2⟩

theorem vt_23 {us : List V} (h : VT E 23 us) : ∃ x : List Int, us = [V.sl 1 (rws (fun n => [V.int .i64 n]) x)] ∧ (wfl (fun y => i64ok y) x) := by
  obtain ⟨rows, h1, h2, h3⟩ := VT.sli_inv (E := E) (t := 23) rfl rfl rfl h
  obtain ⟨xs, hx, hq⟩ := rows_map (f := (fun n => [V.int .i64 n])) (Q := fun y => i64ok y) (fun r hr => vt_2 (h3 r hr))
  subst hx
  exact ⟨xs, h1, (by simpa [maxLen] using h2), hq⟩

theorem arg_23 {v : V} (h : VArg E 23 v) : ∃ x : List Int, v = V.sl 1 (rws (fun n => [V.int .i64 n]) x) ∧ (wfl (fun y => i64ok y) x) := by
  obtain ⟨x, h1, w⟩ := vt_23 (h.flat rfl rfl)
  injection h1 with h1 h2
  exact ⟨x, h1, w⟩

theorem vt_3 {us : List V} (h : VT E 3 us) : ∃ x : Int, us = [V.int .i64 x] ∧ i64ok x := by
  obtain ⟨n, h1, h2⟩ := VT.int_inv (E := E) (t := 3) rfl rfl h
  exact ⟨n, h1, wf_i64 h2⟩

theorem arg_3 {v : V} (h : VArg E 3 v) : ∃ x : Int, v = V.int .i64 x ∧ (i64ok x) := by
  obtain ⟨x, h1, w⟩ := vt_3 (h.flat rfl rfl)
  injection h1 with h1 h2
  exact ⟨x, h1, w⟩

theorem arg_2 {v : V} (h : VArg E 2 v) : ∃ x : Int, v = V.int .i64 x ∧ (i64ok x) := by
  obtain ⟨x, h1, w⟩ := vt_2 (h.flat rfl rfl)
  injection h1 with h1 h2
  exact ⟨x, h1, w⟩
end Go.Proofs.Ytgbolkdlghenfaa
