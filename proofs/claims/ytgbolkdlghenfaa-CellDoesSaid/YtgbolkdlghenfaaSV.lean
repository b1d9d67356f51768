/- Helper lemmas for the claim's theorem: an abstract machine over the model, proved sound; no condition beyond each lemma's own. -/
import Derived.Test.YtgbolkdlghenfaaSL
import Derived.Test.YtgbolkdlghenfaaT1
import Derived.Test.YtgbolkdlghenfaaAmF
import Derived.Test.YtgbolkdlghenfaaAmD
set_option linter.unusedVariables false
set_option linter.unusedSimpArgs false
set_option linter.unnecessarySimpa false
set_option linter.unusedSectionVars false
namespace Go.Proofs.Ytgbolkdlghenfaa
open Go Go.AM
set_option maxRecDepth 100000
theorem vt_2 {us : List V} (h : VT E 2 us) : ∃ x : Int, us = [V.int .i64 x] ∧ i64ok x := by
  obtain ⟨n, h1, h2⟩ := VT.int_inv (E := E) (t := 2) rfl rfl h
  exact ⟨n, h1, wf_i64 h2⟩

theorem vt_23 {us : List V} (h : VT E 23 us) : ∃ x : List Int, us = [V.sl 1 (rws (fun n => [V.int .i64 n]) x)] ∧ (wfl (fun y => i64ok y) x) := by
  obtain ⟨rows, h1, h2, h3⟩ := VT.sli_inv (E := E) (t := 23) rfl rfl rfl h
  obtain ⟨xs, hx, hq⟩ := rows_map (f := (fun n => [V.int .i64 n])) (Q := fun y => i64ok y) (fun r hr => vt_2 (h3 r hr))
  subst hx
  exact ⟨xs, h1, (by simpa [maxLen] using h2), hq⟩

theorem arg_23 {v : V} (h : VArg E 23 v) : ∃ x : List Int, v = V.sl 1 (rws (fun n => [V.int .i64 n]) x) ∧ (wfl (fun y => i64ok y) x) := by
  obtain ⟨x, h1, w⟩ := vt_23 (h.flat rfl rfl)
  injection h1 with h1 h2
  exact ⟨x, h1, w⟩

theorem vt_3 {us : List V} (h : VT E 3 us) : ∃ x : Int, us = [V.int .i64 x] ∧ i64ok x := by
  obtain ⟨n, h1, h2⟩ := VT.int_inv (E := E) (t := 3) rfl rfl h
  exact ⟨n, h1, wf_i64 h2⟩

theorem arg_3 {v : V} (h : VArg E 3 v) : ∃ x : Int, v = V.int .i64 x ∧ (i64ok x) := by
  obtain ⟨x, h1, w⟩ := vt_3 (h.flat rfl rfl)
  injection h1 with h1 h2
  exact ⟨x, h1, w⟩

theorem arg_2 {v : V} (h : VArg E 2 v) : ∃ x : Int, v = V.int .i64 x ∧ (i64ok x) := by
  obtain ⟨x, h1, w⟩ := vt_2 (h.flat rfl rfl)
  injection h1 with h1 h2
  exact ⟨x, h1, w⟩

def api_Mic.wf (x : api_Mic) : Prop := (i64ok x.Kind) ∧ (i64ok x.At) ∧ (i64ok x.A) ∧ (i64ok x.B)

theorem vt_31 {us : List V} (h : VT E 31 us) : ∃ x : api_Mic, us = api_Mic.cells x ∧ api_Mic.wf x := by
  have h := VT.st_inv (E := E) (t := 31) rfl rfl h
  obtain ⟨a0, r0, rfl, f0, h⟩ := h.cons_inv
  obtain ⟨a1, r1, rfl, f1, h⟩ := h.cons_inv
  obtain ⟨a2, r2, rfl, f2, h⟩ := h.cons_inv
  obtain ⟨a3, r3, rfl, f3, h⟩ := h.cons_inv
  obtain rfl := h.nil_inv
  obtain ⟨n0, rfl, w0⟩ := vt_3 f0
  obtain ⟨n1, rfl, w1⟩ := vt_3 f1
  obtain ⟨n2, rfl, w2⟩ := vt_2 f2
  obtain ⟨n3, rfl, w3⟩ := vt_2 f3
  exact ⟨⟨n0, n1, n2, n3⟩, rfl, ⟨w0, w1, w2, w3⟩⟩

theorem vt_45 {us : List V} (h : VT E 45 us) : ∃ x : List api_Mic, us = [V.sl 4 (rws api_Mic.cells x)] ∧ (wfl (fun y => api_Mic.wf y) x) := by
  obtain ⟨rows, h1, h2, h3⟩ := VT.sli_inv (E := E) (t := 45) rfl rfl rfl h
  obtain ⟨xs, hx, hq⟩ := rows_map (f := api_Mic.cells) (Q := fun y => api_Mic.wf y) (fun r hr => vt_31 (h3 r hr))
  subst hx
  exact ⟨xs, h1, (by simpa [maxLen] using h2), hq⟩

theorem arg_45 {v : V} (h : VArg E 45 v) : ∃ x : List api_Mic, v = V.sl 4 (rws api_Mic.cells x) ∧ (wfl (fun y => api_Mic.wf y) x) := by
  obtain ⟨x, h1, w⟩ := vt_45 (h.flat rfl rfl)
  injection h1 with h1 h2
  exact ⟨x, h1, w⟩

theorem arg_31 {v : V} (h : VArg E 31 v) : ∃ x : api_Mic, v = .agg (api_Mic.cells x) ∧ api_Mic.wf x := by
  obtain ⟨us, rfl, hv⟩ := h.agg (t := 31) rfl rfl
  obtain ⟨x, rfl, w⟩ := vt_31 hv
  exact ⟨x, rfl, w⟩
end Go.Proofs.Ytgbolkdlghenfaa
