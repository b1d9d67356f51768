/- Helper lemmas for the claim's theorem: an abstract machine over the model, proved sound; no condition beyond each lemma's own. -/
import Derived.Test.YtbcapidhhbkkcaaSL
import Derived.Test.YtbcapidhhbkkcaaT4
import Derived.Test.YtbcapidhhbkkcaaAmG
import Derived.Test.YtbcapidhhbkkcaaAmE
set_option linter.unusedVariables false
set_option linter.unusedSimpArgs false
set_option linter.unnecessarySimpa false
set_option linter.unusedSectionVars false
namespace Go.Proofs.Ytbcapidhhbkkcaa
open Go Go.AM
set_option maxRecDepth 100000
theorem vt_2 {us : List V} (h : VT E 2 us) : ∃ x : Int, us = [V.int .i64 x] ∧ i64ok x := by
  obtain ⟨n, h1, h2⟩ := VT.int_inv (E := E) (t := 2) rfl rfl h
  exact ⟨n, h1, wf_i64 h2⟩

def api_Timer.wf (x : api_Timer) : Prop := (i64ok x.At) ∧ (i64ok x.Id)

theorem vt_24 {us : List V} (h : VT E 24 us) : ∃ x : api_Timer, us = api_Timer.cells x ∧ api_Timer.wf x := by
  have h := VT.st_inv (E := E) (t := 24) rfl rfl h
  obtain ⟨a0, r0, rfl, f0, h⟩ := h.cons_inv
  obtain ⟨a1, r1, rfl, f1, h⟩ := h.cons_inv
  obtain rfl := h.nil_inv
  obtain ⟨n0, rfl, w0⟩ := vt_2 f0
  obtain ⟨n1, rfl, w1⟩ := vt_2 f1
  exact ⟨⟨n0, n1⟩, rfl, ⟨w0, w1⟩⟩

theorem vt_22 {us : List V} (h : VT E 22 us) : ∃ x : List api_Timer, us = [V.sl 2 (rws api_Timer.cells x)] ∧ (wfl (fun y => api_Timer.wf y) x) := by
  obtain ⟨rows, h1, h2, h3⟩ := VT.sli_inv (E := E) (t := 22) rfl rfl rfl h
  obtain ⟨xs, hx, hq⟩ := rows_map (f := api_Timer.cells) (Q := fun y => api_Timer.wf y) (fun r hr => vt_24 (h3 r hr))
  subst hx
  exact ⟨xs, h1, (by simpa [maxLen] using h2), hq⟩

theorem arg_22 {v : V} (h : VArg E 22 v) : ∃ x : List api_Timer, v = V.sl 2 (rws api_Timer.cells x) ∧ (wfl (fun y => api_Timer.wf y) x) := by
  obtain ⟨x, h1, w⟩ := vt_22 (h.flat rfl rfl)
  injection h1 with h1 h2
  exact ⟨x, h1, w⟩

theorem arg_2 {v : V} (h : VArg E 2 v) : ∃ x : Int, v = V.int .i64 x ∧ (i64ok x) := by
  obtain ⟨x, h1, w⟩ := vt_2 (h.flat rfl rfl)
  injection h1 with h1 h2
  exact ⟨x, h1, w⟩

theorem vt_5 {us : List V} (h : VT E 5 us) : ∃ x : Int, us = [V.int .u8 x] ∧ u8ok x := by
  obtain ⟨n, h1, h2⟩ := VT.int_inv (E := E) (t := 5) rfl rfl h
  exact ⟨n, h1, wf_u8 h2⟩

theorem vt_53 {us : List V} (h : VT E 53 us) : ∃ x : List Int, us = [V.sl 1 (rws (fun n => [V.int .u8 n]) x)] ∧ (wfl (fun y => u8ok y) x) := by
  obtain ⟨rows, h1, h2, h3⟩ := VT.sli_inv (E := E) (t := 53) rfl rfl rfl h
  obtain ⟨xs, hx, hq⟩ := rows_map (f := (fun n => [V.int .u8 n])) (Q := fun y => u8ok y) (fun r hr => vt_5 (h3 r hr))
  subst hx
  exact ⟨xs, h1, (by simpa [maxLen] using h2), hq⟩

theorem arg_53 {v : V} (h : VArg E 53 v) : ∃ x : List Int, v = V.sl 1 (rws (fun n => [V.int .u8 n]) x) ∧ (wfl (fun y => u8ok y) x) := by
  obtain ⟨x, h1, w⟩ := vt_53 (h.flat rfl rfl)
  injection h1 with h1 h2
  exact ⟨x, h1, w⟩
end Go.Proofs.Ytbcapidhhbkkcaa
