/- Helper lemmas for the claim's theorem: an abstract machine over the model, proved sound; no condition beyond each lemma's own. -/
import Derived.Test.YtpkegoikocfchaaDoorSL
import Derived.Test.YtpkegoikocfchaaDoorT5
import Derived.Test.YtpkegoikocfchaaDoorAmG
import Derived.Test.YtpkegoikocfchaaDoorAmE
set_option linter.unusedVariables false
set_option linter.unusedSimpArgs false
set_option linter.unnecessarySimpa false
set_option linter.unusedSectionVars false
namespace Go.Proofs.YtpkegoikocfchaaDoor
open Go Go.AM
set_option maxRecDepth 100000
theorem vt_3 {us : List V} (h : VT E 3 us) : ∃ x : Int, us = [V.int .i64 x] ∧ i64ok x := by
  obtain ⟨n, h1, h2⟩ := VT.int_inv (E := E) (t := 3) rfl rfl h
  exact ⟨n, h1, wf_i64 h2⟩

def api_Instr.wf (x : api_Instr) : Prop := (i64ok x.Op) ∧ (i64ok x.A) ∧ (i64ok x.B)

theorem vt_50 {us : List V} (h : VT E 50 us) : ∃ x : api_Instr, us = api_Instr.cells x ∧ api_Instr.wf x := by
  have h := VT.st_inv (E := E) (t := 50) rfl rfl h
  obtain ⟨a0, r0, rfl, f0, h⟩ := h.cons_inv
  obtain ⟨a1, r1, rfl, f1, h⟩ := h.cons_inv
  obtain ⟨a2, r2, rfl, f2, h⟩ := h.cons_inv
  obtain rfl := h.nil_inv
  obtain ⟨n0, rfl, w0⟩ := vt_3 f0
  obtain ⟨n1, rfl, w1⟩ := vt_3 f1
  obtain ⟨n2, rfl, w2⟩ := vt_3 f2
  exact ⟨⟨n0, n1, n2⟩, rfl, ⟨w0, w1, w2⟩⟩

theorem vt_48 {us : List V} (h : VT E 48 us) : ∃ x : List api_Instr, us = [V.sl 3 (rws api_Instr.cells x)] ∧ (wfl (fun y => api_Instr.wf y) x) := by
  obtain ⟨rows, h1, h2, h3⟩ := VT.sli_inv (E := E) (t := 48) rfl rfl rfl h
  obtain ⟨xs, hx, hq⟩ := rows_map (f := api_Instr.cells) (Q := fun y => api_Instr.wf y) (fun r hr => vt_50 (h3 r hr))
  subst hx
  exact ⟨xs, h1, (by simpa [maxLen] using h2), hq⟩

theorem vt_22 {us : List V} (h : VT E 22 us) : ∃ x : List (List api_Instr), us = [V.sl 1 (rws (fun l => [V.sl 3 (rws api_Instr.cells l)]) x)] ∧ (wfl (fun y => wfl (fun y => api_Instr.wf y) y) x) := by
  obtain ⟨rows, h1, h2, h3⟩ := VT.sli_inv (E := E) (t := 22) rfl rfl rfl h
  obtain ⟨xs, hx, hq⟩ := rows_map (f := (fun l => [V.sl 3 (rws api_Instr.cells l)])) (Q := fun y => wfl (fun y => api_Instr.wf y) y) (fun r hr => vt_48 (h3 r hr))
  subst hx
  exact ⟨xs, h1, (by simpa [maxLen] using h2), hq⟩

theorem arg_22 {v : V} (h : VArg E 22 v) : ∃ x : List (List api_Instr), v = V.sl 1 (rws (fun l => [V.sl 3 (rws api_Instr.cells l)]) x) ∧ (wfl (fun y => wfl (fun y => api_Instr.wf y) y) x) := by
  obtain ⟨x, h1, w⟩ := vt_22 (h.flat rfl rfl)
  injection h1 with h1 h2
  exact ⟨x, h1, w⟩

theorem vt_2 {us : List V} (h : VT E 2 us) : ∃ x : Int, us = [V.int .i64 x] ∧ i64ok x := by
  obtain ⟨n, h1, h2⟩ := VT.int_inv (E := E) (t := 2) rfl rfl h
  exact ⟨n, h1, wf_i64 h2⟩

def api_Event.wf (x : api_Event) : Prop := (i64ok x.Kind) ∧ (i64ok x.Id) ∧ (i64ok x.A)

theorem vt_32 {us : List V} (h : VT E 32 us) : ∃ x : api_Event, us = api_Event.cells x ∧ api_Event.wf x := by
  have h := VT.st_inv (E := E) (t := 32) rfl rfl h
  obtain ⟨a0, r0, rfl, f0, h⟩ := h.cons_inv
  obtain ⟨a1, r1, rfl, f1, h⟩ := h.cons_inv
  obtain ⟨a2, r2, rfl, f2, h⟩ := h.cons_inv
  obtain rfl := h.nil_inv
  obtain ⟨n0, rfl, w0⟩ := vt_3 f0
  obtain ⟨n1, rfl, w1⟩ := vt_2 f1
  obtain ⟨n2, rfl, w2⟩ := vt_3 f2
  exact ⟨⟨n0, n1, n2⟩, rfl, ⟨w0, w1, w2⟩⟩

theorem vt_23 {us : List V} (h : VT E 23 us) : ∃ x : List api_Event, us = [V.sl 3 (rws api_Event.cells x)] ∧ (wfl (fun y => api_Event.wf y) x) := by
  obtain ⟨rows, h1, h2, h3⟩ := VT.sli_inv (E := E) (t := 23) rfl rfl rfl h
  obtain ⟨xs, hx, hq⟩ := rows_map (f := api_Event.cells) (Q := fun y => api_Event.wf y) (fun r hr => vt_32 (h3 r hr))
  subst hx
  exact ⟨xs, h1, (by simpa [maxLen] using h2), hq⟩

theorem arg_23 {v : V} (h : VArg E 23 v) : ∃ x : List api_Event, v = V.sl 3 (rws api_Event.cells x) ∧ (wfl (fun y => api_Event.wf y) x) := by
  obtain ⟨x, h1, w⟩ := vt_23 (h.flat rfl rfl)
  injection h1 with h1 h2
  exact ⟨x, h1, w⟩

theorem arg_3 {v : V} (h : VArg E 3 v) : ∃ x : Int, v = V.int .i64 x ∧ (i64ok x) := by
  obtain ⟨x, h1, w⟩ := vt_3 (h.flat rfl rfl)
  injection h1 with h1 h2
  exact ⟨x, h1, w⟩

theorem arg_2 {v : V} (h : VArg E 2 v) : ∃ x : Int, v = V.int .i64 x ∧ (i64ok x) := by
  obtain ⟨x, h1, w⟩ := vt_2 (h.flat rfl rfl)
  injection h1 with h1 h2
  exact ⟨x, h1, w⟩
end Go.Proofs.YtpkegoikocfchaaDoor
