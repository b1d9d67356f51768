/- Helper lemmas for the claim's theorem: an abstract machine over the model, proved sound; no condition beyond each lemma's own. -/
import Derived.Test.YtlekpilcgahaoaaDoorSL
import Derived.Test.YtlekpilcgahaoaaDoorT3
import Derived.Test.YtlekpilcgahaoaaDoorAmF
import Derived.Test.YtlekpilcgahaoaaDoorAmD
set_option linter.unusedVariables false
set_option linter.unusedSimpArgs false
set_option linter.unnecessarySimpa false
set_option linter.unusedSectionVars false
namespace Go.Proofs.YtlekpilcgahaoaaDoor
open Go Go.AM
set_option maxRecDepth 100000
theorem vt_2 {us : List V} (h : VT E 2 us) : ∃ x : Int, us = [V.int .i64 x] ∧ i64ok x := by
  obtain ⟨n, h1, h2⟩ := VT.int_inv (E := E) (t := 2) rfl rfl h
  exact ⟨n, h1, wf_i64 h2⟩

theorem vt_3 {us : List V} (h : VT E 3 us) : ∃ x : Int, us = [V.int .i64 x] ∧ i64ok x := by
  obtain ⟨n, h1, h2⟩ := VT.int_inv (E := E) (t := 3) rfl rfl h
  exact ⟨n, h1, wf_i64 h2⟩

def A4_Int.wf (x : A4_Int) : Prop := i64ok x.a0 ∧ i64ok x.a1 ∧ i64ok x.a2 ∧ i64ok x.a3

theorem vt_27 {us : List V} (h : VT E 27 us) : ∃ x : A4_Int, us = A4_Int.cells x ∧ A4_Int.wf x := by
  obtain ⟨parts, rfl, hl, hp⟩ := VT.arr_inv (E := E) (t := 27) rfl rfl h
  match parts, hl with
  | [p0, p1, p2, p3], _ =>
    obtain ⟨k0, rfl, w0⟩ := vt_2 (hp p0 (by simp))
    obtain ⟨k1, rfl, w1⟩ := vt_2 (hp p1 (by simp))
    obtain ⟨k2, rfl, w2⟩ := vt_2 (hp p2 (by simp))
    obtain ⟨k3, rfl, w3⟩ := vt_2 (hp p3 (by simp))
    exact ⟨⟨k0, k1, k2, k3⟩, rfl, w0, w1, w2, w3⟩

def api_Task.wf (x : api_Task) : Prop := (i64ok x.Id) ∧ (i64ok x.Tenant) ∧ (i64ok x.Prog) ∧ (i64ok x.Pc) ∧ (i64ok x.Unit) ∧ (A4_Int.wf x.Keeps) ∧ (i64ok x.State) ∧ (i64ok x.Ran)

theorem vt_29 {us : List V} (h : VT E 29 us) : ∃ x : api_Task, us = api_Task.cells x ∧ api_Task.wf x := by
  have h := VT.st_inv (E := E) (t := 29) rfl rfl h
  obtain ⟨a0, r0, rfl, f0, h⟩ := h.cons_inv
  obtain ⟨a1, r1, rfl, f1, h⟩ := h.cons_inv
  obtain ⟨a2, r2, rfl, f2, h⟩ := h.cons_inv
  obtain ⟨a3, r3, rfl, f3, h⟩ := h.cons_inv
  obtain ⟨a4, r4, rfl, f4, h⟩ := h.cons_inv
  obtain ⟨a5, r5, rfl, f5, h⟩ := h.cons_inv
  obtain ⟨a6, r6, rfl, f6, h⟩ := h.cons_inv
  obtain ⟨a7, r7, rfl, f7, h⟩ := h.cons_inv
  obtain rfl := h.nil_inv
  obtain ⟨n0, rfl, w0⟩ := vt_2 f0
  obtain ⟨n1, rfl, w1⟩ := vt_3 f1
  obtain ⟨n2, rfl, w2⟩ := vt_3 f2
  obtain ⟨n3, rfl, w3⟩ := vt_3 f3
  obtain ⟨n4, rfl, w4⟩ := vt_3 f4
  obtain ⟨n5, rfl, w5⟩ := vt_27 f5
  obtain ⟨n6, rfl, w6⟩ := vt_3 f6
  obtain ⟨n7, rfl, w7⟩ := vt_2 f7
  exact ⟨⟨n0, n1, n2, n3, n4, n5, n6, n7⟩, rfl, ⟨w0, w1, w2, w3, w4, w5, w6, w7⟩⟩

theorem arg_29 {v : V} (h : VArg E 29 v) : ∃ x : api_Task, v = .agg (api_Task.cells x) ∧ api_Task.wf x := by
  obtain ⟨us, rfl, hv⟩ := h.agg (t := 29) rfl rfl
  obtain ⟨x, rfl, w⟩ := vt_29 hv
  exact ⟨x, rfl, w⟩

def api_Instr.wf (x : api_Instr) : Prop := (i64ok x.Op) ∧ (i64ok x.A) ∧ (i64ok x.B)

theorem vt_40 {us : List V} (h : VT E 40 us) : ∃ x : api_Instr, us = api_Instr.cells x ∧ api_Instr.wf x := by
  have h := VT.st_inv (E := E) (t := 40) rfl rfl h
  obtain ⟨a0, r0, rfl, f0, h⟩ := h.cons_inv
  obtain ⟨a1, r1, rfl, f1, h⟩ := h.cons_inv
  obtain ⟨a2, r2, rfl, f2, h⟩ := h.cons_inv
  obtain rfl := h.nil_inv
  obtain ⟨n0, rfl, w0⟩ := vt_3 f0
  obtain ⟨n1, rfl, w1⟩ := vt_3 f1
  obtain ⟨n2, rfl, w2⟩ := vt_3 f2
  exact ⟨⟨n0, n1, n2⟩, rfl, ⟨w0, w1, w2⟩⟩

theorem vt_22 {us : List V} (h : VT E 22 us) : ∃ x : List api_Instr, us = [V.sl 3 (rws api_Instr.cells x)] ∧ (wfl (fun y => api_Instr.wf y) x) := by
  obtain ⟨rows, h1, h2, h3⟩ := VT.sli_inv (E := E) (t := 22) rfl rfl rfl h
  obtain ⟨xs, hx, hq⟩ := rows_map (f := api_Instr.cells) (Q := fun y => api_Instr.wf y) (fun r hr => vt_40 (h3 r hr))
  subst hx
  exact ⟨xs, h1, (by simpa [maxLen] using h2), hq⟩

theorem arg_22 {v : V} (h : VArg E 22 v) : ∃ x : List api_Instr, v = V.sl 3 (rws api_Instr.cells x) ∧ (wfl (fun y => api_Instr.wf y) x) := by
  obtain ⟨x, h1, w⟩ := vt_22 (h.flat rfl rfl)
  injection h1 with h1 h2
  exact ⟨x, h1, w⟩

theorem arg_3 {v : V} (h : VArg E 3 v) : ∃ x : Int, v = V.int .i64 x ∧ (i64ok x) := by
  obtain ⟨x, h1, w⟩ := vt_3 (h.flat rfl rfl)
  injection h1 with h1 h2
  exact ⟨x, h1, w⟩

theorem arg_2 {v : V} (h : VArg E 2 v) : ∃ x : Int, v = V.int .i64 x ∧ (i64ok x) := by
  obtain ⟨x, h1, w⟩ := vt_2 (h.flat rfl rfl)
  injection h1 with h1 h2
  exact ⟨x, h1, w⟩

theorem vt_5 {us : List V} (h : VT E 5 us) : ∃ x : Int, us = [V.int .u8 x] ∧ u8ok x := by
  obtain ⟨n, h1, h2⟩ := VT.int_inv (E := E) (t := 5) rfl rfl h
  exact ⟨n, h1, wf_u8 h2⟩

theorem vt_23 {us : List V} (h : VT E 23 us) : ∃ x : List Int, us = [V.sl 1 (rws (fun n => [V.int .u8 n]) x)] ∧ (wfl (fun y => u8ok y) x) := by
  obtain ⟨rows, h1, h2, h3⟩ := VT.sli_inv (E := E) (t := 23) rfl rfl rfl h
  obtain ⟨xs, hx, hq⟩ := rows_map (f := (fun n => [V.int .u8 n])) (Q := fun y => u8ok y) (fun r hr => vt_5 (h3 r hr))
  subst hx
  exact ⟨xs, h1, (by simpa [maxLen] using h2), hq⟩

theorem arg_23 {v : V} (h : VArg E 23 v) : ∃ x : List Int, v = V.sl 1 (rws (fun n => [V.int .u8 n]) x) ∧ (wfl (fun y => u8ok y) x) := by
  obtain ⟨x, h1, w⟩ := vt_23 (h.flat rfl rfl)
  injection h1 with h1 h2
  exact ⟨x, h1, w⟩
end Go.Proofs.YtlekpilcgahaoaaDoor
