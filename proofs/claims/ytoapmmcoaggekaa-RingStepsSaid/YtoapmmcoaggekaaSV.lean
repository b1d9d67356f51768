/- Helper lemmas for the claim's theorem: an abstract machine over the model, proved sound; no condition beyond each lemma's own. -/
import Derived.Test.YtoapmmcoaggekaaSL
import Derived.Test.YtoapmmcoaggekaaT3
import Derived.Test.YtoapmmcoaggekaaAmG
import Derived.Test.YtoapmmcoaggekaaAmE
set_option linter.unusedVariables false
set_option linter.unusedSimpArgs false
set_option linter.unnecessarySimpa false
set_option linter.unusedSectionVars false
namespace Go.Proofs.Ytoapmmcoaggekaa
open Go Go.AM
set_option maxRecDepth 100000
theorem vt_2 {us : List V} (h : VT E 2 us) : ∃ x : Int, us = [V.int .i64 x] ∧ i64ok x := by
  obtain ⟨n, h1, h2⟩ := VT.int_inv (E := E) (t := 2) rfl rfl h
  exact ⟨n, h1, wf_i64 h2⟩

theorem vt_23 {us : List V} (h : VT E 23 us) : ∃ x : List Int, us = [V.sl 1 (rws (fun n => [V.int .i64 n]) x)] ∧ (wfl (fun y => i64ok y) x) := by
  obtain ⟨rows, h1, h2, h3⟩ := VT.sli_inv (E := E) (t := 23) rfl rfl rfl h
  obtain ⟨xs, hx, hq⟩ := rows_map (f := (fun n => [V.int .i64 n])) (Q := fun y => i64ok y) (fun r hr => vt_2 (h3 r hr))
  subst hx
  exact ⟨xs, h1, (by simpa [maxLen] using h2), hq⟩

theorem arg_23 {v : V} (h : VArg E 23 v) : ∃ x : List Int, v = V.sl 1 (rws (fun n => [V.int .i64 n]) x) ∧ (wfl (fun y => i64ok y) x) := by
  obtain ⟨x, h1, w⟩ := vt_23 (h.flat rfl rfl)
  injection h1 with h1 h2
  exact ⟨x, h1, w⟩

theorem vt_3 {us : List V} (h : VT E 3 us) : ∃ x : Int, us = [V.int .i64 x] ∧ i64ok x := by
  obtain ⟨n, h1, h2⟩ := VT.int_inv (E := E) (t := 3) rfl rfl h
  exact ⟨n, h1, wf_i64 h2⟩

def api_Deque.wf (x : api_Deque) : Prop := (i64ok x.Base) ∧ (i64ok x.Cap)

theorem vt_25 {us : List V} (h : VT E 25 us) : ∃ x : api_Deque, us = api_Deque.cells x ∧ api_Deque.wf x := by
  have h := VT.st_inv (E := E) (t := 25) rfl rfl h
  obtain ⟨a0, r0, rfl, f0, h⟩ := h.cons_inv
  obtain ⟨a1, r1, rfl, f1, h⟩ := h.cons_inv
  obtain rfl := h.nil_inv
  obtain ⟨n0, rfl, w0⟩ := vt_3 f0
  obtain ⟨n1, rfl, w1⟩ := vt_3 f1
  exact ⟨⟨n0, n1⟩, rfl, ⟨w0, w1⟩⟩

theorem arg_25 {v : V} (h : VArg E 25 v) : ∃ x : api_Deque, v = .agg (api_Deque.cells x) ∧ api_Deque.wf x := by
  obtain ⟨us, rfl, hv⟩ := h.agg (t := 25) rfl rfl
  obtain ⟨x, rfl, w⟩ := vt_25 hv
  exact ⟨x, rfl, w⟩

theorem vt_4 {us : List V} (h : VT E 4 us) : ∃ x : Bool, us = [V.bool x] ∧ True := by
  obtain ⟨n, h1⟩ := VT.bool_inv (E := E) (t := 4) rfl rfl h
  exact ⟨n, h1, trivial⟩

def api_Hand.wf (x : api_Hand) : Prop := (i64ok x.Kind) ∧ (i64ok x.Pc) ∧ (i64ok x.V) ∧ (i64ok x.T) ∧ (i64ok x.B) ∧ (True) ∧ (i64ok x.State)

theorem vt_27 {us : List V} (h : VT E 27 us) : ∃ x : api_Hand, us = api_Hand.cells x ∧ api_Hand.wf x := by
  have h := VT.st_inv (E := E) (t := 27) rfl rfl h
  obtain ⟨a0, r0, rfl, f0, h⟩ := h.cons_inv
  obtain ⟨a1, r1, rfl, f1, h⟩ := h.cons_inv
  obtain ⟨a2, r2, rfl, f2, h⟩ := h.cons_inv
  obtain ⟨a3, r3, rfl, f3, h⟩ := h.cons_inv
  obtain ⟨a4, r4, rfl, f4, h⟩ := h.cons_inv
  obtain ⟨a5, r5, rfl, f5, h⟩ := h.cons_inv
  obtain ⟨a6, r6, rfl, f6, h⟩ := h.cons_inv
  obtain rfl := h.nil_inv
  obtain ⟨n0, rfl, w0⟩ := vt_3 f0
  obtain ⟨n1, rfl, w1⟩ := vt_3 f1
  obtain ⟨n2, rfl, w2⟩ := vt_2 f2
  obtain ⟨n3, rfl, w3⟩ := vt_2 f3
  obtain ⟨n4, rfl, w4⟩ := vt_2 f4
  obtain ⟨n5, rfl, w5⟩ := vt_4 f5
  obtain ⟨n6, rfl, w6⟩ := vt_3 f6
  exact ⟨⟨n0, n1, n2, n3, n4, n5, n6⟩, rfl, ⟨w0, w1, w2, w3, w4, w5, w6⟩⟩

theorem arg_27 {v : V} (h : VArg E 27 v) : ∃ x : api_Hand, v = .agg (api_Hand.cells x) ∧ api_Hand.wf x := by
  obtain ⟨us, rfl, hv⟩ := h.agg (t := 27) rfl rfl
  obtain ⟨x, rfl, w⟩ := vt_27 hv
  exact ⟨x, rfl, w⟩

theorem arg_3 {v : V} (h : VArg E 3 v) : ∃ x : Int, v = V.int .i64 x ∧ (i64ok x) := by
  obtain ⟨x, h1, w⟩ := vt_3 (h.flat rfl rfl)
  injection h1 with h1 h2
  exact ⟨x, h1, w⟩

theorem arg_2 {v : V} (h : VArg E 2 v) : ∃ x : Int, v = V.int .i64 x ∧ (i64ok x) := by
  obtain ⟨x, h1, w⟩ := vt_2 (h.flat rfl rfl)
  injection h1 with h1 h2
  exact ⟨x, h1, w⟩
end Go.Proofs.Ytoapmmcoaggekaa
