/- Helper lemmas for the claim's theorem: an abstract machine over the model, proved sound; no condition beyond each lemma's own. -/
import Derived.Test.YtbcapidhhbkkcaaSL
import Derived.Test.YtbcapidhhbkkcaaT4
import Derived.Test.YtbcapidhhbkkcaaAmG
import Derived.Test.YtbcapidhhbkkcaaAmE
set_option linter.unusedVariables false
set_option linter.unusedSimpArgs false
set_option linter.unnecessarySimpa false
set_option linter.unusedSectionVars false
namespace Go.Proofs.Ytbcapidhhbkkcaa
open Go Go.AM
set_option maxRecDepth 100000
theorem vt_2 {us : List V} (h : VT E 2 us) : ∃ x : Int, us = [V.int .i64 x] ∧ i64ok x := by
  obtain ⟨n, h1, h2⟩ := VT.int_inv (E := E) (t := 2) rfl rfl h
  exact ⟨n, h1, wf_i64 h2⟩

def api_Timer.wf (x : api_Timer) : Prop := (i64ok x.At) ∧ (i64ok x.Id)

theorem vt_3 {us : List V} (h : VT E 3 us) : ∃ x : Int, us = [V.int .i64 x] ∧ i64ok x := by
  obtain ⟨n, h1, h2⟩ := VT.int_inv (E := E) (t := 3) rfl rfl h
  exact ⟨n, h1, wf_i64 h2⟩

def ravellaw08_Op.wf (x : ravellaw08_Op) : Prop := (i64ok x.Kind) ∧ (i64ok x.Id) ∧ (i64ok x.At)

theorem vt_37 {us : List V} (h : VT E 37 us) : ∃ x : ravellaw08_Op, us = ravellaw08_Op.cells x ∧ ravellaw08_Op.wf x := by
  have h := VT.st_inv (E := E) (t := 37) rfl rfl h
  obtain ⟨a0, r0, rfl, f0, h⟩ := h.cons_inv
  obtain ⟨a1, r1, rfl, f1, h⟩ := h.cons_inv
  obtain ⟨a2, r2, rfl, f2, h⟩ := h.cons_inv
  obtain rfl := h.nil_inv
  obtain ⟨n0, rfl, w0⟩ := vt_3 f0
  obtain ⟨n1, rfl, w1⟩ := vt_2 f1
  obtain ⟨n2, rfl, w2⟩ := vt_2 f2
  exact ⟨⟨n0, n1, n2⟩, rfl, ⟨w0, w1, w2⟩⟩

theorem vt_34 {us : List V} (h : VT E 34 us) : ∃ x : List ravellaw08_Op, us = [V.sl 3 (rws ravellaw08_Op.cells x)] ∧ (wfl (fun y => ravellaw08_Op.wf y) x) := by
  obtain ⟨rows, h1, h2, h3⟩ := VT.sli_inv (E := E) (t := 34) rfl rfl rfl h
  obtain ⟨xs, hx, hq⟩ := rows_map (f := ravellaw08_Op.cells) (Q := fun y => ravellaw08_Op.wf y) (fun r hr => vt_37 (h3 r hr))
  subst hx
  exact ⟨xs, h1, (by simpa [maxLen] using h2), hq⟩

theorem arg_34 {v : V} (h : VArg E 34 v) : ∃ x : List ravellaw08_Op, v = V.sl 3 (rws ravellaw08_Op.cells x) ∧ (wfl (fun y => ravellaw08_Op.wf y) x) := by
  obtain ⟨x, h1, w⟩ := vt_34 (h.flat rfl rfl)
  injection h1 with h1 h2
  exact ⟨x, h1, w⟩
end Go.Proofs.Ytbcapidhhbkkcaa
