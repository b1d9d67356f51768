/- Helper lemmas for the claim's theorem: an abstract machine over the model, proved sound; no condition beyond each lemma's own. -/
import Derived.Test.YtoapmmcoaggekaaSL
import Derived.Test.YtoapmmcoaggekaaT4
import Derived.Test.YtoapmmcoaggekaaAmG
import Derived.Test.YtoapmmcoaggekaaAmE
set_option linter.unusedVariables false
set_option linter.unusedSimpArgs false
set_option linter.unnecessarySimpa false
set_option linter.unusedSectionVars false
namespace Go.Proofs.Ytoapmmcoaggekaa
open Go Go.AM
set_option maxRecDepth 100000
theorem vt_3 {us : List V} (h : VT E 3 us) : ∃ x : Int, us = [V.int .i64 x] ∧ i64ok x := by
  obtain ⟨n, h1, h2⟩ := VT.int_inv (E := E) (t := 3) rfl rfl h
  exact ⟨n, h1, wf_i64 h2⟩

def api_Deque.wf (x : api_Deque) : Prop := (i64ok x.Base) ∧ (i64ok x.Cap)

def api_Hand.wf (x : api_Hand) : Prop := (i64ok x.Kind) ∧ (i64ok x.Pc) ∧ (i64ok x.V) ∧ (i64ok x.T) ∧ (i64ok x.B) ∧ (True) ∧ (i64ok x.State)

theorem arg_3 {v : V} (h : VArg E 3 v) : ∃ x : Int, v = V.int .i64 x ∧ (i64ok x) := by
  obtain ⟨x, h1, w⟩ := vt_3 (h.flat rfl rfl)
  injection h1 with h1 h2
  exact ⟨x, h1, w⟩

theorem vt_5 {us : List V} (h : VT E 5 us) : ∃ x : Int, us = [V.int .u8 x] ∧ u8ok x := by
  obtain ⟨n, h1, h2⟩ := VT.int_inv (E := E) (t := 5) rfl rfl h
  exact ⟨n, h1, wf_u8 h2⟩

theorem vt_45 {us : List V} (h : VT E 45 us) : ∃ x : List Int, us = [V.sl 1 (rws (fun n => [V.int .u8 n]) x)] ∧ (wfl (fun y => u8ok y) x) := by
  obtain ⟨rows, h1, h2, h3⟩ := VT.sli_inv (E := E) (t := 45) rfl rfl rfl h
  obtain ⟨xs, hx, hq⟩ := rows_map (f := (fun n => [V.int .u8 n])) (Q := fun y => u8ok y) (fun r hr => vt_5 (h3 r hr))
  subst hx
  exact ⟨xs, h1, (by simpa [maxLen] using h2), hq⟩

theorem arg_45 {v : V} (h : VArg E 45 v) : ∃ x : List Int, v = V.sl 1 (rws (fun n => [V.int .u8 n]) x) ∧ (wfl (fun y => u8ok y) x) := by
  obtain ⟨x, h1, w⟩ := vt_45 (h.flat rfl rfl)
  injection h1 with h1 h2
  exact ⟨x, h1, w⟩
end Go.Proofs.Ytoapmmcoaggekaa
