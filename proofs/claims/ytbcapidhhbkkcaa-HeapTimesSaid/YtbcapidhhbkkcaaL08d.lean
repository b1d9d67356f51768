/- Helper lemmas for the claim's theorem: an abstract machine over the model, proved sound; no condition beyond each lemma's own. -/
import Derived.Test.YtbcapidhhbkkcaaL08c
import Derived.Test.YtbcapidhhbkkcaaAmG
set_option linter.unusedVariables false
set_option linter.unusedSimpArgs false
set_option linter.unnecessarySimpa false
set_option linter.unusedSectionVars false
/- Plain laws on the printed functions. -/
namespace Go.Proofs.Ytbcapidhhbkkcaa
open Go Go.AM
set_option maxRecDepth 100000
set_option maxHeartbeats 1000000
set_option linter.unusedVariables false
set_option linter.unusedSimpArgs false
theorem fine_srt {h : List api_Timer} (hf : Fine h) : (∀ t ∈ srt h, go_ravelref08_may t = true) ∧ ((srt h).map fun t => t.Id).Nodup := by
  obtain ⟨_, g2, g3, _⟩ := (fine_iff h).1 hf
  exact ⟨fun t ht => g2 t ((srt_perm h).mem_iff.1 ht), (((srt_perm h).map fun t => t.Id).nodup_iff).2 g3⟩
theorem may_parts {t : api_Timer} (h : go_ravelref08_may t = true) : 0 ≤ t.At ∧ t.At ≤ 1125899906842624 ∧ 0 ≤ t.Id := by
  unfold go_ravelref08_may at h
  simp at h; omega
theorem add_no {h : List api_Timer} {t : api_Timer} (hf : Fine h) (hm : go_ravelref08_may t = false) : go_heap_Add h t = some ([], 1) := by
  have hm2 : go_heap_may t = false := hm
  rw [go_heap_Add, (fine_ck hf).1, Option.bind_some, hm2, if_pos (by simp)]
end Go.Proofs.Ytbcapidhhbkkcaa
