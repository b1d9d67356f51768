/- Helper lemmas for the claim's theorem: an abstract machine over the model, proved sound; no condition beyond each lemma's own. -/
import Derived.Test.YtoapmmcoaggekaaL07
set_option linter.unusedVariables false
set_option linter.unusedSimpArgs false
set_option linter.unnecessarySimpa false
set_option linter.unusedSectionVars false
/- Plain laws on the printed functions. -/
namespace Go.Proofs.Ytoapmmcoaggekaa
open Go Go.AM
set_option maxRecDepth 100000
set_option maxHeartbeats 1000000
set_option linter.unusedVariables false
set_option linter.unusedSimpArgs false
theorem chain4 {S K : Type} {step : S → Option (S ⊕ K)} {s0 s1 s2 s3 s4 : S} {k : K} (h1 : step s0 = some (.inl s1)) (h2 : step s1 = some (.inl s2)) (h3 : step s2 = some (.inl s3)) (h4 : step s3 = some (.inl s4)) (h5 : step s4 = some (.inr k)) : whileO step s0 = some k := by
  rw [whileO_inl h1, whileO_inl h2, whileO_inl h3, whileO_inl h4, whileO_inr h5]
def q4 : api_Deque := ⟨0, 4⟩
theorem run1 : whileO (go_ring_Solo_s2 q4) ([0, 0, 0, 0, 0, 0], 1, 0, 5, 0, 0, false, 0) = some ([0, 1, 5, 0, 0, 0], ⟨1, 3, 5, 0, 0, false, 1⟩, 0) :=
  chain4 (s1 := ([0, 0, 0, 0, 0, 0], 1, 1, 5, 0, 0, false, 0)) (s2 := ([0, 0, 0, 0, 0, 0], 1, 2, 5, 0, 0, false, 0)) (s3 := ([0, 0, 5, 0, 0, 0], 1, 3, 5, 0, 0, false, 0)) (s4 := ([0, 1, 5, 0, 0, 0], 1, 3, 5, 0, 0, false, 1)) (by rfl) (by rfl) (by rfl) (by rfl) (by rfl)
theorem run2 : whileO (go_ring_Solo_s2 q4) ([0, 1, 5, 0, 0, 0], 1, 0, 6, 0, 0, false, 0) = some ([0, 2, 5, 6, 0, 0], ⟨1, 3, 6, 0, 1, false, 1⟩, 0) :=
  chain4 (s1 := ([0, 1, 5, 0, 0, 0], 1, 1, 6, 0, 0, false, 0)) (s2 := ([0, 1, 5, 0, 0, 0], 1, 2, 6, 0, 1, false, 0)) (s3 := ([0, 1, 5, 6, 0, 0], 1, 3, 6, 0, 1, false, 0)) (s4 := ([0, 2, 5, 6, 0, 0], 1, 3, 6, 0, 1, false, 1)) (by rfl) (by rfl) (by rfl) (by rfl) (by rfl)
theorem run3 : whileO (go_ring_Solo_s2 q4) ([0, 2, 5, 6, 0, 0], 2, 0, 0, 0, 0, false, 0) = some ([0, 1, 5, 6, 0, 0], ⟨2, 4, 6, 0, 1, false, 1⟩, 0) :=
  chain4 (s1 := ([0, 2, 5, 6, 0, 0], 2, 1, 0, 0, 2, false, 0)) (s2 := ([0, 1, 5, 6, 0, 0], 2, 2, 0, 0, 1, false, 0)) (s3 := ([0, 1, 5, 6, 0, 0], 2, 4, 0, 0, 1, false, 0)) (s4 := ([0, 1, 5, 6, 0, 0], 2, 4, 6, 0, 1, false, 1)) (by rfl) (by rfl) (by rfl) (by rfl) (by rfl)
theorem run4 : whileO (go_ring_Solo_s2 q4) ([0, 1, 5, 6, 0, 0], 3, 0, 0, 0, 0, false, 0) = some ([1, 1, 5, 6, 0, 0], ⟨3, 3, 5, 0, 1, false, 1⟩, 0) :=
  chain4 (s1 := ([0, 1, 5, 6, 0, 0], 3, 1, 0, 0, 0, false, 0)) (s2 := ([0, 1, 5, 6, 0, 0], 3, 2, 0, 0, 1, false, 0)) (s3 := ([0, 1, 5, 6, 0, 0], 3, 3, 5, 0, 1, false, 0)) (s4 := ([1, 1, 5, 6, 0, 0], 3, 3, 5, 0, 1, false, 1)) (by rfl) (by rfl) (by rfl) (by rfl) (by rfl)
theorem done_ok {m m' : List Int} {kind v : Int} {h' : api_Hand} (h1 : go_ring_Start kind v = (⟨kind, 0, v, 0, 0, false, 0⟩, 0)) (h2 : ((go_ring_Check m q4 != 0) || (!(go_ring_may ⟨kind, 0, v, 0, 0, false, 0⟩))) = false) (h3 : few ([] ++ m).length)
    (h4 : whileO (go_ring_Solo_s2 q4) (m, kind, 0, v, 0, 0, false, 0) = some (m', h', 0)) (h5 : (h'.State != 0) = true) : go_ravellaw07_done m q4 kind v = some (m', h', true) := by
  unfold go_ravellaw07_done letO
  rw [h1]
  simp only
  unfold go_ring_Solo
  rw [if_neg (by rw [h2]; simp), if_pos h3, List.nil_append]
  simp only
  rw [h4, Option.bind_some]
  simp only
  rw [if_pos (by decide), if_pos (by decide), h5]
theorem live_ok : go_ravellaw07_live = some true := by
  unfold go_ravellaw07_live
  rw [if_pos (by decide)]
  have e0 : List.replicate (Int.toNat 6) (0 : Int) = [0, 0, 0, 0, 0, 0] := rfl
  have eq : (api_Deque.mk 0 4) = q4 := rfl
  rw [e0, eq, done_ok (by rfl) (by rfl) (by decide) run1 (by rfl), Option.bind_some]
  simp only
  rw [done_ok (by rfl) (by rfl) (by decide) run2 (by rfl), Option.bind_some]
  simp only
  rw [done_ok (by rfl) (by rfl) (by decide) run3 (by rfl), Option.bind_some]
  simp only
  rw [done_ok (by rfl) (by rfl) (by decide) run4 (by rfl), Option.bind_some]
  rfl
end Go.Proofs.Ytoapmmcoaggekaa
