/- Helper lemmas for the claim's theorem: an abstract machine over the model, proved sound; no condition beyond each lemma's own. -/
import Derived.Test.YtoapmmcoaggekaaT3
import Derived.Test.YtoapmmcoaggekaaAmG
set_option linter.unusedVariables false
set_option linter.unusedSimpArgs false
set_option linter.unnecessarySimpa false
set_option linter.unusedSectionVars false
/- Plain laws on the printed functions. -/
namespace Go.Proofs.Ytoapmmcoaggekaa
open Go Go.AM
set_option maxRecDepth 100000
set_option maxHeartbeats 1000000
set_option linter.unusedVariables false
set_option linter.unusedSimpArgs false
/-- A deque that may be. -/
structure QOk (m : List Int) (q : api_Deque) : Prop where
  len : m.length ≤ 65536
  cap : 1 ≤ q.Cap ∧ q.Cap ≤ 1024
  base : 0 ≤ q.Base
  fit : q.Base + q.Cap + 2 ≤ m.length
theorem check_yes {m : List Int} {q : api_Deque} (h : QOk m q) : go_ring_Check m q = 0 ∧ go_ravelref07_Check m q = 0 := by
  obtain ⟨h1, h2, h3, h4⟩ := h
  constructor
  · unfold go_ring_Check go_cell_Check
    rw [w64_id (n := (m.length : Int) - q.Cap) (by omega) (by omega), w64_id (by omega) (by omega), if_neg]
    rw [if_neg (by simp; omega)]
    simp; omega
  · unfold go_ravelref07_Check go_ravelref01_Check
    rw [w64_id (n := (m.length : Int) - q.Base) (by omega) (by omega), w64_id (n := q.Cap + 2) (by omega) (by omega), if_neg]
    rw [if_neg (by simp; omega)]
    simp; omega
theorem check_no {m : List Int} {q : api_Deque} (h : ¬ QOk m q) (hl : m.length ≤ 100000) : go_ring_Check m q = 1 ∧ go_ravelref07_Check m q = 1 := by
  by_cases h1 : m.length ≤ 65536
  · by_cases h2 : 1 ≤ q.Cap ∧ q.Cap ≤ 1024
    · by_cases h3 : 0 ≤ q.Base
      · have h4 : ¬ q.Base + q.Cap + 2 ≤ m.length := fun h4 => h ⟨h1, h2, h3, h4⟩
        constructor
        · unfold go_ring_Check
          rw [w64_id (n := (m.length : Int) - q.Cap) (by omega) (by omega), w64_id (by omega) (by omega), if_pos]
          simp; omega
        · unfold go_ravelref07_Check
          by_cases h5 : q.Base ≤ m.length
          · rw [w64_id (n := (m.length : Int) - q.Base) (by omega) (by omega), w64_id (n := q.Cap + 2) (by omega) (by omega), if_pos]
            simp; omega
          · rw [if_pos]
            simp; omega
      · constructor
        · unfold go_ring_Check
          rw [if_pos]; simp; omega
        · unfold go_ravelref07_Check
          rw [if_pos]; simp; omega
    · constructor
      · unfold go_ring_Check
        rw [if_pos]; simp; omega
      · unfold go_ravelref07_Check
        rw [if_pos]; simp; omega
  · constructor
    · unfold go_ring_Check go_cell_Check
      rw [if_pos (c := (decide ((m.length : Int) > 65536)) = true) (by simp; omega)]; rfl
    · unfold go_ravelref07_Check go_ravelref01_Check
      rw [if_pos (c := (decide ((m.length : Int) > 65536)) = true) (by simp; omega)]; rfl
theorem clone_ok {m : List Int} (h : m.length ≤ 100000) : go_slices_Clone_api_Mem_int64 m = some m := by
  unfold go_slices_Clone_api_Mem_int64
  rw [if_pos (by unfold few; omega)]
theorem load_ok {m : List Int} {i : Int} (h : m.length ≤ 65536) (hi : 0 ≤ i ∧ i < m.length) : go_cell_Load m i = some (gt m i, 0) := by
  unfold go_cell_Load go_cell_Check
  rw [if_neg, if_pos hi]
  rw [if_neg (by simp; omega)]
  simp; omega
theorem store_ok {m : List Int} {i : Int} (x : Int) (h : m.length ≤ 65536) (hi : 0 ≤ i ∧ i < m.length) : go_cell_Store m i x = some (st m i x, 0) := by
  unfold go_cell_Store go_cell_Check
  rw [if_neg, if_pos hi, clone_ok (by omega), Option.bind_some, if_pos hi]
  rw [if_neg (by simp; omega)]
  simp; omega
theorem cas_ok {m : List Int} {i : Int} (o x : Int) (h : m.length ≤ 65536) (hi : 0 ≤ i ∧ i < m.length) : go_cell_Cas m i o x = some (if (gt m i == o) = true then st m i x else m, gt m i == o, 0) := by
  unfold go_cell_Cas go_cell_Check go_cell_Cas_j1
  rw [if_neg, if_pos hi, clone_ok (by omega), Option.bind_some, if_pos hi]
  · cases gt m i == o <;> rfl
  · rw [if_neg (by simp; omega)]
    simp; omega
theorem with_ok {m : List Int} {i : Int} (x : Int) (h : m.length ≤ 65536) (hi : 0 ≤ i ∧ i < m.length) : go_ravelref01_With m i x = some (st m i x) := by
  unfold go_ravelref01_With
  rw [List.nil_append, if_pos (by unfold few; omega), if_pos hi]
theorem st_len (m : List Int) (i x : Int) : (st m i x).length = m.length := by unfold st; rw [List.length_set]
/-- A number's slot. -/
def slot (q : api_Deque) (n : Int) : Int := q.Base + 2 + Int.tmod n q.Cap
theorem slot_in {m : List Int} {q : api_Deque} (h : QOk m q) {n : Int} (hn : 0 ≤ n) : 0 ≤ slot q n ∧ slot q n < m.length := by
  obtain ⟨h1, h2, h3, h4⟩ := h
  unfold slot
  rw [Int.tmod_eq_emod_of_nonneg hn]
  have := Int.emod_nonneg n (show q.Cap ≠ 0 by omega)
  have := Int.emod_lt_of_pos n (show 0 < q.Cap by omega)
  omega
theorem slot_ok {m : List Int} {q : api_Deque} (h : QOk m q) (a : ring_actor) (ha : a.q = q) {n : Int} (hn : 0 ≤ n) : go_pring_actor_slot a n = some (slot q n) := by
  have hs := slot_in h hn
  obtain ⟨h1, h2, h3, h4⟩ := h
  unfold slot at hs ⊢
  unfold go_pring_actor_slot
  rw [ha, if_pos (by omega), w64_id (n := q.Base + 2) (by omega) (by omega), w64_id (by omega) (by omega)]
theorem rslot_ok {m : List Int} {q : api_Deque} (h : QOk m q) {n : Int} (hn : 0 ≤ n) : go_ravelref07_slot q n = some (slot q n) := by
  have hs := slot_in h hn
  obtain ⟨h1, h2, h3, h4⟩ := h
  unfold slot at hs ⊢
  unfold go_ravelref07_slot
  rw [if_pos (by omega), w64_id (n := q.Base + 2) (by omega) (by omega), w64_id (by omega) (by omega)]
theorem bot_ok {m : List Int} {q : api_Deque} (h : QOk m q) (a : ring_actor) (ha : a.q = q) : go_pring_actor_bottom a = q.Base + 1 := by
  obtain ⟨h1, h2, h3, h4⟩ := h
  unfold go_pring_actor_bottom
  rw [ha, w64_id (by omega) (by omega)]
theorem top_ok {q : api_Deque} (a : ring_actor) (ha : a.q = q) : go_pring_actor_top a = q.Base := by
  unfold go_pring_actor_top
  rw [ha]
theorem base_in {m : List Int} {q : api_Deque} (h : QOk m q) : (0 ≤ q.Base ∧ q.Base < m.length) ∧ (0 ≤ q.Base + 1 ∧ q.Base + 1 < m.length) := by
  obtain ⟨h1, h2, h3, h4⟩ := h
  omega
theorem isame_ok {xs : List Int} (hl : xs.length ≤ 100000) : go_ravelref01_Same xs xs = some true := by
  unfold go_ravelref01_Same
  rw [if_neg (by simp)]
  have hrun := whileO_run (step := go_ravelref01_Same_s1 xs xs) (fun j => (j : Int)) xs.length (fun j hj => by
    rw [go_ravelref01_Same_s1, if_pos (by simpa using hj), if_pos (pos_int hj), if_pos (pos_int hj), if_neg (by simp), w64_nat (by omega)]; rfl)
  rw [show (0 : Int) = ((0 : Nat) : Int) from rfl, hrun]
  refine whileO_inr ?_
  rw [go_ravelref01_Same_s1, if_neg (by simp)]; rfl
/- ---- the numbers of a deque -/
end Go.Proofs.Ytoapmmcoaggekaa
