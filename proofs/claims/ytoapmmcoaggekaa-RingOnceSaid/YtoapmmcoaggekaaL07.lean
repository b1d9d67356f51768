/- Helper lemmas for the claim's theorem: an abstract machine over the model, proved sound; no condition beyond each lemma's own. -/
import Derived.Test.YtoapmmcoaggekaaT4
import Derived.Test.YtoapmmcoaggekaaAmG
set_option linter.unusedVariables false
set_option linter.unusedSimpArgs false
set_option linter.unnecessarySimpa false
set_option linter.unusedSectionVars false
/- Plain laws on the printed functions. -/
namespace Go.Proofs.Ytoapmmcoaggekaa
open Go Go.AM
set_option maxRecDepth 100000
set_option maxHeartbeats 1000000
set_option linter.unusedVariables false
set_option linter.unusedSimpArgs false
/-- A deque that may be. -/
structure QOk (m : List Int) (q : api_Deque) : Prop where
  len : m.length ≤ 65536
  cap : 1 ≤ q.Cap ∧ q.Cap ≤ 1024
  base : 0 ≤ q.Base
  fit : q.Base + q.Cap + 2 ≤ m.length
theorem check_yes {m : List Int} {q : api_Deque} (h : QOk m q) : go_ring_Check m q = 0 ∧ go_ravelref07_Check m q = 0 := by
  obtain ⟨h1, h2, h3, h4⟩ := h
  constructor
  · unfold go_ring_Check go_cell_Check
    rw [w64_id (n := (m.length : Int) - q.Cap) (by omega) (by omega), w64_id (by omega) (by omega), if_neg]
    rw [if_neg (by simp; omega)]
    simp; omega
  · unfold go_ravelref07_Check go_ravelref01_Check
    rw [w64_id (n := (m.length : Int) - q.Base) (by omega) (by omega), w64_id (n := q.Cap + 2) (by omega) (by omega), if_neg]
    rw [if_neg (by simp; omega)]
    simp; omega
theorem clone_ok {m : List Int} (h : m.length ≤ 100000) : go_slices_Clone_api_Mem_int64 m = some m := by
  unfold go_slices_Clone_api_Mem_int64
  rw [if_pos (by unfold few; omega)]
theorem load_ok {m : List Int} {i : Int} (h : m.length ≤ 65536) (hi : 0 ≤ i ∧ i < m.length) : go_cell_Load m i = some (gt m i, 0) := by
  unfold go_cell_Load go_cell_Check
  rw [if_neg, if_pos hi]
  rw [if_neg (by simp; omega)]
  simp; omega
theorem store_ok {m : List Int} {i : Int} (x : Int) (h : m.length ≤ 65536) (hi : 0 ≤ i ∧ i < m.length) : go_cell_Store m i x = some (st m i x, 0) := by
  unfold go_cell_Store go_cell_Check
  rw [if_neg, if_pos hi, clone_ok (by omega), Option.bind_some, if_pos hi]
  rw [if_neg (by simp; omega)]
  simp; omega
theorem cas_ok {m : List Int} {i : Int} (o x : Int) (h : m.length ≤ 65536) (hi : 0 ≤ i ∧ i < m.length) : go_cell_Cas m i o x = some (if (gt m i == o) = true then st m i x else m, gt m i == o, 0) := by
  unfold go_cell_Cas go_cell_Check go_cell_Cas_j1
  rw [if_neg, if_pos hi, clone_ok (by omega), Option.bind_some, if_pos hi]
  · cases gt m i == o <;> rfl
  · rw [if_neg (by simp; omega)]
    simp; omega
theorem with_ok {m : List Int} {i : Int} (x : Int) (h : m.length ≤ 65536) (hi : 0 ≤ i ∧ i < m.length) : go_ravelref01_With m i x = some (st m i x) := by
  unfold go_ravelref01_With
  rw [List.nil_append, if_pos (by unfold few; omega), if_pos hi]
theorem st_len (m : List Int) (i x : Int) : (st m i x).length = m.length := by unfold st; rw [List.length_set]
/-- A number's slot. -/
def slot (q : api_Deque) (n : Int) : Int := q.Base + 2 + Int.tmod n q.Cap
theorem slot_in {m : List Int} {q : api_Deque} (h : QOk m q) {n : Int} (hn : 0 ≤ n) : 0 ≤ slot q n ∧ slot q n < m.length := by
  obtain ⟨h1, h2, h3, h4⟩ := h
  unfold slot
  rw [Int.tmod_eq_emod_of_nonneg hn]
  have := Int.emod_nonneg n (show q.Cap ≠ 0 by omega)
  have := Int.emod_lt_of_pos n (show 0 < q.Cap by omega)
  omega
theorem slot_ok {m : List Int} {q : api_Deque} (h : QOk m q) (a : ring_actor) (ha : a.q = q) {n : Int} (hn : 0 ≤ n) : go_pring_actor_slot a n = some (slot q n) := by
  have hs := slot_in h hn
  obtain ⟨h1, h2, h3, h4⟩ := h
  unfold slot at hs ⊢
  unfold go_pring_actor_slot
  rw [ha, if_pos (by omega), w64_id (n := q.Base + 2) (by omega) (by omega), w64_id (by omega) (by omega)]
theorem rslot_ok {m : List Int} {q : api_Deque} (h : QOk m q) {n : Int} (hn : 0 ≤ n) : go_ravelref07_slot q n = some (slot q n) := by
  have hs := slot_in h hn
  obtain ⟨h1, h2, h3, h4⟩ := h
  unfold slot at hs ⊢
  unfold go_ravelref07_slot
  rw [if_pos (by omega), w64_id (n := q.Base + 2) (by omega) (by omega), w64_id (by omega) (by omega)]
theorem bot_ok {m : List Int} {q : api_Deque} (h : QOk m q) (a : ring_actor) (ha : a.q = q) : go_pring_actor_bottom a = q.Base + 1 := by
  obtain ⟨h1, h2, h3, h4⟩ := h
  unfold go_pring_actor_bottom
  rw [ha, w64_id (by omega) (by omega)]
theorem top_ok {q : api_Deque} (a : ring_actor) (ha : a.q = q) : go_pring_actor_top a = q.Base := by
  unfold go_pring_actor_top
  rw [ha]
theorem base_in {m : List Int} {q : api_Deque} (h : QOk m q) : (0 ≤ q.Base ∧ q.Base < m.length) ∧ (0 ≤ q.Base + 1 ∧ q.Base + 1 < m.length) := by
  obtain ⟨h1, h2, h3, h4⟩ := h
  omega
/- ---- the numbers of a deque -/
/-- What a list comes to. -/
def lst (m : List Int) (q : api_Deque) : List Int × Int :=
  if ((0 ≤ gt m q.Base ∧ gt m q.Base ≤ 1099511627776) ∧ (0 ≤ gt m (q.Base + 1) ∧ gt m (q.Base + 1) ≤ 1099511627776)) ∧ gt m q.Base ≤ gt m (q.Base + 1) ∧ gt m (q.Base + 1) - gt m q.Base ≤ q.Cap then
    ((List.range (gt m (q.Base + 1) - gt m q.Base).toNat).map fun (k : Nat) => gt m (slot q (gt m q.Base + (k : Int))), 0)
  else ([], 9)
theorem list_loops {m : List Int} {q : api_Deque} (h : QOk m q) {t b : Int} (ht : 0 ≤ t) (hb : b ≤ 1099511627776) (hc : b - t ≤ q.Cap) (hgb : gt m (q.Base + 1) = b) (hw : IntKind.i64.wrap (q.Base + 1) = q.Base + 1) : ∀ (n k : Nat) (o : List Int), t + k + n = b → o.length = k →
    whileO (go_ring_List_s17 m q b) (o, t + k, 0) = some (o ++ (List.range' k n).map fun (j : Nat) => gt m (slot q (t + (j : Int))), 0) ∧
    whileO (go_ravelref07_List_s1 m q) (o, t + k) = some (o ++ (List.range' k n).map fun (j : Nat) => gt m (slot q (t + (j : Int))), 0)
  | 0, k, o, hn, ho => by
    constructor
    · refine whileO_inr ?_
      rw [go_ring_List_s17, if_neg (by simp; omega)]; simp
    · refine whileO_inr ?_
      rw [go_ravelref07_List_s1, hw, hgb, if_neg (by simp; omega)]; simp
  | n + 1, k, o, hn, ho => by
    have hk : 0 ≤ t + (k : Int) := by omega
    have hs := slot_in h hk
    have hcap := h.cap
    have hlen := h.len
    obtain ⟨i1, i2⟩ := list_loops h ht hb hc hgb hw n (k + 1) (o ++ [gt m (slot q (t + k))]) (by push_cast; omega) (by simp; omega)
    rw [show t + ((k + 1 : Nat) : Int) = t + k + 1 by push_cast; omega] at i1 i2
    rw [List.range'_succ, List.map_cons]
    rw [List.append_assoc, List.singleton_append] at i1 i2
    constructor
    · rw [← i1]
      refine whileO_inl ?_
      rw [go_ring_List_s17, if_pos (by simp; omega), slot_ok h _ rfl hk, Option.bind_some, load_ok hlen hs, Option.bind_some]
      simp only
      rw [if_neg (by decide), go_ring_List_j19, if_pos (by unfold few; simp; omega), w64_id (n := t + k + 1) (by omega) (by omega)]; rfl
    · rw [← i2]
      refine whileO_inl ?_
      rw [go_ravelref07_List_s1, hw, hgb, if_pos (by simp; omega), rslot_ok h hk, Option.bind_some, if_pos hs, if_pos (by unfold few; simp; omega), w64_id (n := t + k + 1) (by omega) (by omega)]; rfl
theorem lists_ok {m : List Int} {q : api_Deque} (h : QOk m q) : go_ring_List m q = some (lst m q) ∧ go_ravelref07_List m q = some (lst m q) := by
  obtain ⟨hb1, hb2⟩ := base_in h
  have hlen := h.len
  have hcap := h.cap
  have hw : IntKind.i64.wrap (q.Base + 1) = q.Base + 1 := w64_id (by omega) (by omega)
  obtain ⟨t, ht⟩ : ∃ t, gt m q.Base = t := ⟨_, rfl⟩
  obtain ⟨b, hb⟩ : ∃ b, gt m (q.Base + 1) = b := ⟨_, rfl⟩
  unfold lst
  rw [ht, hb]
  by_cases hA : (0 ≤ t ∧ t ≤ 1099511627776) ∧ (0 ≤ b ∧ b ≤ 1099511627776)
  · have hwb : IntKind.i64.wrap (b - t) = b - t := w64_id (by omega) (by omega)
    have e1 : go_ring_List m q = go_ring_List_j12 m q t b 0 := by
      unfold go_ring_List go_ring_List_j5 go_ring_List_j6 go_ring_List_j11
      rw [(check_yes h).1, if_neg (by decide), top_ok _ rfl, load_ok hlen hb1, Option.bind_some]
      simp only
      rw [if_neg (by decide), ht, if_neg (by simp; omega), bot_ok h _ rfl, load_ok hlen hb2, Option.bind_some]
      simp only
      rw [if_neg (by decide), hb, if_neg (by simp; omega)]
    have e2 : go_ravelref07_List m q = if (((((!(go_ravelref07_count t 0)) || (!(go_ravelref07_count b 0))) || (decide (b < t))) || (decide (b - t > q.Cap))) = true) then some ([], 9) else whileO (go_ravelref07_List_s1 m q) ([], t) := by
      unfold go_ravelref07_List
      rw [(check_yes h).2, if_neg (by decide), if_pos hb1, hw, if_pos hb2, ht, hb, hwb]
    by_cases hB : t ≤ b ∧ b - t ≤ q.Cap
    · rw [if_pos ⟨hA, hB⟩, e1, e2, go_ring_List_j12, hwb, if_neg (by simp; omega), if_neg (by unfold go_ravelref07_count; simp; omega)]
      obtain ⟨i1, i2⟩ := list_loops h hA.1.1 hA.2.2 hB.2 hb hw (b - t).toNat 0 [] (by omega) rfl
      rw [show t + ((0 : Nat) : Int) = t by simp] at i1 i2
      rw [i1, i2, List.range_eq_range', List.nil_append]
      exact ⟨rfl, rfl⟩
    · rw [if_neg (fun hh => hB hh.2), e1, e2, go_ring_List_j12, hwb, if_pos (by simp; omega), if_pos (by simp; omega)]
      exact ⟨rfl, rfl⟩
  · rw [if_neg (fun hh => hA hh.1)]
    constructor
    · have key : ∀ e : Int, e ≠ 0 → go_ring_List_j12 m q t b e = some ([], 9) := fun e he => by
        unfold go_ring_List_j12
        rw [if_pos (by simp [he])]
      have key2 : ∀ e : Int, (e ≠ 0 ∨ ¬ (0 ≤ b ∧ b ≤ 1099511627776)) → go_ring_List_j6 m q t e = some ([], 9) := fun e he => by
        unfold go_ring_List_j6 go_ring_List_j11
        rw [bot_ok h _ rfl, load_ok hlen hb2, Option.bind_some]
        simp only
        rw [if_neg (by decide), hb]
        split
        · exact key 9 (by decide)
        · rename_i hn
          simp at hn
          exact key e (he.resolve_right (fun hh => hh hn))
      unfold go_ring_List go_ring_List_j5
      rw [(check_yes h).1, if_neg (by decide), top_ok _ rfl, load_ok hlen hb1, Option.bind_some]
      simp only
      rw [if_neg (by decide), ht]
      split
      · exact key2 9 (.inl (by decide))
      · rename_i hn
        simp at hn
        exact key2 0 (.inr (fun hh => hA ⟨hn, hh⟩))
    · unfold go_ravelref07_List
      rw [(check_yes h).2, if_neg (by decide), if_pos hb1, hw, if_pos hb2, ht, hb, if_pos (by unfold go_ravelref07_count; simp; omega)]
end Go.Proofs.Ytoapmmcoaggekaa
