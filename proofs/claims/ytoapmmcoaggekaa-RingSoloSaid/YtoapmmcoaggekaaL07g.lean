/- Helper lemmas for the claim's theorem: an abstract machine over the model, proved sound; no condition beyond each lemma's own. -/
import Derived.Test.YtoapmmcoaggekaaL07f
set_option linter.unusedVariables false
set_option linter.unusedSimpArgs false
set_option linter.unnecessarySimpa false
set_option linter.unusedSectionVars false
/- Plain laws on the printed functions. -/
namespace Go.Proofs.Ytoapmmcoaggekaa
open Go Go.AM
set_option maxRecDepth 100000
set_option maxHeartbeats 1000000
set_option linter.unusedVariables false
set_option linter.unusedSimpArgs false
structure Inv7 (q : api_Deque) (m l : List Int) (t j : Int) : Prop where
  has : Has7 m q t (t + l.length)
  at_ : ∀ k : Nat, k < l.length → gt m (slot q (t + k)) = gt l k
  base : q.Base = 1
  len : (m.length : Int) = q.Cap + 4
  z0 : gt m 0 = 0
  z1 : gt m (q.Cap + 3) = 0
  bnd : t + l.length ≤ 1073741824 + j
  room : q.Cap ≤ 8
theorem slot_3 {q : api_Deque} (hc : 1 ≤ q.Cap) (hb : q.Base = 1) {n : Int} (hn : 0 ≤ n) : 3 ≤ slot q n ∧ slot q n ≤ q.Cap + 2 := by
  unfold slot
  rw [Int.tmod_eq_emod_of_nonneg hn]
  have := Int.emod_nonneg n (show q.Cap ≠ 0 by omega)
  have := Int.emod_lt_of_pos n (show 0 < q.Cap by omega)
  omega
theorem inv_push {q : api_Deque} {m l : List Int} {t j v : Int} (h : Inv7 q m l t j) (hj : 0 ≤ j ∧ j ≤ 100) (hc : (l.length : Int) < q.Cap) : Inv7 q (st (st m (slot q (t + l.length)) v) (q.Base + 1) (t + l.length + 1)) (l ++ [v]) t (j + 1) := by
  obtain ⟨⟨hq, h1, h2, h3, h4, h5, h6⟩, ha, hb, hl, z0, z1, hn, hr⟩ := h
  have hcap := hq.cap
  have s3 := slot_3 (q := q) hcap.1 hb (n := t + l.length) (by omega)
  have ll : ((l ++ [v]).length : Int) = l.length + 1 := by simp
  refine ⟨⟨qok_len hq (by rw [st_len, st_len]), ?_, ?_, h3, by omega, by omega, by omega⟩, fun k hk => ?_, hb, by rw [st_len, st_len]; exact hl, ?_, ?_, by omega, hr⟩
  · rw [gt_st_ne (by omega) (by omega) (by omega), gt_st_ne (by omega) (by omega) (by omega)]; exact h1
  · rw [gt_st_eq (by rw [st_len]; omega)]; omega
  · have hk' : (k : Int) < l.length + 1 := by omega
    have s4 := slot_3 (q := q) hcap.1 hb (n := t + k) (by omega)
    rw [gt_st_ne (by omega) (by omega) (by omega)]
    by_cases e : k = l.length
    · subst e
      rw [gt_st_eq (by omega)]
      unfold gt; simp
    · have := slot_ne hq (x := t + k) (y := t + l.length) (by omega) (by omega) (by omega)
      rw [gt_st_ne (by omega) (by omega) (by omega), ha k (by omega)]
      unfold gt
      simp [List.getElem?_append_left (show k < l.length by omega)]
  · rw [gt_st_ne (by omega) (by omega) (by omega), gt_st_ne (by omega) (by omega) (by omega)]; exact z0
  · rw [gt_st_ne (by omega) (by omega) (by omega), gt_st_ne (by omega) (by omega) (by omega)]; exact z1
theorem inv_keep {q : api_Deque} {m l : List Int} {t j : Int} (h : Inv7 q m l t j) : Inv7 q m l t (j + 1) := by
  obtain ⟨h1, ha, hb, hl, z0, z1, hn, hr⟩ := h
  exact ⟨h1, ha, hb, hl, z0, z1, by omega, hr⟩
theorem inv_none {q : api_Deque} {m l : List Int} {t j x : Int} (h : Inv7 q m l t j) (h0 : l.length = 0) : Inv7 q (st (st m (q.Base + 1) x) (q.Base + 1) t) l t (j + 1) := by
  obtain ⟨⟨hq, h1, h2, h3, h4, h5, h6⟩, ha, hb, hl, z0, z1, hn, hr⟩ := h
  have hcap := hq.cap
  refine ⟨⟨qok_len hq (by rw [st_len, st_len]), ?_, ?_, h3, by omega, by omega, by omega⟩, fun k hk => by omega, hb, by rw [st_len, st_len]; exact hl, ?_, ?_, by omega, hr⟩
  · rw [gt_st_ne (by omega) (by omega) (by omega), gt_st_ne (by omega) (by omega) (by omega)]; exact h1
  · rw [gt_st_eq (by rw [st_len]; omega)]; omega
  · rw [gt_st_ne (by omega) (by omega) (by omega), gt_st_ne (by omega) (by omega) (by omega)]; exact z0
  · rw [gt_st_ne (by omega) (by omega) (by omega), gt_st_ne (by omega) (by omega) (by omega)]; exact z1
theorem inv_many {q : api_Deque} {m l : List Int} {t j : Int} (h : Inv7 q m l t j) (h0 : 2 ≤ l.length) : Inv7 q (st m (q.Base + 1) (t + l.length - 1)) (sub l 0 ((l.length : Int) - 1)) t (j + 1) ∧ gt (st m (q.Base + 1) (t + l.length - 1)) (slot q (t + l.length - 1)) = gt l ((l.length : Int) - 1) := by
  obtain ⟨⟨hq, h1, h2, h3, h4, h5, h6⟩, ha, hb, hl, z0, z1, hn, hr⟩ := h
  have hcap := hq.cap
  have ll : (sub l 0 ((l.length : Int) - 1)).length = l.length - 1 := by unfold sub; simp
  refine ⟨⟨⟨qok_len hq (by rw [st_len]), ?_, ?_, h3, by omega, by omega, by omega⟩, fun k hk => ?_, hb, by rw [st_len]; exact hl, ?_, ?_, by omega, hr⟩, ?_⟩
  · rw [gt_st_ne (by omega) (by omega) (by omega)]; exact h1
  · rw [gt_st_eq (by omega)]; omega
  · have s4 := slot_3 (q := q) hcap.1 hb (n := t + k) (by omega)
    rw [gt_st_ne (by omega) (by omega) (by omega), ha k (by omega)]
    unfold gt sub
    simp [List.getElem?_take, show k < l.length - 1 by omega, show k < l.length by omega, show (k : Int) < l.length - 1 by omega]
  · rw [gt_st_ne (by omega) (by omega) (by omega)]; exact z0
  · rw [gt_st_ne (by omega) (by omega) (by omega)]; exact z1
  · have s4 := slot_3 (q := q) hcap.1 hb (n := t + l.length - 1) (by omega)
    rw [gt_st_ne (by omega) (by omega) (by omega)]
    have := ha (l.length - 1) (by omega)
    rw [show ((l.length - 1 : Nat) : Int) = (l.length : Int) - 1 by omega, show t + ((l.length : Int) - 1) = t + l.length - 1 by omega] at this
    exact this
theorem inv_one {q : api_Deque} {m l : List Int} {t j : Int} (h : Inv7 q m l t j) (h0 : l.length = 1) : Inv7 q (st (st (st m (q.Base + 1) (t + l.length - 1)) q.Base (t + 1)) (q.Base + 1) (t + 1)) (sub l 0 ((l.length : Int) - 1)) (t + 1) (j + 1) ∧ gt (st m (q.Base + 1) (t + l.length - 1)) (slot q (t + l.length - 1)) = gt l ((l.length : Int) - 1) := by
  obtain ⟨⟨hq, h1, h2, h3, h4, h5, h6⟩, ha, hb, hl, z0, z1, hn, hr⟩ := h
  have hcap := hq.cap
  have ll : (sub l 0 ((l.length : Int) - 1)).length = l.length - 1 := by unfold sub; simp
  refine ⟨⟨⟨qok_len hq (by rw [st_len, st_len, st_len]), ?_, ?_, by omega, by omega, by omega, by omega⟩, fun k hk => by omega, hb, by rw [st_len, st_len, st_len]; exact hl, ?_, ?_, by omega, hr⟩, ?_⟩
  · rw [gt_st_ne (by omega) (by omega) (by omega), gt_st_eq (by rw [st_len]; omega)]
  · rw [gt_st_eq (by rw [st_len, st_len]; omega)]; omega
  · rw [gt_st_ne (by omega) (by omega) (by omega), gt_st_ne (by omega) (by omega) (by omega), gt_st_ne (by omega) (by omega) (by omega)]; exact z0
  · rw [gt_st_ne (by omega) (by omega) (by omega), gt_st_ne (by omega) (by omega) (by omega), gt_st_ne (by omega) (by omega) (by omega)]; exact z1
  · have s4 := slot_3 (q := q) hcap.1 hb (n := t + l.length - 1) (by omega)
    rw [gt_st_ne (by omega) (by omega) (by omega)]
    have := ha (l.length - 1) (by omega)
    rw [show ((l.length - 1 : Nat) : Int) = (l.length : Int) - 1 by omega, show t + ((l.length : Int) - 1) = t + l.length - 1 by omega] at this
    exact this
theorem inv_steal {q : api_Deque} {m l : List Int} {t j : Int} (h : Inv7 q m l t j) (h0 : 1 ≤ l.length) : Inv7 q (st m q.Base (t + 1)) (sub l 1 (l.length : Int)) (t + 1) (j + 1) ∧ gt m (slot q t) = gt l 0 := by
  obtain ⟨⟨hq, h1, h2, h3, h4, h5, h6⟩, ha, hb, hl, z0, z1, hn, hr⟩ := h
  have hcap := hq.cap
  have ll : (sub l 1 (l.length : Int)).length = l.length - 1 := by unfold sub; simp
  refine ⟨⟨⟨qok_len hq (by rw [st_len]), ?_, ?_, by omega, by omega, by omega, by omega⟩, fun k hk => ?_, hb, by rw [st_len]; exact hl, ?_, ?_, by omega, hr⟩, ?_⟩
  · rw [gt_st_eq (by omega)]
  · rw [gt_st_ne (by omega) (by omega) (by omega)]; omega
  · have s4 := slot_3 (q := q) hcap.1 hb (n := t + 1 + k) (by omega)
    have := ha (k + 1) (by omega)
    rw [show t + ((k + 1 : Nat) : Int) = t + 1 + k by push_cast; omega] at this
    rw [gt_st_ne (by omega) (by omega) (by omega), this]
    unfold gt sub
    simp [List.getElem?_take, List.getElem?_drop, show k < l.length - 1 by omega, show k + 1 < l.length by omega, Nat.add_comm 1 k]
  · rw [gt_st_ne (by omega) (by omega) (by omega)]; exact z0
  · rw [gt_st_ne (by omega) (by omega) (by omega)]; exact z1
  · have := ha 0 (by omega)
    simpa using this

end Go.Proofs.Ytoapmmcoaggekaa
