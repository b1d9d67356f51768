/- Helper lemmas for the claim's theorem: an abstract machine over the model, proved sound; no condition beyond each lemma's own. -/
import Derived.Test.YtoapmmcoaggekaaL07g
set_option linter.unusedVariables false
set_option linter.unusedSimpArgs false
set_option linter.unnecessarySimpa false
set_option linter.unusedSectionVars false
/- Plain laws on the printed functions. -/
namespace Go.Proofs.Ytoapmmcoaggekaa
open Go Go.AM
set_option maxRecDepth 100000
set_option maxHeartbeats 1000000
set_option linter.unusedVariables false
set_option linter.unusedSimpArgs false
theorem tail_ok {a j t jj want : Int} {m l : List Int} {h' : api_Hand} (h : Inv7 ⟨1, a⟩ m l t jj) (hS : h'.State = want) : go_ravellaw07_RingSolo_j6 a j m h' l want = some (.inl (m, l, IntKind.i64.wrap (j + 1))) := by
  have hq := h.has.ok
  have hl := h.len
  have hcap := hq.cap
  have hlen := hq.len
  have z0 := h.z0
  have z1 := h.z1
  have h6 := h.has.cap
  simp only at hl hcap z1 h6
  rw [go_ravellaw07_RingSolo_j6, (lists_ok hq).1, lst_has h.has h.at_, Option.bind_some]
  simp only
  rw [if_neg (by simp [hS]), isame_ok (by omega), Option.bind_some, go_ravellaw07_RingSolo_j7, if_neg (by simp), if_pos (by omega), z0, go_ravellaw07_RingSolo_j8, if_neg (by simp), w64_id (n := a + 3) (by omega) (by omega), if_pos (by omega), z1, if_neg (by simp)]
  rfl
theorem solo_step {a j t kind : Int} {m l : List Int} (h : Inv7 ⟨1, a⟩ m l t j) (hj : 0 ≤ j ∧ j ≤ 100) (hk : kind = 1 ∨ kind = 2 ∨ kind = 3) : ∃ m' l' t', go_ravellaw07_RingSolo_j5 a m l j kind = some (.inl (m', l', IntKind.i64.wrap (j + 1))) ∧ Inv7 ⟨1, a⟩ m' l' t' (j + 1) := by
  have hq := h.has.ok
  have hl := h.len
  have hcap := hq.cap
  have hlen := hq.len
  have h6 := h.has.cap
  have hr := h.room
  simp only at hl hcap h6 hr
  rw [go_ravellaw07_RingSolo_j5]
  rcases hk with rfl | rfl | rfl
  · by_cases e : (l.length : Int) = a
    · obtain ⟨h', r1, r2⟩ := solo_push_full (v := IntKind.i64.wrap (j + 100)) h.has (by simp only; omega)
      rw [done_run hq (by omega) (by omega) r1 (by omega), Option.bind_some]
      simp only
      rw [if_neg (by simp), if_pos (by simp [e])]
      exact ⟨_, _, _, tail_ok (inv_keep h) r2, inv_keep h⟩
    · obtain ⟨h', r1, r2⟩ := solo_push (v := IntKind.i64.wrap (j + 100)) h.has (by simp only; omega)
      rw [done_run hq (by omega) (by omega) r1 (by omega), Option.bind_some]
      simp only
      rw [if_neg (by simp), if_neg (by simp [e]), if_pos (by rfl), if_pos (by unfold few; simp; omega)]
      have hi := inv_push (v := IntKind.i64.wrap (j + 100)) h hj (by simp only; omega)
      exact ⟨_, _, _, tail_ok hi r2, hi⟩
  · by_cases e : l.length = 0
    · obtain ⟨h', r1, r2⟩ := solo_pop_none (v := IntKind.i64.wrap (j + 100)) h.has (by omega)
      rw [done_run hq (by omega) (by omega) r1 (by omega), Option.bind_some]
      simp only
      rw [if_neg (by simp), if_neg (by simp), if_neg (by simp), if_pos (by simp [e])]
      have hi := inv_none (x := t + l.length - 1) h e
      exact ⟨_, _, _, tail_ok hi r2, hi⟩
    · have w1 : IntKind.i64.wrap ((l.length : Int) - 1) = (l.length : Int) - 1 := w64_id (by omega) (by omega)
      by_cases e1 : l.length = 1
      · obtain ⟨h', r1, r2, r3⟩ := solo_pop_one (v := IntKind.i64.wrap (j + 100)) h.has (by omega)
        obtain ⟨hi, hv⟩ := inv_one h e1
        rw [hv] at r3
        rw [done_run hq (by omega) (by omega) r1 (by omega), Option.bind_some]
        simp only
        rw [if_neg (by simp), if_neg (by simp), if_neg (by simp), if_neg (by simpa using e), if_pos (by rfl), w1, if_pos (by omega), r3, if_neg (by simp), if_pos (by omega)]
        exact ⟨_, _, _, tail_ok hi r2, hi⟩
      · obtain ⟨h', r1, r2, r3⟩ := solo_pop_many (v := IntKind.i64.wrap (j + 100)) h.has (by omega)
        obtain ⟨hi, hv⟩ := inv_many h (by omega)
        rw [hv] at r3
        rw [done_run hq (by omega) (by omega) r1 (by omega), Option.bind_some]
        simp only
        rw [if_neg (by simp), if_neg (by simp), if_neg (by simp), if_neg (by simpa using e), if_pos (by rfl), w1, if_pos (by omega), r3, if_neg (by simp), if_pos (by omega)]
        exact ⟨_, _, _, tail_ok hi r2, hi⟩
  · by_cases e : l.length = 0
    · obtain ⟨h', r1, r2⟩ := solo_steal_none (v := IntKind.i64.wrap (j + 100)) h.has (by omega)
      rw [done_run hq (by omega) (by omega) r1 (by omega), Option.bind_some]
      simp only
      rw [if_neg (by simp), if_neg (by simp), if_neg (by simp), if_pos (by simp [e])]
      exact ⟨_, _, _, tail_ok (inv_keep h) r2, inv_keep h⟩
    · obtain ⟨h', r1, r2, r3⟩ := solo_steal (v := IntKind.i64.wrap (j + 100)) h.has (by omega)
      obtain ⟨hi, hv⟩ := inv_steal h (by omega)
      rw [hv] at r3
      rw [done_run hq (by omega) (by omega) r1 (by omega), Option.bind_some]
      simp only
      rw [if_neg (by simp), if_neg (by simp), if_neg (by simp), if_neg (by simpa using e), if_neg (by simp), if_pos (by omega), r3, if_neg (by simp), if_pos (by omega)]
      exact ⟨_, _, _, tail_ok hi r2, hi⟩
theorem solo_loop {a : Int} {ops : List Int} (ho : ops.length ≤ 100) : ∀ (n : Nat) (j : Nat) (m l : List Int) (t : Int), j + n = ops.length → Inv7 ⟨1, a⟩ m l t j → whileO (go_ravellaw07_RingSolo_s3 a ops true) (m, l, (j : Int)) = some true := by
  intro n
  induction n with
  | zero =>
    intro j m l t hn h
    refine whileO_inr ?_
    rw [go_ravellaw07_RingSolo_s3, if_neg (by simp; omega)]; rfl
  | succ n ih =>
    intro j m l t hn h
    have go : ∀ kind : Int, (kind = 1 ∨ kind = 2 ∨ kind = 3) → go_ravellaw07_RingSolo_s3 a ops true (m, l, (j : Int)) = go_ravellaw07_RingSolo_j5 a m l j kind → whileO (go_ravellaw07_RingSolo_s3 a ops true) (m, l, (j : Int)) = some true := fun kind hk hs => by
      obtain ⟨m', l', t', r1, r2⟩ := solo_step h (by omega) hk
      rw [whileO_inl (hs.trans r1), w64_nat (by omega)]
      exact ih (j + 1) m' l' t' (by omega) (by push_cast; exact r2)
    by_cases h1 : gt ops (j : Int) < -64
    · refine go 3 (by omega) ?_
      rw [go_ravellaw07_RingSolo_s3, if_pos (by simp; omega), if_pos (by omega), if_pos (by simp; omega), go_ravellaw07_RingSolo_j4, if_pos (by simpa using h1)]
    · by_cases h2 : gt ops (j : Int) < 0
      · refine go 2 (by omega) ?_
        rw [go_ravellaw07_RingSolo_s3, if_pos (by simp; omega), if_pos (by omega), if_pos (by simpa using h2), go_ravellaw07_RingSolo_j4, if_neg (by simpa using h1)]
      · refine go 1 (by omega) ?_
        rw [go_ravellaw07_RingSolo_s3, if_pos (by simp; omega), if_pos (by omega), if_neg (by simpa using h2), go_ravellaw07_RingSolo_j4, if_neg (by simpa using h1)]
theorem gt_zeros (n : Nat) (i : Int) : gt (List.replicate n (0 : Int)) i = 0 := by
  unfold gt
  rw [List.getD_eq_getElem?_getD, List.getElem?_replicate]
  split <;> rfl
theorem ringSolo_true {a t : Int} {ops : List Int} : go_ravellaw07_RingSolo a t ops = some true := by
  unfold go_ravellaw07_RingSolo
  rw [live_ok, Option.bind_some, if_neg (by simp)]
  split
  · rfl
  · rename_i hg
    simp at hg
    have w4 : IntKind.i64.wrap (a + 4) = a + 4 := w64_id (by omega) (by omega)
    have ln : (List.replicate (Int.toNat (a + 4)) (0 : Int)).length = (a + 4).toNat := List.length_replicate
    rw [w4, if_pos (by omega), if_pos (by omega), if_pos (by rw [st_len]; omega)]
    refine solo_loop (by omega) ops.length 0 _ _ t (by omega) ?_
    refine ⟨⟨⟨by rw [st_len, st_len]; omega, by simp only; omega, by simp only; omega, by rw [st_len, st_len]; simp only; omega⟩, ?_, ?_, by omega, by simp, by simp; omega, by simp; omega⟩, fun k hk => by simp at hk, rfl, by rw [st_len, st_len]; simp only; omega, ?_, ?_, by simp; omega, by simp only; omega⟩
    · show gt _ 1 = t
      rw [gt_st_ne (by omega) (by omega) (by omega), gt_st_eq (by omega)]
    · show gt _ 2 = _
      rw [gt_st_eq (by rw [st_len]; omega)]; simp
    · rw [gt_st_ne (by omega) (by omega) (by omega), gt_st_ne (by omega) (by omega) (by omega), gt_zeros]
    · show gt _ (a + 3) = 0
      rw [gt_st_ne (by omega) (by omega) (by omega), gt_st_ne (by omega) (by omega) (by omega), gt_zeros]

end Go.Proofs.Ytoapmmcoaggekaa
