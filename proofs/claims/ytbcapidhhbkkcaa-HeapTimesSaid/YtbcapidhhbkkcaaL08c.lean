/- Helper lemmas for the claim's theorem: an abstract machine over the model, proved sound; no condition beyond each lemma's own. -/
import Derived.Test.YtbcapidhhbkkcaaL08b
set_option linter.unusedVariables false
set_option linter.unusedSimpArgs false
set_option linter.unnecessarySimpa false
set_option linter.unusedSectionVars false
/- Plain laws on the printed functions. -/
namespace Go.Proofs.Ytbcapidhhbkkcaa
open Go Go.AM
set_option maxRecDepth 100000
set_option maxHeartbeats 1000000
set_option linter.unusedVariables false
set_option linter.unusedSimpArgs false
theorem least_ex {ids : List Int} {w h : List api_Timer} {v : Int} (hv : 0 ≤ v ∧ v < h.length) (hl : h.length ≤ 1000) : ∀ (n : Nat) (c m : Int), c + n = 4 * v + 5 → 4 * v + 1 ≤ c → (m = v ∨ (4 * v + 1 ≤ m ∧ m < c ∧ m < h.length ∧ lessB (gt h m) (gt h v) = true)) → (∀ k : Int, 4 * v + 1 ≤ k → k < c → k < h.length → lessB (gt h k) (gt h m) = false) →
    ∃ m' : Int, (m' = v ∨ (4 * v + 1 ≤ m' ∧ m' < 4 * v + 5 ∧ m' < h.length ∧ lessB (gt h m') (gt h v) = true)) ∧ (∀ k : Int, 4 * v + 1 ≤ k → k < 4 * v + 5 → k < h.length → lessB (gt h k) (gt h m') = false) ∧
      whileO (go_heap_Expire_s50 ids w h v) (m, c) = if m' = v then inrO (whileO (go_heap_Expire_s51 ids w h) ()) else nextO (swp h m' v, m')
  | n, c, m, hc, hc1, hm, hk => by
    have hend : (¬ (c ≤ 4 * v + 4 ∧ c < h.length)) → whileO (go_heap_Expire_s50 ids w h v) (m, c) = if m = v then inrO (whileO (go_heap_Expire_s51 ids w h) ()) else nextO (swp h m v, m) := fun hn => by
      have hst : go_heap_Expire_s50 ids w h v (m, c) = inrO (if m = v then inrO (whileO (go_heap_Expire_s51 ids w h) ()) else nextO (swp h m v, m)) := by
        rw [go_heap_Expire_s50, w64_id (n := 4 * v) (by omega) (by omega), w64_id (n := 4 * v + 4) (by omega) (by omega), if_neg (by simp; omega)]
        by_cases e : m = v
        · rw [if_pos (by simp [e]), if_pos e]
        · rw [if_neg (by simp [e]), if_neg e, if_pos hv, if_pos (by omega), if_pos (by omega), if_pos (by unfold st; rw [List.length_set]; exact hv)]; rfl
      by_cases e : m = v
      · rw [if_pos e] at hst ⊢
        cases hw : whileO (go_heap_Expire_s51 ids w h) () with
        | none => rw [hw] at hst; exact whileO_none hst
        | some r => rw [hw] at hst; exact whileO_inr hst
      · rw [if_neg e] at hst ⊢
        exact whileO_inr hst
    by_cases hg : c ≤ 4 * v + 4 ∧ c < h.length
    · cases n with
      | zero => omega
      | succ n =>
        have hm0 : 0 ≤ m ∧ m < h.length := by omega
        have hlt : decide ((if lessB (gt h c) (gt h m) = true then (-1 : Int) else if lessB (gt h m) (gt h c) = true then 1 else 0) < 0) = lessB (gt h c) (gt h m) := by
          cases lessB (gt h c) (gt h m) with
          | true => rfl
          | false => simp; split <;> decide
        cases hcm : lessB (gt h c) (gt h m) with
        | true =>
          have hcv : lessB (gt h c) (gt h v) = true := by
            rcases hm with rfl | ⟨_, _, _, h4⟩
            · exact hcm
            · exact less_trans hcm h4
          obtain ⟨m', g1, g2, g3⟩ := least_ex (ids := ids) (w := w) hv hl n (c + 1) c (by omega) (by omega) (.inr ⟨hc1, by omega, hg.2, hcv⟩) (fun k k1 k2 k3 => by
            by_cases e : k = c
            · subst e; exact less_irrefl _
            · have := hk k k1 (by omega) k3
              rw [← Bool.not_eq_true]; intro hh
              have h3 := less_trans hh hcm
              rw [this] at h3; cases h3)
          refine ⟨m', g1, g2, ?_⟩
          rw [← g3]
          refine whileO_inl ?_
          rw [go_heap_Expire_s50, w64_id (n := 4 * v) (by omega) (by omega), w64_id (n := 4 * v + 4) (by omega) (by omega), if_pos (by simp; omega), if_pos (by omega), if_pos hm0, order_eq, Option.bind_some, hlt, hcm, if_pos rfl, w64_id (n := c + 1) (by omega) (by omega)]; rfl
        | false =>
          obtain ⟨m', g1, g2, g3⟩ := least_ex (ids := ids) (w := w) hv hl n (c + 1) m (by omega) (by omega) (hm.imp id fun ⟨a, b, d, e⟩ => ⟨a, by omega, d, e⟩) (fun k k1 k2 k3 => by
            by_cases e : k = c
            · subst e; exact hcm
            · exact hk k k1 (by omega) k3)
          refine ⟨m', g1, g2, ?_⟩
          rw [← g3]
          refine whileO_inl ?_
          rw [go_heap_Expire_s50, w64_id (n := 4 * v) (by omega) (by omega), w64_id (n := 4 * v + 4) (by omega) (by omega), if_pos (by simp; omega), if_pos (by omega), if_pos hm0, order_eq, Option.bind_some, hlt, hcm, if_neg (by simp), w64_id (n := c + 1) (by omega) (by omega)]; rfl
    · exact ⟨m, hm.imp id fun ⟨a, b, d, e⟩ => ⟨a, by omega, d, e⟩, fun k k1 k2 k3 => hk k k1 (by omega) k3, hend hg⟩
theorem down_ex {ids : List Int} {w : List api_Timer} : ∀ (n : Nat) (h : List api_Timer) (v : Int), HS h 0 v → v < h.length → h.length ≤ 1000 → h.length ≤ n + v → ∃ h', whileO (go_heap_Expire_s48 ids w) (h, v) = nextO (ids ++ [(gt w 0).Id], h') ∧ h'.Perm h ∧ Hp h'
  | n, h, v, hs, hv, hl, hn => by
    have hle := hs.le
    have hv0 : 0 ≤ v ∧ v < h.length := by omega
    obtain ⟨m, g1, g2, g3⟩ := least_ex (ids := ids) (w := w) hv0 hl 4 (4 * v + 1) v (by omega) (by omega) (.inl rfl) (fun k k1 k2 => by omega)
    have hst : go_heap_Expire_s48 ids w (h, v) = if m = v then inrO (whileO (go_heap_Expire_s51 ids w h) ()) else nextO (swp h m v, m) := by
      rw [← g3, go_heap_Expire_s48, w64_id (n := 4 * v) (by omega) (by omega), w64_id (n := 4 * v + 1) (by omega) (by omega)]
    have hkid : ∀ k : Int, 0 < k → k < h.length → (k - 1) / 4 = v → lessB (gt h k) (gt h m) = false := fun k k0 k1 k2 => g2 k (by omega) (by omega) k1
    by_cases e : m = v
    · rw [if_pos e] at hst
      subst e
      have e1 : whileO (go_heap_Expire_s51 ids w h) () = nextO (ids ++ [(gt w 0).Id], h) := whileO_inr rfl
      rw [e1] at hst
      exact ⟨h, whileO_inr hst, .refl _, (hs.stop hv hkid).done fun h0 => absurd h0 (by omega)⟩
    · rw [if_neg e] at hst
      obtain ⟨m1, m2, m3, m4⟩ := g1.resolve_left e
      cases n with
      | zero => omega
      | succ n =>
        have hs' := hs.sink hv ⟨by omega, m3⟩ (by omega) m4 hkid
        have hlen := swp_len h m v
        obtain ⟨h', e1, e2, e3⟩ := down_ex n (swp h m v) m hs' (by omega) (by omega) (by omega)
        exact ⟨h', (whileO_inl hst).trans e1, e2.trans (swp_perm (by omega) hv0), e3⟩
theorem fine_of {h xs : List api_Timer} (hf : Fine xs) {r : List api_Timer} (hs : r.Sublist xs) (hp : h.Perm r) (hh : Hp h) : Fine h := by
  obtain ⟨g1, g2, g3, _⟩ := (fine_iff xs).1 hf
  refine (fine_iff h).2 ⟨by rw [hp.length_eq]; exact Nat.le_trans hs.length_le g1, fun t ht => g2 t (hs.subset (hp.mem_iff.1 ht)), ?_, hh⟩
  exact ((hp.map fun t => t.Id).nodup_iff).2 (g3.sublist (hs.map _))
/-- The first one is taken out. -/
theorem without_ok {t : api_Timer} {r : List api_Timer} {ids : List Int} {now : Int} (hf : Fine (t :: r)) (hat : t.At ≤ now) (hids : ids.length ≤ 1000) : ∃ h', go_heap_Expire_s43 now (ids, t :: r) = nextO (ids ++ [t.Id], h') ∧ h'.Perm r ∧ Fine h' := by
  have hl := hf.1
  obtain ⟨g1, g2, g3, g4⟩ := (fine_iff _).1 hf
  have hrl : (t :: r).length = r.length + 1 := rfl
  have hlast : IntKind.i64.wrap (((t :: r).length : Int) - 1) = ((r.length : Nat) : Int) := by rw [w64_id (by omega) (by omega)]; omega
  have hm2 : r.length < (t :: r).length := by omega
  have hst : st (t :: r) 0 (gt (t :: r) ((r.length : Nat) : Int)) = (t :: r).set 0 (t :: r)[r.length] := by rw [gt_nat hm2]; simp [st]
  have hsl : ((t :: r).set 0 (t :: r)[r.length]).length = r.length + 1 := by rw [List.length_set, hrl]
  have h0l : (((t :: r).set 0 (t :: r)[r.length]).take r.length).length = r.length := by rw [List.length_take, hsl]; omega
  have hperm : (((t :: r).set 0 (t :: r)[r.length]).take r.length).Perm r := by
    have e1 : ((t :: r).set 0 (t :: r)[r.length])[r.length]'(by omega) = (t :: r)[r.length] := by
      rw [List.getElem_set]; split
      · rfl
      · rfl
    have e2 : ((t :: r).set 0 (t :: r)[r.length]) = ((t :: r).set 0 (t :: r)[r.length]).take r.length ++ [(t :: r)[r.length]] := by
      have := List.take_append_drop r.length ((t :: r).set 0 (t :: r)[r.length])
      rw [List.drop_eq_getElem_cons (by omega), e1, List.drop_eq_nil_of_le (by omega)] at this
      exact this.symm
    have h1 := set_perm (xs := t :: r) (i := 0) (by simp) (t :: r)[r.length]
    rw [e2] at h1
    exact (((List.perm_append_singleton _ _).symm.trans h1)).cons_inv
  have hg : ∀ k : Int, 0 ≤ k → k < (((t :: r).set 0 (t :: r)[r.length]).take r.length).length → k ≠ 0 → gt (((t :: r).set 0 (t :: r)[r.length]).take r.length) k = gt (t :: r) k := fun k k0 k1 k2 => by
    obtain ⟨a, rfl⟩ : ∃ a : Nat, k = (a : Int) := ⟨k.toNat, by omega⟩
    rw [gt_nat (show a < (((t :: r).set 0 (t :: r)[r.length]).take r.length).length by omega), gt_nat (show a < (t :: r).length by omega), List.getElem_take, List.getElem_set_ne (by omega)]
  have hgt : gt (t :: r) 0 = t := rfl
  have hcan : go_heap_Expire_s43 now (ids, t :: r) = if (decide ((0 : Int) < ((r.length : Nat) : Int))) = true then whileO (go_heap_Expire_s48 ids (t :: r)) (((t :: r).set 0 (t :: r)[r.length]).take r.length, 0) else nextO (ids ++ [t.Id], ((t :: r).set 0 (t :: r)[r.length]).take r.length) := by
    have hz : 0 ≤ (0 : Int) ∧ (0 : Int) < ((t :: r).length : Int) := by omega
    rw [go_heap_Expire_s43, if_pos (by simp <;> omega), if_pos hz, hgt, if_pos (by simpa using hat), if_pos hz, if_pos (few_ok (by simp <;> omega)), hlast, if_pos (show 0 ≤ ((r.length : Nat) : Int) ∧ ((r.length : Nat) : Int) < ((t :: r).length : Int) by omega), if_pos hz, hst, if_pos (by omega), sub_nat]
  by_cases hlt : 0 < r.length
  · obtain ⟨h', d1, d2, d3⟩ := down_ex (ids := ids) (w := t :: r) (((t :: r).set 0 (t :: r)[r.length]).take r.length).length (((t :: r).set 0 (t :: r)[r.length]).take r.length) 0 (.at (xs := t :: r) (by omega) g4 (by omega) hg) (by omega) (by omega) (by omega)
    exact ⟨h', by rw [hcan, if_pos (by rw [decide_eq_true_eq]; omega)]; exact d1, d2.trans hperm, fine_of hf (List.sublist_cons_self t r) (d2.trans hperm) d3⟩
  · refine ⟨_, by rw [hcan, if_neg (by rw [decide_eq_true_eq]; omega)], hperm, fine_of hf (List.sublist_cons_self t r) hperm fun k k0 k1 => by omega⟩
/-- What is due, and what is not. -/
def dueL (now : Int) (h : List api_Timer) : List Int := ((srt h).filter fun t => decide (t.At ≤ now)).map (·.Id)
def restL (now : Int) (h : List api_Timer) : List api_Timer := (srt h).filter fun t => !decide (t.At ≤ now)
theorem exp_loop {now : Int} : ∀ (n : Nat) (left : List api_Timer) (ids : List Int), left.length ≤ n → Fine left → ids.length + left.length ≤ 900 → ∃ h', whileO (go_heap_Expire_s43 now) (ids, left) = some (ids ++ dueL now left, h', 0) ∧ h'.Perm (restL now left) ∧ Fine h'
  | n, [], ids, hn, hf, hi => by
    refine ⟨[], whileO_inr ?_, by simp [restL, srt], hf⟩
    rw [go_heap_Expire_s43, if_neg (by simp)]
    have : dueL now [] = [] := by simp [dueL, srt]
    rw [this, List.append_nil]; rfl
  | n, t :: r, ids, hn, hf, hi => by
    have hs := srt_head hf rfl
    by_cases hat : t.At ≤ now
    · obtain ⟨h1, e1, e2, e3⟩ := without_ok (ids := ids) hf hat (by omega)
      cases n with
      | zero => simp at hn
      | succ n =>
        obtain ⟨h', k1, k2, k3⟩ := exp_loop n h1 (ids ++ [t.Id]) (by rw [e2.length_eq]; simp at hn; omega) e3 (by rw [e2.length_eq]; simp at hi ⊢; omega)
        have hsr : srt h1 = srt r := srt_same e2
        refine ⟨h', ?_, ?_, k3⟩
        · rw [whileO_inl e1, k1]
          unfold dueL
          rw [hs, hsr, List.filter_cons_of_pos (by simpa using hat), List.map_cons, List.append_assoc]; rfl
        · unfold restL at k2 ⊢
          rw [hs, List.filter_cons_of_neg (by simpa using hat), ← hsr]; exact k2
    · have hall : ∀ u ∈ srt (t :: r), ¬ u.At ≤ now := fun u hu => by
        rw [hs] at hu
        rcases List.mem_cons.1 hu with rfl | hu
        · exact hat
        · have := (List.pairwise_cons.1 (hs ▸ srt_srt (t :: r) : Srt (t :: srt r))).1 u hu
          rw [← Bool.not_eq_true, lessB_iff] at this
          omega
      have h1 : dueL now (t :: r) = [] := by
        unfold dueL
        rw [List.filter_eq_nil_iff.2 (fun u hu => by simpa using hall u hu)]; rfl
      have h2 : restL now (t :: r) = srt (t :: r) := by
        unfold restL
        exact List.filter_eq_self.2 fun u hu => by simpa using hall u hu
      refine ⟨t :: r, whileO_inr ?_, by rw [h2]; exact (srt_perm _).symm, hf⟩
      have hgt : gt (t :: r) 0 = t := rfl
      rw [go_heap_Expire_s43, if_pos (by simp <;> omega), if_pos (by simp <;> omega), hgt, if_neg (by simpa using hat), h1, List.append_nil]; rfl
theorem expire_yes {h : List api_Timer} (hf : Fine h) (now : Int) : ∃ h', go_heap_Expire h now = some (dueL now h, h', 0) ∧ h'.Perm (restL now h) ∧ Fine h' := by
  have hl := hf.1
  obtain ⟨h', k1, k2, k3⟩ := exp_loop (now := now) h.length h [] (Nat.le_refl _) hf (by simp; omega)
  refine ⟨h', ?_, k2, k3⟩
  rw [go_heap_Expire, (fine_ck hf).1, Option.bind_some, if_neg (by simp), go_slices_Clone_api_Timer_api_Timer, if_pos (few_all (by omega)), Option.bind_some, k1, List.nil_append]
end Go.Proofs.Ytbcapidhhbkkcaa
