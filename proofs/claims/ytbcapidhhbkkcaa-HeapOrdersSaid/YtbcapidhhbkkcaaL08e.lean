/- Helper lemmas for the claim's theorem: an abstract machine over the model, proved sound; no condition beyond each lemma's own. -/
import Derived.Test.YtbcapidhhbkkcaaL08d
set_option linter.unusedVariables false
set_option linter.unusedSimpArgs false
set_option linter.unnecessarySimpa false
set_option linter.unusedSectionVars false
/- Plain laws on the printed functions. -/
namespace Go.Proofs.Ytbcapidhhbkkcaa
open Go Go.AM
set_option maxRecDepth 100000
set_option maxHeartbeats 1000000
set_option linter.unusedVariables false
set_option linter.unusedSimpArgs false
/- ---- whatever order timers are added in -/
def mayL (l : List api_Timer) : List api_Timer := l.filter go_ravelref08_may
theorem add_step {a l : List api_Timer} {k : Nat} (hk : k < l.length) (h60 : l.length ≤ 60) (hn : (l.map fun t => t.Id).Nodup) (hf : Fine a) (hp : a.Perm (mayL (l.take k))) :
    ∃ b c, go_heap_Add a l[k] = some (b, c) ∧ ((c = 0 ∧ Fine b ∧ b.Perm (mayL (l.take (k + 1)))) ∨ (c ≠ 0 ∧ a.Perm (mayL (l.take (k + 1))))) := by
  have ht : mayL (l.take (k + 1)) = mayL (l.take k) ++ (if go_ravelref08_may l[k] = true then [l[k]] else []) := by
    unfold mayL
    rw [List.take_succ_eq_append_getElem hk, List.filter_append]
    congr 1
    split
    · rename_i h; rw [List.filter_cons_of_pos h]; rfl
    · rename_i h; rw [List.filter_cons_of_neg h]; rfl
  cases hm : go_ravelref08_may l[k] with
  | false =>
    refine ⟨[], 1, add_no hf hm, .inr ⟨by decide, ?_⟩⟩
    rw [ht, hm]; simpa using hp
  | true =>
    have hal : a.length ≤ 60 := by
      rw [hp.length_eq]
      exact Nat.le_trans (List.length_filter_le _ _) (by rw [List.length_take]; omega)
    obtain ⟨b, e1, p1, f1⟩ := add_yes hf hm (fun j hj e => by
      have hmem : a[j] ∈ l.take k := (List.mem_filter.1 (hp.mem_iff.1 (List.getElem_mem hj))).1
      obtain ⟨i, hi, e2⟩ := List.mem_iff_getElem.1 hmem
      have hi2 : i < k := by rw [List.length_take] at hi; omega
      have := idx_one hn (i := i) (j := k) (by omega) hk (by
        rw [List.getElem_take] at e2
        rw [e2]; exact e)
      omega) (by omega)
    refine ⟨b, 0, e1, .inl ⟨rfl, f1, ?_⟩⟩
    rw [ht, hm, if_pos rfl]
    exact p1.trans ((hp.cons _).trans (List.perm_append_singleton _ _).symm)
theorem fine_nil : Fine [] := ⟨by simp, fun k hk => by simp at hk⟩
theorem orders_end {a b : List api_Timer} {id w : Int} (ha : Fine a) (hb : Fine b) (hp : a.Perm b) : ((go_heap_Same a b).bind fun x_5661 =>
        if (!x_5661) = true then
          some false
        else
          (go_heap_Reset a id w).bind fun (x_5664, x_5665) =>
          (go_heap_Cancel a id).bind fun (x_5667, x_5668) =>
          if ((x_5665 != 0) || (x_5668 != 0)) = true then
            some (true && (x_5665 != 0))
          else
            (go_heap_Add x_5667 (api_Timer.mk w id)).bind fun (x_5674, x_5675) =>
            if (true && (x_5675 == 0)) = true then
              (go_heap_Same x_5664 x_5674).bind fun x_5681 =>
              some x_5681
            else
              some false) = some true := by
  have hl := ha.1
  obtain ⟨g1, g2, g3, g4⟩ := (fine_iff a).1 ha
  rw [same_perm (by omega) hp, Option.bind_some, if_neg (by simp)]
  by_cases hex : ∃ t ∈ a, t.Id = id
  · obtain ⟨t, ht, rfl⟩ := hex
    obtain ⟨i, hi, rfl⟩ := List.mem_iff_getElem.1 ht
    obtain ⟨cut, c1, c2, c3⟩ := cancel_at ha (perm_at hi)
    have hid := may_parts (g2 _ (List.getElem_mem hi))
    by_cases hw : 0 ≤ w ∧ w ≤ 1125899906842624
    · obtain ⟨x, r1, r2, r3⟩ := reset_at ha (perm_at hi) hw
      have hel := era_len hi
      obtain ⟨y, a1, a2, a3⟩ := add_yes (t := ⟨w, a[i].Id⟩) c3 (by unfold go_ravelref08_may; simp; omega) (fun j hj e => by
        have hmem : cut[j] ∈ a.eraseIdx i := c2.mem_iff.1 (List.getElem_mem hj)
        have hnd : ((a[i] :: a.eraseIdx i).map fun t => t.Id).Nodup := (((perm_at hi).map fun t => t.Id).nodup_iff).1 g3
        rw [List.map_cons, List.nodup_cons] at hnd
        exact hnd.1 (List.mem_map.2 ⟨_, hmem, e⟩)) (by rw [c2.length_eq]; omega)
      rw [r1, Option.bind_some]
      simp only
      rw [c1, Option.bind_some]
      simp only
      rw [if_neg (by decide), a1, Option.bind_some]
      simp only
      rw [if_pos (by decide), same_perm (by have := r3.1; omega) (r2.trans ((a2.trans (c2.cons _)).symm))]; rfl
    · obtain ⟨c, hc, r1⟩ := reset_no ha (id := a[i].Id) (.inr hw)
      rw [r1, Option.bind_some]
      simp only
      rw [c1, Option.bind_some]
      simp [hc]
  · have hno : ∀ t ∈ a, t.Id ≠ id := fun t ht e => hex ⟨t, ht, e⟩
    obtain ⟨c, hc, r1⟩ := reset_no ha (id := id) (w := w) (.inl hno)
    rw [r1, Option.bind_some]
    simp only
    rw [cancel_no ha hno, Option.bind_some]
    simp [hc]
theorem adds_ok {l m : List api_Timer} {id w : Int} (h60 : l.length ≤ 60) (hn : (l.map fun t => t.Id).Nodup) (hp : m.Perm l) : whileO (go_ravellaw08_HeapOrders_s11 l id w true m) ([], [], 0) = some true := by
  have hml := hp.length_eq
  have hnm : (m.map fun t => t.Id).Nodup := ((hp.map fun t => t.Id).nodup_iff).2 hn
  have := whileO_list (step := go_ravellaw08_HeapOrders_s11 l id w true m) l (fun k (s : List api_Timer × List api_Timer) => (s.1, s.2, (k : Int))) (fun _ _ => some true)
    (fun k s => (Fine s.1 ∧ s.1.Perm (mayL (l.take k))) ∧ Fine s.2 ∧ s.2.Perm (mayL (m.take k))) ([], []) ⟨⟨fine_nil, .refl _⟩, fine_nil, .refl _⟩ ?_ ?_
  · exact this
  · rintro ⟨a, b⟩ ⟨⟨h1, h2⟩, h3, h4⟩
    simp only at *
    rw [List.take_length] at h2
    rw [← hml, List.take_length] at h4
    rw [go_ravellaw08_HeapOrders_s11, if_neg (by simp)]
    exact congrArg inrO (orders_end h1 h3 (h2.trans ((hp.filter _).symm.trans h4.symm)))
  · rintro k ⟨a, b⟩ hk ⟨⟨h1, h2⟩, h3, h4⟩
    simp only at *
    left
    have hkm : k < m.length := by omega
    obtain ⟨x, c, e1, e2⟩ := add_step hk h60 hn h1 h2
    obtain ⟨y, d, d1, d2⟩ := add_step hkm (by omega) hnm h3 h4
    have j12 : ∀ z : List api_Timer, ∃ q, go_ravellaw08_HeapOrders_j12 m b (k : Int) z = nextO (z, q, ((k + 1 : Nat) : Int)) ∧ Fine q ∧ q.Perm (mayL (m.take (k + 1))) := fun z => by
      rcases d2 with ⟨rfl, q1, q2⟩ | ⟨q0, q1⟩
      · refine ⟨y, ?_, q1, q2⟩
        rw [go_ravellaw08_HeapOrders_j12, if_pos (pos_int hkm), gt_nat hkm, d1, Option.bind_some]
        show (if ((0 : Int) == 0) = true then _ else _) = _
        rw [if_pos (by decide), w64_nat (by omega)]
      · refine ⟨b, ?_, h3, q1⟩
        rw [go_ravellaw08_HeapOrders_j12, if_pos (pos_int hkm), gt_nat hkm, d1, Option.bind_some]
        show (if (d == 0) = true then _ else _) = _
        rw [if_neg (by simpa using q0), w64_nat (by omega)]
    rcases e2 with ⟨rfl, q1, q2⟩ | ⟨q0, q1⟩
    · obtain ⟨q, t1, t2, t3⟩ := j12 x
      refine ⟨(x, q), ?_, ⟨⟨q1, q2⟩, t2, t3⟩, trivial⟩
      rw [go_ravellaw08_HeapOrders_s11, if_pos (by simpa using hk), if_pos (pos_int hk), gt_nat hk, e1, Option.bind_some]
      show (if ((0 : Int) == 0) = true then _ else _) = _
      rw [if_pos (by decide), t1]
    · obtain ⟨q, t1, t2, t3⟩ := j12 a
      refine ⟨(a, q), ?_, ⟨⟨h1, q1⟩, t2, t3⟩, trivial⟩
      rw [go_ravellaw08_HeapOrders_s11, if_pos (by simpa using hk), if_pos (pos_int hk), gt_nat hk, e1, Option.bind_some]
      show (if (c == 0) = true then _ else _) = _
      rw [if_neg (by simpa using q0), t1]
theorem met_ok {l m : List api_Timer} {id w : Int} (h60 : l.length ≤ 60) (hp : m.Perm l) : whileO (go_ravellaw08_HeapOrders_s4 l id w true m) (0, []) = some true := by
  have := whileO_list (step := go_ravellaw08_HeapOrders_s4 l id w true m) l (fun k (vm : List (Int × Bool)) => ((k : Int), vm)) (fun _ _ => some true)
    (fun k vm => (∀ i : Int, (mget vm i).getD false = true ↔ ∃ j : Nat, ∃ h : j < l.length, j < k ∧ l[j].Id = i) ∧ ((l.take k).map fun t => t.Id).Nodup) [] ⟨fun i => by simp [mget], by simp⟩ ?_ ?_
  · exact this
  · rintro vm ⟨h1, h2⟩
    rw [List.take_length] at h2
    rw [go_ravellaw08_HeapOrders_s4, if_neg (by simp), adds_ok h60 h2 hp]
  · rintro k vm hk ⟨h1, h2⟩
    by_cases hm : (mget vm l[k].Id).getD false = true
    · right
      rw [go_ravellaw08_HeapOrders_s4, if_pos (by simpa using hk), if_pos (pos_int hk), gt_nat hk, if_pos hm]
    · left
      refine ⟨mput vm l[k].Id true, ?_, ⟨fun i => ?_, ?_⟩, rfl⟩
      · rw [go_ravellaw08_HeapOrders_s4, if_pos (by simpa using hk), if_pos (pos_int hk), gt_nat hk, if_neg hm, w64_nat (by omega)]
      · rw [mget_mput]
        by_cases e : i = l[k].Id
        · rw [if_pos e]
          simp only [Option.getD_some, true_iff]
          exact ⟨k, hk, by omega, e.symm⟩
        · rw [if_neg e, h1]
          constructor
          · rintro ⟨j, hj, a, b⟩; exact ⟨j, hj, by omega, b⟩
          · rintro ⟨j, hj, a, b⟩
            refine ⟨j, hj, ?_, b⟩
            by_cases e2 : j = k
            · subst e2; exact absurd b.symm e
            · omega
      · rw [List.take_succ_eq_append_getElem hk, List.map_append]
        simp only [List.map_cons, List.map_nil]
        rw [List.nodup_append]
        refine ⟨h2, by simp, fun x hx y hy e => ?_⟩
        rw [List.mem_singleton] at hy
        subst hy; subst e
        obtain ⟨t, ht, e2⟩ := List.mem_map.1 hx
        obtain ⟨j, hj, rfl⟩ := List.mem_iff_getElem.1 ht
        rw [List.getElem_take] at e2
        exact hm ((h1 _).2 ⟨j, by rw [List.length_take] at hj; omega, by rw [List.length_take] at hj; omega, e2⟩)
theorem tmod_in {a n : Int} (h0 : 0 ≤ a) (hn : 0 < n) : 0 ≤ Int.tmod a n ∧ Int.tmod a n < n := by
  rw [Int.tmod_eq_emod_of_nonneg h0]
  exact ⟨Int.emod_nonneg _ (by omega), Int.emod_lt_of_pos _ hn⟩
theorem heapOrders_true {l : List api_Timer} {turns : List Int} {id w : Int} (hu : ∀ x ∈ turns, u8ok x) : go_ravellaw08_HeapOrders l turns id w = some true := by
  unfold go_ravellaw08_HeapOrders
  rw [live_ok, Option.bind_some, if_neg (by simp)]
  split
  · rfl
  · rename_i hg
    simp at hg
    rw [if_pos (few_ok (by simp; omega))]
    have := whileO_list (step := go_ravellaw08_HeapOrders_s2 l turns id w true) turns (fun k (m : List api_Timer) => (m, (k : Int))) (fun _ _ => some true) (fun k m => m.Perm l) ([] ++ l) (.refl _) ?_ ?_
    · exact this
    · intro m hp
      rw [go_ravellaw08_HeapOrders_s2, if_neg (by simp), met_ok (by omega) hp]
    · intro k m hk hp
      left
      have hml := hp.length_eq
      by_cases h0 : m.length = 0
      · refine ⟨m, ?_, hp, rfl⟩
        rw [go_ravellaw08_HeapOrders_s2, if_pos (by simpa using hk), if_pos (pos_int hk), if_neg (by simp [h0]), w64_nat (by omega)]
      · have hx := tmod_in (a := (k : Int)) (n := (m.length : Int)) (by omega) (by omega)
        have hub := hu _ (List.getElem_mem hk)
        unfold u8ok at hub
        have hy := tmod_in (a := turns[k]) (n := (m.length : Int)) (by omega) (by omega)
        have hst : (st m (Int.tmod (k : Int) (m.length : Int)) (gt m (Int.tmod turns[k] (m.length : Int)))).length = m.length := by unfold st; rw [List.length_set]
        refine ⟨swp m (Int.tmod (k : Int) (m.length : Int)) (Int.tmod turns[k] (m.length : Int)), ?_, (swp_perm hx hy).trans hp, rfl⟩
        rw [go_ravellaw08_HeapOrders_s2, if_pos (by simpa using hk), if_pos (pos_int hk), if_pos (by simp; omega), if_pos (by omega), if_pos (by omega), if_pos hx, gt_nat hk, w64_id (n := turns[k]) (by omega) (by omega), if_pos hy, if_pos hx, hst, if_pos hy, w64_nat (by omega)]
        rfl

end Go.Proofs.Ytbcapidhhbkkcaa
