/- Helper lemmas for the claim's theorem: an abstract machine over the model, proved sound; no condition beyond each lemma's own. -/
import Derived.Test.YtbcapidhhbkkcaaL08e
set_option linter.unusedVariables false
set_option linter.unusedSimpArgs false
set_option linter.unnecessarySimpa false
set_option linter.unusedSectionVars false
/- Plain laws on the printed functions. -/
namespace Go.Proofs.Ytbcapidhhbkkcaa
open Go Go.AM
set_option maxRecDepth 100000
set_option maxHeartbeats 1000000
set_option linter.unusedVariables false
set_option linter.unusedSimpArgs false
/- ---- timers in a map -/
def tmr (p : Int × Int) : api_Timer := ⟨p.2, p.1⟩
/-- A heap, and a map of the same timers. -/
structure Rel (h : List api_Timer) (m : List (Int × Int)) : Prop where
  fine : Fine h
  perm : (m.map tmr).Perm h
theorem mget_split {β : Type} {k : Int} {v : β} : ∀ {m : List (Int × β)}, mget m k = some v → ∃ l1 l2, m = l1 ++ (k, v) :: l2 ∧ (∀ w, mput m k w = l1 ++ (k, w) :: l2) ∧ mdel m k = l1 ++ l2
  | [], h => by cases h
  | (x, u) :: r, h => by
    rw [mget] at h
    by_cases e : k = x
    · rw [if_pos e] at h
      cases h; subst e
      exact ⟨[], r, rfl, fun w => by rw [mput, if_pos rfl]; rfl, by rw [mdel, if_pos rfl]; rfl⟩
    · rw [if_neg e] at h
      obtain ⟨l1, l2, h1, h2, h3⟩ := mget_split h
      refine ⟨(x, u) :: l1, l2, by rw [h1]; rfl, fun w => by rw [mput, if_neg e, h2]; rfl, by rw [mdel, if_neg e, h3]; rfl⟩
theorem mget_no {β : Type} {k : Int} : ∀ {m : List (Int × β)}, mget m k = none → (∀ p ∈ m, p.1 ≠ k) ∧ ∀ w, mput m k w = m ++ [(k, w)]
  | [], _ => ⟨fun p hp => (by cases hp), fun w => rfl⟩
  | (x, u) :: r, h => by
    rw [mget] at h
    by_cases e : k = x
    · rw [if_pos e] at h; cases h
    · rw [if_neg e] at h
      obtain ⟨h1, h2⟩ := mget_no h
      refine ⟨fun p hp => ?_, fun w => by rw [mput, if_neg e, h2]; rfl⟩
      rcases List.mem_cons.1 hp with rfl | hp
      · exact fun e2 => e e2.symm
      · exact h1 p hp
theorem Rel.len {h : List api_Timer} {m : List (Int × Int)} (r : Rel h m) : h.length = m.length := by
  have := r.perm.length_eq
  simpa using this.symm
theorem Rel.no {h : List api_Timer} {m : List (Int × Int)} (r : Rel h m) {id : Int} (hn : mget m id = none) : ∀ t ∈ h, t.Id ≠ id := fun t ht => by
  obtain ⟨p, hp, rfl⟩ := List.mem_map.1 (r.perm.mem_iff.2 ht)
  exact (mget_no hn).1 p hp
theorem Rel.yes {h : List api_Timer} {m : List (Int × Int)} (r : Rel h m) {id w : Int} (hs : mget m id = some w) : ∃ rest, h.Perm (⟨w, id⟩ :: rest) ∧ ((mdel m id).map tmr).Perm rest ∧ ∀ u, ((mput m id u).map tmr).Perm (⟨u, id⟩ :: rest) := by
  obtain ⟨l1, l2, h1, h2, h3⟩ := mget_split hs
  refine ⟨(l1 ++ l2).map tmr, ?_, by rw [h3], fun u => ?_⟩
  · refine r.perm.symm.trans ?_
    rw [h1, List.map_append, List.map_cons, List.map_append]
    exact List.perm_middle
  · rw [h2, List.map_append, List.map_cons, List.map_append]
    exact List.perm_middle
theorem Rel.add {h a : List api_Timer} {m : List (Int × Int)} (r : Rel h m) {id w : Int} (hn : mget m id = none) (ha : Fine a) (hp : a.Perm (⟨w, id⟩ :: h)) : Rel a (mput m id w) := by
  refine ⟨ha, ?_⟩
  rw [(mget_no hn).2, List.map_append]
  exact (List.perm_append_singleton _ _).trans ((r.perm.cons _).trans hp.symm)
theorem j14_ok {h : List api_Timer} {m : List (Int × Int)} (r : Rel h m) {k : Nat} (hk : k ≤ 1000) : go_ravellaw08_HeapTimes_j14 (k : Int) h m = nextO (h, ((k + 1 : Nat) : Int), m) := by
  rw [go_ravellaw08_HeapTimes_j14, (fine_ck r.fine).1, Option.bind_some, if_neg (by simp [r.len]), w64_nat (by omega)]
def dueT (now : Int) (h : List api_Timer) : List api_Timer := (srt h).filter fun t => decide (t.At ≤ now)
theorem due_split (now : Int) (h : List api_Timer) : (dueT now h ++ restL now h).Perm h := by
  have := List.filter_append_perm (fun t : api_Timer => decide (t.At ≤ now)) (srt h)
  exact this.trans (srt_perm h)
theorem any_none {now : Int} {m : List (Int × Int)} (h : ∀ p ∈ m, ¬ p.2 ≤ now) : anyO (fun _ v => if (decide (v ≤ now)) = true then some true else some false) m = some false := by
  unfold anyO
  rw [if_pos (fun p hp => by by_cases hc : p.2 ≤ now <;> simp [hc])]
  congr 1
  rw [← Bool.not_eq_true, List.any_eq_true]
  rintro ⟨p, hp, hf⟩
  have := h p hp
  simp [this] at hf
theorem times_due {ops : List ravellaw08_Op} {k : Nat} (hk : k < ops.length) (hk2 : k ≤ 1000) {h left : List api_Timer} {m : List (Int × Int)} (r : Rel h m) (hf : Fine left) (hp : left.Perm (restL ops[k].At h)) :
    ∃ m', Rel left m' ∧ whileO (go_ravellaw08_HeapTimes_s16 ops (k : Int) (dueL ops[k].At h) left) (0, m, -1, 0) = nextO (left, ((k + 1 : Nat) : Int), m') := by
  obtain ⟨D, hD⟩ : ∃ D, dueT ops[k].At h = D := ⟨_, rfl⟩
  have hdl : dueL ops[k].At h = D.map (·.Id) := by rw [← hD]; rfl
  obtain ⟨g1, g2⟩ := fine_srt r.fine
  have hsl := srt_len h
  have hl := r.fine.1
  have hsub : D.Sublist (srt h) := by rw [← hD]; exact List.filter_sublist
  have hDl : D.length ≤ 256 := Nat.le_trans hsub.length_le (by omega)
  have hDs : Srt D := (srt_srt h).sublist hsub
  have hDn : (D.map fun t => t.Id).Nodup := g2.sublist (hsub.map _)
  have hDa : ∀ t ∈ D, t.At ≤ ops[k].At := fun t ht => by
    rw [← hD] at ht
    simpa using (List.mem_filter.1 ht).2
  have hsplit : (D ++ restL ops[k].At h).Perm h := by rw [← hD]; exact due_split _ _
  have hid : ((D ++ restL ops[k].At h).map fun t => t.Id).Nodup := ((hsplit.map fun t => t.Id).nodup_iff).2 ((fine_iff h).1 r.fine).2.2.1
  rw [hdl]
  have key : ∀ (n i : Nat) (mi : List (Int × Int)) (last : api_Timer), i + n = D.length → (mi.map tmr).Perm (D.drop i ++ restL ops[k].At h) → (∀ j (hj : j < D.length), j = i → lessB last D[j] = true) →
      ∃ m', Rel left m' ∧ whileO (go_ravellaw08_HeapTimes_s16 ops (k : Int) (D.map (·.Id)) left) ((i : Int), mi, last.At, last.Id) = nextO (left, ((k + 1 : Nat) : Int), m') := by
    intro n
    induction n with
    | zero =>
      intro i mi last hi hpm hla
      have hdr : D.drop i = [] := List.drop_eq_nil_of_le (by omega)
      rw [hdr, List.nil_append] at hpm
      have hr : Rel left mi := ⟨hf, hpm.trans hp.symm⟩
      refine ⟨mi, hr, whileO_inr ?_⟩
      have hany : ∀ p ∈ mi, ¬ p.2 ≤ ops[k].At := fun p hp' => by
        have hm := hpm.mem_iff.1 (List.mem_map.2 ⟨p, hp', rfl⟩)
        have h2 : (!decide (p.2 ≤ ops[k].At)) = true := (List.mem_filter.1 hm).2
        simpa using h2
      rw [go_ravellaw08_HeapTimes_s16, if_neg (by simp; omega), gt_nat hk, any_none hany, Option.bind_some, if_neg (by simp), j14_ok hr hk2]
      rfl
    | succ n ih =>
      intro i mi last hi hpm hla
      have hiD : i < D.length := by omega
      have hiI : i < (D.map (·.Id)).length := by simpa using hiD
      rw [List.drop_eq_getElem_cons hiD, List.cons_append] at hpm
      -- the entry
      have hmem : D[i] ∈ mi.map tmr := hpm.mem_iff.2 (by simp)
      obtain ⟨p, hpm1, hpe⟩ := List.mem_map.1 hmem
      have hget : mget mi D[i].Id = some D[i].At := by
        cases hg : mget mi D[i].Id with
        | none =>
          have := (mget_no hg).1 p hpm1
          rw [← hpe] at this
          exact absurd rfl this
        | some w =>
          obtain ⟨l1, l2, e1, _, _⟩ := mget_split hg
          have hm2 : (⟨w, D[i].Id⟩ : api_Timer) ∈ mi.map tmr := List.mem_map.2 ⟨(D[i].Id, w), by rw [e1]; simp, rfl⟩
          have hnd : ((mi.map tmr).map fun t => t.Id).Nodup := by
            refine ((hpm.map fun t => t.Id).nodup_iff).2 ?_
            rw [← List.cons_append, ← List.drop_eq_getElem_cons hiD]
            exact hid.sublist (((List.drop_sublist i D).append_right _).map _)
          obtain ⟨a, ha, ea⟩ := List.mem_iff_getElem.1 hm2
          obtain ⟨b, hb, eb⟩ := List.mem_iff_getElem.1 hmem
          have := idx_one hnd ha hb (by rw [ea, eb])
          subst this
          rw [ea] at eb
          have : w = D[i].At := by rw [← eb]
          rw [this]
      obtain ⟨l1, l2, e1, _, e3⟩ := mget_split hget
      have hdel : ((mdel mi D[i].Id).map tmr).Perm (D.drop (i + 1) ++ restL ops[k].At h) := by
        rw [e3]
        have h1 : (mi.map tmr).Perm (D[i] :: (l1 ++ l2).map tmr) := by
          rw [e1, List.map_append, List.map_cons, List.map_append]
          exact List.perm_middle
        exact (h1.symm.trans hpm).cons_inv
      have hD0 := hDa _ (List.getElem_mem hiD)
      have hless := hla i hiD rfl
      obtain ⟨m', q1, q2⟩ := ih (i + 1) (mdel mi D[i].Id) D[i] (by omega) hdel (fun j hj e => by
        subst e
        have h1 := List.pairwise_iff_getElem.1 hDs i (i + 1) hiD hj (by omega)
        have hne : D[i] ≠ D[i + 1] := fun e => by
          have := idx_one hDn hiD hj (by rw [e])
          omega
        rcases less_total hne with h2 | h2
        · exact h2
        · rw [h1] at h2; cases h2)
      refine ⟨m', q1, ?_⟩
      rw [← q2]
      refine whileO_inl ?_
      have hless2 : go_ravelref08_Less (api_Timer.mk last.At last.Id) (api_Timer.mk D[i].At D[i].Id) = true := hless
      rw [go_ravellaw08_HeapTimes_s16, if_pos (by simpa using hiD), if_pos (pos_int hiI), gt_nat hiI, List.getElem_map, hget, gt_nat hk]
      simp only [Option.isSome_some, Bool.not_true, Option.getD_some, Bool.false_or]
      rw [hless2, if_neg (by simp; omega), w64_nat (by omega)]
      rfl
  exact key D.length 0 m ⟨-1, 0⟩ (by omega) (by rw [List.drop_zero]; exact r.perm.trans hsplit.symm) (fun j hj _ => by
    rw [lessB_iff]
    have := may_parts (g1 _ (hsub.subset (List.getElem_mem hj)))
    left; simp only; omega)
theorem may_bad (a b : Int) : (((decide (b < 0)) || (decide (a < 0))) || (decide (a > 1125899906842624))) = !go_ravelref08_may ⟨a, b⟩ := by
  unfold go_ravelref08_may
  rw [Bool.eq_iff_iff]
  simp; omega
theorem heapTimes_true {ops : List ravellaw08_Op} : go_ravellaw08_HeapTimes ops = some true := by
  unfold go_ravellaw08_HeapTimes
  rw [live_ok, Option.bind_some, if_neg (by simp)]
  split
  · rfl
  · rename_i hg
    simp at hg
    have := whileO_list (step := go_ravellaw08_HeapTimes_s11 ops true) ops (fun k (s : List api_Timer × List (Int × Int)) => (s.1, (k : Int), s.2)) (fun _ _ => some true) (fun k s => Rel s.1 s.2 ∧ s.1.length ≤ k) ([], []) ⟨⟨fine_nil, .refl _⟩, Nat.le_refl _⟩ ?_ ?_
    · exact this
    · rintro ⟨h, m⟩ _
      rw [go_ravellaw08_HeapTimes_s11, if_neg (by simp)]
    · rintro k ⟨h, m⟩ hk ⟨r, hl⟩
      simp only at *
      left
      have hf := r.fine
      have hgo : go_ravellaw08_HeapTimes_s11 ops true (h, (k : Int), m) = go_ravellaw08_HeapTimes_s11 ops true (h, (k : Int), m) := rfl
      conv at hgo => rhs; rw [go_ravellaw08_HeapTimes_s11, if_pos (by simpa using hk), if_pos (pos_int hk), gt_nat hk]
      rw [hgo, may_bad]
      by_cases k0 : (Int.tmod ops[k].Kind 4 == 0) = true
      · rw [if_pos k0]
        cases hm : go_ravelref08_may ⟨ops[k].At, ops[k].Id⟩ with
        | false =>
          rw [add_no hf hm, Option.bind_some]
          refine ⟨(h, m), ?_, ⟨r, Nat.le_succ_of_le hl⟩, trivial⟩
          show (if _ then _ else if ((1 : Int) == 0) = true then _ else _) = _
          rw [if_neg (by simp), if_neg (by decide), j14_ok r (by omega)]
        | true =>
          cases hgm : mget m ops[k].Id with
          | some w =>
            have hex : go_heap_Add h ⟨ops[k].At, ops[k].Id⟩ = some ([], 6) := by
              have hm2 : go_heap_may ⟨ops[k].At, ops[k].Id⟩ = true := hm
              rcases find_ok ops[k].Id (by omega) hf with ⟨i, hi, e, _, f2⟩ | ⟨hno, _, _⟩
              · rw [go_heap_Add, (fine_ck hf).1, Option.bind_some, hm2, if_neg (by simp), f2, Option.bind_some]; rfl
              · obtain ⟨rest, p1, _⟩ := r.yes hgm
                obtain ⟨i, hi, e⟩ := List.mem_iff_getElem.1 (p1.mem_iff.2 (List.mem_cons_self ..))
                exact absurd (by rw [e]) (hno i hi)
            rw [hex, Option.bind_some]
            refine ⟨(h, m), ?_, ⟨r, Nat.le_succ_of_le hl⟩, trivial⟩
            show (if _ then _ else if ((6 : Int) == 0) = true then _ else _) = _
            rw [if_neg (by simp), if_neg (by decide), j14_ok r (by omega)]
          | none =>
            obtain ⟨a, e1, p1, f1⟩ := add_yes hf hm (fun j hj => r.no hgm _ (List.getElem_mem hj)) (by omega)
            rw [e1, Option.bind_some]
            have r2 := r.add hgm f1 p1
            refine ⟨(a, mput m ops[k].Id ops[k].At), ?_, ⟨r2, by rw [p1.length_eq, List.length_cons]; omega⟩, trivial⟩
            show (if _ then _ else if ((0 : Int) == 0) = true then _ else _) = _
            rw [if_neg (by simp), if_pos (by decide), j14_ok r2 (by omega)]
      · rw [if_neg k0]
        by_cases k1 : (Int.tmod ops[k].Kind 4 == 1) = true
        · rw [if_pos k1]
          cases hgm : mget m ops[k].Id with
          | some w =>
            obtain ⟨rest, p1, p2, _⟩ := r.yes hgm
            obtain ⟨c, c1, c2, c3⟩ := cancel_at hf p1
            rw [show (⟨w, ops[k].Id⟩ : api_Timer).Id = ops[k].Id from rfl] at c1
            rw [c1, Option.bind_some]
            have r2 : Rel c (mdel m ops[k].Id) := ⟨c3, p2.trans c2.symm⟩
            refine ⟨(c, mdel m ops[k].Id), ?_, ⟨r2, by have := p1.length_eq; rw [c2.length_eq]; simp at this; omega⟩, trivial⟩
            show (if _ then _ else if ((0 : Int) == 0) = true then _ else _) = _
            rw [if_neg (by simp), if_pos (by decide), j14_ok r2 (by omega)]
          | none =>
            rw [cancel_no hf (r.no hgm), Option.bind_some]
            refine ⟨(h, m), ?_, ⟨r, Nat.le_succ_of_le hl⟩, trivial⟩
            show (if _ then _ else if ((5 : Int) == 0) = true then _ else _) = _
            rw [if_neg (by simp), if_neg (by decide), j14_ok r (by omega)]
        · rw [if_neg k1]
          by_cases k2 : (Int.tmod ops[k].Kind 4 == 2) = true
          · rw [if_pos k2]
            by_cases hw : 0 ≤ ops[k].At ∧ ops[k].At ≤ 1125899906842624
            · cases hgm : mget m ops[k].Id with
              | some w =>
                obtain ⟨rest, p1, _, p3⟩ := r.yes hgm
                obtain ⟨c, c1, c2, c3⟩ := reset_at hf p1 hw
                rw [show (⟨w, ops[k].Id⟩ : api_Timer).Id = ops[k].Id from rfl] at c1 c2
                rw [c1, Option.bind_some]
                have r2 : Rel c (mput m ops[k].Id ops[k].At) := ⟨c3, (p3 _).trans c2.symm⟩
                refine ⟨(c, mput m ops[k].Id ops[k].At), ?_, ⟨r2, by have := p1.length_eq; rw [c2.length_eq]; simp at this ⊢; omega⟩, trivial⟩
                show (if _ then _ else if ((0 : Int) == 0) = true then _ else _) = _
                rw [if_neg (by simp; omega), if_pos (by decide), j14_ok r2 (by omega)]
              | none =>
                obtain ⟨c, hc, e1⟩ := reset_no hf (id := ops[k].Id) (w := ops[k].At) (.inl (r.no hgm))
                rw [e1, Option.bind_some]
                refine ⟨(h, m), ?_, ⟨r, Nat.le_succ_of_le hl⟩, trivial⟩
                show (if _ then _ else if (c == 0) = true then _ else _) = _
                rw [if_neg (by simp [hc]), if_neg (by simpa using hc), j14_ok r (by omega)]
            · obtain ⟨c, hc, e1⟩ := reset_no hf (id := ops[k].Id) (w := ops[k].At) (.inr hw)
              rw [e1, Option.bind_some]
              refine ⟨(h, m), ?_, ⟨r, Nat.le_succ_of_le hl⟩, trivial⟩
              show (if _ then _ else if (c == 0) = true then _ else _) = _
              have hb : ((mget m ops[k].Id).isSome && decide (ops[k].At ≥ 0) && decide (ops[k].At ≤ 1125899906842624)) = false := by
                rw [← Bool.not_eq_true]
                simp
                omega
              rw [hb, if_neg (by simp [hc]), if_neg (by simpa using hc), j14_ok r (by omega)]
          · rw [if_neg k2]
            obtain ⟨left, e1, p1, f1⟩ := expire_yes hf ops[k].At
            rw [e1, Option.bind_some]
            obtain ⟨m', r2, e2⟩ := times_due hk (by omega) r f1 p1
            refine ⟨(left, m'), ?_, ⟨r2, ?_⟩, trivial⟩
            · show (if ((0 : Int) != 0) = true then _ else _) = _
              rw [if_neg (by decide), e2]
            · have h1 := p1.length_eq
              have h2 : (restL ops[k].At h).length ≤ (srt h).length := List.length_filter_le _ _
              rw [srt_len] at h2
              show left.length ≤ k + 1
              omega

end Go.Proofs.Ytbcapidhhbkkcaa
