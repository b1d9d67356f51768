/- Helper lemmas for the claim's theorem: an abstract machine over the model, proved sound; no condition beyond each lemma's own. -/
import Derived.Test.YtdlpecjbafadkaaL04d
set_option linter.unusedVariables false
set_option linter.unusedSimpArgs false
set_option linter.unnecessarySimpa false
set_option linter.unusedSectionVars false
/- Plain laws on the printed functions. -/
namespace Go.Proofs.Ytdlpecjbafadkaa
open Go Go.AM
set_option maxRecDepth 100000
set_option maxHeartbeats 1000000
set_option linter.unusedVariables false
set_option linter.unusedSimpArgs false
theorem loop_some {K : Type} {step : Int → Option (Int ⊕ K)} (n : Nat) (hs : ∀ i : Nat, i < n → (∃ k, step (i : Int) = some (.inr k)) ∨ step (i : Int) = some (.inl ((i + 1 : Nat) : Int))) (he : ∃ k, step (n : Int) = some (.inr k)) : ∃ k, whileO step 0 = some k := by
  have key : ∀ (m i : Nat), i + m = n → ∃ k, whileO step (i : Int) = some k := by
    intro m
    induction m with
    | zero =>
      intro i h
      have : i = n := by omega
      subst this
      obtain ⟨k, hk⟩ := he
      exact ⟨k, whileO_inr hk⟩
    | succ m ih =>
      intro i h
      rcases hs i (by omega) with ⟨k, hk⟩ | hk
      · exact ⟨k, whileO_inr hk⟩
      · rw [whileO_inl hk]; exact ih (i + 1) (by omega)
  exact key n 0 (by omega)
def addB (n k : Int) : Int := if 2199023255552 < n + k then 2199023255552 else n + k
def minC (n : Int) : Int := if n < 1099511627777 then n else 1099511627777
def foldT (f : Int → Int) : List Int → Int → Int
  | [], n => n
  | j :: r, n => if n > 0 then (if f j = 0 then foldT f r 0 else foldT f r (addB n (f j))) else foldT f r n
theorem foldT_zero (f : Int → Int) : ∀ r, foldT f r 0 = 0
  | [] => rfl
  | j :: r => by rw [foldT, if_neg (by omega)]; exact foldT_zero f r
theorem minC_add {n k : Int} (hn : 1 ≤ n) (hk : 1 ≤ k) : addC (minC n) (minC k) = minC (addB n k) := by
  unfold addC minC addB
  repeat' split
  all_goals omega
theorem addB_bounds {n k : Int} (hn : 1 ≤ n) (hk : 1 ≤ k) : 1 ≤ addB n k ∧ addB n k ≤ 2199023255552 := by unfold addB; split <;> omega
def soundV (l : List (List api_Instr)) (j x : Int) : Prop := x = 0 ∨ ((1 ≤ x ∧ x ≤ 2199023255552) ∧ ∃ m, D l m j = some (minC x))
theorem foldT_sound {l : List (List api_Instr)} {f : Int → Int} : ∀ {ks : List Int} {n : Int}, (∀ j ∈ ks, soundV l j (f j)) → 1 ≤ n ∧ n ≤ 2199023255552 →
    foldT f ks n = 0 ∨ ((1 ≤ foldT f ks n ∧ foldT f ks n ≤ 2199023255552) ∧ ∃ m, foldD (D l m) ks (minC n) = some (minC (foldT f ks n)))
  | [], n, _, hn => .inr ⟨hn, 0, rfl⟩
  | j :: r, n, hf, hn => by
    rw [foldT, if_pos (by omega)]
    rcases hf j (by simp) with h0 | ⟨hb, m1, hm1⟩
    · rw [if_pos h0]; exact .inl (foldT_zero f r)
    · rw [if_neg (by omega)]
      rcases foldT_sound (l := l) (f := f) (ks := r) (n := addB n (f j)) (fun i hi => hf i (by simp [hi])) (addB_bounds hn.1 hb.1) with h1 | ⟨h1, m2, hm2⟩
      · exact .inl h1
      · refine .inr ⟨h1, max m1 m2, ?_⟩
        rw [foldD, D_le (Nat.le_max_left m1 m2) hm1]
        show foldD (D l (max m1 m2)) r (addC (minC n) (minC (f j))) = _
        rw [minC_add hn.1 hb.1]
        exact foldD_mono (fun j k => D_le (Nat.le_max_right m1 m2)) _ _ _ hm2
theorem foldT_ne {f : Int → Int} : ∀ {ks : List Int} {n : Int}, (∀ j ∈ ks, 1 ≤ f j) → 1 ≤ n → 1 ≤ foldT f ks n
  | [], n, _, hn => hn
  | j :: r, n, hf, hn => by
    have hj := hf j (by simp)
    rw [foldT, if_pos (by omega), if_neg (by omega)]
    exact foldT_ne (fun i hi => hf i (by simp [hi])) (addB_bounds hn hj).1
theorem foldD_all {f : Int → Option Int} : ∀ {r : List Int} {n : Int}, (∀ j ∈ r, ∃ k, f j = some k) → ∃ v, foldD f r n = some v
  | [], n, _ => ⟨n, rfl⟩
  | j :: r, n, h => by
    obtain ⟨k, hk⟩ := h j (by simp)
    rw [foldD, hk]
    exact foldD_all (fun i hi => h i (by simp [hi]))
theorem D_depth {l : List (List api_Instr)} (hl : Pr l) : ∀ (m : Nat) (i v : Int) (path : List Int), D l m i = some v → (∀ u ∈ path, Path1 l u i) → path.Nodup → (∀ u ∈ path, 0 ≤ u ∧ u < l.length) → (0 ≤ i ∧ i < l.length) → ∃ w, D l (l.length - path.length) i = some w
  | 0, i, v, path, h, _, _, _, _ => by cases h
  | m + 1, i, v, path, h, hp, hn, hr, hi => by
    have hip : i ∉ path := fun hm => by
      have := D_cyc (hp i hm) (m + 1)
      rw [h] at this; cases this
    have hn' : (i :: path).Nodup := List.nodup_cons.2 ⟨hip, hn⟩
    have hr' : ∀ u ∈ i :: path, 0 ≤ u ∧ u < l.length := fun u hu => by
      rcases List.mem_cons.1 hu with rfl | hu
      · exact hi
      · exact hr u hu
    have hlen := nodup_len l.length (i :: path) hn' hr'
    rw [List.length_cons] at hlen
    obtain ⟨q, hq⟩ : ∃ q, l.length - path.length = q + 1 := ⟨l.length - path.length - 1, by omega⟩
    rw [hq, D]
    refine foldD_all fun j hj => ?_
    obtain ⟨k, hk⟩ := foldD_kid h j hj
    have := D_depth hl m j k (i :: path) hk (fun u hu => by
      rcases List.mem_cons.1 hu with rfl | hu
      · exact .one hj
      · exact (hp u hu).snoc hj) hn' hr' (hl.kid i j hi.1 hi.2 hj)
    rw [List.length_cons, show l.length - (path.length + 1) = q by omega] at this
    exact this
theorem D_full {l : List (List api_Instr)} (hl : Pr l) {m : Nat} {i v : Int} (h : D l m i = some v) (hi : 0 ≤ i ∧ i < l.length) : ∃ w, D l l.length i = some w := by
  have := D_depth hl m i v [] h (fun u hu => by cases hu) List.nodup_nil (fun u hu => by cases hu) hi
  simpa using this
theorem tab_inner {l : List (List api_Instr)} {K : List Int} {i : Int} (hi : 0 ≤ i ∧ i < K.length) {s : List api_Instr} (hs : s.length ≤ 1000000) (hk : ∀ x ∈ s, x.Op = 2 → 0 ≤ x.A ∧ x.A < K.length) (hb : ∀ x ∈ K, 0 ≤ x ∧ x ≤ 2199023255552) (hil : i ≤ 1000000) :
    ∀ (m q : Nat) (n : Int), q + m = s.length → 0 ≤ n ∧ n ≤ 2199023255552 → whileO (go_ravelref04_table_s24 K i s) (n, (q : Int)) = nextO (st K i (foldT (gt K) (kidsOf (s.drop q)) n), i + 1)
  | 0, q, n, h, hn => by
    have : q = s.length := by omega
    subst this
    refine whileO_inr ?_
    rw [go_ravelref04_table_s24, if_neg (by simp), if_pos hi, w64_id (n := i + 1) (by omega) (by omega), List.drop_length]; rfl
  | m + 1, q, n, h, hn => by
    have hq : q < s.length := by omega
    rw [List.drop_eq_getElem_cons hq]
    by_cases h2 : s[q].Op = 2
    · have hkid : kidsOf (s[q] :: s.drop (q + 1)) = s[q].A :: kidsOf (s.drop (q + 1)) := by unfold kidsOf; rw [List.filter_cons_of_pos (by simp [h2])]; rfl
      have hr := hk _ (List.getElem_mem hq) h2
      rw [hkid, foldT]
      by_cases hn0 : n > 0
      · have hg : 0 ≤ gt K s[q].A ∧ gt K s[q].A ≤ 2199023255552 := by
          obtain ⟨z, hz⟩ : ∃ z : Nat, s[q].A = (z : Int) := ⟨s[q].A.toNat, by omega⟩
          rw [hz, gt_nat (by omega)]; exact hb _ (List.getElem_mem _)
        rw [if_pos hn0]
        by_cases h0 : gt K s[q].A = 0
        · rw [if_pos h0, ← tab_inner (l := l) hi hs hk hb hil m (q + 1) 0 (by omega) (by omega)]
          refine whileO_inl ?_
          rw [go_ravelref04_table_s24, if_pos (by simpa using hq), if_pos (by omega), gt_nat hq, if_pos (by simp [h2]; omega), if_pos hr, if_pos (by simp [h0]), w64_nat (by omega)]; rfl
        · have hab := addB_bounds (n := n) (k := gt K s[q].A) (by omega) (by omega)
          rw [if_neg h0, ← tab_inner (l := l) hi hs hk hb hil m (q + 1) _ (by omega) (by omega)]
          refine whileO_inl ?_
          rw [go_ravelref04_table_s24, if_pos (by simpa using hq), if_pos (by omega), gt_nat hq, if_pos (by simp [h2]; omega), if_pos hr, if_neg (by simp [h0]), if_pos hr, w64_nat (by omega), w64_id (n := n + gt K s[q].A) (by omega) (by omega)]; rfl
      · rw [if_neg hn0, ← tab_inner (l := l) hi hs hk hb hil m (q + 1) n (by omega) hn]
        refine whileO_inl ?_
        rw [go_ravelref04_table_s24, if_pos (by simpa using hq), if_pos (by omega), gt_nat hq, if_neg (by simp [h2]; omega), w64_nat (by omega)]; rfl
    · have hkid : kidsOf (s[q] :: s.drop (q + 1)) = kidsOf (s.drop (q + 1)) := by unfold kidsOf; rw [List.filter_cons_of_neg (by simp [h2])]
      rw [hkid, ← tab_inner (l := l) hi hs hk hb hil m (q + 1) n (by omega) hn]
      refine whileO_inl ?_
      rw [go_ravelref04_table_s24, if_pos (by simpa using hq), if_pos (by omega), gt_nat hq, if_neg (by simp [h2]), w64_nat (by omega)]; rfl
theorem gt_stI {m : List Int} {i : Int} (j x : Int) (h0 : 0 ≤ i ∧ i < m.length) (hj : 0 ≤ j) : gt (st m i x) j = if j = i then x else gt m j := by
  by_cases e : j = i
  · subst e
    simp [gt, st, List.getD, List.getElem?_set, show j.toNat < m.length by omega]
  · have : i.toNat ≠ j.toNat := by omega
    simp [gt, st, List.getD, List.getElem?_set, this, e]
/-- What the table holds in pass p, ahead of program i. -/
structure Tab (l : List (List api_Instr)) (p : Nat) (i : Int) (K : List Int) : Prop where
  len : K.length = l.length
  sound : ∀ j : Int, 0 ≤ j → j < l.length → soundV l j (gt K j)
  comp : ∀ j : Int, 0 ≤ j → j < l.length → (∀ v, D l p j = some v → gt K j ≠ 0) ∧ (j < i → ∀ v, D l (p + 1) j = some v → gt K j ≠ 0)
theorem Tab.bounds {l : List (List api_Instr)} {p : Nat} {i : Int} {K : List Int} (h : Tab l p i K) : ∀ x ∈ K, 0 ≤ x ∧ x ≤ 2199023255552 := fun x hx => by
  obtain ⟨q, hq, rfl⟩ := List.mem_iff_getElem.1 hx
  have := h.len
  have hs := h.sound (q : Int) (by omega) (by omega)
  rw [gt_nat hq] at hs
  rcases hs with h1 | ⟨h1, _⟩ <;> omega
theorem Tab.next {l : List (List api_Instr)} (hl : Pr l) {p : Nat} {i : Int} {K : List Int} (h : Tab l p i K) (hi : 0 ≤ i ∧ i < l.length) : Tab l p (i + 1) (st K i (foldT (gt K) (kids l i) 1)) := by
  have hlen := h.len
  have hiK : 0 ≤ i ∧ i < K.length := by omega
  have hkid : ∀ j ∈ kids l i, 0 ≤ j ∧ j < l.length := fun j hj => hl.kid i j hi.1 hi.2 hj
  refine ⟨by unfold st; rw [List.length_set]; exact hlen, fun j hj0 hj => ?_, fun j hj0 hj => ?_⟩
  · rw [gt_stI j _ hiK hj0]
    split
    · rename_i e
      subst e
      rcases foldT_sound (l := l) (f := gt K) (ks := kids l j) (n := 1) (fun q hq => h.sound q (hkid q hq).1 (hkid q hq).2) (by omega) with h1 | ⟨h1, m, h2⟩
      · exact .inl h1
      · exact .inr ⟨h1, m + 1, h2⟩
    · exact h.sound j hj0 hj
  · have hnew : ∀ v, D l (p + 1) i = some v → foldT (gt K) (kids l i) 1 ≠ 0 := fun v hv => by
      have := foldT_ne (f := gt K) (ks := kids l i) (n := 1) (fun q hq => by
        obtain ⟨k, hk⟩ := foldD_kid hv q hq
        have h1 := (h.comp q (hkid q hq).1 (hkid q hq).2).1 k hk
        rcases h.sound q (hkid q hq).1 (hkid q hq).2 with h2 | ⟨h2, _⟩ <;> omega) (by omega)
      omega
    rw [gt_stI j _ hiK hj0]
    split
    · rename_i e
      subst e
      exact ⟨fun v hv => hnew v (D_step l p j v hv), fun _ v hv => hnew v hv⟩
    · rename_i e
      exact ⟨(h.comp j hj0 hj).1, fun hji v hv => (h.comp j hj0 hj).2 (by omega) v hv⟩
theorem Tab.pass {l : List (List api_Instr)} {p : Nat} {K : List Int} (h : Tab l p (l.length : Int) K) : Tab l (p + 1) 0 K :=
  ⟨h.len, h.sound, fun j hj0 hj => ⟨(h.comp j hj0 hj).2 hj, fun hn => by omega⟩⟩
theorem tab_pass {l : List (List api_Instr)} (hl : Pr l) (hk : ∀ p ∈ l, ∀ x ∈ p, x.Op = 2 → 0 ≤ x.A ∧ x.A < l.length) (v : Int) : ∀ (m q p : Nat) (K : List Int), q + m = l.length → Tab l p (q : Int) K → ∃ K', Tab l p (l.length : Int) K' ∧ whileO (go_ravelref04_table_s22 l v) (K, (q : Int)) = nextO (K', IntKind.i64.wrap (v + 1))
  | 0, q, p, K, h, hT => by
    have : q = l.length := by omega
    subst this
    exact ⟨K, hT, whileO_inr (by rw [go_ravelref04_table_s22, if_neg (by simp)]; rfl)⟩
  | m + 1, q, p, K, h, hT => by
    have hq : q < l.length := by omega
    have hlen := hT.len
    have hl16 := hl.len
    have hrl := reach_len l[q]
    have hone := hl.one _ (List.getElem_mem hq)
    have hin := tab_inner (l := l) (K := K) (i := (q : Int)) (by omega) (s := reach l[q]) (by omega) (fun x hx h2 => by have := hk _ (List.getElem_mem hq) x (reach_mem hx) h2; omega) hT.bounds (by omega) (reach l[q]).length 0 1 (by omega) (by omega)
    rw [List.drop_zero] at hin
    have hkk : kidsOf (reach l[q]) = kids l (q : Int) := by unfold kids; rw [gt_nat hq]
    rw [hkk] at hin
    obtain ⟨K', h1, h2⟩ := tab_pass hl hk v m (q + 1) p _ (by omega) (by have := hT.next hl (i := (q : Int)) (by omega); simpa using this)
    refine ⟨K', h1, ?_⟩
    rw [← h2]
    refine whileO_inl ?_
    rw [go_ravelref04_table_s22, if_pos (by simpa using hq), if_pos (by omega), gt_nat hq, run_eq hone, Option.bind_some]
    exact hin
theorem tab_passes {l : List (List api_Instr)} (hl : Pr l) (hk : ∀ p ∈ l, ∀ x ∈ p, x.Op = 2 → 0 ≤ x.A ∧ x.A < l.length) : ∀ (m p : Nat) (K : List Int), p + m = l.length → Tab l p 0 K → ∃ K', Tab l l.length 0 K' ∧ whileO (go_ravelref04_table_s17 l) (K, (p : Int)) = some K'
  | 0, p, K, h, hT => by
    have : p = l.length := by omega
    subst this
    exact ⟨K, hT, whileO_inr (by rw [go_ravelref04_table_s17, if_neg (by simp)]; rfl)⟩
  | m + 1, p, K, h, hT => by
    have hp : p < l.length := by omega
    have hl16 := hl.len
    obtain ⟨K1, h1, h2⟩ := tab_pass hl hk (p : Int) l.length 0 p K (by omega) (by simpa using hT)
    obtain ⟨K', h3, h4⟩ := tab_passes hl hk m (p + 1) K1 (by omega) h1.pass
    refine ⟨K', h3, ?_⟩
    rw [← h4]
    refine whileO_inl ?_
    rw [go_ravelref04_table_s17, if_pos (by simpa using hp)]
    rw [show ((0 : Nat) : Int) = 0 from rfl] at h2
    rw [h2, w64_nat (by omega)]; rfl
theorem table_eq {l : List (List api_Instr)} (hl : Pr l) (hk : ∀ p ∈ l, ∀ x ∈ p, x.Op = 2 → 0 ≤ x.A ∧ x.A < l.length) : ∃ K, Tab l l.length 0 K ∧ go_ravelref04_table l = some K := by
  unfold go_ravelref04_table
  have hl16 := hl.len
  have h1 := whileO_run (step := go_ravelref04_table_s2 l) (fun j => (List.replicate j (0 : Int), (j : Int))) l.length (fun j hj => by
    have e : List.replicate j (0 : Int) ++ [0] = List.replicate (j + 1) 0 := by rw [List.replicate_succ']
    rw [go_ravelref04_table_s2, if_pos (by simpa using hj), e, if_pos (show few _ by unfold few; rw [List.length_replicate]; omega), w64_nat (by omega)]; rfl)
  have h2 : (([] : List Int), (0 : Int)) = (List.replicate 0 (0 : Int), ((0 : Nat) : Int)) := rfl
  have hz : ∀ j : Int, 0 ≤ j → j < l.length → gt (List.replicate l.length (0 : Int)) j = 0 := fun j h0 hj => by
    obtain ⟨z, rfl⟩ : ∃ z : Nat, j = (z : Int) := ⟨j.toNat, by omega⟩
    rw [gt_nat (by simp; omega)]; simp
  obtain ⟨K, h3, h4⟩ := tab_passes hl hk l.length 0 (List.replicate l.length 0) (by omega) ⟨by simp, fun j h0 hj => .inl (hz j h0 hj), fun j h0 hj => ⟨fun v hv => (by cases hv), fun hn => (by omega)⟩⟩
  refine ⟨K, h3, ?_⟩
  rw [h2, h1]
  refine whileO_inr ?_
  rw [go_ravelref04_table_s2, if_neg (by simp)]
  rw [show ((0 : Nat) : Int) = 0 from rfl] at h4
  rw [h4]; rfl
theorem ckAll_kid {l : List (List api_Instr)} (hc : ckAll l = true) : ∀ p ∈ l, ∀ x ∈ p, x.Op = 2 → 0 ≤ x.A ∧ x.A < l.length := fun p hp x hx h2 => by
  have hck := (ckAll_pr hc).2 p hp
  refine ⟨may_spawn ((chkP_parts hck).2.2 x hx) h2, ?_⟩
  unfold ckAll at hc
  simp only [Bool.and_eq_true, Bool.not_eq_true', List.any_eq_false] at hc
  have h3 := hc.2 _ hp
  unfold badP at h3
  rw [Bool.or_eq_true, not_or, Bool.not_eq_true, Bool.not_eq_true, List.any_eq_false] at h3
  have h4 := h3.2 x hx
  unfold spawnsFar at h4
  simp [h2] at h4; omega
theorem tasks_same {l : List (List api_Instr)} {i : Int} (h : poks l) : ∃ r, go_code_Tasks l i = some r ∧ go_ravelref04_Tasks l i = some r := by
  by_cases hb : ckAll l = false ∨ ¬ (0 ≤ i ∧ i < l.length)
  · refine ⟨_, tasks_bad h hb, ?_⟩
    unfold go_ravelref04_Tasks
    rw [rcheckAll_eq h, Option.bind_some]
    rcases hb with hb | hb
    · rw [hb, if_pos (by simp)]
    · have : (decide (i < 0) || decide (i ≥ (l.length : Int))) = true := by simp; omega
      rw [Bool.or_assoc, this, if_pos (by simp)]
  · simp only [not_or, Bool.not_eq_false, Decidable.not_not] at hb
    obtain ⟨hc, hi⟩ := hb
    have hl := (ckAll_pr hc).1
    obtain ⟨K, hT, hK⟩ := table_eq hl (ckAll_kid hc)
    have hlen := hT.len
    have href : go_ravelref04_Tasks l i = if gt K i = 0 then some (0, 9) else if gt K i > 1099511627776 then some (0, 4) else some (gt K i, 0) := by
      unfold go_ravelref04_Tasks
      rw [rcheckAll_eq h, Option.bind_some, hc, if_neg (by simp; omega), hK, Option.bind_some, if_pos (by omega)]
      by_cases h0 : gt K i = 0
      · rw [if_pos (by simp [h0]), if_pos h0]
      · rw [if_neg (by simp [h0]), if_neg h0]
        by_cases h1 : gt K i > 1099511627776
        · rw [if_pos (by simpa using h1), if_pos h1]
        · rw [if_neg (by simpa using h1), if_neg h1]
    rw [href]
    rcases hT.sound i hi.1 hi.2 with h0 | ⟨hb, m, hm⟩
    · rw [if_pos h0]
      rcases tasks_ok h hc hi with ⟨m, k, h1, h2⟩ | ⟨h1, h2⟩
      · obtain ⟨w, hw⟩ := D_full hl h1 hi
        exact absurd h0 ((hT.comp i hi.1 hi.2).1 w hw)
      · exact ⟨_, h2, rfl⟩
    · rw [if_neg (by omega)]
      rcases tasks_ok h hc hi with ⟨m', k, h1, h2⟩ | ⟨h1, h2⟩
      · have hk := D_uniq h1 hm
        unfold minC at hk
        by_cases hg : gt K i > 1099511627776
        · rw [if_pos hg]
          rw [if_neg (by omega)] at hk
          rw [if_pos (by omega)] at h2
          exact ⟨_, h2, rfl⟩
        · rw [if_neg hg]
          rw [if_pos (by omega)] at hk
          subst hk
          rw [if_neg hg] at h2
          exact ⟨_, h2, rfl⟩
      · rw [h1 m] at hm; cases hm
theorem runits_loop (l : List api_Instr) (hl : l.length ≤ 1000) (hm : ∀ x ∈ l, go_ravelref04_may x = true) : ∀ (m i : Nat) (n : Int), i + m = l.length → 0 ≤ n → n ≤ 100 * i → whileO (go_ravelref04_Units_s1 l) (n, (i : Int)) = some (n + sumU (l.drop i), 0)
  | 0, i, n, h, h0, hn => by
    have : i = l.length := by omega
    subst this
    refine whileO_inr ?_
    rw [go_ravelref04_Units_s1, if_neg (by simp), List.drop_length]; simp [sumU]
  | m + 1, i, n, h, h0, hn => by
    have hi : i < l.length := by omega
    have hb := u1_bounds (hm _ (List.getElem_mem hi))
    have hstep : go_ravelref04_Units_s1 l (n, (i : Int)) = some (.inl (n + u1 l[i], ((i + 1 : Nat) : Int))) := by
      rw [go_ravelref04_Units_s1, if_pos (by simpa using hi), if_pos (by omega), gt_nat hi]
      unfold u1 at hb ⊢
      by_cases h1 : l[i].Op = 1
      · rw [if_pos h1] at hb
        rw [if_pos (by simp [h1]), if_pos h1, w64_nat (by omega), w64_id (n := n + l[i].A) (by omega) (by omega)]; rfl
      · rw [if_neg (by simp [h1]), if_neg h1, w64_nat (by omega), w64_id (n := n + 1) (by omega) (by omega)]; rfl
    rw [whileO_inl hstep, runits_loop l hl hm m (i + 1) _ (by omega) (by omega) (by omega), List.drop_eq_getElem_cons hi, sumU]
    congr 2; omega
theorem runits_eq {p : List api_Instr} (hp : p.length ≤ 9223372036854775807) : go_ravelref04_Units p = some (if chkP p then (un p, 0) else (0, 1)) := by
  unfold go_ravelref04_Units
  rw [rcodeCheck_eq hp, Option.bind_some]
  cases hk : chkP p with
  | false => rfl
  | true =>
    obtain ⟨h1, h2, h3⟩ := chkP_parts hk
    simp only [if_true]
    rw [if_neg (by decide), run_eq (by omega), Option.bind_some]
    have hr := reach_len p
    have := runits_loop (reach p) (by omega) (fun x hx => h3 x (reach_mem hx)) (reach p).length 0 0 (by omega) (by omega) (by omega)
    simpa [un] using this
theorem one_some {a b : List api_Instr} (ha : a.length ≤ 1000000) : ∃ r, go_ravelref04_SameOne a b = some r := by
  unfold go_ravelref04_SameOne
  by_cases h : a.length = b.length
  · rw [if_neg (by simp [h])]
    refine loop_some a.length (fun i hi => ?_) ⟨true, by rw [go_ravelref04_SameOne_s1, if_neg (by simp)]; rfl⟩
    rw [go_ravelref04_SameOne_s1, if_pos (by simpa using hi), if_pos (by omega), if_pos (by omega), w64_nat (by omega)]
    split
    · exact .inl ⟨false, rfl⟩
    · exact .inr rfl
  · rw [if_pos (by simp; omega)]; exact ⟨_, rfl⟩
theorem progs_some {a b : List (List api_Instr)} (ha : poks a) : ∃ r, go_ravelref04_Same a b = some r := by
  unfold go_ravelref04_Same
  by_cases h : a.length = b.length
  · rw [if_neg (by simp [h])]
    have hl := ha.1
    refine loop_some a.length (fun i hi => ?_) ⟨true, by rw [go_ravelref04_Same_s1, if_neg (by simp)]; rfl⟩
    have hi2 : i < b.length := by omega
    obtain ⟨r, hr⟩ := one_some (a := a[i]) (b := b[i]) (ha.2 _ (List.getElem_mem hi)).1
    rw [go_ravelref04_Same_s1, if_pos (by simpa using hi), if_pos (by omega), if_pos (by omega), gt_nat hi, gt_nat hi2, hr, Option.bind_some, w64_nat (by omega)]
    split
    · exact .inl ⟨false, rfl⟩
    · exact .inr rfl
  · rw [if_pos (by simp; omega)]; exact ⟨_, rfl⟩
theorem progs_eq (a b : List (List api_Instr)) : go_code_Same a b = go_ravelref04_Same a b := by
  have : go_slices_EqualFunc_api_Instr_api_Instr_api_Instr_api_Instr_Instr36 a b = go_ravelref04_Same a b := rfl
  unfold go_code_Same
  rw [this]
  cases go_ravelref04_Same a b <;> rfl
theorem codeChecks_true {l o : List (List api_Instr)} {i : Int} (hl : l.length ≤ 9223372036854775807) (ho : o.length ≤ 9223372036854775807) (ha : ∀ p ∈ l, ∀ x ∈ p, i64ok x.A) (hb : ∀ p ∈ o, ∀ x ∈ p, i64ok x.A) : go_ravellaw04_CodeChecks l o i = some true := by
  unfold go_ravellaw04_CodeChecks
  obtain ⟨r, h1, h2⟩ := few_poks hl ha
  obtain ⟨q, h3, h4⟩ := few_poks ho hb
  rw [live_eq, h1, h3]
  simp only [Option.bind_some]
  cases r with
  | false => rfl
  | true =>
    rw [if_neg (by simp)]
    cases q with
    | false => rfl
    | true =>
      obtain ⟨hp, _, hp3⟩ := h2 rfl
      rw [if_neg (by simp)]
      have hrun := whileO_run (step := go_ravellaw04_CodeChecks_s2 l o i true) (fun j => (j : Int)) l.length (fun j hj => by
        have hpk := (hp.2 _ (List.getElem_mem hj)).2
        rw [go_ravellaw04_CodeChecks_s2, if_pos (by simpa using hj), if_pos (by omega), gt_nat hj, units_eq hpk, runits_eq hpk.1, codeCheck_eq hpk, rcodeCheck_eq hpk.1]
        simp only [Option.bind_some]
        rw [if_neg (by simp), if_neg (by simp), w64_nat (by omega)]; rfl)
      have h0 : (0 : Int) = ((0 : Nat) : Int) := rfl
      rw [h0, hrun]
      obtain ⟨t, t1, t2⟩ := tasks_same (i := i) hp
      obtain ⟨s, hs⟩ := progs_some (b := o) hp
      refine whileO_inr (k := true) ?_
      rw [go_ravellaw04_CodeChecks_s2, if_neg (by simp), t1, t2]
      simp only [Option.bind_some]
      rw [if_pos (by simp), checkAll_eq hp, rcheckAll_eq hp]
      simp only [Option.bind_some]
      unfold go_ravellaw04_CodeChecks_j3
      rw [progs_eq, hs]
      simp

end Go.Proofs.Ytdlpecjbafadkaa
