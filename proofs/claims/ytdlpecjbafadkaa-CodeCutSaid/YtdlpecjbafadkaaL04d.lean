/- Helper lemmas for the claim's theorem: an abstract machine over the model, proved sound; no condition beyond each lemma's own. -/
import Derived.Test.YtdlpecjbafadkaaL04c
set_option linter.unusedVariables false
set_option linter.unusedSimpArgs false
set_option linter.unnecessarySimpa false
set_option linter.unusedSectionVars false
/- Plain laws on the printed functions. -/
namespace Go.Proofs.Ytdlpecjbafadkaa
open Go Go.AM
set_option maxRecDepth 100000
set_option maxHeartbeats 1000000
set_option linter.unusedVariables false
set_option linter.unusedSimpArgs false
noncomputable def tk (l : List (List api_Instr)) (j : Int) : Int × Int := (go_code_Tasks l j).getD (0, 0)
theorem tk_ok {l : List (List api_Instr)} (h : poks l) (hc : ckAll l = true) {j : Int} (hj : 0 ≤ j ∧ j < l.length) :
    go_code_Tasks l j = some (tk l j) ∧ ((∃ m k, D l m j = some k ∧ tk l j = (if k > 1099511627776 then (0, 4) else (k, 0))) ∨ ((∀ m, D l m j = none) ∧ tk l j = (0, 9))) := by
  unfold tk
  rcases tasks_ok h hc hj with ⟨m, k, h1, h2⟩ | ⟨h1, h2⟩
  · rw [h2]; exact ⟨rfl, .inl ⟨m, k, h1, rfl⟩⟩
  · rw [h2]; exact ⟨rfl, .inr ⟨h1, rfl⟩⟩
noncomputable def stS (l : List (List api_Instr)) (s : Int × Int) (j : Int) : Int × Int := (s.1 + (tk l j).1, if (((tk l j).2 == 9) || (((tk l j).2 == 4) && (s.2 == 0))) = true then (tk l j).2 else s.2)
theorem tk_bounds {l : List (List api_Instr)} (h : poks l) (hc : ckAll l = true) {j : Int} (hj : 0 ≤ j ∧ j < l.length) : 0 ≤ (tk l j).1 ∧ (tk l j).1 ≤ 1099511627776 := by
  rcases (tk_ok h hc hj).2 with ⟨m, k, h1, h2⟩ | ⟨_, h2⟩
  · have := D_bounds l m j k h1
    rw [h2]; split <;> simp only <;> omega
  · rw [h2]; simp
noncomputable def sumsL (l : List (List api_Instr)) : List api_Instr → Int × Int → Int × Int
  | [], s => s
  | x :: r, s => if x.Op = 9 then s else if x.Op ≠ 2 then sumsL l r s else sumsL l r (stS l s x.A)
theorem sumsL_kids (l : List (List api_Instr)) : ∀ (p : List api_Instr) (s : Int × Int), sumsL l p s = (kidsOf (reach p)).foldl (stS l) s
  | [], s => rfl
  | x :: r, s => by
    rw [sumsL, reach]
    by_cases h9 : x.Op = 9
    · rw [if_pos h9, if_pos h9]
      unfold kidsOf
      rw [List.filter_cons_of_neg (by simp [h9])]; rfl
    · rw [if_neg h9, if_neg h9]
      unfold kidsOf
      by_cases h2 : x.Op = 2
      · rw [if_neg (by simp [h2]), List.filter_cons_of_pos (by simp [h2]), sumsL_kids l r]; rfl
      · rw [if_pos h2, List.filter_cons_of_neg (by simp [h2]), sumsL_kids l r]; rfl
theorem foldD_ge {f : Int → Option Int} (hf : ∀ j k, f j = some k → 1 ≤ k) : ∀ {r : List Int} {n v : Int}, foldD f r n = some v → 1 ≤ n ∧ n ≤ 1099511627777 → n ≤ v
  | [], n, v, hv, hn => by rw [foldD] at hv; injection hv with hv; omega
  | a :: r, n, v, hv, hn => by
    rw [foldD] at hv
    cases h : f a with
    | none => rw [h] at hv; cases hv
    | some k =>
      rw [h] at hv
      have hk := hf a k h
      have := foldD_ge hf hv (addC_bounds hn.1 hk)
      unfold addC at this
      split at this <;> omega
theorem fold_small {l : List (List api_Instr)} (h : poks l) (hc : ckAll l = true) {m : Nat} : ∀ {ks : List Int} {s v : Int}, (∀ j ∈ ks, 0 ≤ j ∧ j < l.length) → foldD (D l m) ks s = some v → 1 ≤ s ∧ s ≤ 1099511627777 → v ≤ 1099511627776 → ks.foldl (stS l) (s, 0) = (v, 0)
  | [], s, v, _, hv, _, _ => by rw [foldD] at hv; injection hv with hv; subst hv; rfl
  | j :: r, s, v, hr, hv, hs, hle => by
    rw [foldD] at hv
    cases hd : D l m j with
    | none => rw [hd] at hv; cases hv
    | some k =>
      rw [hd] at hv
      have hk := D_bounds l m j k hd
      have hge := foldD_ge (fun j k hk => (D_bounds l m j k hk).1) hv (addC_bounds hs.1 hk.1)
      have hadd : addC s k = s + k := by
        unfold addC at hge ⊢
        split at hge
        · omega
        · rename_i hn; rw [if_neg hn]
      replace hv : foldD (D l m) r (addC s k) = some v := hv
      rw [hadd] at hv hge
      have htk : tk l j = (k, 0) := by
        rcases (tk_ok h hc (hr j (by simp))).2 with ⟨m', k', h1, h2⟩ | ⟨h1, _⟩
        · have := D_uniq h1 hd
          subst this
          rw [h2, if_neg (by omega)]
        · rw [h1 m] at hd; cases hd
      rw [List.foldl_cons]
      have hst : stS l (s, 0) j = (s + k, 0) := by unfold stS; rw [htk]; rfl
      rw [hst]
      exact fold_small h hc (fun i hi => hr i (by simp [hi])) hv (by omega) hle
theorem fold_large {l : List (List api_Instr)} (h : poks l) (hc : ckAll l = true) {m : Nat} : ∀ {ks : List Int} {s v : Int} (t : Int × Int), (∀ j ∈ ks, 0 ≤ j ∧ j < l.length) → foldD (D l m) ks s = some v → (t.2 = 4 ∨ (t.2 = 0 ∧ s ≤ t.1)) → (ks.foldl (stS l) t).2 = 4 ∨ ((ks.foldl (stS l) t).2 = 0 ∧ v ≤ (ks.foldl (stS l) t).1)
  | [], s, v, t, _, hv, ht => by rw [foldD] at hv; injection hv with hv; subst hv; exact ht
  | j :: r, s, v, t, hr, hv, ht => by
    rw [foldD] at hv
    cases hd : D l m j with
    | none => rw [hd] at hv; cases hv
    | some k =>
      rw [hd] at hv
      rw [List.foldl_cons]
      refine fold_large h hc _ (fun i hi => hr i (by simp [hi])) hv ?_
      have hadd : addC s k ≤ s + k := by unfold addC; split <;> omega
      rcases (tk_ok h hc (hr j (by simp))).2 with ⟨m', k', h1, h2⟩ | ⟨h1, _⟩
      · have := D_uniq h1 hd
        subst this
        unfold stS
        rw [h2]
        by_cases hk : k' > 1099511627776
        · rw [if_pos hk]
          rcases ht with ht | ⟨ht, _⟩ <;> simp [ht]
        · rw [if_neg hk]
          rcases ht with ht | ⟨ht, hs⟩
          · simp [ht]
          · right; simp [ht]; omega
      · rw [h1 m] at hd; cases hd
theorem sums_loop {l : List (List api_Instr)} (h : poks l) (hc : ckAll l = true) {i : Int} (hi : 0 ≤ i ∧ i < l.length) {n e : Int} {p : List api_Instr} (hp : gt l i = p) (hpl : p.length ≤ 32) (hk : ∀ x ∈ p, x.Op = 2 → 0 ≤ x.A ∧ x.A < l.length) :
    ∀ (m q : Nat) (s : Int × Int), q + m = p.length → 0 ≤ s.1 ∧ s.1 ≤ 1 + q * 1099511627776 → whileO (go_ravellaw04_CodeSums_s4 l i true n e) (s.1, s.2, (q : Int)) = go_ravellaw04_CodeSums_j2 true n e (sumsL l (p.drop q) s).1 (sumsL l (p.drop q) s).2
  | 0, q, s, hq, hs => by
    have : q = p.length := by omega
    subst this
    have hst : go_ravellaw04_CodeSums_s4 l i true n e (s.1, s.2, (p.length : Int)) = inrO (go_ravellaw04_CodeSums_j2 true n e s.1 s.2) := by
      rw [go_ravellaw04_CodeSums_s4, hp, if_neg (by simp)]
    rw [List.drop_length, sumsL]
    cases hj : go_ravellaw04_CodeSums_j2 true n e s.1 s.2 with
    | none => rw [whileO_none]; rw [hst, hj]; rfl
    | some b => rw [whileO_inr]; rw [hst, hj]; rfl
  | m + 1, q, s, hq, hs => by
    have hlt : q < p.length := by omega
    rw [List.drop_eq_getElem_cons hlt, sumsL]
    by_cases h9 : p[q].Op = 9
    · have hst : go_ravellaw04_CodeSums_s4 l i true n e (s.1, s.2, (q : Int)) = inrO (go_ravellaw04_CodeSums_j2 true n e s.1 s.2) := by
        rw [go_ravellaw04_CodeSums_s4, hp, if_pos (by simpa using hlt), if_pos (by omega), gt_nat hlt, if_pos (by simp [h9])]
      rw [if_pos h9]
      cases hj : go_ravellaw04_CodeSums_j2 true n e s.1 s.2 with
      | none => rw [whileO_none]; rw [hst, hj]; rfl
      | some b => rw [whileO_inr]; rw [hst, hj]; rfl
    · rw [if_neg h9]
      by_cases h2 : p[q].Op = 2
      · have hr := hk _ (List.getElem_mem hlt) h2
        have htb := tk_bounds h hc hr
        rw [if_neg (by simp [h2]), ← sums_loop h hc hi hp hpl hk m (q + 1) (stS l s p[q].A) (by omega) (by unfold stS; simp only; omega)]
        refine whileO_inl ?_
        rw [go_ravellaw04_CodeSums_s4, hp, if_pos (by simpa using hlt), if_pos (by omega), gt_nat hlt, if_neg (by simp [h9]), if_neg (by simp [h2]), (tk_ok h hc hr).1]
        simp only [Option.bind_some]
        rw [w64_nat (by omega), w64_id (n := s.1 + (tk l p[q].A).1) (by omega) (by omega)]
        unfold stS
        simp only
        split <;> rfl
      · rw [if_pos h2, ← sums_loop h hc hi hp hpl hk m (q + 1) s (by omega) (by omega)]
        refine whileO_inl ?_
        rw [go_ravellaw04_CodeSums_s4, hp, if_pos (by simpa using hlt), if_pos (by omega), gt_nat hlt, if_neg (by simp [h9]), if_pos (by simp [h2]), w64_nat (by omega)]; rfl
theorem few_poks {l : List (List api_Instr)} (hl : l.length ≤ 9223372036854775807) (ha : ∀ p ∈ l, ∀ x ∈ p, i64ok x.A) : ∃ r, go_ravelref04_Few l = some r ∧ (r = true → poks l ∧ (∀ p ∈ l, p.length ≤ 100) ∧ l.length ≤ 100) := by
  rw [few_eq hl]
  refine ⟨_, rfl, fun h => ?_⟩
  split at h
  · cases h
  · rename_i hn
    rw [Bool.not_eq_true, List.any_eq_false] at hn
    simp only [decide_eq_true_eq] at h
    have h1 : ∀ p ∈ l, p.length ≤ 100 := fun p hp => by
      have := hn p hp
      simp at this; omega
    exact ⟨⟨by omega, fun p hp => ⟨by have := h1 p hp; omega, by have := h1 p hp; omega, ha p hp⟩⟩, h1, by omega⟩
theorem codeSums_true {l : List (List api_Instr)} {i : Int} (hl : l.length ≤ 9223372036854775807) (ha : ∀ p ∈ l, ∀ x ∈ p, i64ok x.A) : go_ravellaw04_CodeSums l i = some true := by
  unfold go_ravellaw04_CodeSums
  obtain ⟨r, h1, h2⟩ := few_poks hl ha
  rw [live_eq, h1]
  simp only [Option.bind_some]
  cases r with
  | false => rfl
  | true =>
    obtain ⟨hp, _, _⟩ := h2 rfl
    rw [if_neg (by simp)]
    by_cases hb : ckAll l = false ∨ ¬ (0 ≤ i ∧ i < l.length)
    · rw [tasks_bad hp hb]
      simp only [Option.bind_some]
      rw [if_pos (by simp), if_pos trivial, checkAll_eq hp, Option.bind_some]
      rcases hb with hb | hb
      · rw [hb]; simp
      · have : (decide (i < 0) || decide (i ≥ (l.length : Int))) = true := by simp; omega
        rw [Bool.or_assoc, this]; simp
    · simp only [not_or, Bool.not_eq_false, Decidable.not_not] at hb
      obtain ⟨hc, hi⟩ := hb
      obtain ⟨q, rfl⟩ : ∃ q : Nat, i = (q : Int) := ⟨i.toNat, by omega⟩
      have hq : q < l.length := by omega
      have hmem := List.getElem_mem hq
      obtain ⟨hpr, hck⟩ := ckAll_pr hc
      have hpl := (chkP_parts (hck _ hmem)).2.1
      have hkid : ∀ x ∈ l[q], x.Op = 2 → 0 ≤ x.A ∧ x.A < l.length := fun x hx h2 => by
        have hmay := (chkP_parts (hck _ hmem)).2.2 x hx
        refine ⟨may_spawn hmay h2, ?_⟩
        unfold ckAll at hc
        simp only [Bool.and_eq_true, Bool.not_eq_true', List.any_eq_false] at hc
        have h3 := hc.2 _ hmem
        unfold badP at h3
        rw [Bool.or_eq_true, not_or, Bool.not_eq_true, Bool.not_eq_true, List.any_eq_false] at h3
        have h4 := h3.2 x hx
        unfold spawnsFar at h4
        simp [h2] at h4; omega
      have hkk : ∀ j ∈ kids l (q : Int), 0 ≤ j ∧ j < l.length := fun j hj => hpr.kid _ j hi.1 hi.2 hj
      have hloop : ∀ n e, whileO (go_ravellaw04_CodeSums_s4 l (q : Int) true n e) (1, 0, 0) = go_ravellaw04_CodeSums_j2 true n e ((kids l (q : Int)).foldl (stS l) (1, 0)).1 ((kids l (q : Int)).foldl (stS l) (1, 0)).2 := fun n e => by
        have := sums_loop hp hc (n := n) (e := e) hi (gt_nat hq) hpl hkid l[q].length 0 (1, 0) (by omega) (by simp)
        rw [List.drop_zero, sumsL_kids] at this
        unfold kids
        rw [gt_nat hq]
        exact this
      rw [(tk_ok hp hc hi).1]
      simp only [Option.bind_some]
      rcases (tk_ok hp hc hi).2 with ⟨m, k, g1, g2⟩ | ⟨g1, g2⟩
      · have hkb := D_bounds l m _ k g1
        obtain ⟨m, rfl⟩ : ∃ m', m = m' + 1 := by
          cases m with
          | zero => cases g1
          | succ m => exact ⟨m, rfl⟩
        rw [D] at g1
        by_cases hk : k > 1099511627776
        · rw [if_pos hk] at g2
          rw [g2, if_neg (by simp), if_neg (by simp; omega), if_pos hi, hloop]
          unfold go_ravellaw04_CodeSums_j2 go_ravellaw04_CodeSums_j3
          rcases fold_large hp hc (1, 0) hkk g1 (.inr ⟨rfl, by simp⟩) with h4 | ⟨h4, h5⟩
          · rw [h4]; simp
          · rw [h4, if_pos (by simp; omega)]; simp
        · rw [if_neg hk] at g2
          rw [g2, if_neg (by simp), if_neg (by simp; omega), if_pos hi, hloop, fold_small hp hc hkk g1 (by omega) (by omega)]
          unfold go_ravellaw04_CodeSums_j2 go_ravellaw04_CodeSums_j3
          rw [if_neg (by simp; omega)]
          simp; omega
      · rw [g2, if_neg (by simp), if_neg (by simp; omega), if_pos hi, hloop]
        unfold go_ravellaw04_CodeSums_j2 go_ravellaw04_CodeSums_j3
        split <;> simp

end Go.Proofs.Ytdlpecjbafadkaa
