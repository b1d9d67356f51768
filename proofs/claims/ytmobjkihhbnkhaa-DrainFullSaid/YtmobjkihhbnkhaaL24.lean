/- Helper lemmas for the claim's theorem: an abstract machine over the model, proved sound; no condition beyond each lemma's own. -/
import Derived.Test.YtmobjkihhbnkhaaL24a
set_option linter.unusedVariables false
set_option linter.unusedSimpArgs false
set_option linter.unnecessarySimpa false
set_option linter.unusedSectionVars false
/- Plain laws on the printed functions. -/
namespace Go.Proofs.Ytmobjkihhbnkhaa
open Go Go.AM
set_option maxRecDepth 100000
set_option maxHeartbeats 1000000
set_option linter.unusedVariables false
set_option linter.unusedSimpArgs false
theorem foldD_ge0 {f : Int → Option Int} (hf : ∀ j k, f j = some k → 0 ≤ k) : ∀ {r : List Int} {n v : Int}, foldD f r n = some v → 0 ≤ n ∧ n ≤ 1099511627777 → n ≤ v ∧ v ≤ 1099511627777
  | [], n, v, hv, hn => by rw [foldD] at hv; injection hv with hv; omega
  | a :: r, n, v, hv, hn => by
    rw [foldD] at hv
    cases h : f a with
    | none => rw [h] at hv; cases hv
    | some k =>
      rw [h] at hv
      have hk := hf a k h
      have hb : 0 ≤ addC n k ∧ addC n k ≤ 1099511627777 ∧ n ≤ addC n k := by unfold addC; split <;> omega
      have := foldD_ge0 hf hv ⟨hb.1, hb.2.1⟩
      omega
theorem foldD_le0 {f : Int → Option Int} (hf : ∀ j k, f j = some k → 0 ≤ k) : ∀ {r : List Int} {n v : Int}, foldD f r n = some v → 0 ≤ n ∧ n ≤ 1099511627777 → v ≤ 1099511627776 → ∀ j ∈ r, ∀ k, f j = some k → k ≤ v
  | [], n, v, hv, hn, hle, j, hj, k, hk => by cases hj
  | a :: r, n, v, hv, hn, hle, j, hj, k, hk => by
    rw [foldD] at hv
    cases h : f a with
    | none => rw [h] at hv; cases hv
    | some ka =>
      rw [h] at hv
      have hka := hf a ka h
      have hb : 0 ≤ addC n ka ∧ addC n ka ≤ 1099511627777 := by unfold addC; split <;> omega
      have hge := foldD_ge0 hf hv hb
      rcases List.mem_cons.1 hj with rfl | hj
      · rw [h] at hk; injection hk with hk; subst hk
        have h1 := hge.1
        unfold addC at h1
        split at h1 <;> omega
      · exact foldD_le0 hf hv hb hle j hj k hk
/-- A program's full work, by depth. -/
def Fw (l : List (List api_Instr)) : Nat → Int → Option Int
  | 0, _ => none
  | m + 1, i => (foldD (Fw l m) (kids l i) 0).map fun s => addC (un (gt l i) + 1) s
theorem Fw_step (l : List (List api_Instr)) : ∀ (m : Nat) (i k : Int), Fw l m i = some k → Fw l (m + 1) i = some k
  | 0, i, k, h => by cases h
  | m + 1, i, k, h => by
    rw [Fw] at h ⊢
    rw [Option.map_eq_some_iff] at h
    obtain ⟨s, h1, rfl⟩ := h
    rw [foldD_mono (Fw_step l m) _ _ _ h1]; rfl
theorem Fw_le {l : List (List api_Instr)} {m n : Nat} (h : m ≤ n) {i k : Int} (hd : Fw l m i = some k) : Fw l n i = some k := by
  obtain ⟨d, rfl⟩ : ∃ d, n = m + d := ⟨n - m, by omega⟩
  clear h
  induction d with
  | zero => exact hd
  | succ d ih => exact Fw_step l _ _ _ ih
theorem Fw_uniq {l : List (List api_Instr)} {m n : Nat} {i a b : Int} (h1 : Fw l m i = some a) (h2 : Fw l n i = some b) : a = b := by
  have g1 := Fw_le (Nat.le_max_left m n) h1
  have g2 := Fw_le (Nat.le_max_right m n) h2
  rw [g1] at g2; injection g2
theorem Fw_of {l : List (List api_Instr)} : ∀ (m : Nat) (i d : Int), D l m i = some d → ∃ k, Fw l m i = some k
  | 0, i, d, h => by cases h
  | m + 1, i, d, h => by
    obtain ⟨s, hs⟩ := foldD_all (f := Fw l m) (r := kids l i) (n := 0) (fun j hj => by
      obtain ⟨k, hk⟩ := foldD_kid h j hj
      exact Fw_of m j k hk)
    exact ⟨_, by rw [Fw, hs]; rfl⟩
/-- The units of programs that may be. -/
def Un (l : List (List api_Instr)) : Prop := ∀ i : Int, 0 ≤ un (gt l i) ∧ un (gt l i) ≤ 3200
theorem Fw_nonneg {l : List (List api_Instr)} (hu : Un l) : ∀ (m : Nat) (i k : Int), Fw l m i = some k → 0 ≤ k
  | 0, i, k, h => by cases h
  | m + 1, i, k, h => by
    rw [Fw, Option.map_eq_some_iff] at h
    obtain ⟨s, h1, rfl⟩ := h
    have h2 := foldD_ge0 (Fw_nonneg hu m) h1 (by omega)
    have h3 := hu i
    unfold addC; split <;> omega
theorem ck_un {l : List (List api_Instr)} (hc : ∀ p ∈ l, chkP p = true) : Un l := fun i => by
  unfold gt
  rw [List.getD_eq_getElem?_getD]
  cases h : l[i.toNat]? with
  | none => show 0 ≤ un [] ∧ un [] ≤ 3200; decide
  | some p =>
    have := hc p (List.mem_of_getElem? h)
    exact un_bounds (chkP_parts this).2.2 (chkP_parts this).2.1
theorem un_pos {p : List api_Instr} (h : chkP p = true) : 1 ≤ un p := by
  obtain ⟨h1, h2, h3⟩ := chkP_parts h
  have hs := sumU_bounds (l := reach p) (fun x hx => h3 x (reach_mem hx))
  have hl : 1 ≤ (reach p).length := by
    cases p with
    | nil => simp at h1
    | cons x r => rw [reach]; split <;> simp
  unfold un; omega
theorem Fw_D {l : List (List api_Instr)} (hl : Pr l) (hc : ∀ p ∈ l, chkP p = true) : ∀ (m : Nat) (i d k : Int), (0 ≤ i ∧ i < l.length) → D l m i = some d → Fw l m i = some k → k = 1099511627777 ∨ 2 * d ≤ k
  | 0, i, d, k, _, h, _ => by cases h
  | m + 1, i, d, k, hi, hd, hf => by
    rw [Fw, Option.map_eq_some_iff] at hf
    obtain ⟨w, h1, rfl⟩ := hf
    rw [D] at hd
    have hu := ck_un hc
    have key : ∀ (ks : List Int) (n s v w : Int), (∀ j ∈ ks, 0 ≤ j ∧ j < l.length) → foldD (D l m) ks n = some v → foldD (Fw l m) ks s = some w → 0 ≤ s ∧ s ≤ 1099511627777 → (s = 1099511627777 ∨ 2 * n ≤ s + 2) → (w = 1099511627777 ∨ 2 * v ≤ w + 2) := by
      intro ks
      induction ks with
      | nil =>
        intro n s v w _ h2 h3 _ h4
        rw [foldD] at h2 h3
        injection h2 with h2; injection h3 with h3; subst h2; subst h3; exact h4
      | cons j r ih =>
        intro n s v w hr h2 h3 hs h4
        rw [foldD] at h2 h3
        cases hdj : D l m j with
        | none => rw [hdj] at h2; cases h2
        | some dj =>
          cases hfj : Fw l m j with
          | none => rw [hfj] at h3; cases h3
          | some kj =>
            rw [hdj] at h2; rw [hfj] at h3
            have hkj := Fw_nonneg hu m j kj hfj
            have hrel := Fw_D hl hc m j dj kj (hr j (by simp)) hdj hfj
            refine ih (addC n dj) (addC s kj) v w (fun q hq => hr q (by simp [hq])) h2 h3 (by unfold addC; split <;> omega) ?_
            have hle : addC n dj ≤ n + dj := by unfold addC; split <;> omega
            have he : addC s kj = 1099511627777 ∨ addC s kj = s + kj := by unfold addC; split <;> omega
            have he2 : addC s kj = 1099511627777 ∨ s + kj ≤ 1099511627777 := by unfold addC; split <;> omega
            omega
    have hkid : ∀ j ∈ kids l i, 0 ≤ j ∧ j < l.length := fun j hj => hl.kid i j hi.1 hi.2 hj
    have h5 := key (kids l i) 1 0 d w hkid hd h1 (by omega) (.inr (by omega))
    have h6 := foldD_ge0 (Fw_nonneg hu m) h1 (by omega)
    have hup : 1 ≤ un (gt l i) := by
      obtain ⟨q, rfl⟩ : ∃ q : Nat, i = (q : Int) := ⟨i.toNat, by omega⟩
      have hq : q < l.length := by omega
      rw [gt_nat hq]; exact un_pos (hc _ (List.getElem_mem hq))
    unfold addC
    split <;> omega
theorem reach_at {p : List api_Instr} {q : Nat} (hq : q < p.length) (hn : (p.take q).any isX = false) (h9 : p[q].Op = 9) : reach p = p.take (q + 1) := by
  have hp : p = p.take q ++ p[q] :: p.drop (q + 1) := by rw [← List.drop_eq_getElem_cons hq, List.take_append_drop]
  have h1 : reach (p.take q ++ p[q] :: p.drop (q + 1)) = p.take q ++ [p[q]] := by
    rw [reach_append, if_neg (by rw [hn]; simp), reach, if_pos h9]
  rw [← hp] at h1
  rw [h1, List.take_succ_eq_append_getElem hq]
def goodW (l : List (List api_Instr)) (K : List (Int × Int)) : Prop := ∀ j k, mget K j = some k → ∃ m, Fw l m j = some k
def okW (l : List (List api_Instr)) (i : Int) (r : Option (Int × List (Int × Int))) : Prop := ∃ k K', r = some (k, K') ∧ (∃ m, Fw l m i = some k) ∧ goodW l K'
theorem full_fin {l : List (List api_Instr)} (hu : Un l) {i s : Int} {m : Nat} {ks : List Int} (hk : kids l i = ks) {K : List (Int × Int)} (hK : goodW l K) (hs : foldD (Fw l m) ks 0 = some s) (hb : 0 ≤ s ∧ s ≤ 1099511627777) :
    okW l i (some ((if 1099511627777 < (IntKind.i64.wrap ((IntKind.i64.wrap (un (gt l i) + 1)) + s)) then 1099511627777 else IntKind.i64.wrap ((IntKind.i64.wrap (un (gt l i) + 1)) + s)), mput K i (if 1099511627777 < (IntKind.i64.wrap ((IntKind.i64.wrap (un (gt l i) + 1)) + s)) then 1099511627777 else IntKind.i64.wrap ((IntKind.i64.wrap (un (gt l i) + 1)) + s)))) := by
  have h3 := hu i
  rw [w64_id (n := un (gt l i) + 1) (by omega) (by omega), w64_id (n := un (gt l i) + 1 + s) (by omega) (by omega)]
  have hF : Fw l (m + 1) i = some (addC (un (gt l i) + 1) s) := by rw [Fw, hk, hs]; rfl
  refine ⟨_, _, rfl, ⟨m + 1, hF⟩, fun j k hj => ?_⟩
  rw [mget_mput] at hj
  split at hj
  · rename_i e
    injection hj with hj; subst hj; subst e
    exact ⟨m + 1, hF⟩
  · exact hK j k hj
theorem full_loop {l : List (List api_Instr)} (hl : Pr l) (hu : Un l) {rec : List (List api_Instr) → Int → List (Int × Int) → Option (Int × List (Int × Int))} {i : Int} {p : List api_Instr} (hp : gt l i = p) (hpl : p.length ≤ 1000)
    (ih : ∀ j K, j ∈ kids l i → goodW l K → okW l j (rec l j K)) :
    ∀ (r q : Nat) (s : Int) (K : List (Int × Int)), q + r = p.length → goodW l K → (∃ m, foldD (Fw l m) (kidsOf (p.take q)) 0 = some s) → 0 ≤ s ∧ s ≤ 1099511627777 → (p.take q).any isX = false →
      okW l i (whileO (go_drain_measure_full_b_s1 l i rec (un (gt l i))) (s, (q : Int), K))
  | 0, q, s, K, h, hK, ⟨m, hm⟩, hb, hx => by
    have : q = p.length := by omega
    subst this
    rw [List.take_length] at hm hx
    have hk : kids l i = kidsOf p := by unfold kids; rw [hp, reach_noexit p hx]
    have hf := full_fin hu hk hK hm hb
    have hst : go_drain_measure_full_b_s1 l i rec (un (gt l i)) (s, (p.length : Int), K) = inrO (some ((if 1099511627777 < (IntKind.i64.wrap ((IntKind.i64.wrap (un (gt l i) + 1)) + s)) then 1099511627777 else IntKind.i64.wrap ((IntKind.i64.wrap (un (gt l i) + 1)) + s)), mput K i (if 1099511627777 < (IntKind.i64.wrap ((IntKind.i64.wrap (un (gt l i) + 1)) + s)) then 1099511627777 else IntKind.i64.wrap ((IntKind.i64.wrap (un (gt l i) + 1)) + s)))) := by
      rw [go_drain_measure_full_b_s1, if_neg (by rw [hp]; simp)]
    rw [whileO_inr hst]; exact hf
  | r + 1, q, s, K, h, hK, ⟨m, hm⟩, hb, hx => by
    have hq : q < p.length := by omega
    have hkt := kidsOf_take hq
    by_cases h9 : p[q].Op = 9
    · have hk : kids l i = kidsOf (p.take q) := by
        unfold kids
        rw [hp, reach_at hq hx h9, hkt, if_neg (by simp [h9])]
      have hf := full_fin hu hk hK hm hb
      have hst : go_drain_measure_full_b_s1 l i rec (un (gt l i)) (s, (q : Int), K) = inrO (some ((if 1099511627777 < (IntKind.i64.wrap ((IntKind.i64.wrap (un (gt l i) + 1)) + s)) then 1099511627777 else IntKind.i64.wrap ((IntKind.i64.wrap (un (gt l i) + 1)) + s)), mput K i (if 1099511627777 < (IntKind.i64.wrap ((IntKind.i64.wrap (un (gt l i) + 1)) + s)) then 1099511627777 else IntKind.i64.wrap ((IntKind.i64.wrap (un (gt l i) + 1)) + s)))) := by
        rw [go_drain_measure_full_b_s1, if_pos (by rw [hp]; simpa using hq), if_pos (by rw [hp]; omega), if_pos (by rw [hp, gt_nat hq]; simp [h9])]
      rw [whileO_inr hst]; exact hf
    · have hx' : (p.take (q + 1)).any isX = false := by
        rw [List.take_succ_eq_append_getElem hq, List.any_append, hx]
        simp [isX, h9]
      by_cases h2 : p[q].Op = 2
      · rw [if_pos (by simp [h2])] at hkt
        have hkid : p[q].A ∈ kids l i := by
          have hp2 : p = p.take q ++ p[q] :: p.drop (q + 1) := by rw [← List.drop_eq_getElem_cons hq, List.take_append_drop]
          have h1 : reach (p.take q ++ p[q] :: p.drop (q + 1)) = p.take q ++ p[q] :: reach (p.drop (q + 1)) := by
            rw [reach_append, if_neg (by rw [hx]; simp), reach, if_neg h9]
          rw [← hp2] at h1
          unfold kids kidsOf
          rw [hp, h1, List.mem_map]
          exact ⟨p[q], List.mem_filter.2 ⟨by simp, by simp [h2]⟩, rfl⟩
        obtain ⟨k, K', g1, ⟨m2, g2⟩, g3⟩ := ih p[q].A K hkid hK
        have hkb : 0 ≤ k := Fw_nonneg hu m2 _ k g2
        have hkC : k ≤ 1099511627777 := by
          cases m2 with
          | zero => cases g2
          | succ m2 =>
            rw [Fw, Option.map_eq_some_iff] at g2
            obtain ⟨w, _, rfl⟩ := g2
            unfold addC; split <;> omega
        have hst : go_drain_measure_full_b_s1 l i rec (un (gt l i)) (s, (q : Int), K) = some (.inl (addC s k, ((q + 1 : Nat) : Int), K')) := by
          rw [go_drain_measure_full_b_s1, if_pos (by rw [hp]; simpa using hq), if_pos (by rw [hp]; omega), if_neg (by rw [hp, gt_nat hq]; simp [h9]), if_pos (by rw [hp, gt_nat hq]; simp [h2]), hp, gt_nat hq, g1]
          simp only [Option.bind_some]
          rw [w64_nat (by omega), w64_id (n := s + k) (by omega) (by omega)]; rfl
        rw [whileO_inl hst]
        refine full_loop hl hu hp hpl ih r (q + 1) _ K' (by omega) g3 ⟨max m m2, ?_⟩ (by unfold addC; split <;> omega) hx'
        have e1 := foldD_mono (fun j k => Fw_le (Nat.le_max_left m m2)) _ _ _ hm
        rw [hkt, foldD_append _ _ _ _ _ e1, foldD, Fw_le (Nat.le_max_right m m2) g2]; rfl
      · rw [if_neg (by simp [h2])] at hkt
        have hst : go_drain_measure_full_b_s1 l i rec (un (gt l i)) (s, (q : Int), K) = some (.inl (s, ((q + 1 : Nat) : Int), K)) := by
          rw [go_drain_measure_full_b_s1, if_pos (by rw [hp]; simpa using hq), if_pos (by rw [hp]; omega), if_neg (by rw [hp, gt_nat hq]; simp [h9]), if_neg (by rw [hp, gt_nat hq]; simp [h2]), w64_nat (by omega)]; rfl
        rw [whileO_inl hst]
        exact full_loop hl hu hp hpl ih r (q + 1) s K (by omega) hK ⟨m, by rw [hkt]; exact hm⟩ hb hx'
theorem full_ok {l : List (List api_Instr)} (h : poks l) (hl : Pr l) (hc : ∀ p ∈ l, chkP p = true) : ∀ (n m : Nat) (i d : Int) (K : List (Int × Int)), D l m i = some d → goodW l K → m ≤ n → (0 ≤ i ∧ i < l.length) → okW l i (go_drain_measure_full n l i K)
  | 0, m, i, d, K, hd, hK, hm, hi => by
    have : m = 0 := by omega
    subst this; cases hd
  | n + 1, m, i, d, K, hd, hK, hm, hi => by
    show okW l i (go_drain_measure_full_b (go_drain_measure_full n) l i K)
    unfold go_drain_measure_full_b
    cases hk : mget K i with
    | some k =>
      rw [if_pos (show (some k).isSome = true from rfl)]
      exact ⟨k, K, rfl, hK i k hk, hK⟩
    | none =>
      obtain ⟨q, rfl⟩ : ∃ q : Nat, i = (q : Int) := ⟨i.toNat, by omega⟩
      have hq : q < l.length := by omega
      have hmem := List.getElem_mem hq
      have hpk := (h.2 _ hmem).2
      have hck := hc _ hmem
      rw [if_neg (by simp), if_pos hi, gt_nat hq, units_eq hpk, hck]
      simp only [Option.bind_some, if_true]
      rw [if_neg (by simp), if_pos hi]
      have hfl := full_loop hl (ck_un hc) (i := (q : Int)) (p := l[q]) (gt_nat hq) (by have := (chkP_parts hck).2.1; omega) (rec := go_drain_measure_full n) (fun j K hj hK => by
        obtain ⟨m', k, g1, g2⟩ := D_kid hd hj
        exact full_ok h hl hc n m' j k K g2 hK (by omega) (hl.kid _ j hi.1 hi.2 hj)) l[q].length 0 0 K (by omega) hK ⟨0, rfl⟩ (by omega) (by simp)
      rw [gt_nat hq] at hfl
      exact hfl
theorem Full_ok {l : List (List api_Instr)} {i : Int} (h : poks l) (hc : ckAll l = true) (hi : 0 ≤ i ∧ i < l.length) {m : Nat} {d : Int} (hd : D l m i = some d) (hle : d ≤ 1099511627776) {k : Int} {m' : Nat} (hk : Fw l m' i = some k) :
    go_drain_Full l i = some (if k > 1099511627776 then (0, 4) else (k, 0)) := by
  have hl := (ckAll_pr hc).1
  have hcp := (ckAll_pr hc).2
  obtain ⟨w, hw⟩ := D_full hl hd hi
  have hl16 := hl.len
  unfold go_drain_Full
  rcases tasks_ok h hc hi with ⟨m1, d1, t1, t2⟩ | ⟨t1, _⟩
  · have := D_uniq t1 hd
    subst this
    rw [if_neg (by omega)] at t2
    rw [t2]
    simp only [Option.bind_some]
    rw [if_neg (by simp)]
    obtain ⟨k1, K1, g1, ⟨m2, g2⟩, g3⟩ := full_ok h hl hcp 1000 l.length i w [] hw (fun j k hj => by cases hj) (by omega) hi
    have := Fw_uniq g2 hk
    subst this
    rw [g1]
    simp only [Option.bind_some]
    by_cases hg : k1 > 1099511627776
    · rw [if_pos (by simpa using hg), if_pos hg]
    · rw [if_neg (by simpa using hg), if_neg hg]
      obtain ⟨k3, K3, g4, ⟨m3, g5⟩, g6⟩ := full_ok h hl hcp 1000 l.length i w K1 hw g3 (by omega) hi
      have := Fw_uniq g5 g2
      subst this
      rw [g4]; rfl
  · rw [t1 m] at hd; cases hd
theorem Full_bad {l : List (List api_Instr)} {i e : Int} (h : go_code_Tasks l i = some (0, e)) (he : e ≠ 0) : go_drain_Full l i = some (0, e) := by
  unfold go_drain_Full
  rw [h]
  simp only [Option.bind_some]
  rw [if_pos (by simpa using he)]
theorem sum_loop {l : List (List api_Instr)} {i k U w : Int} {m : Nat} {p : List api_Instr} (hp : gt l i = p) (hpl : p.length ≤ 1000) (hF : ∀ j kj, j ∈ kids l i → Fw l m j = some kj → kj ≤ 1099511627776 → go_drain_Full l j = some (kj, 0)) (hnn : ∀ j kj, Fw l m j = some kj → 0 ≤ kj) (hw : w ≤ 1099511627776) (hU : 0 ≤ U ∧ U ≤ 5000) :
    ∀ (r q : Nat) (s : Int), q + r = p.length → foldD (Fw l m) (kidsOf (reach (p.drop q))) s = some w → 0 ≤ s ∧ s ≤ 1099511627777 → (∀ j ∈ kidsOf (reach (p.drop q)), j ∈ kids l i) → whileO (go_ravellaw24_DrainFull_s3 l i true k 0) (U + s, (q : Int)) = some (U + w == k)
  | 0, q, s, h, hf, hs, hk => by
    have : q = p.length := by omega
    subst this
    rw [List.drop_length] at hf
    have : s = w := by
      have h2 : foldD (Fw l m) [] s = some w := hf
      rw [foldD] at h2; injection h2
    subst this
    refine whileO_inr ?_
    rw [go_ravellaw24_DrainFull_s3, if_neg (by rw [hp]; simp)]
    unfold go_ravellaw24_DrainFull_j2
    simp
  | r + 1, q, s, h, hf, hs, hk => by
    have hq : q < p.length := by omega
    rw [List.drop_eq_getElem_cons hq, reach] at hf hk
    by_cases h9 : p[q].Op = 9
    · rw [if_pos h9] at hf
      have hz : kidsOf [p[q]] = [] := by unfold kidsOf; rw [List.filter_cons_of_neg (by simp [h9])]; rfl
      rw [hz, foldD] at hf
      injection hf with hf; subst hf
      refine whileO_inr ?_
      rw [go_ravellaw24_DrainFull_s3, if_pos (by rw [hp]; simpa using hq), if_pos (by rw [hp]; omega), if_pos (by rw [hp, gt_nat hq]; simp [h9])]
      unfold go_ravellaw24_DrainFull_j2
      simp
    · rw [if_neg h9] at hf hk
      by_cases h2 : p[q].Op = 2
      · have hz : kidsOf (p[q] :: reach (p.drop (q + 1))) = p[q].A :: kidsOf (reach (p.drop (q + 1))) := by unfold kidsOf; rw [List.filter_cons_of_pos (by simp [h2])]; rfl
        rw [hz] at hf hk
        have hle := foldD_le0 hnn hf hs hw
        rw [foldD] at hf
        cases hfj : Fw l m p[q].A with
        | none => rw [hfj] at hf; cases hf
        | some kj =>
          rw [hfj] at hf
          replace hf : foldD (Fw l m) (kidsOf (reach (p.drop (q + 1)))) (addC s kj) = some w := hf
          have hk0 := hnn _ _ hfj
          have hkw := hle _ (by simp) kj hfj
          have hge := foldD_ge0 hnn hf (by unfold addC; split <;> omega)
          have hadd : addC s kj = s + kj := by
            have h1 := hge.1
            unfold addC at h1 ⊢
            split at h1
            · omega
            · rename_i hn; rw [if_neg hn]
          rw [hadd] at hf hge
          have hfull := hF _ kj (hk _ (by simp)) hfj (by omega)
          rw [whileO_inl (s' := (U + (s + kj), ((q + 1 : Nat) : Int)))]
          · exact sum_loop hp hpl hF hnn hw hU r (q + 1) (s + kj) (by omega) hf (by omega) (fun j hj => hk j (by simp [hj]))
          · rw [go_ravellaw24_DrainFull_s3, if_pos (by rw [hp]; simpa using hq), if_pos (by rw [hp]; omega), if_neg (by rw [hp, gt_nat hq]; simp [h9]), if_pos (by rw [hp, gt_nat hq]; simp [h2]), hp, gt_nat hq, hfull]
            simp only [Option.bind_some]
            rw [if_neg (by simp), w64_nat (by omega), w64_id (n := U + s + kj) (by omega) (by omega), Int.add_assoc]; rfl
      · have hz : kidsOf (p[q] :: reach (p.drop (q + 1))) = kidsOf (reach (p.drop (q + 1))) := by unfold kidsOf; rw [List.filter_cons_of_neg (by simp [h2])]
        rw [hz] at hf hk
        rw [whileO_inl (s' := (U + s, ((q + 1 : Nat) : Int)))]
        · exact sum_loop hp hpl hF hnn hw hU r (q + 1) s (by omega) hf hs hk
        · rw [go_ravellaw24_DrainFull_s3, if_pos (by rw [hp]; simpa using hq), if_pos (by rw [hp]; omega), if_neg (by rw [hp, gt_nat hq]; simp [h9]), if_neg (by rw [hp, gt_nat hq]; simp [h2]), w64_nat (by omega)]; rfl
theorem live_eq : go_ravellaw24_live = some true := by
  unfold go_ravellaw24_live
  have hp : poks [[api_Instr.mk 9 0 0]] := ⟨by decide, by simp [pok, i64ok]⟩
  have hc : ckAll [[api_Instr.mk 9 0 0]] = true := by decide
  have hD : D [[api_Instr.mk 9 0 0]] 1 0 = some 1 := by decide
  have hF : Fw [[api_Instr.mk 9 0 0]] 1 0 = some 2 := by decide
  rw [Full_ok hp hc (by decide) hD (by decide) hF]
  simp only [Option.bind_some]
  have hr : go_drain_Rest api_World.zero = some true := by
    unfold go_drain_Rest
    refine whileO_inr ?_
    rw [go_drain_Rest_s1, if_neg (by decide)]; rfl
  rw [hr]; rfl
theorem drainFull_true {l : List (List api_Instr)} {i : Int} (hl : l.length ≤ 9223372036854775807) (ha : ∀ p ∈ l, ∀ x ∈ p, i64ok x.A) : go_ravellaw24_DrainFull l i = some true := by
  unfold go_ravellaw24_DrainFull
  obtain ⟨r, h1, h2⟩ := few_poks hl ha
  rw [live_eq, h1]
  simp only [Option.bind_some]
  cases r with
  | false => rfl
  | true =>
    obtain ⟨hp, _, _⟩ := h2 rfl
    rw [if_neg (by simp)]
    by_cases hb : ckAll l = false ∨ ¬ (0 ≤ i ∧ i < l.length)
    · have ht := tasks_bad hp hb
      rw [Full_bad ht (by decide), ht]; rfl
    · simp only [not_or, Bool.not_eq_false, Decidable.not_not] at hb
      obtain ⟨hc, hi⟩ := hb
      obtain ⟨hpr, hcp⟩ := ckAll_pr hc
      rcases tasks_ok hp hc hi with ⟨m, d, t1, t2⟩ | ⟨_, t2⟩
      · by_cases hd : d > 1099511627776
        · rw [if_pos hd] at t2
          rw [Full_bad t2 (by decide), t2]; rfl
        · rw [if_neg hd] at t2
          obtain ⟨k, hk⟩ := Fw_of m i d t1
          have hfull := Full_ok hp hc hi t1 (by omega) hk
          have hdb := D_bounds l m i d t1
          by_cases hkg : k > 1099511627776
          · rw [if_pos hkg] at hfull
            rw [hfull, t2]; rfl
          · rw [if_neg hkg] at hfull
            have hrel := Fw_D hpr hcp m i d k hi t1 hk
            rw [hfull, t2]
            simp only [Option.bind_some]
            rw [if_neg (by simp), w64_id (n := 2 * d) (by omega) (by omega), if_neg (by simp; omega), if_pos hi]
            obtain ⟨m, rfl⟩ : ∃ m', m = m' + 1 := by
              cases m with
              | zero => cases t1
              | succ m => exact ⟨m, rfl⟩
            obtain ⟨q, rfl⟩ : ∃ q : Nat, i = (q : Int) := ⟨i.toNat, by omega⟩
            have hq : q < l.length := by omega
            have hmem := List.getElem_mem hq
            have hu := ck_un hcp
            have huq := hu (q : Int)
            rw [gt_nat hq] at huq
            rw [gt_nat hq, units_eq (hp.2 _ hmem).2, hcp _ hmem]
            simp only [Option.bind_some, if_true]
            rw [if_pos hi, w64_id (n := un l[q] + 1) (by omega) (by omega)]
            rw [Fw, Option.map_eq_some_iff] at hk
            obtain ⟨w, w1, w2⟩ := hk
            rw [gt_nat hq] at w2
            have hwb := foldD_ge0 (Fw_nonneg hu m) w1 (by omega)
            have hkw : k = un l[q] + 1 + w := by
              rw [← w2] at hkg ⊢
              unfold addC at hkg ⊢
              split at hkg
              · omega
              · rename_i hn; rw [if_neg hn]
            rw [D] at t1
            have hsl := sum_loop (l := l) (i := (q : Int)) (k := k) (U := un l[q] + 1) (w := w) (m := m) (gt_nat hq) (by have := (chkP_parts (hcp _ hmem)).2.1; omega) (fun j kj hj hfj hle => by
              obtain ⟨dj, hdj⟩ := foldD_kid t1 j hj
              have hdle := foldD_le0 (fun j k hk => by have := D_bounds l m j k hk; omega) t1 (by omega) (by omega) j hj dj hdj
              have := Full_ok hp hc (hpr.kid _ j hi.1 hi.2 hj) hdj (by omega) hfj
              rw [if_neg (by omega)] at this
              exact this) (Fw_nonneg hu m) (by omega) (by omega) l[q].length 0 0 (by omega) (by
                rw [List.drop_zero]
                unfold kids at w1
                rw [gt_nat hq] at w1
                exact w1) (by omega) (fun j hj => by
                rw [List.drop_zero] at hj
                unfold kids
                rw [gt_nat hq]; exact hj)
            rw [Int.add_zero] at hsl
            rw [show ((0 : Nat) : Int) = 0 from rfl] at hsl
            rw [hsl, hkw]
            simp
      · rw [Full_bad t2 (by decide), t2]; rfl

end Go.Proofs.Ytmobjkihhbnkhaa
