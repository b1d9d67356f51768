/- Helper lemmas for the claim's theorem: an abstract machine over the model, proved sound; no condition beyond each lemma's own. -/
import Derived.Test.YtdlpecjbafadkaaL04
set_option linter.unusedVariables false
set_option linter.unusedSimpArgs false
set_option linter.unnecessarySimpa false
set_option linter.unusedSectionVars false
/- Plain laws on the printed functions. -/
namespace Go.Proofs.Ytdlpecjbafadkaa
open Go Go.AM
set_option maxRecDepth 100000
set_option maxHeartbeats 1000000
set_option linter.unusedVariables false
set_option linter.unusedSimpArgs false
def addC (n k : Int) : Int := if 1099511627777 < n + k then 1099511627777 else n + k
def kidsOf (s : List api_Instr) : List Int := (s.filter (fun x => x.Op == 2)).map (·.A)
def kids (l : List (List api_Instr)) (i : Int) : List Int := kidsOf (reach (gt l i))
def foldD (f : Int → Option Int) : List Int → Int → Option Int
  | [], n => some n
  | j :: r, n => match f j with
    | none => none
    | some k => foldD f r (addC n k)
/-- How many tasks a program comes to, by depth. -/
def D (l : List (List api_Instr)) : Nat → Int → Option Int
  | 0, _ => none
  | m + 1, i => foldD (D l m) (kids l i) 1
theorem addC_bounds {n k : Int} (hn : 1 ≤ n) (hk : 1 ≤ k) : 1 ≤ addC n k ∧ addC n k ≤ 1099511627777 := by
  unfold addC; split <;> omega
theorem foldD_mono {f g : Int → Option Int} (h : ∀ j k, f j = some k → g j = some k) : ∀ (r : List Int) (n v : Int), foldD f r n = some v → foldD g r n = some v
  | [], n, v, hv => hv
  | j :: r, n, v, hv => by
    rw [foldD] at hv ⊢
    cases hf : f j with
    | none => rw [hf] at hv; cases hv
    | some k =>
      rw [hf] at hv
      rw [h j k hf]
      exact foldD_mono h r _ v hv
theorem foldD_append (f : Int → Option Int) : ∀ (r s : List Int) (n v : Int), foldD f r n = some v → foldD f (r ++ s) n = foldD f s v
  | [], s, n, v, hv => by
    rw [foldD] at hv; injection hv with hv; subst hv; rfl
  | j :: r, s, n, v, hv => by
    rw [foldD] at hv
    rw [List.cons_append, foldD]
    cases hf : f j with
    | none => rw [hf] at hv; cases hv
    | some k => rw [hf] at hv; exact foldD_append f r s _ v hv
theorem foldD_kid {f : Int → Option Int} : ∀ {r : List Int} {n v : Int}, foldD f r n = some v → ∀ j ∈ r, ∃ k, f j = some k
  | [], _, _, _, j, hj => by cases hj
  | a :: r, n, v, hv, j, hj => by
    rw [foldD] at hv
    cases hf : f a with
    | none => rw [hf] at hv; cases hv
    | some k =>
      rw [hf] at hv
      rcases List.mem_cons.1 hj with rfl | hj
      · exact ⟨k, hf⟩
      · exact foldD_kid hv j hj
theorem foldD_bounds {f : Int → Option Int} (hf : ∀ j k, f j = some k → 1 ≤ k) : ∀ {r : List Int} {n v : Int}, foldD f r n = some v → 1 ≤ n ∧ n ≤ 1099511627777 → 1 ≤ v ∧ v ≤ 1099511627777
  | [], n, v, hv, hn => by rw [foldD] at hv; injection hv with hv; subst hv; exact hn
  | a :: r, n, v, hv, hn => by
    rw [foldD] at hv
    cases h : f a with
    | none => rw [h] at hv; cases hv
    | some k => rw [h] at hv; exact foldD_bounds hf hv (addC_bounds hn.1 (hf a k h))
theorem D_bounds (l : List (List api_Instr)) : ∀ (m : Nat) (i k : Int), D l m i = some k → 1 ≤ k ∧ k ≤ 1099511627777
  | 0, i, k, h => by cases h
  | m + 1, i, k, h => foldD_bounds (fun j k hk => (D_bounds l m j k hk).1) h (by omega)
theorem D_step (l : List (List api_Instr)) : ∀ (m : Nat) (i k : Int), D l m i = some k → D l (m + 1) i = some k
  | 0, i, k, h => by cases h
  | m + 1, i, k, h => foldD_mono (D_step l m) _ _ _ h
theorem D_le {l : List (List api_Instr)} {m n : Nat} (h : m ≤ n) {i k : Int} (hd : D l m i = some k) : D l n i = some k := by
  obtain ⟨d, rfl⟩ : ∃ d, n = m + d := ⟨n - m, by omega⟩
  clear h
  induction d with
  | zero => exact hd
  | succ d ih => exact D_step l _ _ _ ih
theorem D_uniq {l : List (List api_Instr)} {m n : Nat} {i a b : Int} (h1 : D l m i = some a) (h2 : D l n i = some b) : a = b := by
  have g1 := D_le (Nat.le_max_left m n) h1
  have g2 := D_le (Nat.le_max_right m n) h2
  rw [g1] at g2; injection g2
/-- One comes to another one. -/
inductive Path1 (l : List (List api_Instr)) : Int → Int → Prop
  | one {i j : Int} (h : j ∈ kids l i) : Path1 l i j
  | step {i j k : Int} (h : j ∈ kids l i) (t : Path1 l j k) : Path1 l i k
theorem Path1.snoc {l : List (List api_Instr)} {i j k : Int} (h : Path1 l i j) (hk : k ∈ kids l j) : Path1 l i k := by
  induction h with
  | one h => exact .step h (.one hk)
  | step h _ ih => exact .step h (ih hk)
theorem D_kid {l : List (List api_Instr)} {m : Nat} {i v : Int} (h : D l m i = some v) {j : Int} (hj : j ∈ kids l i) : ∃ m' k, m' < m ∧ D l m' j = some k := by
  cases m with
  | zero => cases h
  | succ m =>
    obtain ⟨k, hk⟩ := foldD_kid h j hj
    exact ⟨m, k, by omega, hk⟩
theorem D_path {l : List (List api_Instr)} {i k : Int} (hp : Path1 l i k) : ∀ {m : Nat} {v : Int}, D l m i = some v → ∃ m' v', m' < m ∧ D l m' k = some v' := by
  induction hp with
  | one h => intro m v hv; exact D_kid hv h
  | step h _ ih =>
    intro m v hv
    obtain ⟨m1, v1, h1, h2⟩ := D_kid hv h
    obtain ⟨m2, v2, h3, h4⟩ := ih h2
    exact ⟨m2, v2, by omega, h4⟩
theorem D_cyc {l : List (List api_Instr)} {i : Int} (hp : Path1 l i i) : ∀ m, D l m i = none := by
  have key : ∀ n m, m ≤ n → D l m i = none := by
    intro n
    induction n with
    | zero => intro m h; have : m = 0 := by omega
              subst this; rfl
    | succ n ih =>
      intro m h
      cases hd : D l m i with
      | none => rfl
      | some v =>
        obtain ⟨m', v', h1, h2⟩ := D_path hp hd
        rw [ih m' (by omega)] at h2; cases h2
  exact fun m => key m m (Nat.le_refl m)
theorem nodup_len : ∀ (n : Nat) (p : List Int), p.Nodup → (∀ u ∈ p, 0 ≤ u ∧ u < n) → p.length ≤ n
  | 0, p, _, h => by
    cases p with
    | nil => simp
    | cons x r => have := h x (by simp); omega
  | n + 1, p, hn, h => by
    by_cases hm : (n : Int) ∈ p
    · have h1 := nodup_len n (p.erase (n : Int)) (hn.erase _) (fun u hu => by
        rw [hn.mem_erase_iff] at hu
        have := h u hu.2
        have := hu.1
        omega)
      rw [List.length_erase_of_mem hm] at h1
      omega
    · have h1 := nodup_len n p hn (fun u hu => by
        have := h u hu
        have : u ≠ (n : Int) := fun e => hm (e ▸ hu)
        omega)
      omega
section
variable {κ β : Type} [DecidableEq κ]
theorem mget_mput (k : κ) (v : β) (j : κ) : ∀ (m : List (κ × β)), mget (mput m k v) j = if j = k then some v else mget m j
  | [] => by simp only [mput, mget]
  | (x, u) :: r => by
    have ih := mget_mput k v j r
    simp only [mput]
    by_cases e : k = x
    · rw [if_pos e]
      simp only [mget]
      by_cases e2 : j = k
      · rw [if_pos e2, if_pos e2]
      · rw [if_neg e2, if_neg e2, if_neg (fun h => e2 (h.trans e.symm))]
    · rw [if_neg e]
      simp only [mget, ih]
      by_cases e2 : j = x
      · rw [if_pos e2, if_neg (fun h => e (h.symm.trans e2)), if_pos e2]
      · rw [if_neg e2, if_neg e2]
def keysN (m : List (κ × β)) : Prop := (m.map (·.1)).Nodup
theorem mput_keys (k : κ) (v : β) : ∀ (m : List (κ × β)) (x : κ), x ∈ (mput m k v).map (·.1) → x = k ∨ x ∈ m.map (·.1)
  | [], x, h => by simpa [mput] using h
  | (y, u) :: r, x, h => by
    simp only [mput] at h
    split at h
    · rename_i e
      simp only [List.map_cons, List.mem_cons] at h ⊢
      rcases h with h | h
      · exact .inl h
      · exact .inr (.inr h)
    · simp only [List.map_cons, List.mem_cons] at h ⊢
      rcases h with h | h
      · exact .inr (.inl h)
      · rcases mput_keys k v r x h with h | h
        · exact .inl h
        · exact .inr (.inr h)
theorem keysN_mput (k : κ) (v : β) : ∀ (m : List (κ × β)), keysN m → keysN (mput m k v)
  | [], _ => by simp [mput, keysN]
  | (y, u) :: r, h => by
    unfold keysN at h ⊢
    rw [List.map_cons, List.nodup_cons] at h
    simp only [mput]
    split
    · rename_i e
      rw [List.map_cons, List.nodup_cons]
      exact ⟨by rw [e]; exact h.1, h.2⟩
    · rename_i e
      rw [List.map_cons, List.nodup_cons]
      refine ⟨fun hm => ?_, keysN_mput k v r h.2⟩
      rcases mput_keys k v r y hm with h1 | h1
      · exact e h1.symm
      · exact h.1 h1
theorem mget_none (k : κ) : ∀ (m : List (κ × β)), k ∉ m.map (·.1) → mget m k = none
  | [], _ => rfl
  | (y, u) :: r, h => by
    simp only [List.map_cons, List.mem_cons, not_or] at h
    simp only [mget]
    rw [if_neg h.1]; exact mget_none k r h.2
theorem mget_mdel (k j : κ) : ∀ (m : List (κ × β)), keysN m → mget (mdel m k) j = if j = k then none else mget m j
  | [], _ => by simp [mdel, mget]
  | (y, u) :: r, h => by
    unfold keysN at h
    rw [List.map_cons, List.nodup_cons] at h
    simp only [mdel]
    by_cases e : k = y
    · rw [if_pos e]
      by_cases e2 : j = k
      · rw [if_pos e2, e2, e]; exact mget_none y r h.1
      · rw [if_neg e2]
        simp only [mget]
        rw [if_neg (fun h => e2 (h.trans e.symm))]
    · rw [if_neg e]
      simp only [mget, mget_mdel k j r h.2]
      by_cases e2 : j = y
      · rw [if_pos e2, if_neg (fun h => e (h.symm.trans e2)), if_pos e2]
      · rw [if_neg e2, if_neg e2]
theorem mdel_sub (k : κ) : ∀ (m : List (κ × β)) (x : κ), x ∈ (mdel m k).map (·.1) → x ∈ m.map (·.1)
  | [], x, h => by simp [mdel] at h
  | (y, u) :: r, x, h => by
    simp only [mdel] at h
    split at h
    · simp only [List.map_cons, List.mem_cons]; exact .inr h
    · simp only [List.map_cons, List.mem_cons] at h ⊢
      rcases h with h | h
      · exact .inl h
      · exact .inr (mdel_sub k r x h)
theorem keysN_mdel (k : κ) : ∀ (m : List (κ × β)), keysN m → keysN (mdel m k)
  | [], _ => by simp [mdel, keysN]
  | (y, u) :: r, h => by
    unfold keysN at h ⊢
    rw [List.map_cons, List.nodup_cons] at h
    simp only [mdel]
    split
    · exact h.2
    · rw [List.map_cons, List.nodup_cons]
      exact ⟨fun hm => h.1 (mdel_sub k r y hm), keysN_mdel k r h.2⟩
end
def good (l : List (List api_Instr)) (K : List (Int × Int)) : Prop := ∀ j k, mget K j = some k → ∃ m, D l m j = some k
def und (U : List (Int × Bool)) (path : List Int) : Prop := (∀ j, (mget U j).getD false = decide (j ∈ path)) ∧ keysN U
theorem und_put {U : List (Int × Bool)} {path : List Int} (h : und U path) (i : Int) : und (mput U i true) (i :: path) := by
  refine ⟨fun j => ?_, keysN_mput i true U h.2⟩
  rw [mget_mput]
  by_cases e : j = i
  · simp [e]
  · rw [if_neg e, h.1 j]; simp [e]
theorem und_del {U : List (Int × Bool)} {path : List Int} {i : Int} (h : und U (i :: path)) (hi : i ∉ path) : und (mdel U i) path := by
  refine ⟨fun j => ?_, keysN_mdel i U h.2⟩
  rw [mget_mdel _ _ _ h.2]
  by_cases e : j = i
  · rw [if_pos e, e]; simp [hi]
  · rw [if_neg e, h.1 j]; simp [e]
theorem kidsOf_take {s : List api_Instr} {q : Nat} (h : q < s.length) : kidsOf (s.take (q + 1)) = if (s[q].Op == 2) = true then kidsOf (s.take q) ++ [s[q].A] else kidsOf (s.take q) := by
  unfold kidsOf
  rw [List.take_succ_eq_append_getElem h, List.filter_append, List.map_append]
  split
  · rename_i e; rw [List.filter_cons_of_pos (by simpa using e)]; rfl
  · rename_i e; rw [List.filter_cons_of_neg (by simpa using e)]; simp
/-- Programs as they may be. -/
structure Pr (l : List (List api_Instr)) : Prop where
  len : l.length ≤ 16
  one : ∀ p ∈ l, p.length ≤ 1000000
  kid : ∀ i j : Int, 0 ≤ i → i < l.length → j ∈ kids l i → 0 ≤ j ∧ j < l.length
def okR (l : List (List api_Instr)) (i : Int) (path : List Int) (r : Option (Int × Int × List (Int × Int) × List (Int × Bool))) : Prop :=
  (∃ k K' U', r = some (k, 0, K', U') ∧ (∃ m, D l m i = some k) ∧ good l K' ∧ und U' path) ∨ (∃ k K' U', r = some (k, 9, K', U') ∧ ∀ m, D l m i = none)
theorem count_loop {l : List (List api_Instr)} (hl : Pr l) {rec : Int → List (List api_Instr) → List (Int × Int) → List (Int × Bool) → Option (Int × Int × List (Int × Int) × List (Int × Bool))} {i : Int} (hi : 0 ≤ i ∧ i < l.length) {path : List Int}
    (ih : ∀ j K U, j ∈ kids l i → good l K → und U (i :: path) → okR l j (i :: path) (rec j l K U)) (hp : i ∉ path) {s : List api_Instr} (hs : s = reach (gt l i)) (hsl : s.length ≤ 1000000) :
    ∀ (r q : Nat) (acc : Int) (K : List (Int × Int)) (U : List (Int × Bool)), q + r = s.length → good l K → und U (i :: path) → (∃ m, foldD (D l m) (kidsOf (s.take q)) 1 = some acc) → 1 ≤ acc ∧ acc ≤ 1099511627777 →
      okR l i path (whileO (go_code_Tasks_1_b_s2 i l rec s) (acc, (q : Int), K, U))
  | 0, q, acc, K, U, h, hK, hU, ⟨m, hm⟩, ha => by
    have : q = s.length := by omega
    subst this
    rw [List.take_length] at hm
    have hD : D l (m + 1) i = some acc := by rw [D, kids, ← hs]; exact hm
    refine .inl ⟨acc, mput K i acc, mdel U i, ?_, ⟨m + 1, hD⟩, ?_, und_del hU hp⟩
    · refine whileO_inr ?_
      rw [go_code_Tasks_1_b_s2, if_neg (by simp)]; rfl
    · intro j k hj
      rw [mget_mput] at hj
      split at hj
      · rename_i e
        injection hj with hj; subst hj; subst e
        exact ⟨m + 1, hD⟩
      · exact hK j k hj
  | r + 1, q, acc, K, U, h, hK, hU, ⟨m, hm⟩, ha => by
    have hq : q < s.length := by omega
    have hkt := kidsOf_take hq
    cases ho : (s[q].Op == 2) with
    | false =>
      rw [ho, if_neg (by simp)] at hkt
      have hstep : go_code_Tasks_1_b_s2 i l rec s (acc, (q : Int), K, U) = some (.inl (acc, ((q + 1 : Nat) : Int), K, U)) := by
        rw [go_code_Tasks_1_b_s2, if_pos (by simpa using hq), if_pos (by omega), gt_nat hq, if_pos (by simpa using ho), w64_nat (by omega)]; rfl
      rw [whileO_inl hstep]
      exact count_loop hl hi ih hp hs hsl r (q + 1) acc K U (by omega) hK hU ⟨m, by rw [hkt]; exact hm⟩ ha
    | true =>
      rw [ho, if_pos rfl] at hkt
      have hkid : s[q].A ∈ kids l i := by
        unfold kids kidsOf
        rw [← hs, List.mem_map]
        exact ⟨s[q], List.mem_filter.2 ⟨List.getElem_mem hq, by simpa using ho⟩, rfl⟩
      rcases ih s[q].A K U hkid hK hU with ⟨k, K', U', h1, ⟨m2, h2⟩, h3, h4⟩ | ⟨k, K', U', h1, h2⟩
      · have hb := D_bounds l m2 _ k h2
        have hstep : go_code_Tasks_1_b_s2 i l rec s (acc, (q : Int), K, U) = some (.inl (addC acc k, ((q + 1 : Nat) : Int), K', U')) := by
          rw [go_code_Tasks_1_b_s2, if_pos (by simpa using hq), if_pos (by omega), gt_nat hq, if_neg (by simpa using ho), h1]
          simp only [Option.bind_some]
          rw [if_neg (by simp), w64_nat (by omega), w64_id (n := acc + k) (by omega) (by omega)]; rfl
        rw [whileO_inl hstep]
        refine count_loop hl hi ih hp hs hsl r (q + 1) _ K' U' (by omega) h3 h4 ⟨max m m2, ?_⟩ (addC_bounds ha.1 hb.1)
        have g1 := foldD_mono (fun j k => D_le (Nat.le_max_left m m2)) _ _ _ hm
        rw [hkt, foldD_append _ _ _ _ _ g1, foldD, D_le (Nat.le_max_right m m2) h2]; rfl
      · refine .inr ⟨0, K', U', ?_, fun m => ?_⟩
        · refine whileO_inr ?_
          rw [go_code_Tasks_1_b_s2, if_pos (by simpa using hq), if_pos (by omega), gt_nat hq, if_neg (by simpa using ho), h1]
          rfl
        · cases hd : D l m i with
          | none => rfl
          | some v =>
            obtain ⟨m', k', _, g⟩ := D_kid hd hkid
            rw [h2 m'] at g; cases g
theorem count_ok {l : List (List api_Instr)} (hl : Pr l) : ∀ (n : Nat) (i : Int) (path : List Int) (K : List (Int × Int)) (U : List (Int × Bool)), good l K → und U path → (∀ u ∈ path, Path1 l u i) → path.Nodup → (∀ u ∈ path, 0 ≤ u ∧ u < l.length) → (0 ≤ i ∧ i < l.length) → l.length + 2 ≤ n + path.length →
    okR l i path (go_code_Tasks_1 n i l K U)
  | 0, i, path, K, U, hK, hU, hp, hn, hr, hi, hf => by
    have := nodup_len l.length path hn hr
    omega
  | n + 1, i, path, K, U, hK, hU, hp, hn, hr, hi, hf => by
    show okR l i path (go_code_Tasks_1_b (go_code_Tasks_1 n) i l K U)
    unfold go_code_Tasks_1_b
    rw [hU.1 i]
    by_cases hip : i ∈ path
    · rw [if_pos (by simpa using hip)]
      exact .inr ⟨_, _, _, rfl, D_cyc (hp i hip)⟩
    · rw [if_neg (by simpa using hip)]
      cases hk : mget K i with
      | some k =>
        rw [if_pos (show (some k).isSome = true from rfl)]
        exact .inl ⟨k, K, U, rfl, hK i k hk, hK, hU⟩
      | none =>
        rw [if_neg (by simp), if_pos hi]
        have hm : gt l i ∈ l := by
          obtain ⟨q, rfl⟩ : ∃ q : Nat, i = (q : Int) := ⟨i.toNat, by omega⟩
          have hq : q < l.length := by omega
          rw [gt_nat hq]; exact List.getElem_mem hq
        have hlen := hl.one _ hm
        rw [reached_eq hlen, Option.bind_some]
        have hrl := reach_len (gt l i)
        refine count_loop hl hi (fun j K U hj hK hU => ?_) hip rfl (by omega) (reach (gt l i)).length 0 1 K (mput U i true) (by omega) hK (und_put hU i) ⟨0, rfl⟩ (by omega)
        refine count_ok hl n j (i :: path) K U hK hU (fun u hu => ?_) (List.nodup_cons.2 ⟨hip, hn⟩) (fun u hu => ?_) (hl.kid i j hi.1 hi.2 hj) (by simp; omega)
        · rcases List.mem_cons.1 hu with rfl | hu
          · exact .one hj
          · exact (hp u hu).snoc hj
        · rcases List.mem_cons.1 hu with rfl | hu
          · exact hi
          · exact hr u hu
theorem may_spawn {x : api_Instr} (h : go_ravelref04_may x = true) (h2 : x.Op = 2) : 0 ≤ x.A := by
  unfold go_ravelref04_may go_ravelref04_in at h
  rw [h2] at h
  simp at h; omega
theorem ckAll_pr {l : List (List api_Instr)} (h : ckAll l = true) : Pr l ∧ ∀ p ∈ l, chkP p = true := by
  unfold ckAll at h
  simp only [Bool.and_eq_true, Bool.not_eq_true', List.any_eq_false] at h
  obtain ⟨h1, h2⟩ := h
  have h1' : 1 ≤ l.length ∧ l.length ≤ 16 := by simp at h1; omega
  have hc : ∀ p ∈ l, chkP p = true ∧ p.any (spawnsFar l.length) = false := fun p hp => by
    have := h2 p hp
    unfold badP at this
    simpa using this
  refine ⟨⟨h1'.2, fun p hp => ?_, fun i j h0 hi hj => ?_⟩, fun p hp => (hc p hp).1⟩
  · have := (chkP_parts (hc p hp).1).2.1; omega
  · obtain ⟨q, rfl⟩ : ∃ q : Nat, i = (q : Int) := ⟨i.toNat, by omega⟩
    have hq : q < l.length := by omega
    unfold kids kidsOf at hj
    rw [gt_nat hq, List.mem_map] at hj
    obtain ⟨x, hx, rfl⟩ := hj
    obtain ⟨hx1, hx2⟩ := List.mem_filter.1 hx
    have hxm := reach_mem hx1
    obtain ⟨c1, c2⟩ := hc _ (List.getElem_mem hq)
    have hmay := (chkP_parts c1).2.2 x hxm
    rw [List.any_eq_false] at c2
    have c3 := c2 x hxm
    have h2 : x.Op = 2 := by simpa using hx2
    refine ⟨may_spawn hmay h2, ?_⟩
    unfold spawnsFar at c3
    simp [h2] at c3; omega
theorem tasks_ok {l : List (List api_Instr)} {i : Int} (h : poks l) (hc : ckAll l = true) (hi : 0 ≤ i ∧ i < l.length) :
    (∃ m k, D l m i = some k ∧ go_code_Tasks l i = some (if k > 1099511627776 then (0, 4) else (k, 0))) ∨ ((∀ m, D l m i = none) ∧ go_code_Tasks l i = some (0, 9)) := by
  have hl := (ckAll_pr hc).1
  unfold go_code_Tasks go_code_within
  rw [checkAll_eq h, Option.bind_some, hc, if_neg (by simp; omega)]
  rcases count_ok hl 1000 i [] [] [] (fun j k hj => by cases hj) ⟨fun j => by simp [mget], by simp [keysN]⟩ (fun u hu => by cases hu) List.nodup_nil (fun u hu => by cases hu) hi (by have := hl.len; simp; omega) with ⟨k, K', U', h1, ⟨m, h2⟩, _, _⟩ | ⟨k, K', U', h1, h2⟩
  · refine .inl ⟨m, k, h2, ?_⟩
    rw [h1]
    simp only [Option.bind_some]
    rw [if_neg (by simp)]
    by_cases hk : k > 1099511627776
    · rw [if_pos (by simpa using hk), if_pos hk]
    · rw [if_neg (by simpa using hk), if_neg hk]
  · refine .inr ⟨h2, ?_⟩
    rw [h1]; rfl
theorem live_eq : go_ravellaw04_live = some true := by
  unfold go_ravellaw04_live
  have hp : poks [[api_Instr.mk 2 1 0, api_Instr.mk 2 1 1], [api_Instr.mk 1 2 0]] := ⟨by decide, by simp [pok, i64ok]⟩
  have hc : ckAll [[api_Instr.mk 2 1 0, api_Instr.mk 2 1 1], [api_Instr.mk 1 2 0]] = true := by decide
  have hD : D [[api_Instr.mk 2 1 0, api_Instr.mk 2 1 1], [api_Instr.mk 1 2 0]] 2 0 = some 3 := by decide
  rcases tasks_ok (i := 0) hp hc (by decide) with ⟨m, k, h1, h2⟩ | ⟨h1, _⟩
  · have := D_uniq h1 hD
    subst this
    rw [h2, checkAll_eq hp, hc]; rfl
  · rw [h1 2] at hD; cases hD

end Go.Proofs.Ytdlpecjbafadkaa
