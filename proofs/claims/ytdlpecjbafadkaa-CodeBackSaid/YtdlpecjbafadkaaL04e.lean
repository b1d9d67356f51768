/- Helper lemmas for the claim's theorem: an abstract machine over the model, proved sound; no condition beyond each lemma's own. -/
import Derived.Test.YtdlpecjbafadkaaL04d
set_option linter.unusedVariables false
set_option linter.unusedSimpArgs false
set_option linter.unnecessarySimpa false
set_option linter.unusedSectionVars false
/- Plain laws on the printed functions. -/
namespace Go.Proofs.Ytdlpecjbafadkaa
open Go Go.AM
set_option maxRecDepth 100000
set_option maxHeartbeats 1000000
set_option linter.unusedVariables false
set_option linter.unusedSimpArgs false
def addB (n k : Int) : Int := if 2199023255552 < n + k then 2199023255552 else n + k
def minC (n : Int) : Int := if n < 1099511627777 then n else 1099511627777
def foldT (f : Int → Int) : List Int → Int → Int
  | [], n => n
  | j :: r, n => if n > 0 then (if f j = 0 then foldT f r 0 else foldT f r (addB n (f j))) else foldT f r n
theorem foldT_zero (f : Int → Int) : ∀ r, foldT f r 0 = 0
  | [] => rfl
  | j :: r => by rw [foldT, if_neg (by omega)]; exact foldT_zero f r
theorem minC_add {n k : Int} (hn : 1 ≤ n) (hk : 1 ≤ k) : addC (minC n) (minC k) = minC (addB n k) := by
  unfold addC minC addB
  repeat' split
  all_goals omega
theorem addB_bounds {n k : Int} (hn : 1 ≤ n) (hk : 1 ≤ k) : 1 ≤ addB n k ∧ addB n k ≤ 2199023255552 := by unfold addB; split <;> omega
def soundV (l : List (List api_Instr)) (j x : Int) : Prop := x = 0 ∨ ((1 ≤ x ∧ x ≤ 2199023255552) ∧ ∃ m, D l m j = some (minC x))
theorem foldT_sound {l : List (List api_Instr)} {f : Int → Int} : ∀ {ks : List Int} {n : Int}, (∀ j ∈ ks, soundV l j (f j)) → 1 ≤ n ∧ n ≤ 2199023255552 →
    foldT f ks n = 0 ∨ ((1 ≤ foldT f ks n ∧ foldT f ks n ≤ 2199023255552) ∧ ∃ m, foldD (D l m) ks (minC n) = some (minC (foldT f ks n)))
  | [], n, _, hn => .inr ⟨hn, 0, rfl⟩
  | j :: r, n, hf, hn => by
    rw [foldT, if_pos (by omega)]
    rcases hf j (by simp) with h0 | ⟨hb, m1, hm1⟩
    · rw [if_pos h0]; exact .inl (foldT_zero f r)
    · rw [if_neg (by omega)]
      rcases foldT_sound (l := l) (f := f) (ks := r) (n := addB n (f j)) (fun i hi => hf i (by simp [hi])) (addB_bounds hn.1 hb.1) with h1 | ⟨h1, m2, hm2⟩
      · exact .inl h1
      · refine .inr ⟨h1, max m1 m2, ?_⟩
        rw [foldD, D_le (Nat.le_max_left m1 m2) hm1]
        show foldD (D l (max m1 m2)) r (addC (minC n) (minC (f j))) = _
        rw [minC_add hn.1 hb.1]
        exact foldD_mono (fun j k => D_le (Nat.le_max_right m1 m2)) _ _ _ hm2
theorem foldT_ne {f : Int → Int} : ∀ {ks : List Int} {n : Int}, (∀ j ∈ ks, 1 ≤ f j) → 1 ≤ n → 1 ≤ foldT f ks n
  | [], n, _, hn => hn
  | j :: r, n, hf, hn => by
    have hj := hf j (by simp)
    rw [foldT, if_pos (by omega), if_neg (by omega)]
    exact foldT_ne (fun i hi => hf i (by simp [hi])) (addB_bounds hn hj).1
theorem gt_stI {m : List Int} {i : Int} (j x : Int) (h0 : 0 ≤ i ∧ i < m.length) (hj : 0 ≤ j) : gt (st m i x) j = if j = i then x else gt m j := by
  by_cases e : j = i
  · subst e
    simp [gt, st, List.getD, List.getElem?_set, show j.toNat < m.length by omega]
  · have : i.toNat ≠ j.toNat := by omega
    simp [gt, st, List.getD, List.getElem?_set, this, e]
/-- What the table holds in pass p, ahead of program i. -/
structure Tab (l : List (List api_Instr)) (p : Nat) (i : Int) (K : List Int) : Prop where
  len : K.length = l.length
  sound : ∀ j : Int, 0 ≤ j → j < l.length → soundV l j (gt K j)
  comp : ∀ j : Int, 0 ≤ j → j < l.length → (∀ v, D l p j = some v → gt K j ≠ 0) ∧ (j < i → ∀ v, D l (p + 1) j = some v → gt K j ≠ 0)
theorem Tab.next {l : List (List api_Instr)} (hl : Pr l) {p : Nat} {i : Int} {K : List Int} (h : Tab l p i K) (hi : 0 ≤ i ∧ i < l.length) : Tab l p (i + 1) (st K i (foldT (gt K) (kids l i) 1)) := by
  have hlen := h.len
  have hiK : 0 ≤ i ∧ i < K.length := by omega
  have hkid : ∀ j ∈ kids l i, 0 ≤ j ∧ j < l.length := fun j hj => hl.kid i j hi.1 hi.2 hj
  refine ⟨by unfold st; rw [List.length_set]; exact hlen, fun j hj0 hj => ?_, fun j hj0 hj => ?_⟩
  · rw [gt_stI j _ hiK hj0]
    split
    · rename_i e
      subst e
      rcases foldT_sound (l := l) (f := gt K) (ks := kids l j) (n := 1) (fun q hq => h.sound q (hkid q hq).1 (hkid q hq).2) (by omega) with h1 | ⟨h1, m, h2⟩
      · exact .inl h1
      · exact .inr ⟨h1, m + 1, h2⟩
    · exact h.sound j hj0 hj
  · have hnew : ∀ v, D l (p + 1) i = some v → foldT (gt K) (kids l i) 1 ≠ 0 := fun v hv => by
      have := foldT_ne (f := gt K) (ks := kids l i) (n := 1) (fun q hq => by
        obtain ⟨k, hk⟩ := foldD_kid hv q hq
        have h1 := (h.comp q (hkid q hq).1 (hkid q hq).2).1 k hk
        rcases h.sound q (hkid q hq).1 (hkid q hq).2 with h2 | ⟨h2, _⟩ <;> omega) (by omega)
      omega
    rw [gt_stI j _ hiK hj0]
    split
    · rename_i e
      subst e
      exact ⟨fun v hv => hnew v (D_step l p j v hv), fun _ v hv => hnew v hv⟩
    · rename_i e
      exact ⟨(h.comp j hj0 hj).1, fun hji v hv => (h.comp j hj0 hj).2 (by omega) v hv⟩
theorem Tab.pass {l : List (List api_Instr)} {p : Nat} {K : List Int} (h : Tab l p (l.length : Int) K) : Tab l (p + 1) 0 K :=
  ⟨h.len, h.sound, fun j hj0 hj => ⟨(h.comp j hj0 hj).2 hj, fun hn => by omega⟩⟩
theorem progs_eq (a b : List (List api_Instr)) : go_code_Same a b = go_ravelref04_Same a b := by
  have : go_slices_EqualFunc_api_Instr_api_Instr_api_Instr_api_Instr_Instr36 a b = go_ravelref04_Same a b := rfl
  unfold go_code_Same
  rw [this]
  cases go_ravelref04_Same a b <;> rfl
end Go.Proofs.Ytdlpecjbafadkaa
