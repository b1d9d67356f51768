/- Helper lemmas for the claim's theorem: an abstract machine over the model, proved sound; no condition beyond each lemma's own. -/
import Derived.Test.YtbcapidhhbkkcaaL08
import Derived.Test.YtbcapidhhbkkcaaAmG
set_option linter.unusedVariables false
set_option linter.unusedSimpArgs false
set_option linter.unnecessarySimpa false
set_option linter.unusedSectionVars false
/- Plain laws on the printed functions. -/
namespace Go.Proofs.Ytbcapidhhbkkcaa
open Go Go.AM
set_option maxRecDepth 100000
set_option maxHeartbeats 1000000
set_option linter.unusedVariables false
set_option linter.unusedSimpArgs false
/- ---- lists in order -/
def srt (l : List api_Timer) : List api_Timer := l.mergeSort fun x y => !(lessB y x)
theorem srt_perm (l : List api_Timer) : (srt l).Perm l := List.mergeSort_perm ..
theorem srt_srt (l : List api_Timer) : Srt (srt l) := by
  have := List.pairwise_mergeSort (le := fun x y => !(lessB y x)) (fun a b c h1 h2 => by
    simp only [Bool.not_eq_true'] at *
    exact le_trans h1 h2) (fun a b => by
    by_cases e : a = b
    · subst e; rw [less_irrefl]; rfl
    · rcases less_total e with h | h
      · have : lessB b a = false := by
          rw [← Bool.not_eq_true]; intro hh
          have := less_trans h hh
          rw [less_irrefl] at this; cases this
        rw [this]; rfl
      · have : lessB a b = false := by
          rw [← Bool.not_eq_true]; intro hh
          have := less_trans h hh
          rw [less_irrefl] at this; cases this
        rw [this]; simp) l
  exact this.imp (by simp)
theorem srt_len (l : List api_Timer) : (srt l).length = l.length := (srt_perm l).length_eq
theorem srt_of {l s : List api_Timer} (hs : Srt s) (hp : s.Perm l) : srt l = s := srt_one (srt_srt l) hs ((srt_perm l).trans hp.symm)
theorem srt_same {a b : List api_Timer} (h : a.Perm b) : srt a = srt b := srt_of (srt_srt b) ((srt_perm b).trans h.symm)
theorem srt_cons {h r : List api_Timer} {t : api_Timer} (hp : h.Perm (t :: r)) (hm : ∀ u ∈ r, lessB u t = false) : srt h = t :: srt r :=
  srt_of (List.pairwise_cons.2 ⟨fun u hu => hm u ((srt_perm r).mem_iff.1 hu), srt_srt r⟩) (((srt_perm r).cons t).trans hp.symm)
theorem ord_is {l : List api_Timer} (hl : l.length ≤ 900) : go_ravelref08_Order l = some (srt l) := order_is hl (srt_perm l) (srt_srt l)
theorem fine_ck {h : List api_Timer} (hf : Fine h) : go_heap_Check h = some 0 ∧ go_ravelref08_Check h = some 0 := by
  rcases check_ok h with ⟨_, a, b⟩ | ⟨a, _⟩
  · exact ⟨b, a⟩
  · exact absurd hf a
theorem bad_ck {h : List api_Timer} (hf : ¬ Fine h) : go_heap_Check h = some 1 ∧ go_ravelref08_Check h = some 1 := by
  rcases check_ok h with ⟨a, _⟩ | ⟨_, a, b⟩
  · exact absurd a hf
  · exact ⟨b, a⟩
theorem rsame_eq {a b : List api_Timer} (ha : a.length ≤ 900) (hb : b.length ≤ 900) : go_ravelref08_Same a b = go_ravelref08_SameList (srt a) (srt b) := by
  rw [go_ravelref08_Same, ord_is ha, Option.bind_some, ord_is hb, Option.bind_some]
  cases go_ravelref08_SameList (srt a) (srt b) <;> rfl
theorem beq_eq {x y : api_Timer} (h : api_Timer.beq x y = true) : x = y := by
  cases x; cases y
  simp [api_Timer.beq] at h
  simp [h]
theorem samel_two {xs ys : List api_Timer} (hl : xs.length = ys.length) (h9 : xs.length ≤ 900) : ∀ n k : Nat, k + n = xs.length → ∃ r, whileO (go_ravelref08_SameList_s1 xs ys) (k : Int) = some r ∧ (r = true → ∀ j (h : j < xs.length), k ≤ j → xs[j] = ys[j]'(hl ▸ h))
  | 0, k, hk => by
    refine ⟨true, whileO_inr ?_, fun _ j h hj => by omega⟩
    rw [go_ravelref08_SameList_s1, if_neg (by simp; omega)]; rfl
  | n + 1, k, hk => by
    have hi : k < xs.length := by omega
    have hi2 : k < ys.length := by omega
    have hs : go_ravelref08_SameList_s1 xs ys (k : Int) = if (!(api_Timer.beq xs[k] ys[k])) = true then inrO (some false) else nextO ((k + 1 : Nat) : Int) := by
      rw [go_ravelref08_SameList_s1, if_pos (by simp; omega), if_pos (pos_int hi), if_pos (pos_int hi2), gt_nat hi, gt_nat hi2, w64_nat (by omega)]
    cases e : api_Timer.beq xs[k] ys[k] with
    | false =>
      rw [e] at hs
      exact ⟨false, whileO_inr hs, fun h => by cases h⟩
    | true =>
      rw [e] at hs
      obtain ⟨r, h1, h2⟩ := samel_two hl h9 n (k + 1) (by omega)
      refine ⟨r, by rw [whileO_inl hs]; exact h1, fun hr j h hj => ?_⟩
      by_cases e2 : j = k
      · subst e2; exact beq_eq e
      · exact h2 hr j h (by omega)
theorem samel_get {xs ys : List api_Timer} (h9 : xs.length ≤ 900) : ∃ r, go_ravelref08_SameList xs ys = some r ∧ (r = true → xs = ys) := by
  unfold go_ravelref08_SameList
  by_cases hl : xs.length = ys.length
  · rw [if_neg (by simp [hl])]
    obtain ⟨r, h1, h2⟩ := samel_two hl h9 xs.length 0 (by omega)
    exact ⟨r, h1, fun hr => List.ext_getElem hl fun j h _ => h2 hr j h (by omega)⟩
  · rw [if_pos (by simp; omega)]
    exact ⟨false, rfl, fun h => by cases h⟩
theorem fits_inv {h ys : List api_Timer} (hl : h.length ≤ 256) (hy : ys.length ≤ 900) (hf : go_ravellaw08_fits h 0 ys 0 = some true) : Fine h ∧ h.Perm ys := by
  rw [go_ravellaw08_fits, if_neg (by simp)] at hf
  by_cases hF : Fine h
  · refine ⟨hF, ?_⟩
    rw [(fine_ck hF).2, Option.bind_some, if_pos (by simp), rsame_eq (by omega) hy] at hf
    obtain ⟨r, h1, h2⟩ := samel_get (xs := srt h) (ys := srt ys) (by rw [srt_len]; omega)
    rw [h1] at hf
    have hr : r = true := by simpa using hf
    have := h2 hr
    exact (srt_perm h).symm.trans (this ▸ srt_perm ys)
  · rw [(bad_ck hF).2, Option.bind_some, if_neg (by simp)] at hf
    simp at hf
theorem idx_one {xs : List api_Timer} (hn : (xs.map fun t => t.Id).Nodup) {i j : Nat} (hi : i < xs.length) (hj : j < xs.length) (e : xs[i].Id = xs[j].Id) : i = j := by
  have h := List.pairwise_iff_getElem.1 hn
  by_cases h1 : i < j
  · exact absurd (by rw [List.getElem_map, List.getElem_map]; exact e) (h i j (by simpa using hi) (by simpa using hj) h1)
  · by_cases h2 : j < i
    · exact absurd (by rw [List.getElem_map, List.getElem_map]; exact e.symm) (h j i (by simpa using hj) (by simpa using hi) h2)
    · omega
theorem era_len {xs : List api_Timer} {i : Nat} (hi : i < xs.length) : (xs.eraseIdx i).length + 1 = xs.length := by rw [List.length_eraseIdx, if_pos hi]; omega
theorem cancel_yes {xs : List api_Timer} (hf : Fine xs) {i : Nat} (hi : i < xs.length) : ∃ h', go_heap_Cancel xs xs[i].Id = some (h', 0) ∧ h'.Perm (xs.eraseIdx i) ∧ Fine h' := by
  have hl := hf.1
  have hrl := era_len hi
  obtain ⟨g1, g2, g3, g4⟩ := (fine_iff xs).1 hf
  have hat : go_ravelref08_at xs xs[i].Id = some (i : Int) := by
    rcases find_ok xs[i].Id (by omega) hf with ⟨j, hj, e, f1, f2⟩ | ⟨hno, f1, f2⟩
    · obtain rfl : j = i := idx_one g3 hj hi e
      exact f1
    · exact absurd rfl (hno i hi)
  obtain ⟨ys, r1, r2, _, _, _⟩ := rcan_ok hf hi hat
  obtain ⟨h', ys', c, b1, b2, b3, b4⟩ := can_ok xs xs[i].Id
  rw [r1] at b2
  injection b2 with b2
  injection b2 with e1 e2
  subst e1; subst e2
  obtain ⟨k1, k2⟩ := fits_inv b4 (by rw [r2.length_eq]; omega) b3
  exact ⟨h', b1, k2.trans r2, k1⟩
theorem reset_yes {xs : List api_Timer} (hf : Fine xs) {i : Nat} (hi : i < xs.length) {w : Int} (hw : 0 ≤ w ∧ w ≤ 1125899906842624) : ∃ h', go_heap_Reset xs xs[i].Id w = some (h', 0) ∧ h'.Perm (⟨w, xs[i].Id⟩ :: xs.eraseIdx i) ∧ Fine h' := by
  have hl := hf.1
  have hrl := era_len hi
  obtain ⟨g1, g2, g3, g4⟩ := (fine_iff xs).1 hf
  have hat : go_ravelref08_at xs xs[i].Id = some (i : Int) := by
    rcases find_ok xs[i].Id (by omega) hf with ⟨j, hj, e, f1, f2⟩ | ⟨hno, f1, f2⟩
    · obtain rfl : j = i := idx_one g3 hj hi e
      exact f1
    · exact absurd rfl (hno i hi)
  obtain ⟨ys, r1, r2, _, _, _⟩ := rcan_ok hf hi hat
  have hyl : ys.length ≤ 256 := by rw [r2.length_eq]; omega
  have hb : go_ravelref08_Reset xs xs[i].Id w = some (wth ys ⟨w, xs[i].Id⟩, 0) := by
    rw [go_ravelref08_Reset, (fine_ck hf).2, Option.bind_some, if_neg (by simp; omega), r1, Option.bind_some]
    show (if ((0 : Int) != 0) = true then _ else _) = _
    rw [if_neg (by decide), with_ok _ (by omega)]; rfl
  obtain ⟨h', ys', c, b1, b2, b3, b4⟩ := res_ok xs xs[i].Id w
  rw [hb] at b2
  injection b2 with b2
  injection b2 with e1 e2
  subst e1; subst e2
  have hp := wth_perm ys ⟨w, xs[i].Id⟩
  obtain ⟨k1, k2⟩ := fits_inv b4 (by rw [hp.length_eq]; simp; omega) b3
  exact ⟨h', b1, k2.trans (hp.trans (r2.cons _)), k1⟩
theorem cancel_no {xs : List api_Timer} (hf : Fine xs) {id : Int} (hno : ∀ t ∈ xs, t.Id ≠ id) : go_heap_Cancel xs id = some ([], 5) := by
  have hl := hf.1
  rcases find_ok id (by omega) hf with ⟨i, hi, e, _, _⟩ | ⟨_, _, f2⟩
  · exact absurd e (hno _ (List.getElem_mem hi))
  · rw [go_heap_Cancel, f2, Option.bind_some]; rfl
theorem reset_no {xs : List api_Timer} (hf : Fine xs) {id w : Int} (h : (∀ t ∈ xs, t.Id ≠ id) ∨ ¬ (0 ≤ w ∧ w ≤ 1125899906842624)) : ∃ c, c ≠ 0 ∧ go_heap_Reset xs id w = some ([], c) := by
  have hl := hf.1
  by_cases hw : (decide (w < 0) || decide (w > 1125899906842624)) = true
  · refine ⟨1, by decide, ?_⟩
    rcases find_ok id (by omega) hf with ⟨i, hi, _, f1, f2⟩ | ⟨hno, f1, f2⟩
    · rw [go_heap_Reset, f2, Option.bind_some]
      show (if ((((0 : Int) == 1) || decide (w < 0)) || decide (w > 1125899906842624)) = true then _ else _) = _
      rw [if_pos (by rw [Bool.or_assoc, hw, Bool.or_true])]
    · rw [go_heap_Reset, f2, Option.bind_some]
      show (if ((((5 : Int) == 1) || decide (w < 0)) || decide (w > 1125899906842624)) = true then _ else _) = _
      rw [if_pos (by rw [Bool.or_assoc, hw, Bool.or_true])]
  · have hno : ∀ t ∈ xs, t.Id ≠ id := by
      rcases h with h | h
      · exact h
      · simp at hw; omega
    refine ⟨5, by decide, ?_⟩
    rcases find_ok id (by omega) hf with ⟨i, hi, e, _, _⟩ | ⟨_, _, f2⟩
    · exact absurd e (hno _ (List.getElem_mem hi))
    · rw [go_heap_Reset, f2, Option.bind_some]
      show (if ((((5 : Int) == 1) || decide (w < 0)) || decide (w > 1125899906842624)) = true then _ else _) = _
      rw [if_neg (by rw [Bool.or_assoc, Bool.eq_false_iff.2 hw]; decide)]; rfl
/- ---- the first one -/
theorem head_min {h : List api_Timer} (hp : Hp h) : ∀ (n k : Nat), k < h.length → k ≤ n → lessB (gt h (k : Int)) (gt h 0) = false
  | _, 0, _, _ => less_irrefl _
  | 0, k + 1, _, hn => by omega
  | n + 1, k + 1, hk, hn => by
    have h1 := hp ((k + 1 : Nat) : Int) (by omega) (by omega)
    have e : (((k + 1 : Nat) : Int) - 1) / 4 = ((k / 4 : Nat) : Int) := by omega
    rw [e] at h1
    exact le_trans (head_min hp n (k / 4) (by omega) (by omega)) h1
theorem tail_min {h : List api_Timer} {t : api_Timer} {r : List api_Timer} (hp : Hp h) (e : h = t :: r) : ∀ u ∈ r, lessB u t = false := fun u hu => by
  obtain ⟨j, hj, rfl⟩ := List.mem_iff_getElem.1 hu
  have := head_min hp (j + 1) (j + 1) (by rw [e]; simpa using hj) (Nat.le_refl _)
  rw [e] at this
  rw [gt_nat (by simpa using hj)] at this
  exact this
theorem srt_head {h : List api_Timer} {t : api_Timer} {r : List api_Timer} (hf : Fine h) (e : h = t :: r) : srt h = t :: srt r :=
  srt_cons (e ▸ .refl _) (tail_min ((fine_iff h).1 hf).2.2.2 e)
theorem cancel_at {xs r : List api_Timer} {t : api_Timer} (hf : Fine xs) (hp : xs.Perm (t :: r)) : ∃ h', go_heap_Cancel xs t.Id = some (h', 0) ∧ h'.Perm r ∧ Fine h' := by
  have hm : t ∈ xs := hp.mem_iff.2 (by simp)
  obtain ⟨i, hi, rfl⟩ := List.mem_iff_getElem.1 hm
  obtain ⟨h', h1, h2, h3⟩ := cancel_yes hf hi
  exact ⟨h', h1, h2.trans ((era_perm hi).trans hp).cons_inv, h3⟩
theorem reset_at {xs r : List api_Timer} {t : api_Timer} (hf : Fine xs) (hp : xs.Perm (t :: r)) {w : Int} (hw : 0 ≤ w ∧ w ≤ 1125899906842624) : ∃ h', go_heap_Reset xs t.Id w = some (h', 0) ∧ h'.Perm (⟨w, t.Id⟩ :: r) ∧ Fine h' := by
  have hm : t ∈ xs := hp.mem_iff.2 (by simp)
  obtain ⟨i, hi, rfl⟩ := List.mem_iff_getElem.1 hm
  obtain ⟨h', h1, h2, h3⟩ := reset_yes hf hi hw
  exact ⟨h', h1, h2.trans ((((era_perm hi).trans hp).cons_inv).cons _), h3⟩
end Go.Proofs.Ytbcapidhhbkkcaa
