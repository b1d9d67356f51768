/- Helper lemmas for the claim's theorem: an abstract machine over the model, proved sound; no condition beyond each lemma's own. -/
import Derived.Test.YthhpnmfcmgdghaaT3
import Derived.Test.YthhpnmfcmgdghaaAmF
set_option linter.unusedVariables false
set_option linter.unusedSimpArgs false
set_option linter.unnecessarySimpa false
set_option linter.unusedSectionVars false
/- Plain laws on the printed functions. -/
namespace Go.Proofs.Ythhpnmfcmgdghaa
open Go Go.AM
set_option maxRecDepth 100000
set_option maxHeartbeats 1000000
set_option linter.unusedVariables false
set_option linter.unusedSimpArgs false
/-- Those of a kind. -/
def onl (l : List api_Entry) (k : Int) : List api_Entry := l.filter (fun x => x.Kind == k)
theorem ent_beq (x y : api_Entry) : api_Entry.beq x y = true ↔ x = y := by
  obtain ⟨a, b, c⟩ := x; obtain ⟨d, e, f⟩ := y; simp [api_Entry.beq]
theorem onl_len (l : List api_Entry) (k : Int) : (onl l k).length ≤ l.length := List.length_filter_le _ _
theorem onl_onl (l : List api_Entry) (k : Int) : onl (onl l k) k = onl l k := by
  unfold onl; rw [List.filter_filter]; congr 1; funext x; simp
theorem only_eq {l : List api_Entry} {k : Int} (hl : l.length ≤ 1000000) : go_entry_Only l k = some (onl l k) := by
  unfold go_entry_Only
  have key : ∀ (m i : Nat) (o : List api_Entry), i + m = l.length → o.length ≤ i → whileO (go_entry_Only_s1 l k) (o, (i : Int)) = some (o ++ onl (l.drop i) k) := by
    intro m
    induction m with
    | zero =>
      intro i o h ho
      have : i = l.length := by omega
      subst this
      refine whileO_inr ?_
      rw [go_entry_Only_s1, if_neg (by simp), List.drop_length]; simp [onl]
    | succ m ih =>
      intro i o h ho
      have hi : i < l.length := by omega
      rw [List.drop_eq_getElem_cons hi]
      cases hk : (l[i].Kind == k) with
      | true =>
        have : onl (l[i] :: l.drop (i + 1)) k = l[i] :: onl (l.drop (i + 1)) k := by unfold onl; rw [List.filter_cons_of_pos (by simpa using hk)]
        rw [this, whileO_inl (s' := (o ++ [l[i]], ((i + 1 : Nat) : Int))), ih (i + 1) (o ++ [l[i]]) (by omega) (by simp; omega)]
        · simp
        · rw [go_entry_Only_s1, if_pos (by simpa using hi), if_pos (by omega), gt_nat hi, if_pos hk, if_pos (show few _ by unfold few; simp; omega), w64_nat (by omega)]; rfl
      | false =>
        have : onl (l[i] :: l.drop (i + 1)) k = onl (l.drop (i + 1)) k := by unfold onl; rw [List.filter_cons_of_neg (by simpa using hk)]
        rw [this, whileO_inl (s' := (o, ((i + 1 : Nat) : Int))), ih (i + 1) o (by omega) (by omega)]
        rw [go_entry_Only_s1, if_pos (by simpa using hi), if_pos (by omega), gt_nat hi, if_neg (by simp [hk]), w64_nat (by omega)]; rfl
  have := key l.length 0 [] (by omega) (by simp)
  simpa using this
def foldM (v : Int) (l : List Int) : Int := l.foldl (fun v x => if x > v then x else v) v
theorem foldM_ge (win : Int) : ∀ (l : List Int) (v : Int), decide (foldM v l ≥ win) = (decide (v ≥ win) || l.any (fun y => decide (y ≥ win)))
  | [], v => by simp [foldM]
  | x :: r, v => by
    have := foldM_ge win r (if x > v then x else v)
    unfold foldM at this ⊢
    rw [List.foldl_cons, this, List.any_cons, ← Bool.or_assoc]
    congr 1
    rw [Bool.eq_iff_iff]
    split <;> simp <;> omega
theorem max_eq {l : List Int} (h0 : 0 < l.length) (hl : l.length ≤ 1000000) : ∃ v, go_slices_Max_int_int l = some v ∧ ∀ win, decide (v ≥ win) = l.any (fun y => decide (y ≥ win)) := by
  obtain ⟨x, r, rfl⟩ : ∃ x r, l = x :: r := by cases l with | nil => simp at h0 | cons x r => exact ⟨x, r, rfl⟩
  refine ⟨foldM x r, ?_, fun win => ?_⟩
  · unfold go_slices_Max_int_int
    rw [if_neg (by simp; omega), if_pos (by rw [List.length_cons]; omega)]
    have key : ∀ (m i : Nat) (v : Int), i + m = (x :: r).length → whileO (go_slices_Max_int_int_s1 (x :: r)) (v, (i : Int)) = some (foldM v ((x :: r).drop i)) := by
      intro m
      induction m with
      | zero =>
        intro i v h
        have : i = (x :: r).length := by omega
        subst this
        refine whileO_inr ?_
        rw [go_slices_Max_int_int_s1, if_neg (by simp), List.drop_length]; rfl
      | succ m ih =>
        intro i v h
        have hi : i < (x :: r).length := by omega
        rw [List.drop_eq_getElem_cons hi, whileO_inl (s' := ((if (x :: r)[i] > v then (x :: r)[i] else v), ((i + 1 : Nat) : Int))), ih (i + 1) _ (by omega)]
        · rfl
        · rw [go_slices_Max_int_int_s1, if_pos (decide_eq_true (by omega)), if_pos (by omega), gt_nat hi, w64_nat (by omega)]; rfl
    have := key r.length 1 x (by simp; omega)
    simpa [gt_cons0] using this
  · rw [foldM_ge, List.any_cons]
/-- Lateness goes on. -/
def inc (i : Nat) (l : List Int) : List Int := (l.take i).map (· + 1) ++ l.drop i
theorem inc_at {l : List Int} {i : Nat} (h : i < l.length) : inc i l = (l.take i).map (· + 1) ++ l[i] :: l.drop (i + 1) := by
  unfold inc; rw [List.drop_eq_getElem_cons h]
theorem inc_get {l : List Int} {i : Nat} (h : i < l.length) : gt (inc i l) (i : Int) = l[i] := by
  have hl : ((l.take i).map (· + 1)).length = i := by simp; omega
  rw [inc_at h]
  unfold gt
  rw [Int.toNat_natCast, List.getD_eq_getElem?_getD, List.getElem?_append_right (by omega), hl, Nat.sub_self]
  rfl
theorem inc_st {l : List Int} {i : Nat} (h : i < l.length) : st (inc i l) (i : Int) (l[i] + 1) = inc (i + 1) l := by
  have hl : ((l.take i).map (· + 1)).length = i := by simp; omega
  rw [inc_at h]
  unfold st inc
  rw [Int.toNat_natCast, List.set_append_right _ _ (by omega), hl, List.take_succ_eq_append_getElem h, Nat.sub_self, List.map_append, List.append_assoc]
  rfl
theorem inc_len (i : Nat) (l : List Int) : (inc i l).length = l.length := by unfold inc; simp; omega
def lat (late : List Int) (a : Int) : List Int := st (late.map (· + 1)) a 0
theorem lat_len (late : List Int) (a : Int) : (lat late a).length = late.length := by simp [lat, st]
def goodF (W win : Int) : List api_Entry → List Int → Int → Bool
  | [], _, _ => true
  | x :: r, late, n => (decide (0 ≤ x.A) && decide (x.A < W)) && (!(decide (n + 1 ≥ win) && (lat late x.A).any (fun y => decide (y ≥ win))) && goodF W win r (lat late x.A) (n + 1))
theorem goodF_cons {W win : Int} {x : api_Entry} {r : List api_Entry} {late : List Int} {n : Int} : goodF W win (x :: r) late n = true ↔ (0 ≤ x.A ∧ x.A < W) ∧ (decide (n + 1 ≥ win) && (lat late x.A).any (fun y => decide (y ≥ win))) = false ∧ goodF W win r (lat late x.A) (n + 1) = true := by
  rw [goodF]; simp only [Bool.and_eq_true, decide_eq_true_eq, Bool.not_eq_true']
theorem lat_bound {late : List Int} {n a : Int} (hb : ∀ x ∈ late, 0 ≤ x ∧ x ≤ n) (hn : 0 ≤ n) : ∀ x ∈ lat late a, 0 ≤ x ∧ x ≤ n + 1 := by
  intro x hx
  unfold lat st at hx
  rcases List.mem_or_eq_of_mem_set hx with h | h
  · rw [List.mem_map] at h
    obtain ⟨y, hy, rfl⟩ := h
    have := hb y hy; omega
  · omega
theorem inner_eq {W win : Int} {xs : List api_Entry} {late : List Int} {n : Int} {f : Bool} {i : Nat} (hi : i < xs.length) (hx : xs.length ≤ 1000000) (hL : (late.length : Int) = W) (hW : W ≤ 64) (hA : 0 ≤ xs[i].A ∧ xs[i].A < W) (hn : 0 ≤ n ∧ n ≤ 1000000) (hb : ∀ x ∈ late, 0 ≤ x ∧ x ≤ n) :
    whileO (go_entry_Fair_s9 win xs late n f (i : Int)) (late, 0) = nextO (lat late xs[i].A, n + 1, (f && !(decide (n + 1 ≥ win) && (lat late xs[i].A).any (fun y => decide (y ≥ win)))), ((i + 1 : Nat) : Int)) := by
  have h1 := whileO_run (step := go_entry_Fair_s9 win xs late n f (i : Int)) (fun j => (inc j late, (j : Int))) late.length (fun j hj => by
    have hg := hb late[j] (List.getElem_mem hj)
    rw [go_entry_Fair_s9, if_pos (by simpa using hj), if_pos (by rw [inc_len]; omega), if_pos (by rw [inc_len]; omega), inc_get hj, w64_id (n := late[j] + 1) (by omega) (by omega), inc_st hj, w64_nat (by omega)]; rfl)
  have e0 : inc 0 late = late := by simp [inc]
  have e1 : inc late.length late = late.map (· + 1) := by simp [inc]
  simp only [e0, e1] at h1
  have h2 : (late, (0 : Int)) = (late, ((0 : Nat) : Int)) := rfl
  rw [h2, h1]
  refine whileO_inr ?_
  obtain ⟨v, hv, hw⟩ := max_eq (l := lat late xs[i].A) (by rw [lat_len]; omega) (by rw [lat_len]; omega)
  have hv2 : go_slices_Max_int_int (st (late.map (· + 1)) xs[i].A 0) = some v := hv
  rw [go_entry_Fair_s9, if_neg (by simp), gt_nat hi, if_pos (by simp; omega), hv2, w64_id (n := n + 1) (by omega) (by omega)]
  unfold go_entry_Fair_j10
  rw [gt_nat hi, w64_nat (by omega), w64_id (n := n + 1) (by omega) (by omega)]
  by_cases hc : n + 1 ≥ win
  · rw [if_pos (by simpa using hc), Option.bind_some, hw, decide_eq_true hc, Bool.true_and]
    cases (lat late xs[i].A).any (fun y => decide (y ≥ win)) with
    | true => simp [lat]; rfl
    | false => simp [lat]; rfl
  · rw [if_neg (by simpa using hc), decide_eq_false hc]
    simp [lat]; rfl
theorem fair_loop {W win : Int} {xs : List api_Entry} (hx : xs.length ≤ 1000000) (hW : W ≤ 64) : ∀ (m i : Nat) (late : List Int) (f : Bool), i + m = xs.length → (late.length : Int) = W → (∀ x ∈ late, 0 ≤ x ∧ x ≤ (i : Int)) →
    whileO (go_entry_Fair_s7 W win xs) (late, (i : Int), f, (i : Int)) = some (f && goodF W win (xs.drop i) late (i : Int), 0)
  | 0, i, late, f, h, hL, hb => by
    have : i = xs.length := by omega
    subst this
    refine whileO_inr ?_
    rw [go_entry_Fair_s7, if_neg (by simp), List.drop_length]; simp [goodF]
  | m + 1, i, late, f, h, hL, hb => by
    have hi : i < xs.length := by omega
    rw [List.drop_eq_getElem_cons hi, goodF]
    by_cases hA : 0 ≤ xs[i].A ∧ xs[i].A < W
    · have hin := inner_eq (win := win) (f := f) hi hx hL hW hA (n := (i : Int)) (by omega) hb
      have hstep : go_entry_Fair_s7 W win xs (late, (i : Int), f, (i : Int)) = some (.inl (lat late xs[i].A, ((i + 1 : Nat) : Int), (f && !(decide ((i : Int) + 1 ≥ win) && (lat late xs[i].A).any (fun y => decide (y ≥ win)))), ((i + 1 : Nat) : Int))) := by
        rw [go_entry_Fair_s7, if_pos (by simpa using hi), if_pos (by omega), gt_nat hi, if_neg (by simp; omega), hin]; rfl
      rw [whileO_inl hstep, fair_loop hx hW m (i + 1) _ _ (by omega) (by rw [lat_len]; exact hL) (by have := lat_bound (a := xs[i].A) hb (by omega); simpa using this)]
      rw [decide_eq_true hA.1, decide_eq_true hA.2, Bool.and_assoc]
      rfl
    · have hstep : go_entry_Fair_s7 W win xs (late, (i : Int), f, (i : Int)) = inrO (some (false, 0)) := by
        rw [go_entry_Fair_s7, if_pos (by simpa using hi), if_pos (by omega), gt_nat hi, if_pos (by simp; omega)]
      have hz : (decide (0 ≤ xs[i].A) && decide (xs[i].A < W)) = false := by simp; omega
      rw [whileO_inr (k := (false, 0)) hstep, hz]
      simp
def zeros (W : Int) : List Int := List.replicate W.toNat 0
theorem fair_eq {l : List api_Entry} {W win : Int} (hl : l.length ≤ 1000000) (hW : 1 ≤ W ∧ W ≤ 64) (hw : 1 ≤ win) : go_entry_Fair l W win = some (goodF W win (onl l 0) (zeros W) 0, 0) := by
  have := onl_len l 0
  unfold go_entry_Fair go_entry_within
  rw [if_neg (by simp; omega), if_pos (by omega), only_eq hl, Option.bind_some]
  have h := fair_loop (win := win) (xs := onl l 0) (by omega) hW.2 (onl l 0).length 0 (zeros W) true (by omega) (by simp [zeros]; omega) (by intro x hx; have := List.eq_of_mem_replicate hx; simp [this])
  simpa [zeros] using h
theorem good_win {W a b : Int} (h : a ≤ b) : ∀ (l : List api_Entry) (late : List Int) (n : Int), goodF W a l late n = true → goodF W b l late n = true
  | [], _, _, _ => rfl
  | x :: r, late, n, hg => by
    rw [goodF_cons] at hg ⊢
    refine ⟨hg.1, ?_, good_win h r _ _ hg.2.2⟩
    have := hg.2.1
    simp only [Bool.and_eq_false_iff, decide_eq_false_iff_not, List.any_eq_false] at this ⊢
    rcases this with h1 | h1
    · left; omega
    · right; intro y hy; have := h1 y hy; simp at this ⊢; omega
/-- As late at the most. -/
def leL (a b : List Int) : Prop := a.length = b.length ∧ ∀ i : Nat, i < a.length → gt a (i : Int) ≤ gt b (i : Int)
theorem leL_any {a b : List Int} (h : leL a b) {win : Int} (ha : a.any (fun y => decide (y ≥ win)) = true) : b.any (fun y => decide (y ≥ win)) = true := by
  rw [List.any_eq_true] at ha ⊢
  obtain ⟨x, hx, hd⟩ := ha
  obtain ⟨i, hi, rfl⟩ := List.mem_iff_getElem.1 hx
  have h1 := h.2 i hi
  have h2 : i < b.length := by have := h.1; omega
  rw [gt_nat hi, gt_nat h2] at h1
  refine ⟨b[i], List.getElem_mem h2, ?_⟩
  simp at hd ⊢; omega
theorem lat_get {late : List Int} {a : Int} (h0 : 0 ≤ a) {i : Nat} (hi : i < late.length) : gt (lat late a) (i : Int) = if a = (i : Int) then 0 else gt late (i : Int) + 1 := by
  have hi' : i < (lat late a).length := by rw [lat_len]; exact hi
  have e : (lat late a)[i] = if a.toNat = i then 0 else (late.map (· + 1))[i]'(by simpa using hi) := List.getElem_set (by simpa [lat, st] using hi)
  rw [gt_nat hi', gt_nat hi, e]
  by_cases e : a = (i : Int)
  · subst e; simp
  · rw [if_neg (by omega), if_neg e]; simp
theorem leL_lat {a b : List Int} (h : leL a b) {x : Int} (h0 : 0 ≤ x) : leL (lat a x) (lat b x) := by
  refine ⟨by rw [lat_len, lat_len]; exact h.1, fun i hi => ?_⟩
  rw [lat_len] at hi
  have := h.2 i hi
  rw [lat_get h0 hi, lat_get h0 (by have := h.1; omega)]
  split <;> omega
theorem good_le {W win : Int} : ∀ (l : List api_Entry) (a b : List Int) (n m : Int), leL a b → n ≤ m → goodF W win l b m = true → goodF W win l a n = true
  | [], _, _, _, _, _, _, _ => rfl
  | x :: r, a, b, n, m, h, hn, hg => by
    rw [goodF_cons] at hg ⊢
    have h0 : 0 ≤ x.A := hg.1.1
    refine ⟨hg.1, ?_, good_le r _ _ (n + 1) (m + 1) (leL_lat h h0) (by omega) hg.2.2⟩
    have := hg.2.1
    simp only [Bool.and_eq_false_iff, decide_eq_false_iff_not] at this ⊢
    rcases this with h1 | h1
    · left; omega
    · right
      rw [← Bool.not_eq_true] at h1 ⊢
      exact fun hc => h1 (leL_any (leL_lat h h0) hc)
theorem good_take {W win : Int} : ∀ (l r : List api_Entry) (a : List Int) (n : Int), goodF W win (l ++ r) a n = true → goodF W win l a n = true
  | [], _, _, _, _ => rfl
  | x :: l, r, a, n, hg => by
    rw [List.cons_append, goodF_cons] at hg
    rw [goodF_cons]
    exact ⟨hg.1, hg.2.1, good_take l r _ _ hg.2.2⟩
theorem good_drop {W win : Int} : ∀ (l r : List api_Entry) (a : List Int) (n : Int), goodF W win (l ++ r) a n = true → 0 ≤ n → (∀ x ∈ a, 0 ≤ x ∧ x ≤ n) → ∃ b m, b.length = a.length ∧ (∀ x ∈ b, 0 ≤ x ∧ x ≤ m) ∧ 0 ≤ m ∧ goodF W win r b m = true
  | [], _, a, n, hg, hn, hb => ⟨a, n, rfl, hb, hn, hg⟩
  | x :: l, r, a, n, hg, hn, hb => by
    rw [List.cons_append, goodF_cons] at hg
    obtain ⟨b, m, h1, h2, h3, h4⟩ := good_drop l r _ _ hg.2.2 (by omega) (lat_bound hb hn)
    exact ⟨b, m, by rw [h1, lat_len], h2, h3, h4⟩
theorem zeros_le {W : Int} {b : List Int} (h : b.length = (zeros W).length) (hb : ∀ x ∈ b, 0 ≤ x) : leL (zeros W) b := by
  refine ⟨h.symm, fun i hi => ?_⟩
  have h2 : i < b.length := by omega
  rw [gt_nat hi, gt_nat h2]
  have := hb _ (List.getElem_mem h2)
  simpa [zeros] using this
/-- Workers in turn. -/
def rnd (W : Int) : Nat → Int → List api_Entry
  | 0, _ => []
  | m + 1, c => api_Entry.mk 0 c 0 :: rnd W m (if c + 1 = W then 0 else c + 1)
theorem rnd_good {W : Int} (hW : 1 ≤ W) : ∀ (m : Nat) (c n : Int) (late : List Int), 0 ≤ c → c < W → (late.length : Int) = W → (∀ i : Nat, i < late.length → gt late (i : Int) ≤ (if (i : Int) < c then c - 1 - i else W + c - 1 - i)) → goodF W W (rnd W m c) late n = true
  | 0, _, _, _, _, _, _, _ => rfl
  | m + 1, c, n, late, h0, h1, hL, hb => by
    rw [rnd, goodF]
    simp only
    have hz : ∀ i : Nat, i < (lat late c).length → gt (lat late c) (i : Int) ≤ (if (i : Int) < c then c - i else if (i : Int) = c then 0 else W + c - i) := by
      intro i hi
      rw [lat_len] at hi
      rw [lat_get h0 hi]
      have := hb i hi
      by_cases e : c = (i : Int)
      · rw [if_pos e, if_neg (by omega), if_pos e.symm]; omega
      · rw [if_neg e]
        by_cases e2 : (i : Int) < c
        · rw [if_pos e2] at this ⊢; omega
        · rw [if_neg e2] at this ⊢; rw [if_neg (by omega)]; omega
    have hany : (lat late c).any (fun y => decide (y ≥ W)) = false := by
      rw [List.any_eq_false]
      intro y hy
      obtain ⟨i, hi, rfl⟩ := List.mem_iff_getElem.1 hy
      have h2 := hz i hi
      rw [gt_nat hi] at h2
      rw [lat_len] at hi
      simp
      split at h2
      · omega
      · split at h2 <;> omega
    rw [hany, decide_eq_true h0, decide_eq_true h1, Bool.and_false]
    simp only [Bool.and_self, Bool.not_false, Bool.true_and]
    refine rnd_good hW m _ (n + 1) (lat late c) (by split <;> omega) (by split <;> omega) (by rw [lat_len]; exact hL) (fun i hi => ?_)
    have h2 := hz i hi
    rw [lat_len] at hi
    by_cases e : c + 1 = W
    · rw [if_pos e]
      rw [if_neg (by omega)]
      split at h2
      · omega
      · split at h2 <;> omega
    · rw [if_neg e]
      split at h2
      · rw [if_pos (by omega)]; omega
      · split at h2
        · rw [if_pos (by omega)]; omega
        · rw [if_neg (by omega)]; omega
theorem rnd_snoc (W : Int) : ∀ (m : Nat) (c : Int), 0 ≤ c → c < W → rnd W (m + 1) c = rnd W m c ++ [api_Entry.mk 0 (((c + m) % W : Int)) 0]
  | 0, c, h0, h1 => by simp [rnd, Int.emod_eq_of_lt h0 h1]
  | m + 1, c, h0, h1 => by
    rw [rnd, rnd_snoc W m _ (by split <;> omega) (by split <;> omega)]
    rw [rnd, List.cons_append]
    congr 4
    by_cases e : c + 1 = W
    · rw [if_pos e, show c + ((m + 1 : Nat) : Int) = 0 + (m : Int) + W by omega, Int.add_emod_right]
    · rw [if_neg e]; congr 1; omega
theorem rnd_len (W : Int) : ∀ (m : Nat) (c : Int), (rnd W m c).length = m
  | 0, _ => rfl
  | m + 1, c => by rw [rnd, List.length_cons, rnd_len W m]
theorem rnd_onl (W : Int) : ∀ (m : Nat) (c : Int), onl (rnd W m c) 0 = rnd W m c
  | 0, _ => rfl
  | m + 1, c => by
    have := rnd_onl W m (if c + 1 = W then 0 else c + 1)
    unfold onl at this ⊢
    rw [rnd, List.filter_cons_of_pos (by simp), this]
theorem round_eq {W : Int} (hW : 1 ≤ W ∧ W ≤ 64) : go_ravellaw19_EntryFair_j1 W true = some true := by
  unfold go_ravellaw19_EntryFair_j1
  have h1 := whileO_run (step := go_ravellaw19_EntryFair_s3 W true) (fun j => (rnd W j 0, (j : Int))) (3 * W).toNat (fun j hj => by
    rw [go_ravellaw19_EntryFair_s3, w64_id (n := 3 * W) (by omega) (by omega), if_pos (by simp; omega), if_pos (by omega), Int.tmod_eq_emod_of_nonneg (by omega)]
    have := rnd_snoc W j 0 (by omega) (by omega)
    rw [Int.zero_add] at this
    rw [← this, if_pos (show few _ by unfold few; rw [rnd_len]; omega), w64_nat (by omega)]; rfl)
  have h2 : (([] : List api_Entry), (0 : Int)) = (rnd W 0 0, ((0 : Nat) : Int)) := rfl
  rw [h2, h1]
  refine whileO_inr ?_
  have hg := rnd_good (W := W) hW.1 (3 * W).toNat 0 0 (zeros W) (by omega) (by omega) (by simp [zeros]; omega) (fun i hi => by
    have : gt (zeros W) (i : Int) = 0 := by rw [gt_nat hi]; simp [zeros]
    rw [this]
    have : (zeros W).length = W.toNat := by simp [zeros]
    split <;> omega)
  rw [go_ravellaw19_EntryFair_s3, w64_id (n := 3 * W) (by omega) (by omega), if_neg (by simp; omega), fair_eq (by rw [rnd_len]; omega) hW hW.1, rnd_onl, hg]
  rfl
theorem bad_kind {x : api_Entry} (h : go_entry_bad x = false) : 0 ≤ x.Kind ∧ x.Kind ≤ 7 := by
  unfold go_entry_bad go_entry_bad_j2 go_entry_within at h
  by_cases hk : 0 ≤ x.Kind ∧ x.Kind ≤ 7
  · exact hk
  · exfalso
    have hz : (decide (x.Kind ≥ 0) && decide (x.Kind ≤ 7)) = false := by simp; omega
    rw [hz] at h
    revert h
    repeat' split
    all_goals simp
theorem check_eq {l : List api_Entry} (hl : l.length ≤ 65536) : go_entry_Check l = some (if l.any go_entry_bad then 1 else 0) := by
  unfold go_entry_Check go_slices_ContainsFunc_api_Entry_api_Entry_bad28 go_slices_IndexFunc_api_Entry_api_Entry_bad28
  rw [if_neg (by simp; omega), whileO_index (step := go_slices_IndexFunc_api_Entry_api_Entry_bad28_s1 l) go_entry_bad l (by omega) (fun v => rfl)]
  simp only [Option.bind_some]
  rw [idxOf_any]
  split <;> rfl
theorem live_eq : go_ravellaw19_live = some true := by
  unfold go_ravellaw19_live
  rw [fair_eq (by simp) (by omega) (by omega)]
  have hc : go_entry_Check [api_Entry.mk 2 5 0] = some 0 := by rw [check_eq (by simp)]; decide
  have hw : go_entry_Write [api_Entry.mk 2 5 0] = some ([2, 5, 0], 0) := by
    unfold go_entry_Write
    rw [hc, Option.bind_some, if_neg (by simp), if_pos (by decide), whileO_inl (s' := ([2, 5, 0], 1)), whileO_inr (k := ([2, 5, 0], 0))]
    · rw [go_entry_Write_s1, if_neg (by decide)]; rfl
    · rw [go_entry_Write_s1, if_pos (by decide), if_pos (by decide)]
      decide
  rw [hw]
  decide
theorem same_self {l : List api_Entry} (hl : l.length ≤ 1000000) : go_ravelref19_SameList l l = some true := by
  unfold go_ravelref19_SameList
  rw [if_neg (by simp)]
  have key : ∀ (m i : Nat), i + m = l.length → whileO (go_ravelref19_SameList_s1 l l) (i : Int) = some true := by
    intro m
    induction m with
    | zero =>
      intro i h
      have : i = l.length := by omega
      subst this
      refine whileO_inr ?_
      rw [go_ravelref19_SameList_s1, if_neg (by simp)]; rfl
    | succ m ih =>
      intro i h
      have hi : i < l.length := by omega
      rw [whileO_inl (s' := ((i + 1 : Nat) : Int)), ih (i + 1) (by omega)]
      rw [go_ravelref19_SameList_s1, if_pos (by simpa using hi), if_pos (by omega), if_pos (by omega), if_neg (by simp [(ent_beq _ _).2 rfl]), w64_nat (by omega)]; rfl
  exact key l.length 0 (by omega)
theorem entryFair_true {l : List api_Entry} {W win more cut : Int} (hc : i64ok cut) : go_ravellaw19_EntryFair l W win more cut = some true := by
  unfold go_ravellaw19_EntryFair
  rw [live_eq]
  simp only [Option.bind_some]
  rw [if_neg (by simp)]
  split
  · rfl
  · rename_i hg
    simp only [Bool.or_eq_true, decide_eq_true_eq, not_or] at hg
    obtain ⟨⟨⟨⟨⟨⟨g1, g2⟩, g3⟩, g4⟩, g5⟩, g6⟩, g7⟩ := hg
    have hW : 1 ≤ W ∧ W ≤ 64 := by omega
    have hol := onl_len l 0
    rw [fair_eq (by omega) hW (by omega), only_eq (by omega), Option.bind_some]
    simp only [Option.bind_some]
    rw [fair_eq (by omega) hW (by omega), onl_onl]
    simp only [Option.bind_some]
    rw [if_neg (by simp)]
    cases hok : goodF W win (onl l 0) (zeros W) 0 with
    | false => simp [round_eq hW]
    | true =>
      rw [if_pos rfl, w64_id (n := ((onl l 0).length : Int) + 1) (by omega) (by omega), if_pos (by omega), if_pos (by omega)]
      unfold i64ok at hc
      generalize hL : ((onl l 0).length : Int) = L
      have hL2 : 0 ≤ L ∧ L ≤ 200 := by omega
      have ht : -(L + 1) < Int.tmod cut (L + 1) ∧ Int.tmod cut (L + 1) < L + 1 := by
        have h1 := Int.tmod_lt_of_pos cut (b := L + 1) (by omega)
        have h2 := Int.lt_tmod_of_pos cut (b := L + 1) (by omega)
        exact ⟨h2, h1⟩
      rw [w64_id (n := Int.tmod cut (L + 1) + L) (by omega) (by omega), w64_id (n := Int.tmod cut (L + 1) + L + 1) (by omega) (by omega), w64_id (n := win + more) (by omega) (by omega)]
      generalize hcv : Int.tmod (Int.tmod cut (L + 1) + L + 1) (L + 1) = c
      have hcb : 0 ≤ c ∧ c ≤ L := by
        rw [← hcv, Int.tmod_eq_emod_of_nonneg (by omega)]
        have := Int.emod_nonneg (Int.tmod cut (L + 1) + L + 1) (b := L + 1) (by omega)
        have := Int.emod_lt_of_pos (Int.tmod cut (L + 1) + L + 1) (b := L + 1) (by omega)
        omega
      have hs1 : onl (sub (onl l 0) c L) 0 = (onl l 0).drop c.toNat := by
        have : sub (onl l 0) c L = (onl l 0).drop c.toNat := by unfold sub; rw [← hL]; simp [List.take_of_length_le]
        rw [this]
        unfold onl
        rw [List.filter_eq_self]
        intro x hx
        have := List.mem_of_mem_drop hx
        simpa using (List.mem_filter.1 this).2
      have hs2 : onl (sub (onl l 0) 0 c) 0 = (onl l 0).take c.toNat := by
        have : sub (onl l 0) 0 c = (onl l 0).take c.toNat := by unfold sub; simp
        rw [this]
        unfold onl
        rw [List.filter_eq_self]
        intro x hx
        have := List.mem_of_mem_take hx
        simpa using (List.mem_filter.1 this).2
      have hsl1 : (sub (onl l 0) c L).length ≤ 1000000 := by unfold sub; simp; omega
      have hsl2 : (sub (onl l 0) 0 c).length ≤ 1000000 := by unfold sub; simp; omega
      rw [fair_eq (by omega) hW (by omega), good_win (by omega) _ _ _ hok]
      simp only [Option.bind_some]
      rw [if_pos (by omega), fair_eq hsl1 hW (by omega), hs1]
      simp only [Option.bind_some]
      rw [if_pos (by omega), fair_eq hsl2 hW (by omega), hs2]
      simp only [Option.bind_some]
      have hz : ∀ x ∈ zeros W, 0 ≤ x ∧ x ≤ (0 : Int) := by intro x hx; have := List.eq_of_mem_replicate hx; simp [this]
      have hsplit : (onl l 0).take c.toNat ++ (onl l 0).drop c.toNat = onl l 0 := List.take_append_drop _ _
      have hb : goodF W win ((onl l 0).drop c.toNat) (zeros W) 0 = true := by
        obtain ⟨b, m, b1, b2, b3, b4⟩ := good_drop _ _ _ _ (by rw [hsplit]; exact hok) (by omega) hz
        exact good_le _ _ _ _ _ (zeros_le b1 (fun x hx => (b2 x hx).1)) b3 b4
      have hcg : goodF W win ((onl l 0).take c.toNat) (zeros W) 0 = true := good_take _ ((onl l 0).drop c.toNat) _ _ (by rw [hsplit]; exact hok)
      rw [hb, hcg, if_neg (by simp)]
      exact round_eq hW
def upK (l : List api_Entry) (k : Int) : List api_Entry := l.filter (fun x => decide (0 ≤ x.Kind) && decide (x.Kind < k))
theorem upK_len (l : List api_Entry) {k : Int} (hk : 0 ≤ k) : (upK l (k + 1)).length = (upK l k).length + (onl l k).length := by
  induction l with
  | nil => rfl
  | cons x r ih =>
    unfold upK onl at ih ⊢
    rw [List.filter_cons, List.filter_cons, List.filter_cons]
    by_cases h1 : 0 ≤ x.Kind ∧ x.Kind < k
    · rw [if_pos (by simp; omega), if_pos (by simp; omega), if_neg (by simp; omega), List.length_cons, List.length_cons, ih]; omega
    · by_cases h2 : x.Kind = k
      · rw [if_pos (by simp; omega), if_neg (by simp; omega), if_pos (by simp [h2]), List.length_cons, List.length_cons, ih]; omega
      · rw [if_neg (by simp; omega), if_neg (by simp; omega), if_neg (by simp [h2]), ih]
theorem kind_inner {l : List api_Entry} {a k : Int} (hl : l.length ≤ 500) (hk : 0 ≤ k ∧ k ≤ 7) (ha : 0 ≤ a ∧ a ≤ 500) : whileO (go_ravellaw19_EntryOnly_s14 a k (onl l k)) 0 = nextO (a + ((onl l k).length : Int), k + 1) := by
  have hol := onl_len l k
  have h1 := whileO_run (step := go_ravellaw19_EntryOnly_s14 a k (onl l k)) (fun j => (j : Int)) (onl l k).length (fun j hj => by
    have hm : (onl l k)[j] ∈ onl l k := List.getElem_mem hj
    have hkk : (onl l k)[j].Kind = k := by
      have := (List.mem_filter.1 hm).2
      simpa using this
    rw [go_ravellaw19_EntryOnly_s14, if_pos (by simpa using hj), if_pos (by omega), gt_nat hj, if_neg (by simp [hkk]), w64_nat (by omega)]; rfl)
  have h2 : (0 : Int) = ((0 : Nat) : Int) := rfl
  rw [h2, h1]
  refine whileO_inr ?_
  rw [go_ravellaw19_EntryOnly_s14, if_neg (by simp), only_eq (by omega), onl_onl, Option.bind_some, same_self (by omega), Option.bind_some, if_neg (by simp), w64_id (n := k + 1) (by omega) (by omega), w64_id (by omega) (by omega)]
  rfl
theorem entryOnly_true {l : List api_Entry} : go_ravellaw19_EntryOnly l = some true := by
  unfold go_ravellaw19_EntryOnly
  rw [live_eq]
  simp only [Option.bind_some]
  rw [if_neg (by simp)]
  split
  · rfl
  · rename_i hg
    simp only [decide_eq_true_eq] at hg
    have h1 := whileO_run (step := go_ravellaw19_EntryOnly_s12 l true) (fun j => (((upK l (j : Int)).length : Int), (j : Int))) 8 (fun j hj => by
      have hle : (upK l (j : Int)).length ≤ l.length := List.length_filter_le _ _
      rw [go_ravellaw19_EntryOnly_s12, if_pos (by simp; omega), only_eq (by omega), Option.bind_some, kind_inner (by omega) (by omega) (by omega)]
      have hu := upK_len l (k := (j : Int)) (by omega)
      have e : ((j + 1 : Nat) : Int) = (j : Int) + 1 := by omega
      rw [e, hu]; simp [nextO])
    have h2 : ((0 : Int), (0 : Int)) = (((upK l ((0 : Nat) : Int)).length : Int), ((0 : Nat) : Int)) := by
      have : upK l ((0 : Nat) : Int) = [] := by
        unfold upK; rw [List.filter_eq_nil_iff]; intro x _; simp
      rw [this]; rfl
    rw [h2, h1]
    refine whileO_inr ?_
    have hle : (upK l ((8 : Nat) : Int)).length ≤ l.length := List.length_filter_le _ _
    rw [go_ravellaw19_EntryOnly_s12, if_neg (by decide), if_pos (by simp; exact hle), check_eq (by omega), Option.bind_some]
    cases hb : l.any go_entry_bad with
    | true => rfl
    | false =>
      have : upK l ((8 : Nat) : Int) = l := by
        unfold upK
        rw [List.filter_eq_self]
        intro x hx
        rw [List.any_eq_false] at hb
        have := bad_kind (x := x) (by simpa using hb x hx)
        simp; omega
      rw [this]; simp

end Go.Proofs.Ythhpnmfcmgdghaa
