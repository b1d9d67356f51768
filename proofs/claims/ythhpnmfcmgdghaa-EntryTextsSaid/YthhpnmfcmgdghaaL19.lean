/- Helper lemmas for the claim's theorem: an abstract machine over the model, proved sound; no condition beyond each lemma's own. -/
import Derived.Test.YthhpnmfcmgdghaaT4
import Derived.Test.YthhpnmfcmgdghaaAmG
set_option linter.unusedVariables false
set_option linter.unusedSimpArgs false
set_option linter.unnecessarySimpa false
set_option linter.unusedSectionVars false
/- Plain laws on the printed functions. -/
namespace Go.Proofs.Ythhpnmfcmgdghaa
open Go Go.AM
set_option maxRecDepth 100000
set_option maxHeartbeats 1000000
set_option linter.unusedVariables false
set_option linter.unusedSimpArgs false
/-- Those of a kind. -/
def onl (l : List api_Entry) (k : Int) : List api_Entry := l.filter (fun x => x.Kind == k)
theorem ent_beq (x y : api_Entry) : api_Entry.beq x y = true ↔ x = y := by
  obtain ⟨a, b, c⟩ := x; obtain ⟨d, e, f⟩ := y; simp [api_Entry.beq]
theorem onl_len (l : List api_Entry) (k : Int) : (onl l k).length ≤ l.length := List.length_filter_le _ _
theorem only_eq {l : List api_Entry} {k : Int} (hl : l.length ≤ 1000000) : go_entry_Only l k = some (onl l k) := by
  unfold go_entry_Only
  have key : ∀ (m i : Nat) (o : List api_Entry), i + m = l.length → o.length ≤ i → whileO (go_entry_Only_s1 l k) (o, (i : Int)) = some (o ++ onl (l.drop i) k) := by
    intro m
    induction m with
    | zero =>
      intro i o h ho
      have : i = l.length := by omega
      subst this
      refine whileO_inr ?_
      rw [go_entry_Only_s1, if_neg (by simp), List.drop_length]; simp [onl]
    | succ m ih =>
      intro i o h ho
      have hi : i < l.length := by omega
      rw [List.drop_eq_getElem_cons hi]
      cases hk : (l[i].Kind == k) with
      | true =>
        have : onl (l[i] :: l.drop (i + 1)) k = l[i] :: onl (l.drop (i + 1)) k := by unfold onl; rw [List.filter_cons_of_pos (by simpa using hk)]
        rw [this, whileO_inl (s' := (o ++ [l[i]], ((i + 1 : Nat) : Int))), ih (i + 1) (o ++ [l[i]]) (by omega) (by simp; omega)]
        · simp
        · rw [go_entry_Only_s1, if_pos (by simpa using hi), if_pos (by omega), gt_nat hi, if_pos hk, if_pos (show few _ by unfold few; simp; omega), w64_nat (by omega)]; rfl
      | false =>
        have : onl (l[i] :: l.drop (i + 1)) k = onl (l.drop (i + 1)) k := by unfold onl; rw [List.filter_cons_of_neg (by simpa using hk)]
        rw [this, whileO_inl (s' := (o, ((i + 1 : Nat) : Int))), ih (i + 1) o (by omega) (by omega)]
        rw [go_entry_Only_s1, if_pos (by simpa using hi), if_pos (by omega), gt_nat hi, if_neg (by simp [hk]), w64_nat (by omega)]; rfl
  have := key l.length 0 [] (by omega) (by simp)
  simpa using this
def foldM (v : Int) (l : List Int) : Int := l.foldl (fun v x => if x > v then x else v) v
theorem foldM_ge (win : Int) : ∀ (l : List Int) (v : Int), decide (foldM v l ≥ win) = (decide (v ≥ win) || l.any (fun y => decide (y ≥ win)))
  | [], v => by simp [foldM]
  | x :: r, v => by
    have := foldM_ge win r (if x > v then x else v)
    unfold foldM at this ⊢
    rw [List.foldl_cons, this, List.any_cons, ← Bool.or_assoc]
    congr 1
    rw [Bool.eq_iff_iff]
    split <;> simp <;> omega
theorem max_eq {l : List Int} (h0 : 0 < l.length) (hl : l.length ≤ 1000000) : ∃ v, go_slices_Max_int_int l = some v ∧ ∀ win, decide (v ≥ win) = l.any (fun y => decide (y ≥ win)) := by
  obtain ⟨x, r, rfl⟩ : ∃ x r, l = x :: r := by cases l with | nil => simp at h0 | cons x r => exact ⟨x, r, rfl⟩
  refine ⟨foldM x r, ?_, fun win => ?_⟩
  · unfold go_slices_Max_int_int
    rw [if_neg (by simp; omega), if_pos (by rw [List.length_cons]; omega)]
    have key : ∀ (m i : Nat) (v : Int), i + m = (x :: r).length → whileO (go_slices_Max_int_int_s1 (x :: r)) (v, (i : Int)) = some (foldM v ((x :: r).drop i)) := by
      intro m
      induction m with
      | zero =>
        intro i v h
        have : i = (x :: r).length := by omega
        subst this
        refine whileO_inr ?_
        rw [go_slices_Max_int_int_s1, if_neg (by simp), List.drop_length]; rfl
      | succ m ih =>
        intro i v h
        have hi : i < (x :: r).length := by omega
        rw [List.drop_eq_getElem_cons hi, whileO_inl (s' := ((if (x :: r)[i] > v then (x :: r)[i] else v), ((i + 1 : Nat) : Int))), ih (i + 1) _ (by omega)]
        · rfl
        · rw [go_slices_Max_int_int_s1, if_pos (decide_eq_true (by omega)), if_pos (by omega), gt_nat hi, w64_nat (by omega)]; rfl
    have := key r.length 1 x (by simp; omega)
    simpa [gt_cons0] using this
  · rw [foldM_ge, List.any_cons]
/-- Lateness goes on. -/
def inc (i : Nat) (l : List Int) : List Int := (l.take i).map (· + 1) ++ l.drop i
theorem inc_at {l : List Int} {i : Nat} (h : i < l.length) : inc i l = (l.take i).map (· + 1) ++ l[i] :: l.drop (i + 1) := by
  unfold inc; rw [List.drop_eq_getElem_cons h]
theorem inc_get {l : List Int} {i : Nat} (h : i < l.length) : gt (inc i l) (i : Int) = l[i] := by
  have hl : ((l.take i).map (· + 1)).length = i := by simp; omega
  rw [inc_at h]
  unfold gt
  rw [Int.toNat_natCast, List.getD_eq_getElem?_getD, List.getElem?_append_right (by omega), hl, Nat.sub_self]
  rfl
theorem inc_st {l : List Int} {i : Nat} (h : i < l.length) : st (inc i l) (i : Int) (l[i] + 1) = inc (i + 1) l := by
  have hl : ((l.take i).map (· + 1)).length = i := by simp; omega
  rw [inc_at h]
  unfold st inc
  rw [Int.toNat_natCast, List.set_append_right _ _ (by omega), hl, List.take_succ_eq_append_getElem h, Nat.sub_self, List.map_append, List.append_assoc]
  rfl
theorem inc_len (i : Nat) (l : List Int) : (inc i l).length = l.length := by unfold inc; simp; omega
def lat (late : List Int) (a : Int) : List Int := st (late.map (· + 1)) a 0
theorem lat_len (late : List Int) (a : Int) : (lat late a).length = late.length := by simp [lat, st]
def goodF (W win : Int) : List api_Entry → List Int → Int → Bool
  | [], _, _ => true
  | x :: r, late, n => (decide (0 ≤ x.A) && decide (x.A < W)) && (!(decide (n + 1 ≥ win) && (lat late x.A).any (fun y => decide (y ≥ win))) && goodF W win r (lat late x.A) (n + 1))
theorem goodF_cons {W win : Int} {x : api_Entry} {r : List api_Entry} {late : List Int} {n : Int} : goodF W win (x :: r) late n = true ↔ (0 ≤ x.A ∧ x.A < W) ∧ (decide (n + 1 ≥ win) && (lat late x.A).any (fun y => decide (y ≥ win))) = false ∧ goodF W win r (lat late x.A) (n + 1) = true := by
  rw [goodF]; simp only [Bool.and_eq_true, decide_eq_true_eq, Bool.not_eq_true']
theorem lat_bound {late : List Int} {n a : Int} (hb : ∀ x ∈ late, 0 ≤ x ∧ x ≤ n) (hn : 0 ≤ n) : ∀ x ∈ lat late a, 0 ≤ x ∧ x ≤ n + 1 := by
  intro x hx
  unfold lat st at hx
  rcases List.mem_or_eq_of_mem_set hx with h | h
  · rw [List.mem_map] at h
    obtain ⟨y, hy, rfl⟩ := h
    have := hb y hy; omega
  · omega
theorem inner_eq {W win : Int} {xs : List api_Entry} {late : List Int} {n : Int} {f : Bool} {i : Nat} (hi : i < xs.length) (hx : xs.length ≤ 1000000) (hL : (late.length : Int) = W) (hW : W ≤ 64) (hA : 0 ≤ xs[i].A ∧ xs[i].A < W) (hn : 0 ≤ n ∧ n ≤ 1000000) (hb : ∀ x ∈ late, 0 ≤ x ∧ x ≤ n) :
    whileO (go_entry_Fair_s9 win xs late n f (i : Int)) (late, 0) = nextO (lat late xs[i].A, n + 1, (f && !(decide (n + 1 ≥ win) && (lat late xs[i].A).any (fun y => decide (y ≥ win)))), ((i + 1 : Nat) : Int)) := by
  have h1 := whileO_run (step := go_entry_Fair_s9 win xs late n f (i : Int)) (fun j => (inc j late, (j : Int))) late.length (fun j hj => by
    have hg := hb late[j] (List.getElem_mem hj)
    rw [go_entry_Fair_s9, if_pos (by simpa using hj), if_pos (by rw [inc_len]; omega), if_pos (by rw [inc_len]; omega), inc_get hj, w64_id (n := late[j] + 1) (by omega) (by omega), inc_st hj, w64_nat (by omega)]; rfl)
  have e0 : inc 0 late = late := by simp [inc]
  have e1 : inc late.length late = late.map (· + 1) := by simp [inc]
  simp only [e0, e1] at h1
  have h2 : (late, (0 : Int)) = (late, ((0 : Nat) : Int)) := rfl
  rw [h2, h1]
  refine whileO_inr ?_
  obtain ⟨v, hv, hw⟩ := max_eq (l := lat late xs[i].A) (by rw [lat_len]; omega) (by rw [lat_len]; omega)
  have hv2 : go_slices_Max_int_int (st (late.map (· + 1)) xs[i].A 0) = some v := hv
  rw [go_entry_Fair_s9, if_neg (by simp), gt_nat hi, if_pos (by simp; omega), hv2, w64_id (n := n + 1) (by omega) (by omega)]
  unfold go_entry_Fair_j10
  rw [gt_nat hi, w64_nat (by omega), w64_id (n := n + 1) (by omega) (by omega)]
  by_cases hc : n + 1 ≥ win
  · rw [if_pos (by simpa using hc), Option.bind_some, hw, decide_eq_true hc, Bool.true_and]
    cases (lat late xs[i].A).any (fun y => decide (y ≥ win)) with
    | true => simp [lat]; rfl
    | false => simp [lat]; rfl
  · rw [if_neg (by simpa using hc), decide_eq_false hc]
    simp [lat]; rfl
theorem fair_loop {W win : Int} {xs : List api_Entry} (hx : xs.length ≤ 1000000) (hW : W ≤ 64) : ∀ (m i : Nat) (late : List Int) (f : Bool), i + m = xs.length → (late.length : Int) = W → (∀ x ∈ late, 0 ≤ x ∧ x ≤ (i : Int)) →
    whileO (go_entry_Fair_s7 W win xs) (late, (i : Int), f, (i : Int)) = some (f && goodF W win (xs.drop i) late (i : Int), 0)
  | 0, i, late, f, h, hL, hb => by
    have : i = xs.length := by omega
    subst this
    refine whileO_inr ?_
    rw [go_entry_Fair_s7, if_neg (by simp), List.drop_length]; simp [goodF]
  | m + 1, i, late, f, h, hL, hb => by
    have hi : i < xs.length := by omega
    rw [List.drop_eq_getElem_cons hi, goodF]
    by_cases hA : 0 ≤ xs[i].A ∧ xs[i].A < W
    · have hin := inner_eq (win := win) (f := f) hi hx hL hW hA (n := (i : Int)) (by omega) hb
      have hstep : go_entry_Fair_s7 W win xs (late, (i : Int), f, (i : Int)) = some (.inl (lat late xs[i].A, ((i + 1 : Nat) : Int), (f && !(decide ((i : Int) + 1 ≥ win) && (lat late xs[i].A).any (fun y => decide (y ≥ win)))), ((i + 1 : Nat) : Int))) := by
        rw [go_entry_Fair_s7, if_pos (by simpa using hi), if_pos (by omega), gt_nat hi, if_neg (by simp; omega), hin]; rfl
      rw [whileO_inl hstep, fair_loop hx hW m (i + 1) _ _ (by omega) (by rw [lat_len]; exact hL) (by have := lat_bound (a := xs[i].A) hb (by omega); simpa using this)]
      rw [decide_eq_true hA.1, decide_eq_true hA.2, Bool.and_assoc]
      rfl
    · have hstep : go_entry_Fair_s7 W win xs (late, (i : Int), f, (i : Int)) = inrO (some (false, 0)) := by
        rw [go_entry_Fair_s7, if_pos (by simpa using hi), if_pos (by omega), gt_nat hi, if_pos (by simp; omega)]
      have hz : (decide (0 ≤ xs[i].A) && decide (xs[i].A < W)) = false := by simp; omega
      rw [whileO_inr (k := (false, 0)) hstep, hz]
      simp
def zeros (W : Int) : List Int := List.replicate W.toNat 0
theorem fair_eq {l : List api_Entry} {W win : Int} (hl : l.length ≤ 1000000) (hW : 1 ≤ W ∧ W ≤ 64) (hw : 1 ≤ win) : go_entry_Fair l W win = some (goodF W win (onl l 0) (zeros W) 0, 0) := by
  have := onl_len l 0
  unfold go_entry_Fair go_entry_within
  rw [if_neg (by simp; omega), if_pos (by omega), only_eq hl, Option.bind_some]
  have h := fair_loop (win := win) (xs := onl l 0) (by omega) hW.2 (onl l 0).length 0 (zeros W) true (by omega) (by simp [zeros]; omega) (by intro x hx; have := List.eq_of_mem_replicate hx; simp [this])
  simpa [zeros] using h
theorem lat_get {late : List Int} {a : Int} (h0 : 0 ≤ a) {i : Nat} (hi : i < late.length) : gt (lat late a) (i : Int) = if a = (i : Int) then 0 else gt late (i : Int) + 1 := by
  have hi' : i < (lat late a).length := by rw [lat_len]; exact hi
  have e : (lat late a)[i] = if a.toNat = i then 0 else (late.map (· + 1))[i]'(by simpa using hi) := List.getElem_set (by simpa [lat, st] using hi)
  rw [gt_nat hi', gt_nat hi, e]
  by_cases e : a = (i : Int)
  · subst e; simp
  · rw [if_neg (by omega), if_neg e]; simp
theorem check_eq {l : List api_Entry} (hl : l.length ≤ 65536) : go_entry_Check l = some (if l.any go_entry_bad then 1 else 0) := by
  unfold go_entry_Check go_slices_ContainsFunc_api_Entry_api_Entry_bad28 go_slices_IndexFunc_api_Entry_api_Entry_bad28
  rw [if_neg (by simp; omega), whileO_index (step := go_slices_IndexFunc_api_Entry_api_Entry_bad28_s1 l) go_entry_bad l (by omega) (fun v => rfl)]
  simp only [Option.bind_some]
  rw [idxOf_any]
  split <;> rfl
theorem live_eq : go_ravellaw19_live = some true := by
  unfold go_ravellaw19_live
  rw [fair_eq (by simp) (by omega) (by omega)]
  have hc : go_entry_Check [api_Entry.mk 2 5 0] = some 0 := by rw [check_eq (by simp)]; decide
  have hw : go_entry_Write [api_Entry.mk 2 5 0] = some ([2, 5, 0], 0) := by
    unfold go_entry_Write
    rw [hc, Option.bind_some, if_neg (by simp), if_pos (by decide), whileO_inl (s' := ([2, 5, 0], 1)), whileO_inr (k := ([2, 5, 0], 0))]
    · rw [go_entry_Write_s1, if_neg (by decide)]; rfl
    · rw [go_entry_Write_s1, if_pos (by decide), if_pos (by decide)]
      decide
  rw [hw]
  decide
theorem same_self {l : List api_Entry} (hl : l.length ≤ 1000000) : go_ravelref19_SameList l l = some true := by
  unfold go_ravelref19_SameList
  rw [if_neg (by simp)]
  have key : ∀ (m i : Nat), i + m = l.length → whileO (go_ravelref19_SameList_s1 l l) (i : Int) = some true := by
    intro m
    induction m with
    | zero =>
      intro i h
      have : i = l.length := by omega
      subst this
      refine whileO_inr ?_
      rw [go_ravelref19_SameList_s1, if_neg (by simp)]; rfl
    | succ m ih =>
      intro i h
      have hi : i < l.length := by omega
      rw [whileO_inl (s' := ((i + 1 : Nat) : Int)), ih (i + 1) (by omega)]
      rw [go_ravelref19_SameList_s1, if_pos (by simpa using hi), if_pos (by omega), if_pos (by omega), if_neg (by simp [(ent_beq _ _).2 rfl]), w64_nat (by omega)]; rfl
  exact key l.length 0 (by omega)
end Go.Proofs.Ythhpnmfcmgdghaa
