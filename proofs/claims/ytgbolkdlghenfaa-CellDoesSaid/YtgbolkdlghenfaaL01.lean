/- Helper lemmas for the claim's theorem: an abstract machine over the model, proved sound; no condition beyond each lemma's own. -/
import Derived.Test.YtgbolkdlghenfaaT1
import Derived.Test.YtgbolkdlghenfaaAmF
set_option linter.unusedVariables false
set_option linter.unusedSimpArgs false
set_option linter.unnecessarySimpa false
set_option linter.unusedSectionVars false
/- Plain laws on the printed functions. -/
namespace Go.Proofs.Ytgbolkdlghenfaa
open Go Go.AM
set_option maxRecDepth 100000
set_option maxHeartbeats 1000000
set_option linter.unusedVariables false
set_option linter.unusedSimpArgs false
theorem w64_hi {n : Int} (h0 : 9223372036854775808 ≤ n) (h1 : n ≤ 18446744073709551615) : IntKind.i64.wrap n = n - 18446744073709551616 := by unfold IntKind.wrap; simp [IntKind.signed, IntKind.bits]; omega
theorem w64_lo {n : Int} (h0 : -18446744073709551616 ≤ n) (h1 : n ≤ -9223372036854775809) : IntKind.i64.wrap n = n + 18446744073709551616 := by unfold IntKind.wrap; simp [IntKind.signed, IntKind.bits]; omega
/-- A place. -/
def okB (m : List Int) (i : Int) : Bool := decide (m.length ≤ 65536) && (decide (0 ≤ i) && decide (i < m.length))
def over (a b : Int) : Bool := decide (a + b > 9223372036854775807) || decide (a + b < -9223372036854775808)
theorem okB_iff {m : List Int} {i : Int} : okB m i = true ↔ m.length ≤ 65536 ∧ 0 ≤ i ∧ i < m.length := by simp [okB]
theorem okB_not {m : List Int} {i : Int} : okB m i = false ↔ ¬ (m.length ≤ 65536 ∧ 0 ≤ i ∧ i < m.length) := by rw [← okB_iff]; simp
theorem bad_eq {m : List Int} {i : Int} : ((((go_cell_Check m) != 0) || (decide (i < 0))) || (decide (i ≥ (m.length : Int)))) = !okB m i := by
  unfold go_cell_Check
  rw [Bool.eq_iff_iff]
  simp only [Bool.not_eq_true', okB_not]
  by_cases h : m.length ≤ 65536
  · rw [if_neg (by simp; omega)]; simp; omega
  · rw [if_pos (by simp; omega)]; simp; omega
theorem load_eq (m : List Int) (i : Int) : go_cell_Load m i = some (if okB m i then (gt m i, 0) else (0, 1)) := by
  unfold go_cell_Load
  rw [bad_eq]
  cases h : okB m i with
  | false => rfl
  | true => rw [if_neg (by simp), if_pos (okB_iff.1 h).2]; rfl
theorem clone_eq {m : List Int} (h : m.length ≤ 65536) : go_slices_Clone_api_Mem_int64 m = some m := by
  unfold go_slices_Clone_api_Mem_int64; rw [if_pos (show few m.length by unfold few; omega)]
theorem store_eq (m : List Int) (i x : Int) : go_cell_Store m i x = some (if okB m i then (st m i x, 0) else ([], 1)) := by
  unfold go_cell_Store
  rw [bad_eq]
  cases h : okB m i with
  | false => rfl
  | true => rw [if_neg (by simp), if_pos (okB_iff.1 h).2, clone_eq (okB_iff.1 h).1, Option.bind_some, if_pos (okB_iff.1 h).2]; rfl
theorem cas_eq (m : List Int) (i old x : Int) : go_cell_Cas m i old x = some (if okB m i then (if gt m i = old then (st m i x, true, 0) else (m, false, 0)) else ([], false, 1)) := by
  unfold go_cell_Cas go_cell_Cas_j1
  rw [bad_eq]
  cases h : okB m i with
  | false => rfl
  | true =>
    rw [if_neg (by simp), if_pos (okB_iff.1 h).2, clone_eq (okB_iff.1 h).1, Option.bind_some, if_pos (okB_iff.1 h).2]
    by_cases h1 : gt m i = old
    · simp [h1]
    · simp [h1]
theorem gt_st {m : List Int} {i x : Int} (h0 : 0 ≤ i) (h : i < m.length) : gt (st m i x) i = x := by
  simp [gt, st, List.getD, List.getElem?_set, show i.toNat < m.length by omega]
theorem gt_st_ne {m : List Int} {i j x : Int} (h0 : 0 ≤ i) (h1 : 0 ≤ j) (h : i ≠ j) : gt (st m i x) j = gt m j := by
  have : i.toNat ≠ j.toNat := by omega
  simp [gt, st, List.getD, List.getElem?_set, this]
theorem st_len (m : List Int) (i x : Int) : (st m i x).length = m.length := by simp [st]
theorem okB_st (m : List Int) (i j x : Int) : okB (st m i x) j = okB m j := by unfold okB; rw [st_len]
theorem st_gt {m : List Int} {i : Int} (h0 : 0 ≤ i) (h : i < m.length) : st m i (gt m i) = m := by
  have h1 : i.toNat < m.length := by omega
  simp [gt, st, List.getD, h1]
theorem st_st (m : List Int) (i x y : Int) : st (st m i x) i y = st m i y := by simp [st]
theorem st_comm {m : List Int} {i j x y : Int} (h0 : 0 ≤ i) (h1 : 0 ≤ j) (h : i ≠ j) : st (st m i x) j y = st (st m j y) i x := by
  unfold st; exact List.set_comm x y (by omega)
theorem gt_ok {m : List Int} (hm : ∀ x ∈ m, i64ok x) (i : Int) : i64ok (gt m i) := by
  unfold gt List.getD
  cases h : m[i.toNat]? with
  | none => simp [i64ok]
  | some x => exact hm x (List.mem_of_getElem? h)
theorem add_eq {m : List Int} {i by' : Int} (hm : ∀ x ∈ m, i64ok x) (hb : i64ok by') : go_cell_Add m i by' = some (if okB m i then (if over (gt m i) by' then ([], 0, 4) else (st m i (gt m i + by'), gt m i, 0)) else ([], 0, 1)) := by
  unfold go_cell_Add
  rw [bad_eq]
  cases h : okB m i with
  | false => rfl
  | true =>
    have h2 := (okB_iff.1 h).2
    have hg := gt_ok hm i
    unfold i64ok at hg hb
    rw [if_neg (by simp), if_pos h2, clone_eq (okB_iff.1 h).1, Option.bind_some, if_pos h2, gt_st h2.1 h2.2]
    unfold over
    rcases Int.lt_or_le (9223372036854775807) (gt m i + by') with h3 | h3
    · rw [w64_hi (by omega) (by omega)]
      have h4 : decide (gt m i + by' - 18446744073709551616 < gt m i) = true := by simp; omega
      have h5 : decide (by' < 0) = false := by simp; omega
      have h6 : decide (gt m i + by' > 9223372036854775807) = true := by simp; omega
      rw [h4, h5, h6]; rfl
    · rcases Int.lt_or_le (gt m i + by') (-9223372036854775808) with h7 | h7
      · rw [w64_lo (by omega) (by omega)]
        have h4 : decide (gt m i + by' + 18446744073709551616 < gt m i) = false := by simp; omega
        have h5 : decide (by' < 0) = true := by simp; omega
        have h6 : decide (gt m i + by' < -9223372036854775808) = true := by simp; omega
        rw [h4, h5, h6, Bool.or_true]; rfl
      · rw [w64_id (by omega) (by omega)]
        have h4 : decide (gt m i + by' < gt m i) = decide (by' < 0) := by rw [decide_eq_decide]; omega
        have h5 : decide (gt m i + by' > 9223372036854775807) = false := by simp; omega
        have h6 : decide (gt m i + by' < -9223372036854775808) = false := by simp; omega
        rw [h4, h5, h6]
        simp
theorem with_eq {m : List Int} {i x : Int} (h : okB m i = true) : go_ravelref01_With m i x = some (st m i x) := by
  obtain ⟨h1, h2⟩ := okB_iff.1 h
  unfold go_ravelref01_With
  rw [List.nil_append, if_pos (show few m.length by unfold few; omega), if_pos h2]
theorem place_eq (m : List Int) (i : Int) : go_ravelref01_place m i = okB m i := by
  unfold go_ravelref01_place go_ravelref01_Check
  rw [Bool.eq_iff_iff, okB_iff]
  by_cases h : m.length ≤ 65536
  · rw [if_neg (by simp; omega)]; simp; omega
  · rw [if_pos (by simp; omega)]; simp; omega
theorem sum_eq {a b : Int} (ha : i64ok a) (hb : i64ok b) : go_ravelref01_Sum a b = if over a b then (0, false) else (a + b, true) := by
  unfold go_ravelref01_Sum over
  unfold i64ok at ha hb
  rcases Int.lt_or_le (9223372036854775807) (a + b) with h3 | h3
  · rw [w64_hi (by omega) (by omega)]
    have h6 : decide (a + b > 9223372036854775807) = true := by simp; omega
    rw [h6, if_pos (by simp; omega)]; rfl
  · rcases Int.lt_or_le (a + b) (-9223372036854775808) with h7 | h7
    · rw [w64_lo (by omega) (by omega)]
      have h6 : decide (a + b < -9223372036854775808) = true := by simp; omega
      rw [h6, if_pos (by simp; omega), Bool.or_true]; rfl
    · rw [w64_id (by omega) (by omega)]
      have h5 : decide (a + b > 9223372036854775807) = false := by simp; omega
      have h6 : decide (a + b < -9223372036854775808) = false := by simp; omega
      rw [h5, h6, if_neg (by simp; omega)]; rfl
/-- What an access comes to. -/
def doV (m : List Int) (o : api_Mic) : List Int × Int × Int :=
  if okB m o.At && (decide (0 ≤ o.Kind) && decide (o.Kind ≤ 3)) then
    if o.Kind = 0 then (m, gt m o.At, 0)
    else if o.Kind = 1 then (st m o.At o.A, 0, 0)
    else if o.Kind = 2 then (if gt m o.At = o.A then (st m o.At o.B, 1, 0) else (m, 0, 0))
    else if over (gt m o.At) o.A then ([], 0, 4) else (st m o.At (gt m o.At + o.A), gt m o.At, 0)
  else ([], 0, 1)
theorem rdo_eq {m : List Int} {o : api_Mic} (hm : ∀ x ∈ m, i64ok x) (ha : i64ok o.A) : go_ravelref01_Do m o = some (doV m o) := by
  unfold go_ravelref01_Do doV
  rw [place_eq]
  cases h : okB m o.At with
  | false => rfl
  | true =>
    have h2 := (okB_iff.1 h).2
    by_cases hk : 0 ≤ o.Kind ∧ o.Kind ≤ 3
    · rw [if_neg (show ¬ (((!true) || decide (o.Kind < 0)) || decide (o.Kind > 3)) = true by simp; omega), if_pos h2, if_pos (show (true && (decide (0 ≤ o.Kind) && decide (o.Kind ≤ 3))) = true by simp; omega)]
      by_cases k0 : o.Kind = 0
      · rw [if_pos (by simp [k0]), if_pos k0, with_eq h, st_gt h2.1 h2.2]; rfl
      · rw [if_neg (by simp [k0]), if_neg k0]
        by_cases k1 : o.Kind = 1
        · rw [if_pos (by simp [k1]), if_pos k1, with_eq h]; rfl
        · rw [if_neg (by simp [k1]), if_neg k1]
          by_cases k2 : o.Kind = 2
          · rw [if_pos (by simp [k2]), if_pos k2]
            by_cases e : gt m o.At = o.A
            · rw [if_neg (by simp [e]), if_pos e, with_eq h]; rfl
            · rw [if_pos (by simp [e]), if_neg e, with_eq h, st_gt h2.1 h2.2]; rfl
          · rw [if_neg (by simp [k2]), if_neg k2]
            unfold letO
            rw [sum_eq (gt_ok hm _) ha]
            cases over (gt m o.At) o.A with
            | true => rfl
            | false => simp [with_eq h]
    · rw [if_pos (show (((!true) || decide (o.Kind < 0)) || decide (o.Kind > 3)) = true by simp; omega), if_neg (show ¬ (true && (decide (0 ≤ o.Kind) && decide (o.Kind ≤ 3))) = true by simp; omega)]
theorem do_eq {m : List Int} {o : api_Mic} (hm : ∀ x ∈ m, i64ok x) (ha : i64ok o.A) : go_cell_Do m o = some (doV m o) := by
  unfold go_cell_Do go_cell_Do_j1 doV
  rw [load_eq, store_eq, cas_eq, add_eq hm ha]
  simp only [Option.bind_some]
  by_cases k0 : o.Kind = 0
  · rw [if_pos (by simp [k0])]
    cases h : okB m o.At with
    | false => simp
    | true => simp [k0, clone_eq (okB_iff.1 h).1]
  · rw [if_neg (by simp [k0])]
    by_cases k1 : o.Kind = 1
    · rw [if_pos (by simp [k1])]
      cases h : okB m o.At <;> simp [k1]
    · rw [if_neg (by simp [k1])]
      by_cases k2 : o.Kind = 2
      · rw [if_pos (by simp [k2])]
        cases h : okB m o.At with
        | false => simp
        | true => by_cases e : gt m o.At = o.A <;> simp [k2, e]
      · rw [if_neg (by simp [k2])]
        by_cases k3 : o.Kind = 3
        · rw [if_pos (by simp [k3])]
          cases h : okB m o.At with
          | false => simp
          | true => cases over (gt m o.At) o.A <;> simp [k3]
        · rw [if_neg (by simp [k3]), if_neg (by simp; omega)]
theorem loop_same {step : Int → Option (Int ⊕ Bool)} (a b : List Int) (hl : a.length ≤ 9223372036854775807) (hlen : a.length = b.length)
    (hs : ∀ v : Int, step v = if (decide (v < (a.length : Int))) = true then (if 0 ≤ v ∧ v < (a.length : Int) then (if 0 ≤ v ∧ v < (b.length : Int) then (if ((gt a v) != (gt b v)) = true then inrO (some false) else nextO (IntKind.i64.wrap (v + 1))) else none) else none) else inrO (some true)) :
    whileO step 0 = some (decide (a = b)) := by
  have key : ∀ (m i : Nat), i + m = a.length → a.take i = b.take i → whileO step (i : Int) = some (decide (a = b)) := by
    intro m
    induction m with
    | zero =>
      intro i h ht
      have : i = a.length := by omega
      subst this
      rw [List.take_length, hlen, List.take_length] at ht
      refine whileO_inr ?_
      rw [hs, if_neg (by simp), decide_eq_true ht]; rfl
    | succ m ih =>
      intro i h ht
      have hi : i < a.length := by omega
      have hi2 : i < b.length := by omega
      have h1 := hs (i : Int)
      rw [if_pos (by simpa using hi), if_pos (by omega), if_pos (by omega), gt_nat hi, gt_nat hi2] at h1
      by_cases e : a[i] = b[i]
      · rw [if_neg (by simp [e]), w64_nat (by omega)] at h1
        rw [whileO_inl h1]
        exact ih (i + 1) (by omega) (by rw [List.take_succ_eq_append_getElem hi, List.take_succ_eq_append_getElem hi2, ht, e])
      · rw [if_pos (by simp [e])] at h1
        have : a ≠ b := by intro h; subst h; exact e rfl
        rw [whileO_inr (k := false) h1, decide_eq_false this]
  exact key a.length 0 (by omega) (by simp)
theorem same_eq {a b : List Int} (hl : a.length ≤ 9223372036854775807) : go_ravelref01_Same a b = some (decide (a = b)) := by
  unfold go_ravelref01_Same
  by_cases h : a.length = b.length
  · rw [if_neg (by simp [h])]
    exact loop_same a b hl h (fun v => rfl)
  · rw [if_pos (by simp; omega), decide_eq_false (by intro e; exact h (by rw [e]))]
theorem csame_eq {a b : List Int} (hl : a.length ≤ 9223372036854775807) : go_cell_Same a b = some (decide (a = b)) := by
  unfold go_cell_Same go_slices_Equal_api_Mem_int64
  by_cases h : a.length = b.length
  · rw [if_neg (by simp [h]), loop_same (step := go_slices_Equal_api_Mem_int64_s1 a b) a b hl h (fun v => rfl)]; rfl
  · rw [if_pos (by simp; omega), decide_eq_false (by intro e; exact h (by rw [e]))]; rfl
theorem live_eq : go_ravellaw01_live = some true := by
  unfold go_ravellaw01_live
  have h1 : go_cell_New 2 = some ([0, 0], 0) := by decide
  have h2 : go_cell_Add [0, 0] 0 5 = some ([5, 0], 0, 0) := by decide
  have h3 : go_cell_Add [5, 0] 0 5 = some ([10, 0], 5, 0) := by decide
  rw [h1, Option.bind_some]
  simp only
  rw [h2, Option.bind_some]
  simp only
  rw [h3, Option.bind_some]
  decide
theorem doV_len (m : List Int) (o : api_Mic) : (doV m o).1.length ≤ m.length := by
  unfold doV
  repeat' split
  all_goals simp [st_len]
theorem cellEach_true {m : List Int} {i a b : Int} (hm : ∀ x ∈ m, i64ok x) (hl : m.length ≤ 9223372036854775807) (ha : i64ok a) : go_ravellaw01_CellEach m i a b = some true := by
  unfold go_ravellaw01_CellEach
  rw [live_eq]
  simp only [Option.bind_some]
  rw [if_neg (by simp)]
  split
  · rfl
  · rename_i hg
    simp only [decide_eq_true_eq] at hg
    have hz : i64ok 0 := by simp [i64ok]
    rw [List.nil_append, if_pos (show few m.length by unfold few; omega), load_eq, rdo_eq hm hz, store_eq, rdo_eq hm ha, cas_eq, rdo_eq hm ha, add_eq hm ha, rdo_eq hm ha]
    unfold doV
    simp only [Option.bind_some]
    unfold go_ravellaw01_CellEach_j1
    rw [same_eq (a := m) (by omega)]
    cases h : okB m i with
    | false => simp [same_eq (a := []) (b := []) (by simp)]
    | true =>
      have hs : ∀ x, go_ravelref01_Same (st m i x) (st m i x) = some true := fun x => by rw [same_eq (by rw [st_len]; omega)]; simp
      have hs2 : go_ravelref01_Same m m = some true := by rw [same_eq (by omega)]; simp
      have hs3 : go_ravelref01_Same [] [] = some true := by rw [same_eq (by simp)]; simp
      by_cases e : gt m i = a
      · cases over (gt m i) a <;> simp [hs, hs2, hs3, e]
      · cases over (gt m i) a <;> simp [hs, hs2, hs3, e]
theorem cellBack_true {m : List Int} {i j a b : Int} (hl : m.length ≤ 9223372036854775807) : go_ravellaw01_CellBack m i j a b = some true := by
  unfold go_ravellaw01_CellBack
  rw [live_eq]
  simp only [Option.bind_some]
  rw [if_neg (by simp)]
  split
  · rfl
  · rename_i hg
    simp only [decide_eq_true_eq] at hg
    rw [load_eq, store_eq]
    simp only [Option.bind_some]
    cases h : okB m i with
    | false =>
      have := okB_not.1 h
      simp; omega
    | true =>
      obtain ⟨h1, h2⟩ := okB_iff.1 h
      simp only [if_true]
      rw [if_neg (by simp), load_eq, store_eq, okB_st, h]
      simp only [Option.bind_some, if_true]
      rw [gt_st h2.1 h2.2, if_neg (by simp), st_st, st_gt h2.1 h2.2, csame_eq (by omega), Option.bind_some, if_neg (by simp), store_eq, store_eq, okB_st]
      simp only [Option.bind_some]
      cases hj : okB m j with
      | false => simp
      | true =>
        obtain ⟨j1, j2⟩ := okB_iff.1 hj
        simp only [if_true]
        rw [if_neg (by simp), store_eq, okB_st, h]
        simp only [Option.bind_some, if_true]
        rw [if_pos (by simp)]
        by_cases e : i = j
        · rw [if_pos (by simp [e])]
        · rw [if_neg (by simp [e]), csame_eq (by rw [st_len, st_len]; omega), st_comm h2.1 j2.1 e]; simp

end Go.Proofs.Ytgbolkdlghenfaa
