/- Helper lemmas for the claim's theorem: an abstract machine over the model, proved sound; no condition beyond each lemma's own. -/
import Derived.Test.YthhpnmfcmgdghaaL19
import Derived.Test.YthhpnmfcmgdghaaAmG
set_option linter.unusedVariables false
set_option linter.unusedSimpArgs false
set_option linter.unnecessarySimpa false
set_option linter.unusedSectionVars false
/- Plain laws on the printed functions. -/
namespace Go.Proofs.Ythhpnmfcmgdghaa
open Go Go.AM
set_option maxRecDepth 100000
set_option maxHeartbeats 1000000
set_option linter.unusedVariables false
set_option linter.unusedSimpArgs false
/- ---- entries as bytes -/
def enc8 (x : api_Entry) : List Int := [IntKind.u8.wrap x.Kind, IntKind.u8.wrap x.A, IntKind.u8.wrap x.B]
def enc (x : api_Entry) : List Int := [x.Kind, x.A, x.B]
def dec : List Int → List api_Entry
  | a :: b :: c :: r => ⟨a, b, c⟩ :: dec r
  | _ => []
theorem may_bad (x : api_Entry) : go_ravelref19_may x = !go_entry_bad x := by
  unfold go_ravelref19_may go_entry_bad go_entry_bad_j3 go_entry_bad_j2 go_entry_within go_ravelref19_in
  rw [Bool.eq_iff_iff]
  repeat' split
  all_goals (simp at *; try omega)
theorem dec_len : ∀ (n : Nat) {b : List Int}, b.length = 3 * n → (dec b).length = n
  | 0, b, h => by rw [List.eq_nil_of_length_eq_zero (by omega : b.length = 0)]; rfl
  | n + 1, b, h => by
    match b, h with
    | x :: y :: z :: r, h => rw [dec, List.length_cons, dec_len n (by simp at h; omega)]
def chkE (l : List api_Entry) : Int := if l.length > 65536 then 3 else if l.any go_entry_bad then 1 else 0
theorem checkE {l : List api_Entry} : go_entry_Check l = some (chkE l) := by
  unfold chkE
  by_cases h : l.length > 65536
  · rw [if_pos h]; unfold go_entry_Check; rw [if_pos (by simp; omega)]
  · rw [if_neg h, check_eq (by omega)]
theorem rcheckE {l : List api_Entry} : go_ravelref19_Check l = some (chkE l) := by
  unfold chkE
  by_cases h : l.length > 65536
  · rw [if_pos h]; unfold go_ravelref19_Check; rw [if_pos (by simp; omega)]
  · rw [if_neg h]; unfold go_ravelref19_Check; rw [if_neg (by simp; omega)]
    rw [whileO_seek go_entry_bad l (fun _ => some 1) (some 0) (by omega)]
    · rw [seek_any]; split <;> simp_all
    · intro i hi
      rw [go_ravelref19_Check_s1, if_pos (by simpa using hi), if_pos (by omega)]
      rw [may_bad, Bool.not_not]
    · rw [go_ravelref19_Check_s1, if_neg (by simp)]
theorem wr_loop {l : List api_Entry} (hl : l.length ≤ 65536) {step : (List Int) × Int → Option (((List Int) × Int) ⊕ ((List Int) × Int))}
    (hs : ∀ v, step v = if (decide (v.2 < (l.length : Int))) = true then (if 0 ≤ v.2 ∧ v.2 < (l.length : Int) then (if few (v.1 ++ [IntKind.u8.wrap ((gt l v.2).Kind), IntKind.u8.wrap ((gt l v.2).A), IntKind.u8.wrap ((gt l v.2).B)]).length then
          nextO (v.1 ++ [IntKind.u8.wrap ((gt l v.2).Kind), IntKind.u8.wrap ((gt l v.2).A), IntKind.u8.wrap ((gt l v.2).B)], IntKind.i64.wrap (v.2 + 1)) else none) else none) else inrO (some (v.1, 0))) :
    whileO step ([], 0) = some (l.flatMap enc8, 0) := by
  have := whileO_list (step := step) l (fun i (o : List Int) => (o, (i : Int))) (fun r o => some (o ++ r.flatMap enc8, 0)) (fun i o => o.length = 3 * i) [] rfl ?_ ?_
  · simpa using this
  · intro o _
    rw [hs, if_neg (by simp)]; simp
  · intro i o hi hI
    left
    refine ⟨o ++ enc8 l[i], ?_, by simp [enc8]; omega, by simp only [List.flatMap_cons, List.append_assoc]⟩
    rw [hs, if_pos (by simpa using hi), if_pos (pos_int hi), gt_nat hi, if_pos (by unfold few; simp; omega), w64_nat (by omega)]
    rfl
theorem write_eq {l : List api_Entry} : go_entry_Write l = some (if chkE l = 0 then (l.flatMap enc8, 0) else ([], chkE l)) := by
  unfold go_entry_Write
  rw [checkE, Option.bind_some]
  by_cases h : chkE l = 0
  · have hl : l.length ≤ 65536 := by unfold chkE at h; split at h <;> omega
    rw [if_neg (by simp [h]), if_pos h, w64_id (by omega) (by omega), if_pos (by omega)]
    exact wr_loop hl (fun v => rfl)
  · rw [if_pos (by simpa using h), if_neg h]
theorem rwrite_eq {l : List api_Entry} : go_ravelref19_Write l = some (if chkE l = 0 then (l.flatMap enc8, 0) else ([], chkE l)) := by
  unfold go_ravelref19_Write
  rw [rcheckE, Option.bind_some]
  by_cases h : chkE l = 0
  · have hl : l.length ≤ 65536 := by unfold chkE at h; split at h <;> omega
    rw [if_neg (by simp [h]), if_pos h]
    exact wr_loop hl (fun v => rfl)
  · rw [if_pos (by simpa using h), if_neg h]
/-- What some octets are. -/
def rd (b : List Int) : List api_Entry × Int :=
  if b.length > 196608 then ([], 3) else if b.length % 3 ≠ 0 then ([], 2) else if (dec b).any go_entry_bad then ([], 2) else (dec b, 0)
theorem drop3 {b : List Int} {i : Nat} (h : i + 3 ≤ b.length) : b.drop i = b[i] :: b[i + 1] :: b[i + 2] :: b.drop (i + 3) := by
  rw [List.drop_eq_getElem_cons (by omega), List.drop_eq_getElem_cons (by omega), List.drop_eq_getElem_cons (by omega)]
theorem sub3 {b : List Int} {i : Nat} (h : i + 3 ≤ b.length) : sub b (i : Int) ((i + 3 : Nat) : Int) = [b[i], b[i + 1], b[i + 2]] := by
  unfold sub
  rw [Int.toNat_natCast, Int.toNat_natCast, show i + 3 - i = 3 by omega, drop3 h]; rfl
theorem read_loop {b : List Int} (hb : ∀ x ∈ b, u8ok x) (hl : b.length ≤ 196608) (hm : b.length % 3 = 0) :
    ∀ (m k : Nat) (o : List api_Entry), 3 * (k + m) = b.length → o.length = k → whileO (go_entry_Read_s2 b) (((3 * k : Nat) : Int), o) = some (if (chkE (o ++ dec (b.drop (3 * k)))) = 0 then (o ++ dec (b.drop (3 * k)), 0) else ([], 2))
  | 0, k, o, h, ho => by
    have e : 3 * k = b.length := by omega
    rw [e, List.drop_length, show dec [] = [] from rfl, List.append_nil]
    refine whileO_inr ?_
    rw [go_entry_Read_s2, if_neg (by simp), checkE, Option.bind_some]
    by_cases hc : chkE o = 0
    · rw [if_neg (by simp [hc]), if_pos hc]; rfl
    · rw [if_pos (by simpa using hc), if_neg hc]; rfl
  | m + 1, k, o, h, ho => by
    have hi : 3 * k + 3 ≤ b.length := by omega
    have hw : IntKind.i64.wrap (((3 * k : Nat) : Int) + 3) = ((3 * k + 3 : Nat) : Int) := by rw [w64_id (by omega) (by omega)]; omega
    have hsl : ((sub b ((3 * k : Nat) : Int) (b.length : Int)).length : Int) = (b.length : Int) - 3 * k := by unfold sub; simp; omega
    have hif : (if ((sub b ((3 * k : Nat) : Int) (b.length : Int)).length : Int) < (3 : Int) then ((sub b ((3 * k : Nat) : Int) (b.length : Int)).length : Int) else (3 : Int)) = 3 := by
      rw [if_neg (by omega)]
    have hs3 := sub3 hi
    have mem : ∀ j (hj : j < b.length), IntKind.i64.wrap b[j] = b[j] := fun j hj => by
      have := hb b[j] (List.getElem_mem hj)
      unfold u8ok at this
      exact w64_id (by omega) (by omega)
    rw [whileO_inl (s' := (((3 * (k + 1) : Nat) : Int), o ++ [⟨b[3 * k], b[3 * k + 1], b[3 * k + 2]⟩])), read_loop hb hl hm m (k + 1) _ (by omega) (by simp; omega), drop3 hi, dec]
    · rw [show 3 * (k + 1) = 3 * k + 3 by omega, List.append_assoc]; rfl
    · rw [go_entry_Read_s2, if_pos (by simp; omega), if_pos (by omega), hif, hw, if_pos (by omega), hs3]
      simp only [List.length_cons, List.length_nil]
      rw [if_pos (by omega), if_pos (by omega), if_pos (by omega), if_pos (by unfold few; simp; omega)]
      simp only [gt, List.getD_cons_zero, List.getD_cons_succ, Int.toNat_zero, show (1 : Int).toNat = 1 from rfl, show (2 : Int).toNat = 2 from rfl, mem]
      rfl
theorem chk_dec {n : Nat} {b : List Int} (h : b.length = 3 * n) (hl : b.length ≤ 196608) : (chkE (dec b) = 0) = ((dec b).any go_entry_bad = false) := by
  have := dec_len n h
  unfold chkE
  rw [if_neg (by omega)]
  cases (dec b).any go_entry_bad <;> simp
theorem read_eq {b : List Int} (hb : ∀ x ∈ b, u8ok x) : go_entry_Read b = some (rd b) := by
  unfold go_entry_Read rd
  by_cases h1 : b.length > 196608
  · rw [if_pos (by simp; omega), if_pos h1]
  · have htm : Int.tmod (b.length : Int) 3 = ((b.length % 3 : Nat) : Int) := by rw [Int.tmod_eq_emod_of_nonneg (by omega)]; omega
    rw [if_neg (by simp; omega), if_neg h1, htm]
    by_cases h2 : b.length % 3 ≠ 0
    · rw [if_pos (by simp; omega), if_pos h2]
    · rw [if_neg (by simp; omega), if_neg h2]
      have hn : b.length = 3 * (b.length / 3) := by omega
      have := read_loop hb (by omega) (by omega) (b.length / 3) 0 [] (by omega) rfl
      simp only [Nat.mul_zero, List.drop_zero, List.nil_append] at this
      rw [show ((0 : Nat) : Int) = 0 from rfl] at this
      rw [this]
      by_cases hc : chkE (dec b) = 0
      · rw [if_pos hc, if_neg (by rw [chk_dec hn (by omega)] at hc; simp [hc])]
      · rw [if_neg hc, if_pos (by rw [chk_dec hn (by omega)] at hc; simpa using hc)]
theorem rread_loop {b : List Int} (hb : ∀ x ∈ b, u8ok x) (hl : b.length ≤ 196608) (hm : b.length % 3 = 0) :
    ∀ (m k : Nat) (o : List api_Entry), 3 * (k + m) = b.length → o.length = k → whileO (go_ravelref19_Read_s1 b) (o, ((3 * k : Nat) : Int)) = some (if (dec (b.drop (3 * k))).any go_entry_bad = true then ([], 2) else (o ++ dec (b.drop (3 * k)), 0))
  | 0, k, o, h, ho => by
    have e : 3 * k = b.length := by omega
    rw [e, List.drop_length, show dec [] = [] from rfl, List.append_nil]
    refine whileO_inr ?_
    rw [go_ravelref19_Read_s1, if_neg (by simp)]; simp
  | m + 1, k, o, h, ho => by
    have hi : 3 * k + 3 ≤ b.length := by omega
    have mem : ∀ j (hj : j < b.length), IntKind.i64.wrap b[j] = b[j] := fun j hj => by
      have := hb b[j] (List.getElem_mem hj)
      unfold u8ok at this
      exact w64_id (by omega) (by omega)
    have g0 : gt b ((3 * k : Nat) : Int) = b[3 * k] := gt_nat (by omega)
    have w1 : IntKind.i64.wrap (((3 * k : Nat) : Int) + 1) = ((3 * k + 1 : Nat) : Int) := by rw [w64_id (by omega) (by omega)]; omega
    have w2 : IntKind.i64.wrap (((3 * k : Nat) : Int) + 2) = ((3 * k + 2 : Nat) : Int) := by rw [w64_id (by omega) (by omega)]; omega
    have w3 : IntKind.i64.wrap (((3 * k : Nat) : Int) + 3) = ((3 * (k + 1) : Nat) : Int) := by rw [w64_id (by omega) (by omega)]; omega
    have g1 : gt b ((3 * k + 1 : Nat) : Int) = b[3 * k + 1] := gt_nat (by omega)
    have g2 : gt b ((3 * k + 2 : Nat) : Int) = b[3 * k + 2] := gt_nat (by omega)
    have hstep : go_ravelref19_Read_s1 b (o, ((3 * k : Nat) : Int)) = if go_entry_bad ⟨b[3 * k], b[3 * k + 1], b[3 * k + 2]⟩ = true then some (.inr ([], 2)) else some (.inl (o ++ [⟨b[3 * k], b[3 * k + 1], b[3 * k + 2]⟩], ((3 * (k + 1) : Nat) : Int))) := by
      rw [go_ravelref19_Read_s1, if_pos (by simp; omega), if_pos (by omega), w1, w2, w3, if_pos (by omega), if_pos (by omega), g0, g1, g2, mem, mem, mem, may_bad, Bool.not_not]
      cases go_entry_bad ⟨b[3 * k], b[3 * k + 1], b[3 * k + 2]⟩ with
      | true => rfl
      | false => simp only [Bool.false_eq_true, if_false]; rw [if_pos (by unfold few; simp; omega)]; rfl
    rw [drop3 hi, dec, List.any_cons]
    cases hbd : go_entry_bad ⟨b[3 * k], b[3 * k + 1], b[3 * k + 2]⟩ with
    | true =>
      rw [hbd] at hstep
      rw [whileO_inr hstep]; rfl
    | false =>
      rw [hbd] at hstep
      rw [whileO_inl hstep, rread_loop hb hl hm m (k + 1) _ (by omega) (by simp; omega), show 3 * (k + 1) = 3 * k + 3 by omega, List.append_assoc]; rfl
theorem rread_eq {b : List Int} (hb : ∀ x ∈ b, u8ok x) : go_ravelref19_Read b = some (rd b) := by
  unfold go_ravelref19_Read rd
  by_cases h1 : b.length > 196608
  · rw [if_pos (by simp; omega), if_pos h1]
  · have htm : Int.tmod (b.length : Int) 3 = ((b.length % 3 : Nat) : Int) := by rw [Int.tmod_eq_emod_of_nonneg (by omega)]; omega
    rw [if_neg (by simp; omega), if_neg h1, htm]
    by_cases h2 : b.length % 3 ≠ 0
    · rw [if_pos (by simp; omega), if_pos h2]
    · rw [if_neg (by simp; omega), if_neg h2]
      have := rread_loop hb (by omega) (by omega) (b.length / 3) 0 [] (by omega) rfl
      simp only [Nat.mul_zero, List.drop_zero, List.nil_append] at this
      rw [show ((0 : Nat) : Int) = 0 from rfl] at this
      rw [this]
end Go.Proofs.Ythhpnmfcmgdghaa
