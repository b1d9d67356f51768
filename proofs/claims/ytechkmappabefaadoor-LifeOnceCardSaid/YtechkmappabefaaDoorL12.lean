/- Helper lemmas for the claim's theorem: an abstract machine over the model, proved sound; no condition beyond each lemma's own. -/
import Derived.Test.YtechkmappabefaaDoorT1
import Derived.Test.YtechkmappabefaaDoorAmF
set_option linter.unusedVariables false
set_option linter.unusedSimpArgs false
set_option linter.unnecessarySimpa false
set_option linter.unusedSectionVars false
/- Plain laws on the printed functions of layer 12. -/
namespace Go.Proofs.YtechkmappabefaaDoor
open Go Go.AM
set_option maxRecDepth 100000
set_option maxHeartbeats 1000000
set_option linter.unusedVariables false
set_option linter.unusedSimpArgs false

def bitB (a b : Int) : Bool := (IntKind.u8.wrap (BitVec.ofInt IntKind.u8.bits (Int.fdiv (follows.getD (0 + Int.toNat a * 1) 0) (2 ^ (min (Int.toNat b) IntKind.u8.bits))) &&& BitVec.ofInt IntKind.u8.bits 1).toNat) == 1
def legB (a b : Int) : Bool := go_life_state a && go_life_state b && bitB a b
theorem st_range {n : Int} (h : go_life_state n = true) : 1 ≤ n ∧ n ≤ 7 := by simpa [go_life_state] using h
theorem st_iff {n : Int} : go_life_state n = true ↔ 1 ≤ n ∧ n ≤ 7 := by simp [go_life_state]
theorem legal_eq (a b : Int) : go_life_Legal a b = some (legB a b) := by
  unfold go_life_Legal legB
  cases ha : go_life_state a with
  | false => simp
  | true =>
    cases hb : go_life_state b with
    | false => simp
    | true =>
      have := st_range ha
      have := st_range hb
      rw [if_pos (by rfl), if_pos (by omega), if_pos (by omega)]
      simp [bitB]
theorem rst_eq : go_ravelref12_state = go_life_state := rfl
theorem rwaits_eq : go_ravelref12_Waits = go_life_Waits := rfl
theorem leg_eq (a b : Int) : legB a b = go_ravelref12_Legal a b := by
  unfold legB go_ravelref12_Legal
  rw [rst_eq]
  cases ha : go_life_state a with
  | false => simp
  | true =>
    cases hb : go_life_state b with
    | false => simp
    | true =>
      obtain ⟨a1, a2⟩ := st_range ha
      obtain ⟨b1, b2⟩ := st_range hb
      have ka : a = 1 ∨ a = 2 ∨ a = 3 ∨ a = 4 ∨ a = 5 ∨ a = 6 ∨ a = 7 := by omega
      have kb : b = 1 ∨ b = 2 ∨ b = 3 ∨ b = 4 ∨ b = 5 ∨ b = 6 ∨ b = 7 := by omega
      rcases ka with rfl | rfl | rfl | rfl | rfl | rfl | rfl <;> rcases kb with rfl | rfl | rfl | rfl | rfl | rfl | rfl <;> decide
/-- A trace, state by state. -/
def trN (a : Int) (i : Nat) : List Int → Nat
  | [] => i
  | s :: r => if (!legB a s || ((i : Int) == 0 && s != 1)) = true then i else trN s (i + 1) r
def badB (xs : List Int) : Bool := xs.any fun n => !go_life_state n
def trV (xs : List Int) : Int := if xs.isEmpty || badB xs then 0 else trN 3 0 xs
def trE (xs : List Int) : Int := if xs.isEmpty || badB xs then 1 else 0
theorem odd_eq (xs : List Int) (hl : xs.length ≤ 9223372036854775807) : go_slices_ContainsFunc_int_int_124 xs = some (badB xs) := by
  unfold go_slices_ContainsFunc_int_int_124 go_slices_IndexFunc_int_int_124
  rw [whileO_index (step := go_slices_IndexFunc_int_int_124_s1 xs) go_life_Trace_1 xs hl (fun v => rfl)]
  show some (decide (idxOf go_life_Trace_1 xs ≥ 0)) = _
  rw [idxOf_any]; rfl
theorem trace_loop (xs : List Int) (hl : xs.length ≤ 9223372036854775807) : ∀ (m i : Nat) (a : Int), i + m = xs.length → whileO (go_life_Trace_s1 xs) (a, (i : Int)) = some (((trN a i (xs.drop i) : Nat) : Int), 0)
  | 0, i, a, h => by
    have : i = xs.length := by omega
    subst this
    rw [whileO_inr (k := ((xs.length : Int), 0)), List.drop_length, trN]
    simp [go_life_Trace_s1]
  | m + 1, i, a, h => by
    have hi : i < xs.length := by omega
    rw [List.drop_eq_getElem_cons hi, trN]
    cases hc : (!legB a xs[i] || ((i : Int) == 0 && xs[i] != 1)) with
    | true =>
      rw [whileO_inr (k := ((i : Int), 0))]
      · simp
      · simp only [go_life_Trace_s1, gt_nat hi, legal_eq, Option.bind_some, hc]
        rw [if_pos (by simpa using hi), if_pos (by omega)]
        rfl
    | false =>
      rw [whileO_inl (s' := (xs[i], ((i + 1 : Nat) : Int)))]
      · rw [trace_loop xs hl m (i + 1) xs[i] (by omega)]; simp
      · simp only [go_life_Trace_s1, gt_nat hi, legal_eq, Option.bind_some, hc]
        rw [if_pos (by simpa using hi), if_pos (by omega), w64_nat (by omega)]
        rfl
theorem trace_eq (xs : List Int) (hl : xs.length ≤ 9223372036854775807) : go_life_Trace xs = some (trV xs, trE xs) := by
  unfold go_life_Trace
  rw [odd_eq xs hl]
  cases xs with
  | nil => simp [trV, trE]
  | cons x r =>
    rw [if_neg (by simp; omega)]
    simp only [Option.bind_some, trV, trE, List.isEmpty_cons, Bool.false_or]
    cases hb : badB (x :: r) with
    | true => simp
    | false =>
      rw [if_neg (by simp)]
      have := trace_loop (x :: r) hl (x :: r).length 0 3 (by omega)
      simp at this ⊢
      exact this
theorem live_eq : go_ravellaw12_live = some true := by
  unfold go_ravellaw12_live
  rw [trace_eq _ (by decide)]
  simp only [Option.bind_some, legal_eq]
  decide

def kept (t : api_Task) : Bool := decide (t.Keeps.a0 ≥ -1) && (decide (t.Keeps.a1 ≥ -1) && (decide (t.Keeps.a2 ≥ -1) && decide (t.Keeps.a3 ≥ -1)))
def chk (t : api_Task) : Bool := (((((((decide (t.Id ≥ 0) && go_life_below t.Tenant 16) && go_life_below t.Prog 16) && go_life_below t.Pc 33) && go_life_below t.Unit 100) && go_life_state t.State) && decide (t.Ran ≥ 0)) && decide (t.Ran ≤ 1099511627776)) && kept t
def chkE (t : api_Task) : Int := if chk t then 0 else 1
theorem min4 (a b c d : Int) : go_slices_Min_int64_int64 [a, b, c, d] = some (let x := if b < a then b else a; let y := if c < x then c else x; if d < y then d else y) := by
  unfold go_slices_Min_int64_int64
  rw [if_neg (by simp), if_pos (by simp)]
  rw [whileO_inl (s' := (if b < a then b else a, 2)) (by rfl)]
  rw [whileO_inl (s' := (if c < (if b < a then b else a) then c else (if b < a then b else a), 3)) (by rfl)]
  rw [whileO_inl (s' := (if d < (if c < (if b < a then b else a) then c else (if b < a then b else a)) then d else (if c < (if b < a then b else a) then c else (if b < a then b else a)), 4)) (by rfl)]
  rw [whileO_inr (by rfl)]
theorem check_eq (t : api_Task) : go_life_Check t = some (chkE t) := by
  unfold go_life_Check chkE chk
  rw [min4]
  generalize (((((((decide (t.Id ≥ 0) && go_life_below t.Tenant 16) && go_life_below t.Prog 16) && go_life_below t.Pc 33) && go_life_below t.Unit 100) && go_life_state t.State) && decide (t.Ran ≥ 0)) && decide (t.Ran ≤ 1099511627776)) = b
  cases b with
  | false => simp
  | true =>
    simp only [Bool.not_true, Bool.false_eq_true, if_false, Option.bind_some, Bool.true_and]
    by_cases hk : kept t = true
    · rw [if_pos hk]
      simp only [kept, Bool.and_eq_true, decide_eq_true_eq] at hk
      rw [if_neg]
      simp only [decide_eq_true_eq]
      split <;> split <;> split <;> omega
    · rw [if_neg hk]
      simp only [kept, Bool.and_eq_true, decide_eq_true_eq] at hk
      rw [if_pos]
      simp only [decide_eq_true_eq]
      split <;> split <;> split <;> omega
theorem rcheck_eq (t : api_Task) : go_ravelref12_Check t = some (chkE t) := by
  have hloop : whileO (go_ravelref12_Check_s1 t) 0 = some (if kept t then 0 else 1) := by
    by_cases h0 : t.Keeps.a0 < -1
    · rw [whileO_inr (k := 1) (by simp [go_ravelref12_Check_s1, h0])]
      rw [if_neg]; simp [kept]; omega
    rw [whileO_inl (s' := 1) (by simp [go_ravelref12_Check_s1, h0, nextO]; rfl)]
    by_cases h1 : t.Keeps.a1 < -1
    · rw [whileO_inr (k := 1) (by simp [go_ravelref12_Check_s1, h1])]
      rw [if_neg]; simp [kept]; omega
    rw [whileO_inl (s' := 2) (by simp [go_ravelref12_Check_s1, h1, nextO]; rfl)]
    by_cases h2 : t.Keeps.a2 < -1
    · rw [whileO_inr (k := 1) (by simp [go_ravelref12_Check_s1, h2])]
      rw [if_neg]; simp [kept]; omega
    rw [whileO_inl (s' := 3) (by simp [go_ravelref12_Check_s1, h2, nextO]; rfl)]
    by_cases h3 : t.Keeps.a3 < -1
    · rw [whileO_inr (k := 1) (by simp [go_ravelref12_Check_s1, h3])]
      rw [if_neg]; simp [kept]; omega
    rw [whileO_inl (s' := 4) (by simp [go_ravelref12_Check_s1, h3, nextO]; rfl)]
    rw [whileO_inr (k := 0) (by simp [go_ravelref12_Check_s1])]
    rw [if_pos]; simp [kept]; omega
  unfold go_ravelref12_Check chkE
  rw [hloop, rst_eq]
  by_cases h : (((((((decide (t.Id ≥ 0) && go_life_below t.Tenant 16) && go_life_below t.Prog 16) && go_life_below t.Pc 33) && go_life_below t.Unit 100) && go_life_state t.State) && decide (t.Ran ≥ 0)) && decide (t.Ran ≤ 1099511627776)) = true
  · rw [if_neg]
    · simp [chk, h]
    · simp [go_life_below] at h ⊢
      simp [h]; omega
  · rw [if_pos]
    · simp [chk, h]
    · simp [go_life_below] at h ⊢
      by_cases hs : go_life_state t.State = true
      · simp [hs] at h ⊢; omega
      · simp [hs]
end Go.Proofs.YtechkmappabefaaDoor
