/- Helper lemmas for the claim's theorem: an abstract machine over the model, proved sound; no condition beyond each lemma's own. -/
import Derived.Test.YtlekpilcgahaoaaDoorT3
import Derived.Test.YtlekpilcgahaoaaDoorAmF
set_option linter.unusedVariables false
set_option linter.unusedSimpArgs false
set_option linter.unnecessarySimpa false
set_option linter.unusedSectionVars false
/- Plain laws on the printed functions. -/
namespace Go.Proofs.YtlekpilcgahaoaaDoor
open Go Go.AM
set_option maxRecDepth 100000
set_option maxHeartbeats 1000000
set_option linter.unusedVariables false
set_option linter.unusedSimpArgs false
def bitB (a b : Int) : Bool := (IntKind.u8.wrap (BitVec.ofInt IntKind.u8.bits (Int.fdiv (follows.getD (0 + Int.toNat a * 1) 0) (2 ^ (min (Int.toNat b) IntKind.u8.bits))) &&& BitVec.ofInt IntKind.u8.bits 1).toNat) == 1
def legB (a b : Int) : Bool := go_life_state a && go_life_state b && bitB a b
theorem st_range {n : Int} (h : go_life_state n = true) : 1 ≤ n ∧ n ≤ 7 := by simpa [go_life_state] using h
theorem st_iff {n : Int} : go_life_state n = true ↔ 1 ≤ n ∧ n ≤ 7 := by simp [go_life_state]
theorem legal_eq (a b : Int) : go_life_Legal a b = some (legB a b) := by
  unfold go_life_Legal legB
  cases ha : go_life_state a with
  | false => simp
  | true =>
    cases hb : go_life_state b with
    | false => simp
    | true =>
      have := st_range ha
      have := st_range hb
      rw [if_pos (by rfl), if_pos (by omega), if_pos (by omega)]
      simp [bitB]
def kept (t : api_Task) : Bool := decide (t.Keeps.a0 ≥ -1) && (decide (t.Keeps.a1 ≥ -1) && (decide (t.Keeps.a2 ≥ -1) && decide (t.Keeps.a3 ≥ -1)))
def chk (t : api_Task) : Bool := (((((((decide (t.Id ≥ 0) && go_life_below t.Tenant 16) && go_life_below t.Prog 16) && go_life_below t.Pc 33) && go_life_below t.Unit 100) && go_life_state t.State) && decide (t.Ran ≥ 0)) && decide (t.Ran ≤ 1099511627776)) && kept t
def chkE (t : api_Task) : Int := if chk t then 0 else 1
theorem min4 (a b c d : Int) : go_slices_Min_int64_int64 [a, b, c, d] = some (let x := if b < a then b else a; let y := if c < x then c else x; if d < y then d else y) := by
  unfold go_slices_Min_int64_int64
  rw [if_neg (by simp), if_pos (by simp)]
  rw [whileO_inl (s' := (if b < a then b else a, 2)) (by rfl)]
  rw [whileO_inl (s' := (if c < (if b < a then b else a) then c else (if b < a then b else a), 3)) (by rfl)]
  rw [whileO_inl (s' := (if d < (if c < (if b < a then b else a) then c else (if b < a then b else a)) then d else (if c < (if b < a then b else a) then c else (if b < a then b else a)), 4)) (by rfl)]
  rw [whileO_inr (by rfl)]
theorem check_eq (t : api_Task) : go_life_Check t = some (chkE t) := by
  unfold go_life_Check chkE chk
  rw [min4]
  generalize (((((((decide (t.Id ≥ 0) && go_life_below t.Tenant 16) && go_life_below t.Prog 16) && go_life_below t.Pc 33) && go_life_below t.Unit 100) && go_life_state t.State) && decide (t.Ran ≥ 0)) && decide (t.Ran ≤ 1099511627776)) = b
  cases b with
  | false => simp
  | true =>
    simp only [Bool.not_true, Bool.false_eq_true, if_false, Option.bind_some, Bool.true_and]
    by_cases hk : kept t = true
    · rw [if_pos hk]
      simp only [kept, Bool.and_eq_true, decide_eq_true_eq] at hk
      rw [if_neg]
      simp only [decide_eq_true_eq]
      split <;> split <;> split <;> omega
    · rw [if_neg hk]
      simp only [kept, Bool.and_eq_true, decide_eq_true_eq] at hk
      rw [if_pos]
      simp only [decide_eq_true_eq]
      split <;> split <;> split <;> omega
theorem task_beq (x y : api_Task) : api_Task.beq x y = true ↔ x = y := by
  obtain ⟨x0, x1, x2, x3, x4, ⟨k0, k1, k2, k3⟩, x5, x6⟩ := x
  obtain ⟨y0, y1, y2, y3, y4, ⟨l0, l1, l2, l3⟩, y5, y6⟩ := y
  simp [api_Task.beq, and_assoc]
theorem task_self (x : api_Task) : api_Task.beq x x = true := (task_beq x x).2 rfl
theorem chkE_ne (t : api_Task) : (chkE t != 0) = !chk t := by unfold chkE; cases chk t <;> rfl
def newT (i n p : Int) : api_Task := api_Task.mk i n p 0 0 (A4_Int.mk (-1) (-1) (-1) (-1)) 1 0
def nwR (i n p : Int) : api_Task × Int := if chk (newT i n p) then (newT i n p, 0) else (api_Task.zero, 1)
theorem new_eq (i n p : Int) : go_life_New i n p = some (nwR i n p) := by
  unfold go_life_New
  rw [check_eq, Option.bind_some, chkE_ne]
  unfold nwR chkE
  show (if (!chk (newT i n p)) = true then some (api_Task.zero, if chk (newT i n p) = true then 0 else 1) else some (newT i n p, 0)) = _
  cases chk (newT i n p) <;> rfl
def Tk.to (t : api_Task) (s : Int) : api_Task := api_Task.mk t.Id t.Tenant t.Prog t.Pc t.Unit t.Keeps s t.Ran
def mvR (t : api_Task) (s : Int) : api_Task × Int := if chk t && go_life_state s then (if legB t.State s then (Tk.to t s, 0) else (api_Task.zero, 9)) else (api_Task.zero, 1)
theorem move_eq (t : api_Task) (s : Int) : go_life_Move t s = some (mvR t s) := by
  unfold go_life_Move
  rw [check_eq, Option.bind_some, chkE_ne, legal_eq, Option.bind_some]
  unfold mvR Tk.to
  cases chk t <;> cases go_life_state s <;> cases legB t.State s <;> rfl
theorem mvR_ok {t : api_Task} {s : Int} (hc : chk t = true) (hl : legB t.State s = true) : mvR t s = (Tk.to t s, 0) := by
  have hs : go_life_state s = true := by
    unfold legB at hl
    simp only [Bool.and_eq_true] at hl
    exact hl.1.2
  unfold mvR
  rw [hc, hs, if_pos (by simp), if_pos hl]
theorem mvR_no {t : api_Task} {s : Int} (hl : legB t.State s = false) : (mvR t s).2 ≠ 0 := by
  unfold mvR
  split
  · rw [if_neg (by rw [hl]; simp)]; simp
  · simp
theorem chk_to {t : api_Task} {s : Int} (hc : chk t = true) (hs : go_life_state s = true) : chk (Tk.to t s) = true := by
  unfold chk at hc ⊢
  simp only [Bool.and_eq_true] at hc ⊢
  exact ⟨⟨⟨⟨hc.1.1.1.1, hs⟩, hc.1.1.2⟩, hc.1.2⟩, hc.2⟩
theorem rst_eq : go_ravelref12_state = go_life_state := rfl
theorem rcheck_eq (t : api_Task) : go_ravelref12_Check t = some (chkE t) := by
  have hloop : whileO (go_ravelref12_Check_s1 t) 0 = some (if kept t then 0 else 1) := by
    by_cases h0 : t.Keeps.a0 < -1
    · rw [whileO_inr (k := 1) (by simp [go_ravelref12_Check_s1, h0])]
      rw [if_neg]; simp [kept]; omega
    rw [whileO_inl (s' := 1) (by simp [go_ravelref12_Check_s1, h0, nextO]; rfl)]
    by_cases h1 : t.Keeps.a1 < -1
    · rw [whileO_inr (k := 1) (by simp [go_ravelref12_Check_s1, h1])]
      rw [if_neg]; simp [kept]; omega
    rw [whileO_inl (s' := 2) (by simp [go_ravelref12_Check_s1, h1, nextO]; rfl)]
    by_cases h2 : t.Keeps.a2 < -1
    · rw [whileO_inr (k := 1) (by simp [go_ravelref12_Check_s1, h2])]
      rw [if_neg]; simp [kept]; omega
    rw [whileO_inl (s' := 3) (by simp [go_ravelref12_Check_s1, h2, nextO]; rfl)]
    by_cases h3 : t.Keeps.a3 < -1
    · rw [whileO_inr (k := 1) (by simp [go_ravelref12_Check_s1, h3])]
      rw [if_neg]; simp [kept]; omega
    rw [whileO_inl (s' := 4) (by simp [go_ravelref12_Check_s1, h3, nextO]; rfl)]
    rw [whileO_inr (k := 0) (by simp [go_ravelref12_Check_s1])]
    rw [if_pos]; simp [kept]; omega
  unfold go_ravelref12_Check chkE
  rw [hloop, rst_eq]
  by_cases h : (((((((decide (t.Id ≥ 0) && go_life_below t.Tenant 16) && go_life_below t.Prog 16) && go_life_below t.Pc 33) && go_life_below t.Unit 100) && go_life_state t.State) && decide (t.Ran ≥ 0)) && decide (t.Ran ≤ 1099511627776)) = true
  · rw [if_neg]
    · simp [chk, h]
    · simp [go_life_below] at h ⊢
      simp [h]; omega
  · rw [if_pos]
    · simp [chk, h]
    · simp [go_life_below] at h ⊢
      by_cases hs : go_life_state t.State = true
      · simp [hs] at h ⊢; omega
      · simp [hs]
end Go.Proofs.YtlekpilcgahaoaaDoor
