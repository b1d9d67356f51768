/- Helper lemmas for the claim's theorem: an abstract machine over the model, proved sound; no condition beyond each lemma's own. -/
import Derived.Test.YtpkegoikocfchaaDoorT5
import Derived.Test.YtpkegoikocfchaaDoorAmG
set_option linter.unusedVariables false
set_option linter.unusedSimpArgs false
set_option linter.unnecessarySimpa false
set_option linter.unusedSectionVars false
/- Plain laws on the printed functions. -/
namespace Go.Proofs.YtpkegoikocfchaaDoor
open Go Go.AM
set_option maxRecDepth 100000
set_option maxHeartbeats 1000000
set_option linter.unusedVariables false
set_option linter.unusedSimpArgs false
def bitB (a b : Int) : Bool := (IntKind.u8.wrap (BitVec.ofInt IntKind.u8.bits (Int.fdiv (follows.getD (0 + Int.toNat a * 1) 0) (2 ^ (min (Int.toNat b) IntKind.u8.bits))) &&& BitVec.ofInt IntKind.u8.bits 1).toNat) == 1
def legB (a b : Int) : Bool := go_life_state a && go_life_state b && bitB a b
theorem st_range {n : Int} (h : go_life_state n = true) : 1 ≤ n ∧ n ≤ 7 := by simpa [go_life_state] using h
theorem legal_eq (a b : Int) : go_life_Legal a b = some (legB a b) := by
  unfold go_life_Legal legB
  cases ha : go_life_state a with
  | false => simp
  | true =>
    cases hb : go_life_state b with
    | false => simp
    | true =>
      have := st_range ha
      have := st_range hb
      rw [if_pos (by rfl), if_pos (by omega), if_pos (by omega)]
      simp [bitB]
def kept (t : api_Task) : Bool := decide (t.Keeps.a0 ≥ -1) && (decide (t.Keeps.a1 ≥ -1) && (decide (t.Keeps.a2 ≥ -1) && decide (t.Keeps.a3 ≥ -1)))
def chk (t : api_Task) : Bool := (((((((decide (t.Id ≥ 0) && go_life_below t.Tenant 16) && go_life_below t.Prog 16) && go_life_below t.Pc 33) && go_life_below t.Unit 100) && go_life_state t.State) && decide (t.Ran ≥ 0)) && decide (t.Ran ≤ 1099511627776)) && kept t
def chkE (t : api_Task) : Int := if chk t then 0 else 1
theorem min4 (a b c d : Int) : go_slices_Min_int64_int64 [a, b, c, d] = some (let x := if b < a then b else a; let y := if c < x then c else x; if d < y then d else y) := by
  unfold go_slices_Min_int64_int64
  rw [if_neg (by simp), if_pos (by simp)]
  rw [whileO_inl (s' := (if b < a then b else a, 2)) (by rfl)]
  rw [whileO_inl (s' := (if c < (if b < a then b else a) then c else (if b < a then b else a), 3)) (by rfl)]
  rw [whileO_inl (s' := (if d < (if c < (if b < a then b else a) then c else (if b < a then b else a)) then d else (if c < (if b < a then b else a) then c else (if b < a then b else a)), 4)) (by rfl)]
  rw [whileO_inr (by rfl)]
theorem check_eq (t : api_Task) : go_life_Check t = some (chkE t) := by
  unfold go_life_Check chkE chk
  rw [min4]
  generalize (((((((decide (t.Id ≥ 0) && go_life_below t.Tenant 16) && go_life_below t.Prog 16) && go_life_below t.Pc 33) && go_life_below t.Unit 100) && go_life_state t.State) && decide (t.Ran ≥ 0)) && decide (t.Ran ≤ 1099511627776)) = b
  cases b with
  | false => simp
  | true =>
    simp only [Bool.not_true, Bool.false_eq_true, if_false, Option.bind_some, Bool.true_and]
    by_cases hk : kept t = true
    · rw [if_pos hk]
      simp only [kept, Bool.and_eq_true, decide_eq_true_eq] at hk
      rw [if_neg]
      simp only [decide_eq_true_eq]
      split <;> split <;> split <;> omega
    · rw [if_neg hk]
      simp only [kept, Bool.and_eq_true, decide_eq_true_eq] at hk
      rw [if_pos]
      simp only [decide_eq_true_eq]
      split <;> split <;> split <;> omega
theorem task_beq (x y : api_Task) : api_Task.beq x y = true ↔ x = y := by
  obtain ⟨x0, x1, x2, x3, x4, ⟨k0, k1, k2, k3⟩, x5, x6⟩ := x
  obtain ⟨y0, y1, y2, y3, y4, ⟨l0, l1, l2, l3⟩, y5, y6⟩ := y
  simp [api_Task.beq, and_assoc]
theorem task_self (x : api_Task) : api_Task.beq x x = true := (task_beq x x).2 rfl
theorem chkE_ne (t : api_Task) : (chkE t != 0) = !chk t := by unfold chkE; cases chk t <;> rfl
def newT (i n p : Int) : api_Task := api_Task.mk i n p 0 0 (A4_Int.mk (-1) (-1) (-1) (-1)) 1 0
def nwR (i n p : Int) : api_Task × Int := if chk (newT i n p) then (newT i n p, 0) else (api_Task.zero, 1)
theorem new_eq (i n p : Int) : go_life_New i n p = some (nwR i n p) := by
  unfold go_life_New
  rw [check_eq, Option.bind_some, chkE_ne]
  unfold nwR chkE
  show (if (!chk (newT i n p)) = true then some (api_Task.zero, if chk (newT i n p) = true then 0 else 1) else some (newT i n p, 0)) = _
  cases chk (newT i n p) <;> rfl
def Tk.to (t : api_Task) (s : Int) : api_Task := api_Task.mk t.Id t.Tenant t.Prog t.Pc t.Unit t.Keeps s t.Ran
def mvR (t : api_Task) (s : Int) : api_Task × Int := if chk t && go_life_state s then (if legB t.State s then (Tk.to t s, 0) else (api_Task.zero, 9)) else (api_Task.zero, 1)
theorem move_eq (t : api_Task) (s : Int) : go_life_Move t s = some (mvR t s) := by
  unfold go_life_Move
  rw [check_eq, Option.bind_some, chkE_ne, legal_eq, Option.bind_some]
  unfold mvR Tk.to
  cases chk t <;> cases go_life_state s <;> cases legB t.State s <;> rfl
theorem mvR_ok {t : api_Task} {s : Int} (hc : chk t = true) (hl : legB t.State s = true) : mvR t s = (Tk.to t s, 0) := by
  have hs : go_life_state s = true := by
    unfold legB at hl
    simp only [Bool.and_eq_true] at hl
    exact hl.1.2
  unfold mvR
  rw [hc, hs, if_pos (by simp), if_pos hl]
theorem chk_to {t : api_Task} {s : Int} (hc : chk t = true) (hs : go_life_state s = true) : chk (Tk.to t s) = true := by
  unfold chk at hc ⊢
  simp only [Bool.and_eq_true] at hc ⊢
  exact ⟨⟨⟨⟨hc.1.1.1.1, hs⟩, hc.1.1.2⟩, hc.1.2⟩, hc.2⟩
theorem rst_eq : go_ravelref12_state = go_life_state := rfl
theorem rcheck_eq (t : api_Task) : go_ravelref12_Check t = some (chkE t) := by
  have hloop : whileO (go_ravelref12_Check_s1 t) 0 = some (if kept t then 0 else 1) := by
    by_cases h0 : t.Keeps.a0 < -1
    · rw [whileO_inr (k := 1) (by simp [go_ravelref12_Check_s1, h0])]
      rw [if_neg]; simp [kept]; omega
    rw [whileO_inl (s' := 1) (by simp [go_ravelref12_Check_s1, h0, nextO]; rfl)]
    by_cases h1 : t.Keeps.a1 < -1
    · rw [whileO_inr (k := 1) (by simp [go_ravelref12_Check_s1, h1])]
      rw [if_neg]; simp [kept]; omega
    rw [whileO_inl (s' := 2) (by simp [go_ravelref12_Check_s1, h1, nextO]; rfl)]
    by_cases h2 : t.Keeps.a2 < -1
    · rw [whileO_inr (k := 1) (by simp [go_ravelref12_Check_s1, h2])]
      rw [if_neg]; simp [kept]; omega
    rw [whileO_inl (s' := 3) (by simp [go_ravelref12_Check_s1, h2, nextO]; rfl)]
    by_cases h3 : t.Keeps.a3 < -1
    · rw [whileO_inr (k := 1) (by simp [go_ravelref12_Check_s1, h3])]
      rw [if_neg]; simp [kept]; omega
    rw [whileO_inl (s' := 4) (by simp [go_ravelref12_Check_s1, h3, nextO]; rfl)]
    rw [whileO_inr (k := 0) (by simp [go_ravelref12_Check_s1])]
    rw [if_pos]; simp [kept]; omega
  unfold go_ravelref12_Check chkE
  rw [hloop, rst_eq]
  by_cases h : (((((((decide (t.Id ≥ 0) && go_life_below t.Tenant 16) && go_life_below t.Prog 16) && go_life_below t.Pc 33) && go_life_below t.Unit 100) && go_life_state t.State) && decide (t.Ran ≥ 0)) && decide (t.Ran ≤ 1099511627776)) = true
  · rw [if_neg]
    · simp [chk, h]
    · simp [go_life_below] at h ⊢
      simp [h]; omega
  · rw [if_pos]
    · simp [chk, h]
    · simp [go_life_below] at h ⊢
      by_cases hs : go_life_state t.State = true
      · simp [hs] at h ⊢; omega
      · simp [hs]
theorem rnew_eq (i n p : Int) : go_ravelref12_New i n p = some (nwR i n p) := by
  unfold go_ravelref12_New
  rw [whileO_inl (s' := (1, -1, 0, 0, 0)) (by rfl), whileO_inl (s' := (2, -1, -1, 0, 0)) (by rfl), whileO_inl (s' := (3, -1, -1, -1, 0)) (by rfl), whileO_inl (s' := (4, -1, -1, -1, -1)) (by rfl)]
  have h : go_ravelref12_New_s2 i n p (4, -1, -1, -1, -1) = inrO (some (nwR i n p)) := by
    simp only [go_ravelref12_New_s2]
    rw [if_neg (by simp), rcheck_eq, Option.bind_some, chkE_ne]
    show inrO (if (!chk (newT i n p)) = true then some (api_Task.zero, 1) else some (newT i n p, 0)) = inrO (some (if chk (newT i n p) = true then (newT i n p, 0) else (api_Task.zero, 1)))
    cases chk (newT i n p) <;> rfl
  rw [whileO_inr h]
def pok (p : List api_Instr) : Prop := p.length ≤ 9223372036854775807 ∧ ∀ x ∈ p, i64ok x.A
theorem within_pred {a m : Int} (ha : i64ok a) (hm : 0 ≤ m ∧ m ≤ 1000000) : go_code_within (IntKind.i64.wrap (a - 1)) m = (decide (1 ≤ a) && decide (a ≤ m)) := by
  obtain ⟨h1, h2⟩ := ha
  unfold go_code_within
  by_cases h : a = -9223372036854775808
  · subst h
    have : IntKind.i64.wrap (-9223372036854775808 - 1) = 9223372036854775807 := by decide
    rw [this]
    simp; omega
  · rw [w64_id (by omega) (by omega)]
    rw [Bool.eq_iff_iff]; simp; omega
theorem odd_may {x : api_Instr} (h : i64ok x.A) : go_code_odd x = !go_ravelref04_may x := by
  unfold go_code_odd go_code_odd_j3 go_code_odd_j4 go_code_odd_j2 go_ravelref04_may go_ravelref04_in
  rw [within_pred h (by decide), within_pred h (by decide)]
  unfold go_code_within
  by_cases h1 : x.Op = 1
  · rw [Bool.eq_iff_iff]; simp [h1] <;> omega
  by_cases h2 : x.Op = 2
  · rw [Bool.eq_iff_iff]; simp [h2] <;> omega
  by_cases h3 : x.Op = 3
  · rw [Bool.eq_iff_iff]; simp [h3]
  by_cases h4 : x.Op = 4
  · rw [Bool.eq_iff_iff]; simp [h4] <;> omega
  by_cases h5 : x.Op = 5
  · rw [Bool.eq_iff_iff]; simp [h5] <;> omega
  by_cases h6 : x.Op = 6
  · rw [Bool.eq_iff_iff]; simp [h6] <;> omega
  by_cases h7 : x.Op = 7
  · rw [Bool.eq_iff_iff]; simp [h7] <;> omega
  by_cases h8 : x.Op = 8
  · rw [Bool.eq_iff_iff]; simp [h8] <;> omega
  by_cases h9 : x.Op = 9
  · rw [Bool.eq_iff_iff]; simp [h9]
  · rw [Bool.eq_iff_iff]; simp [h1, h2, h3, h4, h5, h6, h7, h8, h9]
def chkP (p : List api_Instr) : Bool := (decide (1 ≤ p.length) && decide (p.length ≤ 32)) && p.all go_ravelref04_may
theorem odd_any {p : List api_Instr} (h : ∀ x ∈ p, i64ok x.A) : p.any go_code_odd = !p.all go_ravelref04_may := by
  induction p with
  | nil => rfl
  | cons x r ih => rw [List.any_cons, List.all_cons, odd_may (h x (by simp)), ih (fun y hy => h y (by simp [hy])), Bool.not_and]
theorem codeCheck_eq {p : List api_Instr} (h : pok p) : go_code_Check p = some (if chkP p then 0 else 1) := by
  unfold go_code_Check chkP
  by_cases hl : ((decide ((p.length : Int) < 1)) || (decide ((p.length : Int) > 32))) = true
  · rw [if_pos hl, if_neg]
    simp only [Bool.or_eq_true, decide_eq_true_eq] at hl
    simp only [Bool.and_eq_true, decide_eq_true_eq]; omega
  · rw [if_neg hl]
    simp only [Bool.or_eq_true, decide_eq_true_eq] at hl
    unfold go_slices_ContainsFunc_api_Instr_api_Instr_odd35 go_slices_IndexFunc_api_Instr_api_Instr_odd35
    rw [whileO_index (step := go_slices_IndexFunc_api_Instr_api_Instr_odd35_s1 p) go_code_odd p h.1 (fun v => rfl)]
    simp only [Option.bind_some]
    rw [idxOf_any, odd_any h.2]
    have h1 : decide (1 ≤ p.length) = true := by simp; omega
    have h2 : decide (p.length ≤ 32) = true := by simp; omega
    rw [h1, h2]
    cases p.all go_ravelref04_may <;> rfl
theorem rcodeCheck_eq {p : List api_Instr} (h : p.length ≤ 9223372036854775807) : go_ravelref04_Check p = some (if chkP p then 0 else 1) := by
  unfold go_ravelref04_Check chkP
  by_cases hl : ((decide ((p.length : Int) < 1)) || (decide ((p.length : Int) > 32))) = true
  · rw [if_pos hl, if_neg]
    simp only [Bool.or_eq_true, decide_eq_true_eq] at hl
    simp only [Bool.and_eq_true, decide_eq_true_eq]; omega
  · rw [if_neg hl]
    simp only [Bool.or_eq_true, decide_eq_true_eq] at hl
    rw [whileO_seek (step := go_ravelref04_Check_s1 p) (fun x => !go_ravelref04_may x) p (fun _ => some 1) (some 0) h (fun i hi => by rw [go_ravelref04_Check_s1, if_pos (by simpa using hi), if_pos (by omega)]) (by rw [go_ravelref04_Check_s1, if_neg (by simp)])]
    rw [seek_any]
    have h1 : decide (1 ≤ p.length) = true := by simp; omega
    have h2 : decide (p.length ≤ 32) = true := by simp; omega
    have h3 : (p.any fun x => !go_ravelref04_may x) = !p.all go_ravelref04_may := by
      clear h h1 h2 hl
      induction p with
      | nil => rfl
      | cons x r ih => rw [List.any_cons, List.all_cons, ih, Bool.not_and]
    rw [h1, h2, h3]
    cases p.all go_ravelref04_may <;> rfl
theorem may_work {x : api_Instr} (h : go_ravelref04_may x = true) (h1 : x.Op = 1) : 1 ≤ x.A ∧ x.A ≤ 100 := by
  unfold go_ravelref04_may go_ravelref04_in at h
  simp [h1] at h; omega

end Go.Proofs.YtpkegoikocfchaaDoor
