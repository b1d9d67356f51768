/- Helper lemmas for the claim's theorem: an abstract machine over the model, proved sound; no condition beyond each lemma's own. -/
import Derived.Test.YtechkmappabefaaDoorL12
set_option linter.unusedVariables false
set_option linter.unusedSimpArgs false
set_option linter.unnecessarySimpa false
set_option linter.unusedSectionVars false
/- The statements of layer 12, in plain Lean. -/
namespace Go.Proofs.YtechkmappabefaaDoor
open Go Go.AM
set_option maxRecDepth 100000
set_option maxHeartbeats 1000000
set_option linter.unusedVariables false
set_option linter.unusedSimpArgs false
theorem task_beq (x y : api_Task) : api_Task.beq x y = true ↔ x = y := by
  obtain ⟨x0, x1, x2, x3, x4, ⟨k0, k1, k2, k3⟩, x5, x6⟩ := x
  obtain ⟨y0, y1, y2, y3, y4, ⟨l0, l1, l2, l3⟩, y5, y6⟩ := y
  simp [api_Task.beq, and_assoc]
theorem task_self (x : api_Task) : api_Task.beq x x = true := (task_beq x x).2 rfl
def chkG (t : api_Task) : Bool := chkE t == 0
theorem chkE_ne (t : api_Task) : (chkE t != 0) = !chk t := by unfold chkE; cases chk t <;> rfl
def Tk.put (t : api_Task) (s id : Int) : api_Task := api_Task.mk t.Id t.Tenant t.Prog t.Pc t.Unit (A4_Int.mk (if s = 0 then id else t.Keeps.a0) (if s = 1 then id else t.Keeps.a1) (if s = 2 then id else t.Keeps.a2) (if s = 3 then id else t.Keeps.a3)) t.State t.Ran
def kpOk (t : api_Task) (s id : Int) : Bool := chk t && (decide (0 ≤ s ∧ s < 4) && decide (id ≥ -1))
def kpR (t : api_Task) (s id : Int) : api_Task × Int := if kpOk t s id then (if t.State = 7 then (api_Task.zero, 9) else (Tk.put t s id, 0)) else (api_Task.zero, 1)
theorem keep_eq (t : api_Task) (s id : Int) : go_life_Keep t s id = some (kpR t s id) := by
  unfold go_life_Keep
  rw [check_eq, Option.bind_some, chkE_ne]
  unfold kpR kpOk
  by_cases h : (chk t && (decide (0 ≤ s ∧ s < 4) && decide (id ≥ -1))) = true
  · rw [if_pos h]
    simp only [Bool.and_eq_true, decide_eq_true_eq] at h
    rw [if_neg (by simp [go_life_below, h.1]; omega)]
    by_cases h7 : t.State = 7
    · rw [if_pos (by simp [h7]), if_pos h7]
    · rw [if_neg (by simp [h7]), if_neg h7, if_pos h.2.1]; rfl
  · rw [if_neg h]
    simp only [Bool.and_eq_true, decide_eq_true_eq] at h
    rw [if_pos]
    by_cases hc : chk t = true
    · simp [go_life_below, hc] at h ⊢; omega
    · simp [hc]
theorem rkeep_eq (t : api_Task) (s id : Int) : go_ravelref12_Keep t s id = some (kpR t s id) := by
  unfold go_ravelref12_Keep
  rw [rcheck_eq, Option.bind_some, chkE_ne]
  unfold kpR kpOk
  by_cases h : (chk t && (decide (0 ≤ s ∧ s < 4) && decide (id ≥ -1))) = true
  · rw [if_pos h]
    simp only [Bool.and_eq_true, decide_eq_true_eq] at h
    rw [if_neg (by simp [h.1]; omega)]
    by_cases h7 : t.State = 7
    · rw [if_pos (by simp [h7]), if_pos h7]
    · rw [if_neg (by simp [h7]), if_neg h7, if_pos h.2.1]; rfl
  · rw [if_neg h]
    simp only [Bool.and_eq_true, decide_eq_true_eq] at h
    rw [if_pos]
    by_cases hc : chk t = true
    · simp [hc] at h ⊢; omega
    · simp [hc]
def newT (i n p : Int) : api_Task := api_Task.mk i n p 0 0 (A4_Int.mk (-1) (-1) (-1) (-1)) 1 0
def nwR (i n p : Int) : api_Task × Int := if chk (newT i n p) then (newT i n p, 0) else (api_Task.zero, 1)
theorem new_eq (i n p : Int) : go_life_New i n p = some (nwR i n p) := by
  unfold go_life_New
  rw [check_eq, Option.bind_some, chkE_ne]
  unfold nwR chkE
  show (if (!chk (newT i n p)) = true then some (api_Task.zero, if chk (newT i n p) = true then 0 else 1) else some (newT i n p, 0)) = _
  cases chk (newT i n p) <;> rfl
theorem rnew_eq (i n p : Int) : go_ravelref12_New i n p = some (nwR i n p) := by
  unfold go_ravelref12_New
  rw [whileO_inl (s' := (1, -1, 0, 0, 0)) (by rfl), whileO_inl (s' := (2, -1, -1, 0, 0)) (by rfl), whileO_inl (s' := (3, -1, -1, -1, 0)) (by rfl), whileO_inl (s' := (4, -1, -1, -1, -1)) (by rfl)]
  have h : go_ravelref12_New_s2 i n p (4, -1, -1, -1, -1) = inrO (some (nwR i n p)) := by
    simp only [go_ravelref12_New_s2]
    rw [if_neg (by simp), rcheck_eq, Option.bind_some, chkE_ne]
    show inrO (if (!chk (newT i n p)) = true then some (api_Task.zero, 1) else some (newT i n p, 0)) = inrO (some (if chk (newT i n p) = true then (newT i n p, 0) else (api_Task.zero, 1)))
    cases chk (newT i n p) <;> rfl
  rw [whileO_inr h]
def Tk.to (t : api_Task) (s : Int) : api_Task := api_Task.mk t.Id t.Tenant t.Prog t.Pc t.Unit t.Keeps s t.Ran
def mvR (t : api_Task) (s : Int) : api_Task × Int := if chk t && go_life_state s then (if legB t.State s then (Tk.to t s, 0) else (api_Task.zero, 9)) else (api_Task.zero, 1)
theorem move_eq (t : api_Task) (s : Int) : go_life_Move t s = some (mvR t s) := by
  unfold go_life_Move
  rw [check_eq, Option.bind_some, chkE_ne, legal_eq, Option.bind_some]
  unfold mvR Tk.to
  cases chk t <;> cases go_life_state s <;> cases legB t.State s <;> rfl
theorem rmove_eq (t : api_Task) (s : Int) : go_ravelref12_Move t s = some (mvR t s) := by
  unfold go_ravelref12_Move
  rw [rcheck_eq, Option.bind_some, chkE_ne, ← leg_eq, rst_eq]
  unfold mvR Tk.to
  cases chk t <;> cases go_life_state s <;> cases legB t.State s <;> rfl

theorem lifeMoves_true (t : api_Task) (to slot id n p : Int) : go_ravellaw12_LifeMoves t to slot id n p = some true := by
  unfold go_ravellaw12_LifeMoves
  rw [live_eq, move_eq, rmove_eq, keep_eq, rkeep_eq, new_eq, rnew_eq, check_eq, rcheck_eq]
  simp [task_self]

/-- Where a task is kept. -/
def kAt (t : api_Task) (s : Int) : Int := if s = 0 then t.Keeps.a0 else (if s = 1 then t.Keeps.a1 else (if s = 2 then t.Keeps.a2 else t.Keeps.a3))
theorem kAt_put (t : api_Task) {s : Int} (id : Int) (h : 0 ≤ s ∧ s < 4) : kAt (Tk.put t s id) s = id := by
  have : s = 0 ∨ s = 1 ∨ s = 2 ∨ s = 3 := by omega
  rcases this with rfl | rfl | rfl | rfl <;> rfl
theorem put_put (t : api_Task) (s a b : Int) : Tk.put (Tk.put t s a) s b = Tk.put t s b := by
  unfold Tk.put
  congr 2 <;> split <;> simp_all
theorem put_comm (t : api_Task) {s u : Int} (a b : Int) (h : s ≠ u) : Tk.put (Tk.put t s a) u b = Tk.put (Tk.put t u b) s a := by
  unfold Tk.put
  congr 2 <;> simp only <;> split <;> split <;> first | rfl | omega
theorem put_back (t : api_Task) (s id : Int) : api_Task.mk (Tk.put t s id).Id (Tk.put t s id).Tenant (Tk.put t s id).Prog (Tk.put t s id).Pc (Tk.put t s id).Unit t.Keeps (Tk.put t s id).State (Tk.put t s id).Ran = t := rfl
theorem ite_ge {c : Prop} [Decidable c] {x y : Int} (h : x ≥ -1) (k : y ≥ -1) : (if c then x else y) ≥ -1 := by split <;> assumption
theorem chk_put {t : api_Task} {s id : Int} (h : chk t = true) (hi : id ≥ -1) : chk (Tk.put t s id) = true := by
  unfold chk at h ⊢
  rw [Bool.and_eq_true] at h ⊢
  refine ⟨h.1, ?_⟩
  have h2 := h.2
  unfold kept at h2 ⊢
  simp only [Bool.and_eq_true, decide_eq_true_eq] at h2 ⊢
  exact ⟨ite_ge hi h2.1, ite_ge hi h2.2.1, ite_ge hi h2.2.2.1, ite_ge hi h2.2.2.2⟩
theorem kpR_ok {t : api_Task} {s id : Int} (h : kpOk t s id = true) (h7 : t.State ≠ 7) : kpR t s id = (Tk.put t s id, 0) := by unfold kpR; rw [if_pos h, if_neg h7]
theorem kpR_no {t : api_Task} {s id : Int} (h : kpOk t s id = false) : kpR t s id = (api_Task.zero, 1) := by unfold kpR; rw [if_neg (by rw [h]; simp)]
theorem kpR_7 {t : api_Task} {s id : Int} (h : kpOk t s id = true) (h7 : t.State = 7) : kpR t s id = (api_Task.zero, 9) := by unfold kpR; rw [if_pos h, if_pos h7]
theorem kpOk_iff {t : api_Task} {s id : Int} : kpOk t s id = true ↔ chk t = true ∧ (0 ≤ s ∧ s < 4) ∧ id ≥ -1 := by simp [kpOk]
theorem kpOk_put {t : api_Task} {s a u b : Int} (h : kpOk t s a = true) : kpOk (Tk.put t s a) u b = kpOk t u b := by
  obtain ⟨h1, h2, h3⟩ := kpOk_iff.1 h
  unfold kpOk
  rw [chk_put h1 h3, h1]
theorem lifeKeeps_true (t : api_Task) (slot too a b : Int) : go_ravellaw12_LifeKeeps t slot too a b = some true := by
  unfold go_ravellaw12_LifeKeeps
  rw [live_eq]
  simp only [Option.bind_some, keep_eq]
  rw [if_neg (by simp)]
  cases hk : kpOk t slot a with
  | false => rw [kpR_no hk]; simp [task_self]
  | true =>
    by_cases h7 : t.State = 7
    · rw [kpR_7 hk h7]; simp [task_self]
    obtain ⟨h1, h2, h3⟩ := kpOk_iff.1 hk
    rw [kpR_ok hk h7]
    simp only
    have h7' : (Tk.put t slot a).State ≠ 7 := h7
    have hj : ∀ x, go_ravellaw12_LifeKeeps_j1 t x (Tk.put t slot a) = some x := fun x => by
      unfold go_ravellaw12_LifeKeeps_j1
      rw [put_back, task_self, Bool.and_true]
    rw [if_neg (by simp), if_neg (by simp; omega), if_pos h2, if_neg (by have := kAt_put t a h2; unfold kAt at this; simp [this])]
    have e1 : kpR (Tk.put t slot a) slot b = kpR t slot b := by
      unfold kpR
      rw [kpOk_put hk, put_put]; rfl
    rw [e1]
    have e2 : (kpR (Tk.put t slot a) too b).2 = (kpR t too b).2 := by
      cases hb : kpOk t too b with
      | true => rw [kpR_ok (by rw [kpOk_put hk]; exact hb) h7', kpR_ok hb h7]
      | false => rw [kpR_no (by rw [kpOk_put hk]; exact hb), kpR_no hb]
    rw [if_neg (by simp [task_self]), e2, if_neg (by simp)]
    simp only [hj]
    by_cases hb : kpOk t too b = true
    · rw [kpR_ok hb h7, kpR_ok (by rw [kpOk_put hk]; exact hb) h7']
      by_cases ht : too = slot
      · rw [if_neg (by simp [ht])]
      · rw [if_pos (by simp [ht])]
        have h8 : (Tk.put t too b).State ≠ 7 := h7
        rw [kpR_ok (t := Tk.put t too b) (by rw [kpOk_put hb]; exact hk) h8]
        rw [if_neg (by rw [put_comm t b a ht]; simp [task_self])]
    · have hb' : kpOk t too b = false := by simpa using hb
      rw [kpR_no hb']
      simp

/-- The moves, one by one: the task, and its states as they came. -/
theorem trN_le : ∀ (l : List Int) (a : Int) (i : Nat), trN a i l ≤ i + l.length
  | [], _, i => by simp [trN]
  | s :: r, a, i => by
    rw [trN]
    split
    · omega
    · have := trN_le r s (i + 1)
      simp only [List.length_cons]; omega
/-- A trace: each state follows the one ahead. -/
def okL : Int → List Int → Bool
  | _, [] => true
  | a, s :: r => legB a s && okL s r
theorem trN_ok : ∀ (l : List Int) (a : Int) (i : Nat), 0 < i → okL a l = true → trN a i l = i + l.length
  | [], _, i, _, _ => by simp [trN]
  | s :: r, a, i, hi, h => by
    rw [okL, Bool.and_eq_true] at h
    rw [trN, if_neg (by simp [h.1]; omega), trN_ok r s (i + 1) (by omega) h.2]
    simp only [List.length_cons]; omega
theorem okL_app : ∀ (l : List Int) (a s : Int), okL a (l ++ [s]) = (okL a l && legB (l.getLastD a) s)
  | [], a, s => by simp [okL]
  | x :: r, a, s => by rw [List.cons_append, okL, okL, okL_app r x s, Bool.and_assoc, List.getLastD_cons]
theorem okL_state : ∀ (l : List Int) (a : Int), okL a l = true → badB l = false
  | [], _, _ => rfl
  | s :: r, a, h => by
    rw [okL, Bool.and_eq_true] at h
    have h1 : go_life_state s = true := by
      have := h.1
      unfold legB at this
      simp only [Bool.and_eq_true] at this
      exact this.1.2
    have := okL_state r s h.2
    unfold badB at *
    rw [List.any_cons, h1, this]; rfl
theorem last_cons (a : Int) (l : List Int) (s : Int) : (l ++ [s]).getLastD a = s := by simp
theorem mvR_ok {t : api_Task} {s : Int} (hc : chk t = true) (hl : legB t.State s = true) : mvR t s = (Tk.to t s, 0) := by
  have hs : go_life_state s = true := by
    unfold legB at hl
    simp only [Bool.and_eq_true] at hl
    exact hl.1.2
  unfold mvR
  rw [hc, hs, if_pos (by simp), if_pos hl]
theorem mvR_no {t : api_Task} {s : Int} (hl : legB t.State s = false) : (mvR t s).2 ≠ 0 := by
  unfold mvR
  split
  · rw [if_neg (by rw [hl]; simp)]; simp
  · simp
theorem chk_to {t : api_Task} {s : Int} (hc : chk t = true) (hs : go_life_state s = true) : chk (Tk.to t s) = true := by
  unfold chk at hc ⊢
  simp only [Bool.and_eq_true] at hc ⊢
  exact ⟨⟨⟨⟨hc.1.1.1.1, hs⟩, hc.1.1.2⟩, hc.1.2⟩, hc.2⟩
theorem leg_rules {a s : Int} (h : legB a s = true) : (((a == 7) || ((s == 2) && (a != 1))) || (((go_life_Waits a) && (s != 1)) && (s != 7))) = false := by
  rw [leg_eq] at h
  unfold go_ravelref12_Legal at h
  rw [rst_eq] at h
  split at h
  · cases h
  · rename_i hs
    simp only [Bool.or_eq_true, Bool.not_eq_true', not_or, Bool.not_eq_false] at hs
    obtain ⟨a1, a2⟩ := st_range hs.1
    obtain ⟨s1, s2⟩ := st_range hs.2
    have ka : a = 1 ∨ a = 2 ∨ a = 3 ∨ a = 4 ∨ a = 5 ∨ a = 6 ∨ a = 7 := by omega
    have kb : s = 1 ∨ s = 2 ∨ s = 3 ∨ s = 4 ∨ s = 5 ∨ s = 6 ∨ s = 7 := by omega
    revert h
    rcases ka with rfl | rfl | rfl | rfl | rfl | rfl | rfl <;> rcases kb with rfl | rfl | rfl | rfl | rfl | rfl | rfl <;> decide
abbrev OnS := List Int × Int × Int × Int × Int × Int × Int × Int × Int × Int × Int × Int × Int
def onS (l : List Int) (i : Int) (t : api_Task) : OnS := (l, i, t.Id, t.Tenant, t.Prog, t.Pc, t.Unit, t.Keeps.a0, t.Keeps.a1, t.Keeps.a2, t.Keeps.a3, t.State, t.Ran)
theorem lifeOnce_true (id n p : Int) (tos : List Int) : go_ravellaw12_LifeOnce id n p tos = some true := by
  unfold go_ravellaw12_LifeOnce
  rw [live_eq, Option.bind_some, if_neg (by simp)]
  by_cases hlen : decide ((tos.length : Int) > 200) = true
  · rw [if_pos hlen]
  rw [if_neg hlen, new_eq, Option.bind_some]
  simp only [decide_eq_true_eq] at hlen
  unfold nwR
  cases hc : chk (newT id n p) with
  | false => rfl
  | true =>
    rw [if_pos rfl]
    simp only
    rw [if_neg (by simp)]
    show whileO (go_ravellaw12_LifeOnce_s2 tos true (newT id n p)) (onS [1] 0 (newT id n p)) = some true
    have key : ∀ (m i : Nat) (l : List Int) (t : api_Task), i + m = tos.length → l.length ≤ i → okL 1 l = true → l.getLastD 1 = t.State → chk t = true → Tk.to t 1 = newT id n p →
        whileO (go_ravellaw12_LifeOnce_s2 tos true (newT id n p)) (onS (1 :: l) (i : Int) t) = some true := by
      intro m
      induction m with
      | zero =>
        intro i l t h hl hok hlast hct ht
        have : i = tos.length := by omega
        subst this
        rw [whileO_inr (k := true)]
        rw [onS, go_ravellaw12_LifeOnce_s2]
        rw [if_neg (by simp), trace_eq _ (by simp; omega)]
        have hbad : badB (1 :: l) = false := by
          have := okL_state l 1 hok
          unfold badB at *
          rw [List.any_cons, this]; rfl
        have hV : trV (1 :: l) = ((1 :: l).length : Int) := by
          unfold trV
          rw [hbad]
          simp only [List.isEmpty_cons, Bool.or_false, Bool.false_eq_true, if_false]
          rw [trN, if_neg (by decide), trN_ok l 1 1 (by omega) hok]
          simp only [List.length_cons]; omega
        have hE : trE (1 :: l) = 0 := by unfold trE; rw [hbad]; rfl
        rw [hV, hE]
        have hb : api_Task.beq (api_Task.mk t.Id t.Tenant t.Prog t.Pc t.Unit (A4_Int.mk t.Keeps.a0 t.Keeps.a1 t.Keeps.a2 t.Keeps.a3) (newT id n p).State t.Ran) (newT id n p) = true := (task_beq _ _).2 ht
        simp [hb]
      | succ m ih =>
        intro i l t h hl hok hlast hct ht
        have hi : i < tos.length := by omega
        have hm : go_life_Move (api_Task.mk t.Id t.Tenant t.Prog t.Pc t.Unit (A4_Int.mk t.Keeps.a0 t.Keeps.a1 t.Keeps.a2 t.Keeps.a3) t.State t.Ran) tos[i] = some (mvR t tos[i]) := move_eq t _
        cases hg : legB t.State tos[i] with
        | false =>
          rw [whileO_inl (s' := onS (1 :: l) ((i + 1 : Nat) : Int) t)]
          · exact ih (i + 1) l t (by omega) (by omega) hok hlast hct ht
          · rw [onS, go_ravellaw12_LifeOnce_s2]
            rw [if_pos (by simpa using hi), if_pos (by omega), gt_nat hi, hm, legal_eq, hg]
            have := mvR_no hg
            simp only [Option.bind_some]
            rw [if_neg (by simp [this]), if_pos (by simp [this]), w64_nat (by omega)]
            rfl
        | true =>
          have hs : go_life_state tos[i] = true := by
            have := hg
            unfold legB at this
            simp only [Bool.and_eq_true] at this
            exact this.1.2
          rw [whileO_inl (s' := onS (1 :: (l ++ [tos[i]])) ((i + 1 : Nat) : Int) (Tk.to t tos[i]))]
          · refine ih (i + 1) _ _ (by omega) (by simp; omega) ?_ ?_ (chk_to hct hs) ?_
            · rw [okL_app, hok, hlast, hg]; rfl
            · rw [last_cons]; rfl
            · rw [← ht]; rfl
          · rw [onS, go_ravellaw12_LifeOnce_s2]
            rw [if_pos (by simpa using hi), if_pos (by omega), gt_nat hi, hm, legal_eq, hg, mvR_ok hct hg]
            simp only [Option.bind_some]
            have hr := leg_rules hg
            have e1 : (Tk.to t tos[i]).State = tos[i] := rfl
            rw [if_neg (by simp), if_neg (by simp), e1, if_neg (by rw [hr]; simp), if_pos (by unfold few; simp; omega), w64_nat (by omega)]
            rfl
    exact key tos.length 0 [] (newT id n p) (by omega) (by simp) rfl rfl hc rfl
end Go.Proofs.YtechkmappabefaaDoor
