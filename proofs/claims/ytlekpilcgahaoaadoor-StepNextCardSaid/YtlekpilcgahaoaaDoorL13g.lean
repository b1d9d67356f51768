/- Helper lemmas for the claim's theorem: an abstract machine over the model, proved sound; no condition beyond each lemma's own. -/
import Derived.Test.YtlekpilcgahaoaaDoorL13f
set_option linter.unusedVariables false
set_option linter.unusedSimpArgs false
set_option linter.unnecessarySimpa false
set_option linter.unusedSectionVars false
/- Plain laws on the printed functions. -/
namespace Go.Proofs.YtlekpilcgahaoaaDoor
open Go Go.AM
set_option maxRecDepth 100000
set_option maxHeartbeats 1000000
set_option linter.unusedVariables false
set_option linter.unusedSimpArgs false
theorem chk_ids {t : api_Task} {p : List api_Instr} {id tn : Int} (h : chk (api_Task.mk id tn t.Prog t.Pc t.Unit t.Keeps t.State t.Ran) = true) (hf : fitB t p = true) : fitB (api_Task.mk id tn t.Prog t.Pc t.Unit t.Keeps t.State t.Ran) p = true := by
  unfold fitB at hf ⊢
  simp only [Bool.and_eq_true] at hf ⊢
  exact ⟨h, hf.2⟩
theorem stepNext_true {t : api_Task} {p : List api_Instr} {id tn : Int} (hp : pok p) : go_ravellaw13_StepNext t p id tn = some true := by
  unfold go_ravellaw13_StepNext
  rw [live_eq, next_eq hp, do_eq hp]
  simp only [Option.bind_some]
  rw [if_neg (by simp)]
  split
  · rfl
  · by_cases he : (doR t p).2.2 = 0
    · have hok := doR_err he
      rw [doR_ok hok]
      simp only
      rw [if_neg (by simp), if_pos hok.1]
      simp only
      have hin : ¬ (((((0 : Int) != 0) || (((insN t p).Op == 1) && (!(api_Effect.beq (doE t p) api_Effect.zero)))) || (((insN t p).Op != 1) && (!(api_Effect.beq (doE t p) (api_Effect.mk (insN t p).Op (insN t p).A (insN t p).B))))) = true) := by
        unfold doE
        by_cases h1 : (insN t p).Op = 1
        · rw [if_pos h1]; simp [h1, eff_self]
        · rw [if_neg h1]; simp [h1, eff_self]
      rw [if_neg hin, do_eq hp]
      simp only [Option.bind_some, if_true]
      cases hc : chk (api_Task.mk id tn t.Prog t.Pc t.Unit t.Keeps t.State t.Ran) with
      | false =>
        have hf : fitB (api_Task.mk id tn t.Prog t.Pc t.Unit t.Keeps t.State t.Ran) p = false := by unfold fitB; rw [hc]; rfl
        have hd : doR (api_Task.mk id tn t.Prog t.Pc t.Unit t.Keeps t.State t.Ran) p = (api_Task.zero, api_Effect.zero, 1) := by unfold doR; rw [if_neg (by rw [hf]; simp)]
        rw [hd, check_eq]
        unfold chkE
        rw [hc]; rfl
      | true =>
        have hf := chk_ids (p := p) hc hok.1
        have hd := doR_ok (t := api_Task.mk id tn t.Prog t.Pc t.Unit t.Keeps t.State t.Ran) (p := p) ⟨hf, hok.2.1, hok.2.2⟩
        rw [hd]
        simp only
        rw [if_neg (by simp)]
        have e1 : doE (api_Task.mk id tn t.Prog t.Pc t.Unit t.Keeps t.State t.Ran) p = doE t p := rfl
        have e2 : api_Task.mk t.Id t.Tenant (doT (api_Task.mk id tn t.Prog t.Pc t.Unit t.Keeps t.State t.Ran) p).Prog (doT (api_Task.mk id tn t.Prog t.Pc t.Unit t.Keeps t.State t.Ran) p).Pc (doT (api_Task.mk id tn t.Prog t.Pc t.Unit t.Keeps t.State t.Ran) p).Unit (doT (api_Task.mk id tn t.Prog t.Pc t.Unit t.Keeps t.State t.Ran) p).Keeps (doT (api_Task.mk id tn t.Prog t.Pc t.Unit t.Keeps t.State t.Ran) p).State (doT (api_Task.mk id tn t.Prog t.Pc t.Unit t.Keeps t.State t.Ran) p).Ran = doT t p := by
          unfold doT
          have e : insN (api_Task.mk id tn t.Prog t.Pc t.Unit t.Keeps t.State t.Ran) p = insN t p := rfl
          rw [e]
          dsimp only
          by_cases h : (insN t p).Op = 1 ∧ t.Unit + 1 < (insN t p).A
          · simp only [if_pos h]
          · simp only [if_neg h]
        rw [e1, e2]
        simp [task_self, eff_self]
    · rw [if_pos (by simp [he])]
theorem doT_pc {t : api_Task} {p : List api_Instr} (h : fitB t p = true) : t.Pc ≤ (doT t p).Pc ∧ (doT t p).Pc ≤ t.Pc + 1 := by
  obtain ⟨hc, hk, hl, hu⟩ := fit_parts h
  unfold doT minI
  split
  · simp only; omega
  · simp only; split <;> omega
theorem stepEnds_true {t : api_Task} {p : List api_Instr} (hp : pok p) : go_ravellaw13_StepEnds t p = some true := by
  unfold go_ravellaw13_StepEnds
  rw [live_eq, next_eq hp, do_eq hp]
  simp only [Option.bind_some]
  rw [if_neg (by simp)]
  split
  · rfl
  · cases hf : fitB t p with
    | false =>
      have hd : doR t p = (api_Task.zero, api_Effect.zero, 1) := by unfold doR; rw [if_neg (by rw [hf]; simp)]
      rw [hd]; simp
    | true =>
      simp only [if_true]
      rw [if_neg (by simp)]
      by_cases hs : t.State = 2
      · rw [if_neg (by simp [hs])]
        by_cases hr : t.Ran = 1099511627776
        · have hd : doR t p = (api_Task.zero, api_Effect.zero, 4) := by unfold doR; rw [if_pos hf, if_pos hs, if_pos hr]
          rw [if_pos (by simp [hr]), hd]; rfl
        · have hok : okS t p := ⟨hf, hs, hr⟩
          rw [if_neg (by simp [hr]), doR_ok hok]
          simp only
          have hfd := fit_do hok
          have hl := left_nonneg hf
          rw [left_eq hp, left_eq hp]
          unfold leftR
          rw [hf, hfd]
          simp only [if_true, Option.bind_some]
          rw [left_do hf, w64_id (n := leftV t p - 1) (by omega) (by omega)]
          have hm : (if leftV t p ≥ 1 then leftV t p - 1 else 0) = (if 0 > leftV t p - 1 then 0 else leftV t p - 1) := by split <;> split <;> omega
          rw [hm, if_neg (by simp; omega)]
          obtain ⟨hc, hk, hle, hu⟩ := fit_parts hf
          obtain ⟨hid, hpc, hun, hran⟩ := chk_bounds hc
          by_cases he : t.Pc = p.length
          · rw [if_pos (by simp [he])]
            have hn : insN t p = api_Instr.mk 9 0 0 := insN_end (by omega)
            have h1 : doE t p = api_Effect.mk 9 0 0 := by unfold doE; rw [hn]; rfl
            have h2 : (doT t p).Pc = t.Pc := by
              unfold doT
              rw [hn, if_neg (by simp)]
              unfold minI
              simp only; rw [if_pos (by omega), he]
            have h3 : leftV t p = 0 := by
              unfold leftV
              have hd : p.drop t.Pc.toNat = [] := by rw [List.drop_eq_nil_iff]; omega
              have hz : t.Unit = 0 := by rcases hu with h | h; exact h; omega
              rw [hd, hz]
              split <;> rfl
            rw [h1, h2, h3]
            simp [eff_self]
          · rw [if_neg (by simp [he]), w64_id (n := t.Pc + 1) (by omega) (by omega)]
            have := doT_pc hf
            obtain ⟨d1, d2, d3⟩ := doT_same t p
            rw [d1, d2]
            simp; omega
      · have hd : doR t p = (api_Task.zero, api_Effect.zero, 9) := by unfold doR; rw [if_pos hf, if_neg hs]
        rw [if_pos (by simp [hs]), hd]; simp [task_self]
/-- A task at its beginning, running. -/
def frT (id : Int) : api_Task := Tk.to (newT id 0 0) 2
theorem fresh_eq {id : Int} (h : 0 ≤ id) : go_ravellaw13_fresh id = some (frT id, true) ∧ chk (frT id) = true := by
  have hc : chk (newT id 0 0) = true := by unfold chk newT kept; simp [go_life_below, go_life_state]; omega
  have hl : legB (newT id 0 0).State 2 = true := by show legB 1 2 = true; decide
  refine ⟨?_, chk_to hc (by decide)⟩
  unfold go_ravellaw13_fresh
  rw [new_eq]
  simp only [Option.bind_some, move_eq]
  unfold nwR
  rw [if_pos hc]
  simp only
  rw [mvR_ok hc hl]
  rfl
theorem fr_fit {id : Int} {p : List api_Instr} (h : 0 ≤ id) (hk : chkP p = true) : fitB (frT id) p = true ∧ leftV (frT id) p = un p := by
  have hc := (fresh_eq h).2
  refine ⟨?_, ?_⟩
  · unfold fitB
    rw [hc, hk]
    simp [frT, Tk.to, newT]
  · show (if (p.take 0).any isX = true then 0 else un (p.drop 0) - 0) = un p
    simp
theorem budget_wrap {x : Int} (h : u8ok x) : IntKind.i64.wrap ((Int.tmod (IntKind.i64.wrap x) 100) + 1) = x % 100 + 1 ∧ 1 ≤ x % 100 + 1 ∧ x % 100 + 1 ≤ 100 := by
  unfold u8ok at h
  rw [w64_id (n := x) (by omega) (by omega), Int.tmod_eq_emod_of_nonneg h.1]
  have : 0 ≤ x % 100 := Int.emod_nonneg _ (by decide)
  have : x % 100 < 100 := Int.emod_lt_of_pos _ (by decide)
  rw [w64_id (by omega) (by omega)]; omega
theorem slR_go {p : List api_Instr} : ∀ (m : Nat) (n : Int) (t : api_Task), fitB t p = true → t.State = 2 → t.Ran + m ≤ 1099511627776 → (slR p m n t).2.2.2 = 0
  | 0, n, t, _, _, _ => rfl
  | m + 1, n, t, hf, hs, hr => by
    have hok : okS t p := ⟨hf, hs, by omega⟩
    obtain ⟨d1, d2, d3⟩ := doT_same t p
    rw [slR, doR_ok hok]
    simp only [ne_eq, not_true_eq_false, if_false]
    split
    · rfl
    · exact slR_go m (n + 1) _ (fit_do hok) (by rw [d2, hs]) (by rw [d3]; omega)
abbrev TkS := Int × Int × Int × Int × Int × Int × Int × Int × Int × Int × Int × Int
theorem slices_inner {p : List api_Instr} (hp : pok p) (v : Int) (a : api_Task) (k : Nat) (t : api_Task) (hk1 : 1 ≤ k) (hk : k ≤ 1000) (hok : ∀ i, i < k → okS (it p i t) p) (hz : ∀ i, i + 1 < k → (doE (it p i t) p).Kind = 0) :
    ∀ (m i : Nat), i + m = k → whileO (go_ravellaw13_StepSlices_s7 p v a (doE (it p (k - 1) t) p) (k : Int)) (rsS (i : Int) (it p i t)) =
      (if (!(api_Task.beq a (it p k t))) = true then inrO (some false) else nextO (IntKind.i64.wrap (v + 1), a.Id, a.Tenant, a.Prog, a.Pc, a.Unit, a.Keeps.a0, a.Keeps.a1, a.Keeps.a2, a.Keeps.a3, a.State, a.Ran, (it p k t).Id, (it p k t).Tenant, (it p k t).Prog, (it p k t).Pc, (it p k t).Unit, (it p k t).Keeps.a0, (it p k t).Keeps.a1, (it p k t).Keeps.a2, (it p k t).Keeps.a3, (it p k t).State, (it p k t).Ran))
  | 0, i, h => by
    have : i = k := by omega
    subst this
    have hs : go_ravellaw13_StepSlices_s7 p v a (doE (it p (i - 1) t) p) (i : Int) (rsS (i : Int) (it p i t)) = inrO (if (!(api_Task.beq a (it p i t))) = true then inrO (some false) else nextO (IntKind.i64.wrap (v + 1), a.Id, a.Tenant, a.Prog, a.Pc, a.Unit, a.Keeps.a0, a.Keeps.a1, a.Keeps.a2, a.Keeps.a3, a.State, a.Ran, (it p i t).Id, (it p i t).Tenant, (it p i t).Prog, (it p i t).Pc, (it p i t).Unit, (it p i t).Keeps.a0, (it p i t).Keeps.a1, (it p i t).Keeps.a2, (it p i t).Keeps.a3, (it p i t).State, (it p i t).Ran)) := by
      rw [rsS, go_ravellaw13_StepSlices_s7, if_neg (by simp)]
    cases hb : api_Task.beq a (it p i t) with
    | true => rw [hb] at hs; rw [if_neg (by simp)] at hs ⊢; exact whileO_inr hs
    | false => rw [hb] at hs; rw [if_pos (by simp)] at hs ⊢; exact whileO_inr hs
  | m + 1, i, h => by
    have hi := hok i (by omega)
    rw [← slices_inner hp v a k t hk1 hk hok hz m (i + 1) (by omega)]
    refine whileO_inl ?_
    have hd : go_step_Do (api_Task.mk (it p i t).Id (it p i t).Tenant (it p i t).Prog (it p i t).Pc (it p i t).Unit (A4_Int.mk (it p i t).Keeps.a0 (it p i t).Keeps.a1 (it p i t).Keeps.a2 (it p i t).Keeps.a3) (it p i t).State (it p i t).Ran) p = some (doR (it p i t) p) := do_eq hp
    rw [rsS, go_ravellaw13_StepSlices_s7, if_pos (by simp; omega), hd, doR_ok hi, w64_id (n := (k : Int) - 1) (by omega) (by omega), w64_id (n := (i : Int) + 1) (by omega) (by omega)]
    simp only [Option.bind_some]
    rw [if_neg]
    · rw [it_last]; rfl
    · by_cases hl : i = k - 1
      · subst hl
        have : ((k - 1 : Nat) : Int) = (k : Int) - 1 := by omega
        simp [this, eff_self]
      · have := hz i (by omega)
        simp [this]; omega
theorem stepSlices_true {id : Int} {p : List api_Instr} {bs : List Int} (hp : pok p) (hb : ∀ x ∈ bs, u8ok x) : go_ravellaw13_StepSlices id p bs = some true := by
  unfold go_ravellaw13_StepSlices
  rw [live_eq]
  simp only [Option.bind_some]
  rw [if_neg (by simp)]
  split
  · rfl
  · rename_i hg
    simp only [Bool.or_eq_true, decide_eq_true_eq, not_or] at hg
    rw [codeCheck_eq hp, Option.bind_some]
    cases hk : chkP p with
    | false => simp
    | true =>
      simp only [if_true]
      rw [if_neg (by simp), (fresh_eq (by omega)).1]
      simp only [Option.bind_some]
      rw [if_neg (by simp)]
      have key : ∀ (m i : Nat) (t : api_Task), i + m = bs.length → fitB t p = true → t.State = 2 → t.Ran ≤ 100 * i →
          whileO (go_ravellaw13_StepSlices_s5 p bs true) ((i : Int), t.Id, t.Tenant, t.Prog, t.Pc, t.Unit, t.Keeps.a0, t.Keeps.a1, t.Keeps.a2, t.Keeps.a3, t.State, t.Ran, t.Id, t.Tenant, t.Prog, t.Pc, t.Unit, t.Keeps.a0, t.Keeps.a1, t.Keeps.a2, t.Keeps.a3, t.State, t.Ran) = some true := by
        intro m
        induction m with
        | zero =>
          intro i t h hf hs hr
          have : i = bs.length := by omega
          subst this
          refine whileO_inr ?_
          rw [go_ravellaw13_StepSlices_s5, if_neg (by simp)]; rfl
        | succ m ih =>
          intro i t h hf hs hr
          have hi : i < bs.length := by omega
          obtain ⟨w1, w2, w3⟩ := budget_wrap (hb _ (List.getElem_mem hi))
          have hsl : go_step_Slice (api_Task.mk t.Id t.Tenant t.Prog t.Pc t.Unit (A4_Int.mk t.Keeps.a0 t.Keeps.a1 t.Keeps.a2 t.Keeps.a3) t.State t.Ran) p (bs[i] % 100 + 1) = some (sliceR t p (bs[i] % 100 + 1)) := slice_eq hp
          have he := slR_go (p := p) (bs[i] % 100 + 1).toNat 0 t hf hs (by omega)
          obtain ⟨k, k1, k2, k3, k4, k5, k6⟩ := slR_ok _ _ _ he (by omega)
          obtain ⟨i1, i2, i3, i4, i5⟩ := it_left k t hf k4
          have hsv : sliceR t p (bs[i] % 100 + 1) = (it p k t, doE (it p (k - 1) t) p, 0 + (k : Int), 0) := by unfold sliceR; rw [if_pos ⟨hf, w2, w3⟩, k3]
          have hin := slices_inner hp (i : Int) (it p k t) k t k1 (by omega) k4 k5 k 0 (by omega)
          rw [if_neg (by simp [task_self]), w64_id (n := (i : Int) + 1) (by omega) (by omega)] at hin
          rw [whileO_inl (s' := (((i + 1 : Nat) : Int), (it p k t).Id, (it p k t).Tenant, (it p k t).Prog, (it p k t).Pc, (it p k t).Unit, (it p k t).Keeps.a0, (it p k t).Keeps.a1, (it p k t).Keeps.a2, (it p k t).Keeps.a3, (it p k t).State, (it p k t).Ran, (it p k t).Id, (it p k t).Tenant, (it p k t).Prog, (it p k t).Pc, (it p k t).Unit, (it p k t).Keeps.a0, (it p k t).Keeps.a1, (it p k t).Keeps.a2, (it p k t).Keeps.a3, (it p k t).State, (it p k t).Ran))]
          · exact ih (i + 1) _ (by omega) i5 (by rw [i3, hs]) (by rw [i2]; omega)
          · rw [go_ravellaw13_StepSlices_s5, if_pos (by simpa using hi), if_pos (by omega), gt_nat hi, w1, hsl, hsv, Int.zero_add]
            simp only [Option.bind_some]
            rw [if_neg]
            · exact hin
            · by_cases hz : (doE (it p (k - 1) t) p).Kind = 0
              · have := k6 hz
                simp [hz]; omega
              · simp [hz]; omega
      have hfr := fr_fit (p := p) (id := id) (by omega) hk
      exact key bs.length 0 (frT id) (by omega) hfr.1 rfl (by show (0:Int) ≤ 100 * ((0:Nat):Int); decide)

end Go.Proofs.YtlekpilcgahaoaaDoor
