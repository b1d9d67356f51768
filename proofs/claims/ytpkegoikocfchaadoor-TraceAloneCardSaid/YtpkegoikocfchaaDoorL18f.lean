/- Helper lemmas for the claim's theorem: an abstract machine over the model, proved sound; no condition beyond each lemma's own. -/
import Derived.Test.YtpkegoikocfchaaDoorL18e
set_option linter.unusedVariables false
set_option linter.unusedSimpArgs false
set_option linter.unnecessarySimpa false
set_option linter.unusedSectionVars false
/- Plain laws on the printed functions. -/
namespace Go.Proofs.YtpkegoikocfchaaDoor
open Go Go.AM
set_option maxRecDepth 100000
set_option maxHeartbeats 1000000
set_option linter.unusedVariables false
set_option linter.unusedSimpArgs false
theorem cut_in2 {a N n : Int} (hN : 1 ≤ N) (hN2 : N ≤ 1000) (hn : n = N + 1) : 0 ≤ Int.tmod (IntKind.i64.wrap (IntKind.i64.wrap (Int.tmod a N + n) - 1)) N ∧ Int.tmod (IntKind.i64.wrap (IntKind.i64.wrap (Int.tmod a N + n) - 1)) N < N := by
  have h1 := Int.tmod_lt_of_pos a (b := N) (by omega)
  have h2 : -N < Int.tmod a N := Int.lt_tmod_of_pos a (by omega)
  rw [w64_id (n := Int.tmod a N + n) (by omega) (by omega), w64_id (by omega) (by omega), Int.tmod_eq_emod_of_nonneg (by omega)]
  exact ⟨Int.emod_nonneg _ (by omega), Int.emod_lt_of_pos _ (by omega)⟩
theorem ckR_if {ps : List (List api_Instr)} {l : List api_Event} (hl : l.length ≤ 65536) : ckR ps l = if ckAll ps = true then (((runN ps [] l : Nat) : Int), 0) else (0, 1) := by
  unfold ckR
  cases ckAll ps with
  | true => rw [if_pos ⟨rfl, hl⟩, if_pos rfl]
  | false => rfl
theorem ofL_of (l : List api_Event) (a b : Int) : ofL (ofL l a) b = if a = b then ofL l a else [] := by
  unfold ofL
  rw [List.filter_filter]
  split
  · rename_i h; subst h
    congr 1; funext x; simp
  · rename_i h
    rw [List.filter_eq_nil_iff]
    intro x _
    simp only [Bool.and_eq_true, beq_iff_eq, not_and]
    intro h1 h2
    exact h (h2.symm.trans h1)
theorem own_all {ps : List (List api_Instr)} (l : List api_Event) (id : Int) : runN ps [] (ofL l id) = (ofL l id).length ↔ lifeO ps none (ofL l id) ≠ none := by
  rw [run_all]
  constructor
  · intro h
    have := h id
    rwa [ofL_of, if_pos rfl] at this
  · intro h id'
    rw [ofL_of]
    split
    · exact h
    · simp [lifeO]
theorem all_own {ps : List (List api_Instr)} (l : List api_Event) : runN ps [] l = l.length ↔ ∀ x ∈ l, runN ps [] (ofL l x.Id) = (ofL l x.Id).length := by
  rw [run_all]
  constructor
  · intro h x _; exact (own_all l x.Id).2 (h x.Id)
  · intro h id
    by_cases hx : ∃ x ∈ l, x.Id = id
    · obtain ⟨x, hx, rfl⟩ := hx
      exact (own_all l x.Id).1 (h x hx)
    · have : ofL l id = [] := by
        unfold ofL; rw [List.filter_eq_nil_iff]; intro x hxl; simp only [beq_iff_eq]; exact fun e => hx ⟨x, hxl, e⟩
      rw [this]; simp [lifeO]
theorem ofL_le (l : List api_Event) (id : Int) : (ofL l id).length ≤ l.length := List.length_filter_le _ _
theorem ofL_swap {l : List api_Event} {i : Nat} (h : i + 1 < l.length) (hne : l[i].Id ≠ l[i + 1].Id) (id : Int) : ofL ((l.set i l[i + 1]).set (i + 1) l[i]) id = ofL l id := by
  have hsplit : l = l.take i ++ l[i] :: l[i + 1] :: l.drop (i + 2) := by
    rw [← List.drop_eq_getElem_cons h, ← List.drop_eq_getElem_cons (by omega : i < l.length), List.take_append_drop]
  have hs2 : (l.set i l[i + 1]).set (i + 1) l[i] = l.take i ++ l[i + 1] :: l[i] :: l.drop (i + 2) := by
    apply List.ext_getElem?
    intro q
    rw [List.getElem?_set, List.getElem?_set, List.length_set]
    by_cases e1 : i + 1 = q
    · subst e1
      rw [if_pos rfl, if_pos h, List.getElem?_append_right (by rw [List.length_take]; omega), List.length_take, show i + 1 - min i l.length = 1 by omega]; rfl
    · rw [if_neg e1]
      by_cases e2 : i = q
      · subst e2
        rw [if_pos rfl, if_pos (by omega), List.getElem?_append_right (by rw [List.length_take]; omega), List.length_take, show i - min i l.length = 0 by omega]; rfl
      · rw [if_neg e2]
        by_cases e3 : q < i
        · rw [List.getElem?_append_left (by rw [List.length_take]; omega), List.getElem?_take_of_lt e3]
        · rw [List.getElem?_append_right (by rw [List.length_take]; omega), List.length_take, show q - min i l.length = (q - i - 2) + 1 + 1 by omega, List.getElem?_cons_succ, List.getElem?_cons_succ, List.getElem?_drop]
          congr 1; omega
  rw [hs2]
  conv => rhs; rw [hsplit]
  unfold ofL
  rw [List.filter_append, List.filter_append]
  congr 1
  simp only [List.filter_cons]
  by_cases a : l[i].Id = id
  · have b : ¬ l[i + 1].Id = id := fun e => hne (a.trans e.symm)
    simp [a, b]
  · simp [a]
theorem alone_loop {ps : List (List api_Instr)} (hp : poks ps) {l : List api_Event} (hl : l.length ≤ 100) (hca : ckAll ps = true) (c n : Int) : ∀ (k i : Nat) (b : Bool), i + k = l.length →
    whileO (go_ravellaw18_TraceAlone_s2 ps l c true n) (b, (i : Int)) = whileO (go_ravellaw18_TraceAlone_s2 ps l c true n) (b && (l.drop i).all (fun x => decide (runN ps [] (ofL l x.Id) = (ofL l x.Id).length)), (l.length : Int))
  | 0, i, b, h => by
    have : i = l.length := by omega
    subst this
    rw [List.drop_length]; simp
  | k + 1, i, b, h => by
    have hi : i < l.length := by omega
    have hle := ofL_le l l[i].Id
    rw [whileO_inl (s' := (b && decide (runN ps [] (ofL l l[i].Id) = (ofL l l[i].Id).length), ((i + 1 : Nat) : Int))), alone_loop hp hl hca c n k (i + 1) _ (by omega)]
    · have e : ∀ F : api_Event → Bool, (l.drop i).all F = (F l[i] && (l.drop (i + 1)).all F) := fun F => by rw [List.drop_eq_getElem_cons hi, List.all_cons]
      rw [e, Bool.and_assoc]
    · rw [go_ravellaw18_TraceAlone_s2, if_pos (by simpa using hi), if_pos (by omega), gt_nat hi, tof_eq (by omega), Option.bind_some, tcheck_eq hp, Option.bind_some, ckR_if (l := ofL l l[i].Id) (by omega), if_pos hca]
      simp only
      rw [if_neg (by simp), w64_nat (by omega)]
      unfold nextO
      congr 3
      congr 1
      rw [Bool.eq_iff_iff]
      simp
      omega
theorem swap_all {ps : List (List api_Instr)} {l : List api_Event} {i : Nat} (h : i + 1 < l.length) (hne : l[i].Id ≠ l[i + 1].Id) : runN ps [] ((l.set i l[i + 1]).set (i + 1) l[i]) = l.length ↔ runN ps [] l = l.length := by
  have e : ((l.set i l[i + 1]).set (i + 1) l[i]).length = l.length := by simp
  have h1 := run_all (ps := ps) ((l.set i l[i + 1]).set (i + 1) l[i]) []
  have h2 := run_all (ps := ps) l []
  simp only [ofL_swap h hne] at h1
  exact ⟨fun hh => h2.2 (h1.1 (hh.trans e.symm)), fun hh => (h1.2 (h2.1 hh)).trans e⟩

end Go.Proofs.YtpkegoikocfchaaDoor
