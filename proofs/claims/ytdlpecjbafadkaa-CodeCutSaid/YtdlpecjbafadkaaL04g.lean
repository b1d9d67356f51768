/- Helper lemmas for the claim's theorem: an abstract machine over the model, proved sound; no condition beyond each lemma's own. -/
import Derived.Test.YtdlpecjbafadkaaL04f
set_option linter.unusedVariables false
set_option linter.unusedSimpArgs false
set_option linter.unnecessarySimpa false
set_option linter.unusedSectionVars false
/- Plain laws on the printed functions. -/
namespace Go.Proofs.Ytdlpecjbafadkaa
open Go Go.AM
set_option maxRecDepth 100000
set_option maxHeartbeats 1000000
set_option linter.unusedVariables false
set_option linter.unusedSimpArgs false
theorem seek_match {α β : Type} (p : α → Bool) (found : Nat → β) (rest : β) (xs : List α) : ∀ i, seek p found rest i xs = match xs.findIdx? p with | some k => found (i + k) | none => rest := by
  induction xs with
  | nil => intro i; rfl
  | cons x r ih =>
    intro i
    rw [seek, List.findIdx?_cons]
    cases hp : p x with
    | true => simp
    | false =>
      simp only [Bool.false_eq_true, if_false]
      rw [ih]
      cases List.findIdx? p r with
      | none => rfl
      | some k => simp only [Option.map_some]; congr 1; omega
def cutP (more p : List api_Instr) : List api_Instr := if p.any isX = true then reach p ++ more else p
theorem reach_any : ∀ (p : List api_Instr), p.any isX = true → (reach p).any isX = true
  | [], h => by simp at h
  | x :: r, h => by
    rw [reach]
    by_cases h9 : x.Op = 9
    · rw [if_pos h9]; simp [isX, h9]
    · rw [if_neg h9, List.any_cons]
      have h1 : isX x = false := by simp [isX, h9]
      rw [List.any_cons, h1, Bool.false_or] at h
      rw [h1, Bool.false_or]; exact reach_any r h
theorem reach_reach : ∀ (p : List api_Instr), reach (reach p) = reach p
  | [] => rfl
  | x :: r => by
    rw [reach]
    by_cases h9 : x.Op = 9
    · rw [if_pos h9, reach, if_pos h9]
    · rw [if_neg h9, reach, if_neg h9, reach_reach r]
theorem reach_cut (more p : List api_Instr) : reach (cutP more p) = reach p := by
  unfold cutP
  split
  · rename_i h
    rw [reach_append, if_pos (reach_any p h), reach_reach]
  · rfl
theorem any_find (p : List api_Instr) : p.any isX = (p.findIdx? isX).isSome := by
  induction p with
  | nil => rfl
  | cons x r ih =>
    rw [List.any_cons, List.findIdx?_cons]
    cases isX x with
    | true => rfl
    | false =>
      rw [Bool.false_or, ih]
      cases List.findIdx? isX r <;> rfl
theorem gt_map (more : List api_Instr) (l : List (List api_Instr)) (i : Int) : gt (l.map (cutP more)) i = cutP more (gt l i) := by
  unfold gt
  rw [List.getD_eq_getElem?_getD, List.getD_eq_getElem?_getD, List.getElem?_map]
  cases l[i.toNat]? with
  | none => rfl
  | some p => rfl
theorem D_cut (more : List api_Instr) (l : List (List api_Instr)) : ∀ (m : Nat) (i : Int), D (l.map (cutP more)) m i = D l m i
  | 0, i => rfl
  | m + 1, i => by
    have hk : kids (l.map (cutP more)) i = kids l i := by unfold kids; rw [gt_map, reach_cut]
    have hf : D (l.map (cutP more)) m = D l m := funext (D_cut more l m)
    rw [D, D, hk, hf]
theorem cut_inner {l : List (List api_Instr)} {more : List api_Instr} {v : List (List api_Instr)} {k : Nat} (hk : k < l.length) (hv : v.length = l.length) (hl : l.length ≤ 1000) (hp : l[k].length ≤ 1000) (hm : more.length ≤ 1000) (hvk : ∀ (h : k < v.length), v[k] = l[k]) :
    whileO (go_ravellaw04_CodeCut_s8 l more v (k : Int)) 0 = nextO (st v (k : Int) (cutP more l[k]), ((k + 1 : Nat) : Int)) := by
  have hkv : k < v.length := by omega
  rw [whileO_seek (step := go_ravellaw04_CodeCut_s8 l more v (k : Int)) isX l[k] (fun i => nextO (st v (k : Int) (l[k].take (i + 1) ++ more), ((k + 1 : Nat) : Int))) (nextO (v, ((k + 1 : Nat) : Int))) (by omega), seek_match]
  · unfold cutP
    rw [any_find, reach_idx]
    cases hf : List.findIdx? isX l[k] with
    | none =>
      have : st v (k : Int) l[k] = v := by
        unfold st
        rw [← hvk hkv, Int.toNat_natCast, List.set_getElem_self]
      simp only [Option.isSome_none, Bool.false_eq_true, if_false]
      rw [this]
    | some i => simp
  · intro i hi
    rw [go_ravellaw04_CodeCut_s8, gt_nat hk, if_pos (by simpa using hi), if_pos (by omega)]
    have hx : (((gt l[k] (i : Int)).Op) == 9) = isX (gt l[k] (i : Int)) := rfl
    rw [hx, w64_nat (by omega)]
    by_cases hx2 : isX (gt l[k] (i : Int)) = true
    · rw [if_pos hx2, if_pos hx2, if_pos (by omega), List.nil_append, sub_take, Int.toNat_natCast, if_pos (show few _ by unfold few; simp; omega), if_pos (show few _ by unfold few; simp; omega), if_pos (by omega), w64_nat (by omega)]
    · rw [if_neg hx2, if_neg hx2]
  · rw [go_ravellaw04_CodeCut_s8, gt_nat hk, if_neg (by simp), w64_nat (by omega)]
def cutI (more : List api_Instr) (k : Nat) (l : List (List api_Instr)) : List (List api_Instr) := (l.take k).map (cutP more) ++ l.drop k
theorem cutI_st {more : List api_Instr} {l : List (List api_Instr)} {k : Nat} (h : k < l.length) : st (cutI more k l) (k : Int) (cutP more l[k]) = cutI more (k + 1) l := by
  have hl : ((l.take k).map (cutP more)).length = k := by simp; omega
  unfold cutI st
  rw [List.drop_eq_getElem_cons h, Int.toNat_natCast, List.set_append_right _ _ (by omega), hl, List.take_succ_eq_append_getElem h, Nat.sub_self, List.map_append, List.append_assoc]
  rfl
theorem cutI_get {more : List api_Instr} {l : List (List api_Instr)} {k : Nat} (h : k < l.length) (h2 : k < (cutI more k l).length) : (cutI more k l)[k] = l[k] := by
  have hl : ((l.take k).map (cutP more)).length = k := by simp; omega
  have h3 : (cutI more k l)[k]? = some l[k] := by
    unfold cutI
    rw [List.getElem?_append_right (by omega), hl, Nat.sub_self]
    simp [h]
  exact (List.getElem?_eq_some_iff.1 h3).2
theorem cutI_len (more : List api_Instr) (k : Nat) (l : List (List api_Instr)) : (cutI more k l).length = l.length := by unfold cutI; simp; omega
theorem codeCut_true {l : List (List api_Instr)} {i : Int} {more : List api_Instr} (hl : l.length ≤ 9223372036854775807) (ha : ∀ p ∈ l, ∀ x ∈ p, i64ok x.A) (hm : ∀ x ∈ more, i64ok x.A) : go_ravellaw04_CodeCut l i more = some true := by
  unfold go_ravellaw04_CodeCut
  obtain ⟨r, h1, h2⟩ := few_poks hl ha
  rw [live_eq, h1]
  simp only [Option.bind_some]
  cases r with
  | false => rfl
  | true =>
    obtain ⟨hp, hp1, hp2⟩ := h2 rfl
    split
    · rfl
    · rename_i hg
      simp only [Bool.or_eq_true, decide_eq_true_eq, not_or] at hg
      obtain ⟨⟨⟨_, g1⟩, g2⟩, g3⟩ := hg
      have hi : 0 ≤ i ∧ i < l.length := by omega
      cases hc : ckAll l with
      | false => rw [tasks_bad hp (.inl hc)]; rfl
      | true =>
        rcases tasks_ok hp hc hi with ⟨m, k, d1, d2⟩ | ⟨_, d2⟩
        · by_cases hk : k > 1099511627776
          · rw [if_pos hk] at d2
            rw [d2]; rfl
          · rw [if_neg hk] at d2
            rw [d2]
            simp only [Option.bind_some]
            rw [if_neg (by simp), List.nil_append, if_pos (show few l.length by unfold few; omega)]
            have hrun := whileO_run (step := go_ravellaw04_CodeCut_s7 l i more true k) (fun j => (cutI more j l, (j : Int))) l.length (fun j hj => by
              have hone := hp1 _ (List.getElem_mem hj)
              rw [go_ravellaw04_CodeCut_s7, if_pos (by simpa using hj), if_pos (by omega), cut_inner hj (cutI_len more j l) (by omega) (by omega) (by omega) (fun h => cutI_get hj h), cutI_st hj]; rfl)
            have e0 : cutI more 0 l = l := by simp [cutI]
            have e1 : cutI more l.length l = l.map (cutP more) := by simp [cutI]
            simp only [e0, e1] at hrun
            rw [show ((0 : Nat) : Int) = 0 from rfl] at hrun
            rw [hrun]
            have hcl : ∀ p ∈ l, (cutP more p).length ≤ 200 := fun p hpm => by
              unfold cutP
              have := hp1 p hpm
              have := reach_len p
              split
              · rw [List.length_append]; omega
              · omega
            have hpo : poks (l.map (cutP more)) := by
              refine ⟨by rw [List.length_map]; omega, fun p hpm => ?_⟩
              obtain ⟨q, hq, rfl⟩ := List.mem_map.1 hpm
              have := hcl q hq
              refine ⟨by omega, by omega, fun x hx => ?_⟩
              unfold cutP at hx
              split at hx
              · rcases List.mem_append.1 hx with h | h
                · exact ha q hq x (reach_mem h)
                · exact hm x h
              · exact ha q hq x hx
            have hlen : (l.map (cutP more)).length = l.length := List.length_map _
            refine whileO_inr (k := true) ?_
            rw [go_ravellaw04_CodeCut_s7, if_neg (by simp)]
            cases hc2 : ckAll (l.map (cutP more)) with
            | false =>
              rw [tasks_bad hpo (.inl hc2)]
              simp only [Option.bind_some]
              rw [if_pos (by simp), if_pos (by simp), checkAll_eq hpo, hc2]; rfl
            | true =>
              rcases tasks_ok hpo hc2 (i := i) (by rw [hlen]; exact hi) with ⟨m', k', c1, c2⟩ | ⟨c1, _⟩
              · rw [D_cut] at c1
                have := D_uniq c1 d1
                subst this
                rw [if_neg hk] at c2
                rw [c2]
                simp only [Option.bind_some]
                obtain ⟨q, rfl⟩ : ∃ q : Nat, i = (q : Int) := ⟨i.toNat, by omega⟩
                have hq : q < l.length := by omega
                have hck1 := (ckAll_pr hc).2 _ (List.getElem_mem hq)
                have hck2 := (ckAll_pr hc2).2 (cutP more l[q]) (List.mem_map.2 ⟨_, List.getElem_mem hq, rfl⟩)
                have hpk1 := (hp.2 _ (List.getElem_mem hq)).2
                have hpk2 := (hpo.2 (cutP more l[q]) (List.mem_map.2 ⟨_, List.getElem_mem hq, rfl⟩)).2
                rw [if_neg (by simp), if_pos hi, gt_map, gt_nat hq, units_eq hpk1, hck1]
                simp only [Option.bind_some]
                rw [if_pos (by rw [hlen]; exact hi), units_eq hpk2, hck2]
                have hun : un (cutP more l[q]) = un l[q] := by unfold un; rw [reach_cut]
                simp [hun]
              · rw [← D_cut more l m i, c1 m] at d1; cases d1
        · rw [d2]; rfl

end Go.Proofs.Ytdlpecjbafadkaa
