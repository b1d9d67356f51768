/- Helper lemmas for the claim's theorem: an abstract machine over the model, proved sound; no condition beyond each lemma's own. -/
import Derived.Test.YtoapmmcoaggekaaL07c
set_option linter.unusedVariables false
set_option linter.unusedSimpArgs false
set_option linter.unnecessarySimpa false
set_option linter.unusedSectionVars false
/- Plain laws on the printed functions. -/
namespace Go.Proofs.Ytoapmmcoaggekaa
open Go Go.AM
set_option maxRecDepth 100000
set_option maxHeartbeats 1000000
set_option linter.unusedVariables false
set_option linter.unusedSimpArgs false
/-- A step of the reference ends, and it goes on. -/
def To (n : Nat) (pc : Int) (o : Option (List Int × api_Hand × Bool)) : Prop :=
  ∃ r, o = some r ∧ (r.2.2 = true → r.1.length = n ∧ (r.2.1.State ≠ 0 ∨ pc < r.2.1.Pc))
theorem to_of {n : Nat} {pc : Int} {m : List Int} {h : api_Hand} {b : Bool} (h1 : b = true → m.length = n) (h2 : h.State ≠ 0 ∨ pc < h.Pc) : To n pc (some (m, h, b)) := ⟨_, rfl, fun hb => ⟨h1 hb, h2⟩⟩
theorem to_no {n : Nat} {pc : Int} {m : List Int} {h : api_Hand} : To n pc (some (m, h, false)) := ⟨_, rfl, fun hb => by simp at hb⟩
theorem push_to {m : List Int} {q : api_Deque} (e : Env7 m q) {K Pc V T B : Int} {W : Bool} (hp : Pc = 0 ∨ Pc = 1 ∨ Pc = 2 ∨ Pc = 3) : To m.length Pc (go_ravelref07_push m q ⟨K, Pc, V, T, B, W, 0⟩) := by
  have b1 := e.b1
  have b2 := e.b2
  have wb := e.wb
  unfold go_ravelref07_push letO go_ravelref07_at go_ravelref07_ended
  rcases hp with rfl | rfl | rfl | rfl <;> rcases Int.lt_or_le B 0 with hB0 | hB0 <;> simp [b1, b2, wb, e.w2, e.w3, e.r3, hB0, Int.not_lt.2] <;> (repeat' split) <;> first | exact to_no | (refine to_of ?_ ?_ <;> simp [st_len])
theorem steal_to {m : List Int} {q : api_Deque} (e : Env7 m q) {K Pc V T B : Int} {W : Bool} (hp : Pc = 0 ∨ Pc = 1 ∨ Pc = 2 ∨ Pc = 3) : To m.length Pc (go_ravelref07_steal m q ⟨K, Pc, V, T, B, W, 0⟩) := by
  have b1 := e.b1
  have b2 := e.b2
  have wb := e.wb
  unfold go_ravelref07_steal letO go_ravelref07_at go_ravelref07_ended
  rcases hp with rfl | rfl | rfl | rfl <;> rcases Int.lt_or_le T 0 with hT0 | hT0 <;> simp [b1, b2, wb, e.w1, e.w2, e.w3, e.r3, e.b3, hT0, Int.not_lt.2] <;> (repeat' split) <;> first | exact to_no | (refine to_of ?_ ?_ <;> simp [st_len])
theorem pop_to {m : List Int} {q : api_Deque} (e : Env7 m q) {K Pc V T B : Int} {W : Bool} (hp : Pc = 0 ∨ Pc = 1 ∨ Pc = 2 ∨ Pc = 3 ∨ Pc = 4 ∨ Pc = 5 ∨ Pc = 6) : To m.length Pc (go_ravelref07_pop m q ⟨K, Pc, V, T, B, W, 0⟩) := by
  have b1 := e.b1
  have b2 := e.b2
  have wb := e.wb
  unfold go_ravelref07_pop go_ravelref07_pop_j2 go_ravelref07_pop_j3 letO go_ravelref07_at go_ravelref07_ended
  rcases hp with rfl | rfl | rfl | rfl | rfl | rfl | rfl <;> rcases Int.lt_or_le T 0 with hT0 | hT0 <;> rcases Int.lt_or_le B 0 with hB0 | hB0 <;> simp [b1, b2, wb, e.w1, e.w2, e.w3, e.r3, e.b3, hT0, hB0, Int.not_lt.2] <;> (repeat' split) <;> first | exact to_no | (refine to_of ?_ ?_ <;> simp [st_len])
theorem j1_to {n : Nat} {pc : Int} {o : Option (List Int × api_Hand × Bool)} (h : To n pc o) {g : List Int × api_Hand × Bool → Option (List Int × api_Hand × Int)} (hg : ∀ m h b, g (m, h, b) = go_ravelref07_Step_j1 m b h.Kind h.Pc h.V h.T h.B h.Won h.State) : ∃ r, o.bind g = some r ∧ (r.2.2 = 0 → r.1.length = n ∧ (r.2.1.State ≠ 0 ∨ pc < r.2.1.Pc)) ∧ (r.2.2 ≠ 0 → r.1 = []) := by
  obtain ⟨⟨m, h', b⟩, rfl, h2⟩ := h
  rw [Option.bind_some, hg, go_ravelref07_Step_j1]
  cases b with
  | false => exact ⟨_, rfl, fun hz => absurd hz (by decide), fun _ => rfl⟩
  | true => exact ⟨_, rfl, fun _ => h2 rfl, fun hz => absurd rfl hz⟩
theorem step_to {m : List Int} {q : api_Deque} (hq : QOk m q) {K Pc V T B : Int} {W : Bool} (hm : go_ravelref07_May ⟨K, Pc, V, T, B, W, 0⟩ = true) : ∃ r, go_ravelref07_Step m q ⟨K, Pc, V, T, B, W, 0⟩ = some r ∧ (r.2.2 = 0 → r.1.length = m.length ∧ (r.2.1.State ≠ 0 ∨ Pc < r.2.1.Pc)) ∧ (r.2.2 ≠ 0 → r.1 = []) := by
  obtain ⟨c1, c2⟩ := check_yes hq
  have e := env7 hq
  have hf : few m.length := by have := hq.len; unfold few; omega
  obtain ⟨hk, hT, hB⟩ := may_cases hm
  simp only at hk hT hB
  rw [go_ravelref07_Step, c2, hm, if_neg (by simp), if_neg (by simp), List.nil_append, if_pos hf]
  rcases hk with ⟨rfl, hp⟩ | ⟨rfl, hp⟩ | ⟨rfl, hp⟩
  · rw [if_pos (by rfl)]
    exact j1_to (push_to e hp) (fun _ _ _ => rfl)
  · rw [if_neg (by simp), if_pos (by rfl)]
    exact j1_to (pop_to e hp) (fun _ _ _ => rfl)
  · rw [if_neg (by simp), if_neg (by simp)]
    exact j1_to (steal_to e hp) (fun _ _ _ => rfl)
theorem qok_len {m m' : List Int} {q : api_Deque} (h : QOk m q) (hl : m'.length = m.length) : QOk m' q := by
  obtain ⟨h1, h2, h3, h4⟩ := h
  exact ⟨by omega, h2, h3, by omega⟩
/-- Both answer, and the same. -/
def Same7 (a b : Option (List Int × api_Hand × Int)) : Prop := ∃ x, a = some x ∧ b = some x ∧ x.1.length ≤ 65536
theorem loops_to {q : api_Deque} : ∀ (n : Nat) (m : List Int) (K Pc V T B : Int) (W : Bool) (S : Int), QOk m q → 7 ≤ Pc + n →
    Same7 (whileO (go_ring_Solo_s2 q) (m, K, Pc, V, T, B, W, S)) (whileO (go_ravelref07_Solo_s2 q) (m, K, Pc, V, T, B, W, S)) := by
  intro n
  induction n with
  | zero =>
    intro m K Pc V T B W S hq hn
    by_cases hS : S = 0
    · subst hS
      have hm : go_ravelref07_May ⟨K, Pc, V, T, B, W, 0⟩ = false := by
        cases hm : go_ravelref07_May ⟨K, Pc, V, T, B, W, 0⟩ with
        | false => rfl
        | true => obtain ⟨hk, hT, hB⟩ := may_cases hm; simp only at hk; omega
      refine ⟨([], api_Hand.zero, 1), whileO_inr ?_, whileO_inr ?_, by simp⟩
      · rw [go_ring_Solo_s2, if_pos (by rfl), go_ring_Step, may_eq, hm, if_pos (by simp)]; rfl
      · rw [go_ravelref07_Solo_s2, if_pos (by rfl), go_ravelref07_Step, hm, if_pos (by simp)]; rfl
    · refine ⟨(m, ⟨K, Pc, V, T, B, W, S⟩, 0), whileO_inr ?_, whileO_inr ?_, hq.len⟩
      · rw [go_ring_Solo_s2, if_neg (by simpa using hS)]; rfl
      · rw [go_ravelref07_Solo_s2, if_neg (by simpa using hS)]; rfl
  | succ n ih =>
    intro m K Pc V T B W S hq hn
    by_cases hS : S = 0
    · subst hS
      cases hm : go_ravelref07_May ⟨K, Pc, V, T, B, W, 0⟩ with
      | false =>
        refine ⟨([], api_Hand.zero, 1), whileO_inr ?_, whileO_inr ?_, by simp⟩
        · rw [go_ring_Solo_s2, if_pos (by rfl), go_ring_Step, may_eq, hm, if_pos (by simp)]; rfl
        · rw [go_ravelref07_Solo_s2, if_pos (by rfl), go_ravelref07_Step, hm, if_pos (by simp)]; rfl
      | true =>
        obtain ⟨⟨m', h', z⟩, hr, h0, h1⟩ := step_to hq hm
        have hs := step_same hq hm
        rw [hr] at hs
        by_cases hz : z = 0
        · subst hz
          obtain ⟨hl, hg⟩ := h0 rfl
          simp only at hl hg
          have e1 : whileO (go_ring_Solo_s2 q) (m, K, Pc, V, T, B, W, 0) = whileO (go_ring_Solo_s2 q) (m', h'.Kind, h'.Pc, h'.V, h'.T, h'.B, h'.Won, h'.State) := by
            refine whileO_inl ?_
            rw [go_ring_Solo_s2, if_pos (by rfl), hs, Option.bind_some]; rfl
          have e2 : whileO (go_ravelref07_Solo_s2 q) (m, K, Pc, V, T, B, W, 0) = whileO (go_ravelref07_Solo_s2 q) (m', h'.Kind, h'.Pc, h'.V, h'.T, h'.B, h'.Won, h'.State) := by
            refine whileO_inl ?_
            rw [go_ravelref07_Solo_s2, if_pos (by rfl), hr, Option.bind_some]; rfl
          rw [e1, e2]
          by_cases hS : h'.State = 0
          · refine ih m' _ _ _ _ _ _ _ (qok_len hq hl) ?_
            rcases hg with hg | hg
            · exact absurd hS hg
            · push_cast at hn; omega
          · refine ⟨(m', h', 0), whileO_inr ?_, whileO_inr ?_, by have := hq.len; simp only; omega⟩
            · rw [go_ring_Solo_s2, if_neg (by simpa using hS)]; rfl
            · rw [go_ravelref07_Solo_s2, if_neg (by simpa using hS)]; rfl
        · refine ⟨([], api_Hand.zero, z), whileO_inr ?_, whileO_inr ?_, by simp⟩
          · rw [go_ring_Solo_s2, if_pos (by rfl), hs, Option.bind_some]
            simp only
            rw [if_pos (by simpa using hz)]; rfl
          · rw [go_ravelref07_Solo_s2, if_pos (by rfl), hr, Option.bind_some]
            simp only
            rw [if_pos (by simpa using hz)]; rfl
    · refine ⟨(m, ⟨K, Pc, V, T, B, W, S⟩, 0), whileO_inr ?_, whileO_inr ?_, hq.len⟩
      · rw [go_ring_Solo_s2, if_neg (by simpa using hS)]; rfl
      · rw [go_ravelref07_Solo_s2, if_neg (by simpa using hS)]; rfl
theorem no_go {m : List Int} {q : api_Deque} {h : api_Hand} (hl : m.length ≤ 100000) (hn : ¬ (QOk m q ∧ go_ravelref07_May h = true)) : (((go_ring_Check m q) != 0) || (!(go_ring_may h))) = true ∧ (((go_ravelref07_Check m q) != 0) || (!(go_ravelref07_May h))) = true := by
  rw [may_eq]
  by_cases hq : QOk m q
  · cases hm : go_ravelref07_May h with
    | false => simp
    | true => exact absurd ⟨hq, hm⟩ hn
  · obtain ⟨c1, c2⟩ := check_no hq hl
    rw [c1, c2]; simp
theorem solos_to {m : List Int} {q : api_Deque} {h : api_Hand} (hl : m.length ≤ 60000) : Same7 (go_ring_Solo m q h) (go_ravelref07_Solo m q h) := by
  by_cases hn : QOk m q ∧ go_ravelref07_May h = true
  · obtain ⟨hq, hm⟩ := hn
    obtain ⟨c1, c2⟩ := check_yes hq
    have hf : few m.length := by unfold few; omega
    rw [go_ring_Solo, go_ravelref07_Solo, c1, c2, may_eq, hm, if_neg (by simp), List.nil_append, if_pos hf, if_neg (by simp), if_pos hf]
    refine loops_to 7 _ _ _ _ _ _ _ _ hq ?_
    obtain ⟨hk, hT, hB⟩ := may_cases hm
    omega
  · obtain ⟨g1, g2⟩ := no_go (by omega) hn
    refine ⟨([], api_Hand.zero, 1), ?_, ?_, by simp⟩
    · rw [go_ring_Solo, if_pos g1]
    · rw [go_ravelref07_Solo, if_pos g2]
end Go.Proofs.Ytoapmmcoaggekaa
