/- Helper lemmas for the claim's theorem: an abstract machine over the model, proved sound; no condition beyond each lemma's own. -/
import Derived.Test.YtoapmmcoaggekaaL07b
set_option linter.unusedVariables false
set_option linter.unusedSimpArgs false
set_option linter.unnecessarySimpa false
set_option linter.unusedSectionVars false
/- Plain laws on the printed functions. -/
namespace Go.Proofs.Ytoapmmcoaggekaa
open Go Go.AM
set_option maxRecDepth 100000
set_option maxHeartbeats 1000000
set_option linter.unusedVariables false
set_option linter.unusedSimpArgs false
theorem acc_eq (k : Int) : go_ring_accesses k = if k = 1 then [37, 38, 39, 40] else if k = 2 then [41, 42, 43, 44, 45, 46, 47] else if k = 3 then [37, 48, 49, 50] else [] := by
  have e : mput (mput (mput ([] : List (Int × List Nat)) 1 [37, 38, 39, 40]) 2 [41, 42, 43, 44, 45, 46, 47]) 3 [37, 48, 49, 50] = [(1, [37, 38, 39, 40]), (2, [41, 42, 43, 44, 45, 46, 47]), (3, [37, 48, 49, 50])] := rfl
  unfold go_ring_accesses
  rw [e]
  simp only [mget]
  by_cases h1 : k = 1
  · subst h1; rfl
  · by_cases h2 : k = 2
    · subst h2; rfl
    · by_cases h3 : k = 3
      · subst h3; rfl
      · simp [h1, h2, h3]
theorem may_eq (h : api_Hand) : go_ring_may h = go_ravelref07_May h := by
  have hp : ((go_ring_accesses h.Kind).length : Int) = go_ravelref07_pcs h.Kind := by
    rw [acc_eq]; unfold go_ravelref07_pcs
    by_cases h1 : h.Kind = 1
    · simp [h1]
    · by_cases h2 : h.Kind = 2
      · simp [h2]
      · by_cases h3 : h.Kind = 3
        · simp [h3]
        · simp [h1, h2, h3]
  unfold go_ring_may go_ravelref07_May letO go_ravelref07_count
  simp only
  rw [hp, Bool.eq_iff_iff]
  by_cases hb : h.B < h.T
  · by_cases hc : h.B > h.T
    · omega
    · simp [hb, hc]; omega
  · by_cases hc : h.B > h.T
    · simp [hb, hc]; omega
    · simp [hb, hc]; omega
theorem may_cases {h : api_Hand} (hm : go_ravelref07_May h = true) : ((h.Kind = 1 ∧ (h.Pc = 0 ∨ h.Pc = 1 ∨ h.Pc = 2 ∨ h.Pc = 3)) ∨ (h.Kind = 2 ∧ (h.Pc = 0 ∨ h.Pc = 1 ∨ h.Pc = 2 ∨ h.Pc = 3 ∨ h.Pc = 4 ∨ h.Pc = 5 ∨ h.Pc = 6)) ∨ (h.Kind = 3 ∧ (h.Pc = 0 ∨ h.Pc = 1 ∨ h.Pc = 2 ∨ h.Pc = 3))) ∧ (-1 ≤ h.T ∧ h.T ≤ 1099511627776) ∧ (-1 ≤ h.B ∧ h.B ≤ 1099511627776) := by
  unfold go_ravelref07_May go_ravelref07_count at hm
  have hp : go_ravelref07_pcs h.Kind = if h.Kind = 1 then 4 else if h.Kind = 2 then 7 else if h.Kind = 3 then 4 else 0 := by
    unfold go_ravelref07_pcs
    by_cases h1 : h.Kind = 1
    · simp [h1]
    · by_cases h2 : h.Kind = 2
      · simp [h2]
      · by_cases h3 : h.Kind = 3
        · simp [h3]
        · simp [h1, h2, h3]
  rw [hp] at hm
  by_cases h1 : h.Kind = 1
  · simp [h1] at hm ⊢; omega
  · by_cases h2 : h.Kind = 2
    · simp [h2] at hm ⊢; omega
    · by_cases h3 : h.Kind = 3
      · simp [h3] at hm ⊢; omega
      · simp [h1, h2, h3] at hm
        omega
theorem start_eq (k v : Int) : go_ring_Start k v = go_ravelref07_Start k v := by
  unfold go_ring_Start go_ravelref07_Start letO go_ravelref07_pcs
  rw [acc_eq]
  by_cases h1 : k = 1
  · simp [h1]
  · by_cases h2 : k = 2
    · simp [h2]
    · by_cases h3 : k = 3
      · simp [h3]
      · simp [h1, h2, h3]
/-- What the parts of a step come to, at a deque that may be. -/
structure Env7 (m : List Int) (q : api_Deque) : Prop where
  l1 : go_cell_Load m q.Base = some (gt m q.Base, 0)
  l2 : go_cell_Load m (q.Base + 1) = some (gt m (q.Base + 1), 0)
  l3 : ∀ n, 0 ≤ n → go_cell_Load m (slot q n) = some (gt m (slot q n), 0)
  s2 : ∀ x, go_cell_Store m (q.Base + 1) x = some (st m (q.Base + 1) x, 0)
  s3 : ∀ n x, 0 ≤ n → go_cell_Store m (slot q n) x = some (st m (slot q n) x, 0)
  c1 : ∀ o x, go_cell_Cas m q.Base o x = some (if (gt m q.Base == o) = true then st m q.Base x else m, gt m q.Base == o, 0)
  w1 : ∀ x, go_ravelref01_With m q.Base x = some (st m q.Base x)
  w2 : ∀ x, go_ravelref01_With m (q.Base + 1) x = some (st m (q.Base + 1) x)
  w3 : ∀ n x, 0 ≤ n → go_ravelref01_With m (slot q n) x = some (st m (slot q n) x)
  t1 : ∀ a : ring_actor, a.q = q → go_pring_actor_top a = q.Base
  t2 : ∀ a : ring_actor, a.q = q → go_pring_actor_bottom a = q.Base + 1
  t3 : ∀ (a : ring_actor) n, a.q = q → 0 ≤ n → go_pring_actor_slot a n = some (slot q n)
  r3 : ∀ n, 0 ≤ n → go_ravelref07_slot q n = some (slot q n)
  b1 : 0 ≤ q.Base ∧ q.Base < m.length
  b2 : 0 ≤ q.Base + 1 ∧ q.Base + 1 < m.length
  b3 : ∀ n, 0 ≤ n → 0 ≤ slot q n ∧ slot q n < m.length
  wb : IntKind.i64.wrap (q.Base + 1) = q.Base + 1
theorem env7 {m : List Int} {q : api_Deque} (h : QOk m q) : Env7 m q := by
  obtain ⟨b1, b2⟩ := base_in h
  have hl := h.len
  exact ⟨load_ok hl b1, load_ok hl b2, fun n hn => load_ok hl (slot_in h hn), fun x => store_ok x hl b2, fun n x hn => store_ok x hl (slot_in h hn), fun o x => cas_ok o x hl b1, fun x => with_ok x hl b1, fun x => with_ok x hl b2, fun n x hn => with_ok x hl (slot_in h hn),
    fun a ha => top_ok a ha, fun a ha => bot_ok h a ha, fun a n ha hn => slot_ok h a ha hn, fun n hn => rslot_ok h hn, b1, b2, fun n hn => slot_in h hn, w64_id (by omega) (by omega)⟩
theorem gA0 : gt [37, 38, 39, 40] 0 = 37 := rfl
theorem gA1 : gt [37, 38, 39, 40] 1 = 38 := rfl
theorem gA2 : gt [37, 38, 39, 40] 2 = 39 := rfl
theorem gA3 : gt [37, 38, 39, 40] 3 = 40 := rfl
theorem gB0 : gt [41, 42, 43, 44, 45, 46, 47] 0 = 41 := rfl
theorem gB1 : gt [41, 42, 43, 44, 45, 46, 47] 1 = 42 := rfl
theorem gB2 : gt [41, 42, 43, 44, 45, 46, 47] 2 = 43 := rfl
theorem gB3 : gt [41, 42, 43, 44, 45, 46, 47] 3 = 44 := rfl
theorem gB4 : gt [41, 42, 43, 44, 45, 46, 47] 4 = 45 := rfl
theorem gB5 : gt [41, 42, 43, 44, 45, 46, 47] 5 = 46 := rfl
theorem gB6 : gt [41, 42, 43, 44, 45, 46, 47] 6 = 47 := rfl
theorem gC0 : gt [37, 48, 49, 50] 0 = 37 := rfl
theorem gC1 : gt [37, 48, 49, 50] 1 = 48 := rfl
theorem gC2 : gt [37, 48, 49, 50] 2 = 49 := rfl
theorem gC3 : gt [37, 48, 49, 50] 3 = 50 := rfl
theorem step_same {m : List Int} {q : api_Deque} (hq : QOk m q) {K Pc V T B : Int} {W : Bool} (hm : go_ravelref07_May ⟨K, Pc, V, T, B, W, 0⟩ = true) : go_ring_Step m q ⟨K, Pc, V, T, B, W, 0⟩ = go_ravelref07_Step m q ⟨K, Pc, V, T, B, W, 0⟩ := by
  obtain ⟨c1, c2⟩ := check_yes hq
  have e := env7 hq
  have hf : few m.length := by have := hq.len; unfold few; omega
  have hm1 : go_ring_may ⟨K, Pc, V, T, B, W, 0⟩ = true := by rw [may_eq]; exact hm
  obtain ⟨hk, hT, hB⟩ := may_cases hm
  simp only at hk hT hB
  rw [go_ravelref07_Step, c2, hm, if_neg (by simp), if_neg (by simp), List.nil_append, if_pos hf]
  rw [go_ring_Step, c1, hm1, if_neg (by simp), if_neg (by simp), List.nil_append, if_pos hf, acc_eq]
  have b1 := e.b1
  have b2 := e.b2
  obtain ⟨x, hx⟩ : ∃ x, gt m q.Base = x := ⟨_, rfl⟩
  obtain ⟨y, hy⟩ : ∃ y, gt m (q.Base + 1) = y := ⟨_, rfl⟩
  have l1 := e.l1
  have l2 := e.l2
  have t1 := e.t1
  have t2 := e.t2
  have wb := e.wb
  have c1 := e.c1
  rw [hx] at l1 c1
  rw [hy] at l2
  have n1 : IntKind.i64.wrap 1 = 1 := rfl
  have n2 : IntKind.i64.wrap 2 = 2 := rfl
  have n3 : IntKind.i64.wrap 3 = 3 := rfl
  have n4 : IntKind.i64.wrap 4 = 4 := rfl
  have n5 : IntKind.i64.wrap 5 = 5 := rfl
  have n6 : IntKind.i64.wrap 6 = 6 := rfl
  have wB : IntKind.i64.wrap (B - 1) = B - 1 := w64_id (by omega) (by omega)
  rcases Int.lt_or_le B 0 with hB0 | hB0 <;> rcases Int.lt_or_le T 0 with hT0 | hT0
  all_goals
    rcases hk with ⟨rfl, hp⟩ | ⟨rfl, hp⟩ | ⟨rfl, hp⟩
    · rcases hp with rfl | rfl | rfl | rfl <;> (simp [letO, gA0, gA1, gA2, gA3, gB0, gB1, gB2, gB3, gB4, gB5, gB6, gC0, gC1, gC2, gC3, l1, l2, t1, t2, wb, hx, hy, b1, b2, hB0, hT0, wB, n1, n2, n3, n4, n5, n6, c1, e.l3, e.s2, e.s3, e.w1, e.w2, e.w3, e.t3, e.r3, e.b3, Int.not_le.2, Int.not_lt.2, go_ring_Step_j100, go_ring_Step_j101, go_ring_Step_j102, go_ring_Step_j105, go_ring_Step_j107, go_ring_Step_j108, go_ring_Step_j113, go_ring_Step_j114, go_ring_Step_j115, go_ring_Step_j118, go_ring_Step_j120, go_ring_Step_j121, go_ring_Step_j126, go_ring_Step_j127, go_ring_Step_j128, go_ring_Step_j131, go_ring_Step_j133, go_ring_Step_j134, go_ring_Step_j135, go_ring_Step_j138, go_ring_Step_j139, go_ring_Step_j141, go_ring_Step_j142, go_ring_Step_j144, go_ring_Step_j145, go_ring_Step_j146, go_ring_Step_j149, go_ring_Step_j151, go_ring_Step_j152, go_ring_Step_j157, go_ring_Step_j158, go_ring_Step_j159, go_ring_Step_j160, go_ring_Step_j163, go_ring_Step_j165, go_ring_Step_j166, go_ring_Step_j168, go_ring_Step_j169, go_ring_Step_j81, go_ring_Step_j86, go_ring_Step_j87, go_ring_Step_j92, go_ring_Step_j93, go_ring_Step_j94, go_ring_Step_j95, go_ring_Step_j98, go_ravelref07_Step_j1, go_ravelref07_push, go_ravelref07_pop, go_ravelref07_pop_j2, go_ravelref07_pop_j3, go_ravelref07_steal, go_ravelref07_at, go_ravelref07_ended, go_ravelref07_count]; try (first | omega | (by_cases h7 : q.Cap ≤ IntKind.i64.wrap (y - T) <;> by_cases h8 : B < x <;> by_cases h9 : IntKind.i64.wrap (y - T) < 1 <;> by_cases h10 : x = T <;> (try simp [h7, h8, h9, h10]) <;> (repeat' split) <;> first | rfl | (exfalso; omega) | (simp_all; done) | (simp_all; omega))))
    · rcases hp with rfl | rfl | rfl | rfl | rfl | rfl | rfl <;> (simp [letO, gA0, gA1, gA2, gA3, gB0, gB1, gB2, gB3, gB4, gB5, gB6, gC0, gC1, gC2, gC3, l1, l2, t1, t2, wb, hx, hy, b1, b2, hB0, hT0, wB, n1, n2, n3, n4, n5, n6, c1, e.l3, e.s2, e.s3, e.w1, e.w2, e.w3, e.t3, e.r3, e.b3, Int.not_le.2, Int.not_lt.2, go_ring_Step_j100, go_ring_Step_j101, go_ring_Step_j102, go_ring_Step_j105, go_ring_Step_j107, go_ring_Step_j108, go_ring_Step_j113, go_ring_Step_j114, go_ring_Step_j115, go_ring_Step_j118, go_ring_Step_j120, go_ring_Step_j121, go_ring_Step_j126, go_ring_Step_j127, go_ring_Step_j128, go_ring_Step_j131, go_ring_Step_j133, go_ring_Step_j134, go_ring_Step_j135, go_ring_Step_j138, go_ring_Step_j139, go_ring_Step_j141, go_ring_Step_j142, go_ring_Step_j144, go_ring_Step_j145, go_ring_Step_j146, go_ring_Step_j149, go_ring_Step_j151, go_ring_Step_j152, go_ring_Step_j157, go_ring_Step_j158, go_ring_Step_j159, go_ring_Step_j160, go_ring_Step_j163, go_ring_Step_j165, go_ring_Step_j166, go_ring_Step_j168, go_ring_Step_j169, go_ring_Step_j81, go_ring_Step_j86, go_ring_Step_j87, go_ring_Step_j92, go_ring_Step_j93, go_ring_Step_j94, go_ring_Step_j95, go_ring_Step_j98, go_ravelref07_Step_j1, go_ravelref07_push, go_ravelref07_pop, go_ravelref07_pop_j2, go_ravelref07_pop_j3, go_ravelref07_steal, go_ravelref07_at, go_ravelref07_ended, go_ravelref07_count]; try (first | omega | (by_cases h7 : q.Cap ≤ IntKind.i64.wrap (y - T) <;> by_cases h8 : B < x <;> by_cases h9 : IntKind.i64.wrap (y - T) < 1 <;> by_cases h10 : x = T <;> (try simp [h7, h8, h9, h10]) <;> (repeat' split) <;> first | rfl | (exfalso; omega) | (simp_all; done) | (simp_all; omega))))
    · rcases hp with rfl | rfl | rfl | rfl <;> (simp [letO, gA0, gA1, gA2, gA3, gB0, gB1, gB2, gB3, gB4, gB5, gB6, gC0, gC1, gC2, gC3, l1, l2, t1, t2, wb, hx, hy, b1, b2, hB0, hT0, wB, n1, n2, n3, n4, n5, n6, c1, e.l3, e.s2, e.s3, e.w1, e.w2, e.w3, e.t3, e.r3, e.b3, Int.not_le.2, Int.not_lt.2, go_ring_Step_j100, go_ring_Step_j101, go_ring_Step_j102, go_ring_Step_j105, go_ring_Step_j107, go_ring_Step_j108, go_ring_Step_j113, go_ring_Step_j114, go_ring_Step_j115, go_ring_Step_j118, go_ring_Step_j120, go_ring_Step_j121, go_ring_Step_j126, go_ring_Step_j127, go_ring_Step_j128, go_ring_Step_j131, go_ring_Step_j133, go_ring_Step_j134, go_ring_Step_j135, go_ring_Step_j138, go_ring_Step_j139, go_ring_Step_j141, go_ring_Step_j142, go_ring_Step_j144, go_ring_Step_j145, go_ring_Step_j146, go_ring_Step_j149, go_ring_Step_j151, go_ring_Step_j152, go_ring_Step_j157, go_ring_Step_j158, go_ring_Step_j159, go_ring_Step_j160, go_ring_Step_j163, go_ring_Step_j165, go_ring_Step_j166, go_ring_Step_j168, go_ring_Step_j169, go_ring_Step_j81, go_ring_Step_j86, go_ring_Step_j87, go_ring_Step_j92, go_ring_Step_j93, go_ring_Step_j94, go_ring_Step_j95, go_ring_Step_j98, go_ravelref07_Step_j1, go_ravelref07_push, go_ravelref07_pop, go_ravelref07_pop_j2, go_ravelref07_pop_j3, go_ravelref07_steal, go_ravelref07_at, go_ravelref07_ended, go_ravelref07_count]; try (first | omega | (by_cases h7 : q.Cap ≤ IntKind.i64.wrap (y - T) <;> by_cases h8 : B < x <;> by_cases h9 : IntKind.i64.wrap (y - T) < 1 <;> by_cases h10 : x = T <;> (try simp [h7, h8, h9, h10]) <;> (repeat' split) <;> first | rfl | (exfalso; omega) | (simp_all; done) | (simp_all; omega))))

end Go.Proofs.Ytoapmmcoaggekaa
