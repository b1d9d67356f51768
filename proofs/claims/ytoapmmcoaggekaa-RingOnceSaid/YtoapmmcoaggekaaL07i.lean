/- Helper lemmas for the claim's theorem: an abstract machine over the model, proved sound; no condition beyond each lemma's own. -/
import Derived.Test.YtoapmmcoaggekaaL07h
set_option linter.unusedVariables false
set_option linter.unusedSimpArgs false
set_option linter.unnecessarySimpa false
set_option linter.unusedSectionVars false
/- Plain laws on the printed functions. -/
namespace Go.Proofs.Ytoapmmcoaggekaa
open Go Go.AM
set_option maxRecDepth 100000
set_option maxHeartbeats 1000000
set_option linter.unusedVariables false
set_option linter.unusedSimpArgs false
theorem rs1 {m m' : List Int} {q : api_Deque} (hq : QOk m q) {K Pc V T B : Int} {W : Bool} {h' : api_Hand} (hm : go_ravelref07_May ⟨K, Pc, V, T, B, W, 0⟩ = true)
    (h1 : K = 1 → go_ravelref07_push m q ⟨K, Pc, V, T, B, W, 0⟩ = some (m', h', true)) (h2 : K = 2 → go_ravelref07_pop m q ⟨K, Pc, V, T, B, W, 0⟩ = some (m', h', true)) (h3 : K = 3 → go_ravelref07_steal m q ⟨K, Pc, V, T, B, W, 0⟩ = some (m', h', true)) :
    go_ring_Step m q ⟨K, Pc, V, T, B, W, 0⟩ = some (m', h', 0) := by
  rw [step_same hq hm]
  obtain ⟨c1, c2⟩ := check_yes hq
  have hf : few m.length := by have := hq.len; unfold few; omega
  obtain ⟨hk, hT, hB⟩ := may_cases hm
  simp only at hk hT hB
  rw [go_ravelref07_Step, c2, hm, if_neg (by simp), if_neg (by simp), List.nil_append, if_pos hf]
  rcases hk with ⟨rfl, hp⟩ | ⟨rfl, hp⟩ | ⟨rfl, hp⟩
  · rw [if_pos (by rfl), h1 rfl]; rfl
  · rw [if_neg (by simp), if_pos (by rfl), h2 rfl]; rfl
  · rw [if_neg (by simp), if_neg (by simp), h3 rfl]; rfl
/-- What is asked of a deque's memory, and a hand's numbers. -/
structure Fit (m : List Int) (q : api_Deque) (T B : Int) : Prop where
  ok : QOk m q
  t : 0 ≤ gt m q.Base ∧ gt m q.Base ≤ 100000
  b : -1 ≤ gt m (q.Base + 1) ∧ gt m (q.Base + 1) ≤ 100000
  T : -1 ≤ T ∧ T ≤ 100000
  B : -1 ≤ B ∧ B ≤ 100000
theorem cnt_yes {n l : Int} (h : l ≤ n ∧ n ≤ 100000) : go_ravelref07_count n l = true := by unfold go_ravelref07_count; simp; omega
theorem p0 {m : List Int} {q : api_Deque} {V T B : Int} {W : Bool} (f : Fit m q T B) : go_ring_Step m q ⟨1, 0, V, T, B, W, 0⟩ = some (m, ⟨1, 1, V, gt m q.Base, B, W, 0⟩, 0) := by
  obtain ⟨hq, ft, fb, fT, fB⟩ := f
  have e := env7 hq
  refine rs1 hq (may_yes (by omega) (by omega) (by omega)) (fun _ => ?_) (fun e => by omega) (fun e => by omega)
  unfold go_ravelref07_push letO go_ravelref07_at
  simp [e.b1, cnt_yes (l := 0) (n := gt m q.Base) (by omega)]
theorem p1 {m : List Int} {q : api_Deque} {V T B : Int} {W : Bool} (f : Fit m q T B) (hb : 0 ≤ gt m (q.Base + 1)) : go_ring_Step m q ⟨1, 1, V, T, B, W, 0⟩ = some (m, (if gt m (q.Base + 1) - T ≥ q.Cap then ⟨1, 1, V, T, gt m (q.Base + 1), W, 3⟩ else ⟨1, 2, V, T, gt m (q.Base + 1), W, 0⟩), 0) := by
  obtain ⟨hq, ft, fb, fT, fB⟩ := f
  have e := env7 hq
  have b2 := e.b2
  have wb := e.wb
  have w1 : IntKind.i64.wrap (gt m (q.Base + 1) - T) = gt m (q.Base + 1) - T := w64_id (by omega) (by omega)
  refine rs1 hq (may_yes (by omega) (by omega) (by omega)) (fun _ => ?_) (fun e => by omega) (fun e => by omega)
  unfold go_ravelref07_push letO go_ravelref07_at go_ravelref07_ended
  rw [if_neg (by simp), if_pos (by rfl)]
  simp only [wb, w1]
  rw [if_pos b2, cnt_yes (l := 0) (n := gt m (q.Base + 1)) (by omega)]
  by_cases h : gt m (q.Base + 1) - T ≥ q.Cap
  · rw [if_pos (by simpa using h), if_pos h]
  · rw [if_neg (by simpa using h), if_neg h]
theorem p2 {m : List Int} {q : api_Deque} {V T B : Int} {W : Bool} (f : Fit m q T B) (hB : 0 ≤ B) : go_ring_Step m q ⟨1, 2, V, T, B, W, 0⟩ = some (st m (slot q B) V, ⟨1, 3, V, T, B, W, 0⟩, 0) := by
  obtain ⟨hq, ft, fb, fT, fB⟩ := f
  have e := env7 hq
  refine rs1 hq (may_yes (by omega) (by omega) (by omega)) (fun _ => ?_) (fun e => by omega) (fun e => by omega)
  unfold go_ravelref07_push letO go_ravelref07_at
  simp [e.r3 B hB, e.w3 B V hB, show ¬ B < 0 by omega]
theorem p3 {m : List Int} {q : api_Deque} {V T B : Int} {W : Bool} (f : Fit m q T B) (hB : 0 ≤ B) : go_ring_Step m q ⟨1, 3, V, T, B, W, 0⟩ = some (st m (q.Base + 1) (B + 1), ⟨1, 3, V, T, B, W, 1⟩, 0) := by
  obtain ⟨hq, ft, fb, fT, fB⟩ := f
  have e := env7 hq
  have wb := e.wb
  have w2 : IntKind.i64.wrap (B + 1) = B + 1 := w64_id (by omega) (by omega)
  refine rs1 hq (may_yes (by omega) (by omega) (by omega)) (fun _ => ?_) (fun e => by omega) (fun e => by omega)
  unfold go_ravelref07_push letO go_ravelref07_ended
  simp [wb, w2, e.w2, show ¬ B < 0 by omega]
theorem o0 {m : List Int} {q : api_Deque} {V T B : Int} {W : Bool} (f : Fit m q T B) (hb : 0 ≤ gt m (q.Base + 1)) : go_ring_Step m q ⟨2, 0, V, T, B, W, 0⟩ = some (m, ⟨2, 1, V, T, gt m (q.Base + 1), W, 0⟩, 0) := by
  obtain ⟨hq, ft, fb, fT, fB⟩ := f
  have e := env7 hq
  have wb := e.wb
  refine rs1 hq (may_yes (by omega) (by omega) (by omega)) (fun e => by omega) (fun _ => ?_) (fun e => by omega)
  unfold go_ravelref07_pop letO go_ravelref07_at
  simp [wb, e.b2, cnt_yes (l := 0) (n := gt m (q.Base + 1)) (by omega)]
theorem o1 {m : List Int} {q : api_Deque} {V T B : Int} {W : Bool} (f : Fit m q T B) (hB : 0 ≤ B) : go_ring_Step m q ⟨2, 1, V, T, B, W, 0⟩ = some (st m (q.Base + 1) (B - 1), ⟨2, 2, V, T, B - 1, W, 0⟩, 0) := by
  obtain ⟨hq, ft, fb, fT, fB⟩ := f
  have e := env7 hq
  have wb := e.wb
  have w2 : IntKind.i64.wrap (B - 1) = B - 1 := w64_id (by omega) (by omega)
  refine rs1 hq (may_yes (by omega) (by omega) (by omega)) (fun e => by omega) (fun _ => ?_) (fun e => by omega)
  unfold go_ravelref07_pop letO go_ravelref07_at
  simp [wb, w2, e.w2, show -1 ≤ B - 1 by omega]
theorem o2 {m : List Int} {q : api_Deque} {V T B : Int} {W : Bool} (f : Fit m q T B) : go_ring_Step m q ⟨2, 2, V, T, B, W, 0⟩ = some (m, (if gt m q.Base > B then ⟨2, 3, V, gt m q.Base, B, W, 0⟩ else ⟨2, 4, V, gt m q.Base, B, W, 0⟩), 0) := by
  obtain ⟨hq, ft, fb, fT, fB⟩ := f
  have e := env7 hq
  refine rs1 hq (may_yes (by omega) (by omega) (by omega)) (fun e => by omega) (fun _ => ?_) (fun e => by omega)
  unfold go_ravelref07_pop letO go_ravelref07_at
  rw [if_neg (by simp), if_neg (by simp), if_pos (by rfl), if_pos e.b1, cnt_yes (l := 0) (n := gt m q.Base) (by omega)]
  by_cases h : gt m q.Base > B
  · rw [if_pos (by simpa using h), if_pos h]
  · rw [if_neg (by simpa using h), if_neg h]
theorem o3 {m : List Int} {q : api_Deque} {V T B : Int} {W : Bool} (f : Fit m q T B) (hT : 0 ≤ T) : go_ring_Step m q ⟨2, 3, V, T, B, W, 0⟩ = some (st m (q.Base + 1) T, ⟨2, 3, V, T, B, W, 2⟩, 0) := by
  obtain ⟨hq, ft, fb, fT, fB⟩ := f
  have e := env7 hq
  have wb := e.wb
  refine rs1 hq (may_yes (by omega) (by omega) (by omega)) (fun e => by omega) (fun _ => ?_) (fun e => by omega)
  unfold go_ravelref07_pop letO go_ravelref07_ended
  simp [wb, e.w2, show ¬ T < 0 by omega]
theorem o4 {m : List Int} {q : api_Deque} {V T B : Int} {W : Bool} (f : Fit m q T B) (hB : 0 ≤ B) : go_ring_Step m q ⟨2, 4, V, T, B, W, 0⟩ = some (m, (if B > T then ⟨2, 4, gt m (slot q B), T, B, W, 1⟩ else ⟨2, 5, gt m (slot q B), T, B, W, 0⟩), 0) := by
  obtain ⟨hq, ft, fb, fT, fB⟩ := f
  have e := env7 hq
  refine rs1 hq (may_yes (by omega) (by omega) (by omega)) (fun e => by omega) (fun _ => ?_) (fun e => by omega)
  unfold go_ravelref07_pop letO go_ravelref07_at go_ravelref07_ended
  rw [if_neg (by simp), if_neg (by simp), if_neg (by simp), if_neg (by simp), if_neg (by simp), if_pos (by rfl), if_neg (by simp; omega), e.r3 B hB, Option.bind_some, if_pos (e.b3 B hB)]
  by_cases h : B > T
  · rw [if_pos (by simpa using h), if_pos h]
  · rw [if_neg (by simpa using h), if_neg h]
theorem o5 {m : List Int} {q : api_Deque} {V T B : Int} {W : Bool} (f : Fit m q T B) (hT : 0 ≤ T) : go_ring_Step m q ⟨2, 5, V, T, B, W, 0⟩ = some (if gt m q.Base = T then st m q.Base (T + 1) else m, ⟨2, 6, V, T, B, decide (gt m q.Base = T), 0⟩, 0) := by
  obtain ⟨hq, ft, fb, fT, fB⟩ := f
  have e := env7 hq
  have w2 : IntKind.i64.wrap (T + 1) = T + 1 := w64_id (by omega) (by omega)
  refine rs1 hq (may_yes (by omega) (by omega) (by omega)) (fun e => by omega) (fun _ => ?_) (fun e => by omega)
  unfold go_ravelref07_pop letO go_ravelref07_pop_j2 go_ravelref07_at letO
  rw [if_neg (by simp), if_neg (by simp), if_neg (by simp), if_neg (by simp; omega), if_neg (by simp), if_neg (by simp), if_pos (by rfl), if_pos e.b1, w2]
  by_cases h : gt m q.Base = T
  · rw [if_pos (by simpa using h), e.w1, Option.bind_some, if_pos h]; simp [h]
  · rw [if_neg (by simpa using h), if_neg h]; simp [h]
theorem o6 {m : List Int} {q : api_Deque} {V T B : Int} {W : Bool} (f : Fit m q T B) (hT : 0 ≤ T) : go_ring_Step m q ⟨2, 6, V, T, B, W, 0⟩ = some (st m (q.Base + 1) (T + 1), ⟨2, 6, V, T, B, W, if W = true then 1 else 2⟩, 0) := by
  obtain ⟨hq, ft, fb, fT, fB⟩ := f
  have e := env7 hq
  have wb := e.wb
  have w2 : IntKind.i64.wrap (T + 1) = T + 1 := w64_id (by omega) (by omega)
  refine rs1 hq (may_yes (by omega) (by omega) (by omega)) (fun e => by omega) (fun _ => ?_) (fun e => by omega)
  unfold go_ravelref07_pop go_ravelref07_pop_j3 letO go_ravelref07_ended
  rw [if_neg (by simp), if_neg (by simp), if_neg (by simp), if_neg (by simp; omega), if_neg (by simp), if_neg (by simp), if_neg (by simp)]
  simp only [wb, w2, e.w2, Option.bind_some]
  cases W <;> rfl
theorem s0 {m : List Int} {q : api_Deque} {V T B : Int} {W : Bool} (f : Fit m q T B) : go_ring_Step m q ⟨3, 0, V, T, B, W, 0⟩ = some (m, ⟨3, 1, V, gt m q.Base, B, W, 0⟩, 0) := by
  obtain ⟨hq, ft, fb, fT, fB⟩ := f
  have e := env7 hq
  refine rs1 hq (may_yes (by omega) (by omega) (by omega)) (fun e => by omega) (fun e => by omega) (fun _ => ?_)
  unfold go_ravelref07_steal letO go_ravelref07_at
  simp [e.b1, cnt_yes (l := 0) (n := gt m q.Base) (by omega)]
theorem s1 {m : List Int} {q : api_Deque} {V T B : Int} {W : Bool} (f : Fit m q T B) : go_ring_Step m q ⟨3, 1, V, T, B, W, 0⟩ = some (m, (if gt m (q.Base + 1) - T < 1 then ⟨3, 1, V, T, gt m (q.Base + 1), W, 2⟩ else ⟨3, 2, V, T, gt m (q.Base + 1), W, 0⟩), 0) := by
  obtain ⟨hq, ft, fb, fT, fB⟩ := f
  have e := env7 hq
  have b2 := e.b2
  have wb := e.wb
  have w1 : IntKind.i64.wrap (gt m (q.Base + 1) - T) = gt m (q.Base + 1) - T := w64_id (by omega) (by omega)
  refine rs1 hq (may_yes (by omega) (by omega) (by omega)) (fun e => by omega) (fun e => by omega) (fun _ => ?_)
  unfold go_ravelref07_steal letO go_ravelref07_at go_ravelref07_ended
  rw [if_neg (by simp), if_pos (by rfl)]
  simp only [wb, w1]
  rw [if_pos b2, cnt_yes (l := -1) (n := gt m (q.Base + 1)) (by omega)]
  by_cases h : gt m (q.Base + 1) - T < 1
  · rw [if_pos (by simpa using h), if_pos h]
  · rw [if_neg (by simpa using h), if_neg h]
theorem s2 {m : List Int} {q : api_Deque} {V T B : Int} {W : Bool} (f : Fit m q T B) (hT : 0 ≤ T) : go_ring_Step m q ⟨3, 2, V, T, B, W, 0⟩ = some (m, ⟨3, 3, gt m (slot q T), T, B, W, 0⟩, 0) := by
  obtain ⟨hq, ft, fb, fT, fB⟩ := f
  have e := env7 hq
  refine rs1 hq (may_yes (by omega) (by omega) (by omega)) (fun e => by omega) (fun e => by omega) (fun _ => ?_)
  unfold go_ravelref07_steal letO go_ravelref07_at
  simp [e.r3 T hT, e.b3 T hT, show ¬ T < 0 by omega]
theorem s3 {m : List Int} {q : api_Deque} {V T B : Int} {W : Bool} (f : Fit m q T B) (hT : 0 ≤ T) : go_ring_Step m q ⟨3, 3, V, T, B, W, 0⟩ = some (if gt m q.Base = T then st m q.Base (T + 1) else m, ⟨3, 3, V, T, B, W, if gt m q.Base = T then 1 else 4⟩, 0) := by
  obtain ⟨hq, ft, fb, fT, fB⟩ := f
  have e := env7 hq
  have w2 : IntKind.i64.wrap (T + 1) = T + 1 := w64_id (by omega) (by omega)
  refine rs1 hq (may_yes (by omega) (by omega) (by omega)) (fun e => by omega) (fun e => by omega) (fun _ => ?_)
  unfold go_ravelref07_steal letO go_ravelref07_ended
  rw [if_neg (by simp), if_neg (by simp), if_neg (by simp; omega), if_neg (by simp), if_pos e.b1]
  by_cases h : gt m q.Base = T
  · rw [if_neg (by simp [h]), if_pos h, if_pos h, w2, e.w1]; rfl
  · rw [if_pos (by simpa using h), if_neg h, if_neg h]

end Go.Proofs.Ytoapmmcoaggekaa
