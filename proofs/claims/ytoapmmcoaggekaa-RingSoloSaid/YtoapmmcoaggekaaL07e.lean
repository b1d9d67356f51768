/- Helper lemmas for the claim's theorem: an abstract machine over the model, proved sound; no condition beyond each lemma's own. -/
import Derived.Test.YtoapmmcoaggekaaL07d
set_option linter.unusedVariables false
set_option linter.unusedSimpArgs false
set_option linter.unnecessarySimpa false
set_option linter.unusedSectionVars false
/- Plain laws on the printed functions. -/
namespace Go.Proofs.Ytoapmmcoaggekaa
open Go Go.AM
set_option maxRecDepth 100000
set_option maxHeartbeats 1000000
set_option linter.unusedVariables false
set_option linter.unusedSimpArgs false
theorem gt_st_ne {m : List Int} {i j x : Int} (hi : 0 ≤ i) (hj : 0 ≤ j) (h : i ≠ j) : gt (st m i x) j = gt m j := by
  unfold gt st
  rw [List.getD_eq_getElem?_getD, List.getD_eq_getElem?_getD, List.getElem?_set_ne (by omega)]
theorem gt_st_eq {m : List Int} {i x : Int} (hi : 0 ≤ i ∧ i < m.length) : gt (st m i x) i = x := by
  unfold gt st
  rw [List.getD_eq_getElem?_getD, List.getElem?_set_self (by omega)]; rfl
theorem may_yes {K Pc V T B : Int} {W : Bool} (hk : ((K = 1 ∨ K = 3) ∧ 0 ≤ Pc ∧ Pc < 4) ∨ (K = 2 ∧ 0 ≤ Pc ∧ Pc < 7)) (hT : -1 ≤ T ∧ T ≤ 1099511627776) (hB : -1 ≤ B ∧ B ≤ 1099511627776) : go_ravelref07_May ⟨K, Pc, V, T, B, W, 0⟩ = true := by
  unfold go_ravelref07_May go_ravelref07_count go_ravelref07_pcs
  rcases hk with ⟨rfl | rfl, h⟩ | ⟨rfl, h⟩ <;> simp <;> omega
theorem rstep {m m' : List Int} {q : api_Deque} (hq : QOk m q) {K Pc V T B : Int} {W : Bool} {K' Pc' V' T' B' : Int} {W' : Bool} {S' : Int} (hm : go_ravelref07_May ⟨K, Pc, V, T, B, W, 0⟩ = true)
    (h1 : K = 1 → go_ravelref07_push m q ⟨K, Pc, V, T, B, W, 0⟩ = some (m', ⟨K', Pc', V', T', B', W', S'⟩, true)) (h2 : K = 2 → go_ravelref07_pop m q ⟨K, Pc, V, T, B, W, 0⟩ = some (m', ⟨K', Pc', V', T', B', W', S'⟩, true)) (h3 : K = 3 → go_ravelref07_steal m q ⟨K, Pc, V, T, B, W, 0⟩ = some (m', ⟨K', Pc', V', T', B', W', S'⟩, true)) :
    whileO (go_ravelref07_Solo_s2 q) (m, K, Pc, V, T, B, W, 0) = whileO (go_ravelref07_Solo_s2 q) (m', K', Pc', V', T', B', W', S') := by
  have hs : go_ravelref07_Step m q ⟨K, Pc, V, T, B, W, 0⟩ = some (m', ⟨K', Pc', V', T', B', W', S'⟩, 0) := by
    obtain ⟨c1, c2⟩ := check_yes hq
    have hf : few m.length := by have := hq.len; unfold few; omega
    obtain ⟨hk, hT, hB⟩ := may_cases hm
    simp only at hk hT hB
    rw [go_ravelref07_Step, c2, hm, if_neg (by simp), if_neg (by simp), List.nil_append, if_pos hf]
    rcases hk with ⟨rfl, hp⟩ | ⟨rfl, hp⟩ | ⟨rfl, hp⟩
    · rw [if_pos (by rfl), h1 rfl]; rfl
    · rw [if_neg (by simp), if_pos (by rfl), h2 rfl]; rfl
    · rw [if_neg (by simp), if_neg (by simp), h3 rfl]; rfl
  refine whileO_inl ?_
  rw [go_ravelref07_Solo_s2, if_pos (by rfl), hs, Option.bind_some]; rfl
theorem rend {m : List Int} {q : api_Deque} {K Pc V T B : Int} {W : Bool} {S : Int} (hS : S ≠ 0) : whileO (go_ravelref07_Solo_s2 q) (m, K, Pc, V, T, B, W, S) = some (m, ⟨K, Pc, V, T, B, W, S⟩, 0) := by
  refine whileO_inr ?_
  rw [go_ravelref07_Solo_s2, if_neg (by simpa using hS)]; rfl
/-- A deque that holds so many from t on. -/
structure Has7 (m : List Int) (q : api_Deque) (t b : Int) : Prop where
  ok : QOk m q
  top : gt m q.Base = t
  bot : gt m (q.Base + 1) = b
  t0 : 0 ≤ t
  tb : t ≤ b
  big : b ≤ 1099511627000
  cap : b - t ≤ q.Cap
theorem solo_push_full {m : List Int} {q : api_Deque} {t b v : Int} (h : Has7 m q t b) (hc : b - t = q.Cap) : ∃ h', whileO (go_ravelref07_Solo_s2 q) (m, 1, 0, v, 0, 0, false, 0) = some (m, h', 0) ∧ h'.State = 3 := by
  obtain ⟨hq, h1, h2, h3, h4, h5, h6⟩ := h
  have e := env7 hq
  have b1 := e.b1
  have b2 := e.b2
  have wb := e.wb
  have hcap := hq.cap
  have w1 : IntKind.i64.wrap (b - t) = b - t := w64_id (by omega) (by omega)
  rw [rstep (m' := m) (K' := 1) (Pc' := 1) (V' := v) (T' := t) (B' := 0) (W' := false) (S' := 0) hq (may_yes (by omega) (by omega) (by omega)) (fun _ => ?_) (fun e => by omega) (fun e => by omega)]
  · rw [rstep (m' := m) (K' := 1) (Pc' := 1) (V' := v) (T' := t) (B' := b) (W' := false) (S' := 3) hq (may_yes (by omega) (by omega) (by omega)) (fun _ => ?_) (fun e => by omega) (fun e => by omega)]
    · exact ⟨_, rend (by decide), rfl⟩
    · unfold go_ravelref07_push letO go_ravelref07_ended go_ravelref07_count
      simp [wb, b2, h2, w1, show q.Cap ≤ b - t by omega]; omega
  · unfold go_ravelref07_push letO go_ravelref07_at go_ravelref07_count
    simp [b1, h1]; omega
theorem solo_push {m : List Int} {q : api_Deque} {t b v : Int} (h : Has7 m q t b) (hc : b - t < q.Cap) : ∃ h', whileO (go_ravelref07_Solo_s2 q) (m, 1, 0, v, 0, 0, false, 0) = some (st (st m (slot q b) v) (q.Base + 1) (b + 1), h', 0) ∧ h'.State = 1 := by
  obtain ⟨hq, h1, h2, h3, h4, h5, h6⟩ := h
  have e := env7 hq
  have b1 := e.b1
  have b2 := e.b2
  have wb := e.wb
  have hcap := hq.cap
  have w1 : IntKind.i64.wrap (b - t) = b - t := w64_id (by omega) (by omega)
  have w2 : IntKind.i64.wrap (b + 1) = b + 1 := w64_id (by omega) (by omega)
  have hq' : QOk (st m (slot q b) v) q := qok_len hq (st_len ..)
  have e' := env7 hq'
  rw [rstep (m' := m) (K' := 1) (Pc' := 1) (V' := v) (T' := t) (B' := 0) (W' := false) (S' := 0) hq (may_yes (by omega) (by omega) (by omega)) (fun _ => ?_) (fun e => by omega) (fun e => by omega)]
  · rw [rstep (m' := m) (K' := 1) (Pc' := 2) (V' := v) (T' := t) (B' := b) (W' := false) (S' := 0) hq (may_yes (by omega) (by omega) (by omega)) (fun _ => ?_) (fun e => by omega) (fun e => by omega)]
    · rw [rstep (m' := st m (slot q b) v) (K' := 1) (Pc' := 3) (V' := v) (T' := t) (B' := b) (W' := false) (S' := 0) hq (may_yes (by omega) (by omega) (by omega)) (fun _ => ?_) (fun e => by omega) (fun e => by omega)]
      · rw [rstep (m' := st (st m (slot q b) v) (q.Base + 1) (b + 1)) (K' := 1) (Pc' := 3) (V' := v) (T' := t) (B' := b) (W' := false) (S' := 1) hq' (may_yes (by omega) (by omega) (by omega)) (fun _ => ?_) (fun e => by omega) (fun e => by omega)]
        · exact ⟨_, rend (by decide), rfl⟩
        · unfold go_ravelref07_push letO go_ravelref07_ended
          simp [wb, w2, e'.w2, show ¬ b < 0 by omega]
      · unfold go_ravelref07_push letO go_ravelref07_at
        simp [e.r3 b (by omega), e.w3 b v (by omega), show ¬ b < 0 by omega]
    · unfold go_ravelref07_push letO go_ravelref07_at go_ravelref07_count
      simp [wb, b2, h2, w1, show ¬ q.Cap ≤ b - t by omega]; omega
  · unfold go_ravelref07_push letO go_ravelref07_at go_ravelref07_count
    simp [b1, h1]; omega
theorem solo_steal_none {m : List Int} {q : api_Deque} {t b v : Int} (h : Has7 m q t b) (hc : b = t) : ∃ h', whileO (go_ravelref07_Solo_s2 q) (m, 3, 0, v, 0, 0, false, 0) = some (m, h', 0) ∧ h'.State = 2 := by
  obtain ⟨hq, h1, h2, h3, h4, h5, h6⟩ := h
  have e := env7 hq
  have b1 := e.b1
  have b2 := e.b2
  have wb := e.wb
  have hcap := hq.cap
  have w1 : IntKind.i64.wrap (b - t) = b - t := w64_id (by omega) (by omega)
  rw [rstep (m' := m) (K' := 3) (Pc' := 1) (V' := v) (T' := t) (B' := 0) (W' := false) (S' := 0) hq (may_yes (by omega) (by omega) (by omega)) (fun e => by omega) (fun e => by omega) (fun _ => ?_)]
  · rw [rstep (m' := m) (K' := 3) (Pc' := 1) (V' := v) (T' := t) (B' := b) (W' := false) (S' := 2) hq (may_yes (by omega) (by omega) (by omega)) (fun e => by omega) (fun e => by omega) (fun _ => ?_)]
    · exact ⟨_, rend (by decide), rfl⟩
    · unfold go_ravelref07_steal letO go_ravelref07_ended go_ravelref07_count
      simp [wb, b2, h2, w1, show b - t < 1 by omega]; omega
  · unfold go_ravelref07_steal letO go_ravelref07_at go_ravelref07_count
    simp [b1, h1]; omega
theorem solo_steal {m : List Int} {q : api_Deque} {t b v : Int} (h : Has7 m q t b) (hc : t < b) : ∃ h', whileO (go_ravelref07_Solo_s2 q) (m, 3, 0, v, 0, 0, false, 0) = some (st m q.Base (t + 1), h', 0) ∧ h'.State = 1 ∧ h'.V = gt m (slot q t) := by
  obtain ⟨hq, h1, h2, h3, h4, h5, h6⟩ := h
  have e := env7 hq
  have b1 := e.b1
  have b2 := e.b2
  have wb := e.wb
  have hcap := hq.cap
  have w1 : IntKind.i64.wrap (b - t) = b - t := w64_id (by omega) (by omega)
  have w2 : IntKind.i64.wrap (t + 1) = t + 1 := w64_id (by omega) (by omega)
  rw [rstep (m' := m) (K' := 3) (Pc' := 1) (V' := v) (T' := t) (B' := 0) (W' := false) (S' := 0) hq (may_yes (by omega) (by omega) (by omega)) (fun e => by omega) (fun e => by omega) (fun _ => ?_)]
  · rw [rstep (m' := m) (K' := 3) (Pc' := 2) (V' := v) (T' := t) (B' := b) (W' := false) (S' := 0) hq (may_yes (by omega) (by omega) (by omega)) (fun e => by omega) (fun e => by omega) (fun _ => ?_)]
    · rw [rstep (m' := m) (K' := 3) (Pc' := 3) (V' := gt m (slot q t)) (T' := t) (B' := b) (W' := false) (S' := 0) hq (may_yes (by omega) (by omega) (by omega)) (fun e => by omega) (fun e => by omega) (fun _ => ?_)]
      · rw [rstep (m' := st m q.Base (t + 1)) (K' := 3) (Pc' := 3) (V' := gt m (slot q t)) (T' := t) (B' := b) (W' := false) (S' := 1) hq (may_yes (by omega) (by omega) (by omega)) (fun e => by omega) (fun e => by omega) (fun _ => ?_)]
        · exact ⟨_, rend (by decide), rfl, rfl⟩
        · unfold go_ravelref07_steal letO go_ravelref07_ended
          simp [b1, h1, w2, e.w1, show ¬ t < 0 by omega]
      · unfold go_ravelref07_steal letO go_ravelref07_at
        simp [e.r3 t (by omega), e.b3 t (by omega), show ¬ t < 0 by omega]
    · unfold go_ravelref07_steal letO go_ravelref07_at go_ravelref07_count
      simp [wb, b2, h2, w1, show ¬ b - t < 1 by omega]; omega
  · unfold go_ravelref07_steal letO go_ravelref07_at go_ravelref07_count
    simp [b1, h1]; omega
theorem solo_pop_none {m : List Int} {q : api_Deque} {t b v : Int} (h : Has7 m q t b) (hc : b = t) : ∃ h', whileO (go_ravelref07_Solo_s2 q) (m, 2, 0, v, 0, 0, false, 0) = some (st (st m (q.Base + 1) (b - 1)) (q.Base + 1) t, h', 0) ∧ h'.State = 2 := by
  obtain ⟨hq, h1, h2, h3, h4, h5, h6⟩ := h
  have e := env7 hq
  have b1 := e.b1
  have b2 := e.b2
  have wb := e.wb
  have hcap := hq.cap
  have w1 : IntKind.i64.wrap (b - 1) = b - 1 := w64_id (by omega) (by omega)
  have hq' : QOk (st m (q.Base + 1) (b - 1)) q := qok_len hq (st_len ..)
  have e' := env7 hq'
  have b1' := e'.b1
  have g1 : gt (st m (q.Base + 1) (b - 1)) q.Base = t := by rw [gt_st_ne (by omega) (by omega) (by omega)]; exact h1
  rw [rstep (m' := m) (K' := 2) (Pc' := 1) (V' := v) (T' := 0) (B' := b) (W' := false) (S' := 0) hq (may_yes (by omega) (by omega) (by omega)) (fun e => by omega) (fun _ => ?_) (fun e => by omega)]
  · rw [rstep (m' := st m (q.Base + 1) (b - 1)) (K' := 2) (Pc' := 2) (V' := v) (T' := 0) (B' := b - 1) (W' := false) (S' := 0) hq (may_yes (by omega) (by omega) (by omega)) (fun e => by omega) (fun _ => ?_) (fun e => by omega)]
    · rw [rstep (m' := st m (q.Base + 1) (b - 1)) (K' := 2) (Pc' := 3) (V' := v) (T' := t) (B' := b - 1) (W' := false) (S' := 0) hq' (may_yes (by omega) (by omega) (by omega)) (fun e => by omega) (fun _ => ?_) (fun e => by omega)]
      · rw [rstep (m' := st (st m (q.Base + 1) (b - 1)) (q.Base + 1) t) (K' := 2) (Pc' := 3) (V' := v) (T' := t) (B' := b - 1) (W' := false) (S' := 2) hq' (may_yes (by omega) (by omega) (by omega)) (fun e => by omega) (fun _ => ?_) (fun e => by omega)]
        · exact ⟨_, rend (by decide), rfl⟩
        · unfold go_ravelref07_pop letO go_ravelref07_ended
          simp [wb, e'.w2, show ¬ t < 0 by omega]
      · unfold go_ravelref07_pop letO go_ravelref07_at go_ravelref07_count
        simp [b1', g1, show b - 1 < t by omega]; omega
    · unfold go_ravelref07_pop letO go_ravelref07_at
      simp [wb, w1, e.w2]; omega
  · unfold go_ravelref07_pop letO go_ravelref07_at go_ravelref07_count
    simp [wb, b2, h2]; omega
theorem solo_pop_many {m : List Int} {q : api_Deque} {t b v : Int} (h : Has7 m q t b) (hc : t + 1 < b) : ∃ h', whileO (go_ravelref07_Solo_s2 q) (m, 2, 0, v, 0, 0, false, 0) = some (st m (q.Base + 1) (b - 1), h', 0) ∧ h'.State = 1 ∧ h'.V = gt (st m (q.Base + 1) (b - 1)) (slot q (b - 1)) := by
  obtain ⟨hq, h1, h2, h3, h4, h5, h6⟩ := h
  have e := env7 hq
  have b1 := e.b1
  have b2 := e.b2
  have wb := e.wb
  have hcap := hq.cap
  have w1 : IntKind.i64.wrap (b - 1) = b - 1 := w64_id (by omega) (by omega)
  have hq' : QOk (st m (q.Base + 1) (b - 1)) q := qok_len hq (st_len ..)
  have e' := env7 hq'
  have b1' := e'.b1
  have g1 : gt (st m (q.Base + 1) (b - 1)) q.Base = t := by rw [gt_st_ne (by omega) (by omega) (by omega)]; exact h1
  rw [rstep (m' := m) (K' := 2) (Pc' := 1) (V' := v) (T' := 0) (B' := b) (W' := false) (S' := 0) hq (may_yes (by omega) (by omega) (by omega)) (fun e => by omega) (fun _ => ?_) (fun e => by omega)]
  · rw [rstep (m' := st m (q.Base + 1) (b - 1)) (K' := 2) (Pc' := 2) (V' := v) (T' := 0) (B' := b - 1) (W' := false) (S' := 0) hq (may_yes (by omega) (by omega) (by omega)) (fun e => by omega) (fun _ => ?_) (fun e => by omega)]
    · rw [rstep (m' := st m (q.Base + 1) (b - 1)) (K' := 2) (Pc' := 4) (V' := v) (T' := t) (B' := b - 1) (W' := false) (S' := 0) hq' (may_yes (by omega) (by omega) (by omega)) (fun e => by omega) (fun _ => ?_) (fun e => by omega)]
      · rw [rstep (m' := st m (q.Base + 1) (b - 1)) (K' := 2) (Pc' := 4) (V' := gt (st m (q.Base + 1) (b - 1)) (slot q (b - 1))) (T' := t) (B' := b - 1) (W' := false) (S' := 1) hq' (may_yes (by omega) (by omega) (by omega)) (fun e => by omega) (fun _ => ?_) (fun e => by omega)]
        · exact ⟨_, rend (by decide), rfl, rfl⟩
        · unfold go_ravelref07_pop letO go_ravelref07_ended
          simp [e'.r3 (b - 1) (by omega), e'.b3 (b - 1) (by omega), show ¬ b - 1 < 0 by omega, show t < b - 1 by omega]
      · unfold go_ravelref07_pop letO go_ravelref07_at go_ravelref07_count
        simp [b1', g1, show ¬ b - 1 < t by omega]; omega
    · unfold go_ravelref07_pop letO go_ravelref07_at
      simp [wb, w1, e.w2]; omega
  · unfold go_ravelref07_pop letO go_ravelref07_at go_ravelref07_count
    simp [wb, b2, h2]; omega
theorem solo_pop_one {m : List Int} {q : api_Deque} {t b v : Int} (h : Has7 m q t b) (hc : b = t + 1) : ∃ h', whileO (go_ravelref07_Solo_s2 q) (m, 2, 0, v, 0, 0, false, 0) = some (st (st (st m (q.Base + 1) (b - 1)) q.Base (t + 1)) (q.Base + 1) (t + 1), h', 0) ∧ h'.State = 1 ∧ h'.V = gt (st m (q.Base + 1) (b - 1)) (slot q (b - 1)) := by
  obtain ⟨hq, h1, h2, h3, h4, h5, h6⟩ := h
  have e := env7 hq
  have b1 := e.b1
  have b2 := e.b2
  have wb := e.wb
  have hcap := hq.cap
  have w1 : IntKind.i64.wrap (b - 1) = b - 1 := w64_id (by omega) (by omega)
  have w2 : IntKind.i64.wrap (t + 1) = t + 1 := w64_id (by omega) (by omega)
  have hq' : QOk (st m (q.Base + 1) (b - 1)) q := qok_len hq (st_len ..)
  have e' := env7 hq'
  have b1' := e'.b1
  have hq2 : QOk (st (st m (q.Base + 1) (b - 1)) q.Base (t + 1)) q := qok_len hq' (st_len ..)
  have e2 := env7 hq2
  have g1 : gt (st m (q.Base + 1) (b - 1)) q.Base = t := by rw [gt_st_ne (by omega) (by omega) (by omega)]; exact h1
  rw [rstep (m' := m) (K' := 2) (Pc' := 1) (V' := v) (T' := 0) (B' := b) (W' := false) (S' := 0) hq (may_yes (by omega) (by omega) (by omega)) (fun e => by omega) (fun _ => ?_) (fun e => by omega)]
  · rw [rstep (m' := st m (q.Base + 1) (b - 1)) (K' := 2) (Pc' := 2) (V' := v) (T' := 0) (B' := b - 1) (W' := false) (S' := 0) hq (may_yes (by omega) (by omega) (by omega)) (fun e => by omega) (fun _ => ?_) (fun e => by omega)]
    · rw [rstep (m' := st m (q.Base + 1) (b - 1)) (K' := 2) (Pc' := 4) (V' := v) (T' := t) (B' := b - 1) (W' := false) (S' := 0) hq' (may_yes (by omega) (by omega) (by omega)) (fun e => by omega) (fun _ => ?_) (fun e => by omega)]
      · rw [rstep (m' := st m (q.Base + 1) (b - 1)) (K' := 2) (Pc' := 5) (V' := gt (st m (q.Base + 1) (b - 1)) (slot q (b - 1))) (T' := t) (B' := b - 1) (W' := false) (S' := 0) hq' (may_yes (by omega) (by omega) (by omega)) (fun e => by omega) (fun _ => ?_) (fun e => by omega)]
        · rw [rstep (m' := st (st m (q.Base + 1) (b - 1)) q.Base (t + 1)) (K' := 2) (Pc' := 6) (V' := gt (st m (q.Base + 1) (b - 1)) (slot q (b - 1))) (T' := t) (B' := b - 1) (W' := true) (S' := 0) hq' (may_yes (by omega) (by omega) (by omega)) (fun e => by omega) (fun _ => ?_) (fun e => by omega)]
          · rw [rstep (m' := st (st (st m (q.Base + 1) (b - 1)) q.Base (t + 1)) (q.Base + 1) (t + 1)) (K' := 2) (Pc' := 6) (V' := gt (st m (q.Base + 1) (b - 1)) (slot q (b - 1))) (T' := t) (B' := b - 1) (W' := true) (S' := 1) hq2 (may_yes (by omega) (by omega) (by omega)) (fun e => by omega) (fun _ => ?_) (fun e => by omega)]
            · exact ⟨_, rend (by decide), rfl, rfl⟩
            · unfold go_ravelref07_pop go_ravelref07_pop_j3 letO go_ravelref07_ended
              simp [wb, w2, e2.w2, show ¬ t < 0 by omega]
          · unfold go_ravelref07_pop go_ravelref07_pop_j2 letO go_ravelref07_at
            simp [b1', g1, w2, e'.w1, show ¬ t < 0 by omega]
        · unfold go_ravelref07_pop letO go_ravelref07_at
          simp [e'.r3 (b - 1) (by omega), e'.b3 (b - 1) (by omega), show ¬ b - 1 < 0 by omega, show ¬ t < b - 1 by omega]
      · unfold go_ravelref07_pop letO go_ravelref07_at go_ravelref07_count
        simp [b1', g1, show ¬ b - 1 < t by omega]; omega
    · unfold go_ravelref07_pop letO go_ravelref07_at
      simp [wb, w1, e.w2]; omega
  · unfold go_ravelref07_pop letO go_ravelref07_at go_ravelref07_count
    simp [wb, b2, h2]; omega

end Go.Proofs.Ytoapmmcoaggekaa
