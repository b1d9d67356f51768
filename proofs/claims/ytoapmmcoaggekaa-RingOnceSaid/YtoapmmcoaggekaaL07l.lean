/- Helper lemmas for the claim's theorem: an abstract machine over the model, proved sound; no condition beyond each lemma's own. -/
import Derived.Test.YtoapmmcoaggekaaL07k
set_option linter.unusedVariables false
set_option linter.unusedSimpArgs false
set_option linter.unnecessarySimpa false
set_option linter.unusedSectionVars false
/- Plain laws on the printed functions. -/
namespace Go.Proofs.Ytoapmmcoaggekaa
open Go Go.AM
set_option maxRecDepth 100000
set_option maxHeartbeats 1000000
set_option linter.unusedVariables false
set_option linter.unusedSimpArgs false
/-- The whole race: the memory, the hands, how many were pushed, who was taken. -/
def InvR (C : Int) (m : List Int) (hs : List api_Hand) (n : Nat) (g : Mp7) : Prop :=
  ∃ t b c, Glob C m t b c ∧ ∃ h0 : 0 < hs.length, Own C m t b c n hs[0] ∧ (∀ k (h : k < hs.length), 1 ≤ k → Thf t b c (exB hs[0]) hs[k]) ∧ Acc7 n g c (pend hs[0]) ∧ b + (if hs[0].State = 0 ∧ hs[0].Kind = 1 then 1 else 0) ≤ n
theorem pend_idle {h : api_Hand} (hk : h.Kind = 0 ∨ h.State ≠ 0) : pend h = [] := by
  unfold pend
  rw [if_neg]
  rintro ⟨a, b⟩
  rcases hk with h | h
  · rcases b with b | b <;> omega
  · exact h a
theorem own_idle {C : Int} {m : List Int} {t b : Int} {c : List Int} {n : Int} {h : api_Hand} (o : Own C m t b c n h) (hk : h.Kind = 0 ∨ h.State ≠ 0) : gt m 1 = b := by
  cases o with
  | idle _ hb => exact hb
  | _ => simp at hk
theorem race_step {C : Int} {m : List Int} {hs : List api_Hand} {n : Nat} {g : Mp7} (I : InvR C m hs n g) (hn : n ≤ 10000) {w : Nat} (hw : w < hs.length) (hst : hs[w].State = 0) (hk : hs[w].Kind ≠ 0) :
    ∃ m' h', go_ring_Step m (dq C) hs[w] = some (m', h', 0) ∧ Goes hs[w] h' ∧ (ends7 h' = true → mget g h'.V = none) ∧ InvR C m' (hs.set w h') n (gotR g h') := by
  obtain ⟨t, b, c, gl, h0, o, th, a, hbn⟩ := I
  by_cases e : w = 0
  · subst e
    obtain ⟨m', h', k1, k2, k3, t', b', c', k4, k5, k6, k7, k8⟩ := own_step gl o a hbn hn hst hk
    refine ⟨m', h', k1, k2, k3, t', b', c', k4, by simpa using h0, ?_⟩
    simp only [List.getElem_set_self]
    refine ⟨k5, fun k hk1 hk2 => ?_, k7, k8⟩
    rw [List.length_set] at hk1
    rw [List.getElem_set_ne (by omega)]
    exact k6 _ (th k hk1 hk2)
  · obtain ⟨m', h', k1, k2, k3, t', c', k4, k5, k6, k7, k8⟩ := thf_step gl o (th w hw (by omega)) a hst hk
    refine ⟨m', h', k1, k2, k3, t', b, c', k4, by simpa using h0, ?_⟩
    rw [List.getElem_set_ne (by omega)]
    refine ⟨k5, fun k hk1 hk2 => ?_, k8, hbn⟩
    rw [List.length_set] at hk1
    by_cases ek : w = k
    · subst ek; rw [List.getElem_set_self]; exact k6
    · rw [List.getElem_set_ne ek]; exact k7 _ (th k hk1 hk2)
/-- A hand that has nothing to do begins anew. -/
theorem race_start {C : Int} {m : List Int} {hs : List api_Hand} {n : Nat} {g : Mp7} (I : InvR C m hs n g) {w : Nat} (hw : w < hs.length) (hk : hs[w].Kind = 0 ∨ hs[w].State ≠ 0) :
    (w = 0 → InvR C m (hs.set w ⟨1, 0, ((n + 1 : Nat) : Int), 0, 0, false, 0⟩) (n + 1) g ∧ InvR C m (hs.set w ⟨2, 0, 0, 0, 0, false, 0⟩) n g) ∧ (w ≠ 0 → InvR C m (hs.set w ⟨3, 0, 0, 0, 0, false, 0⟩) n g) := by
  obtain ⟨t, b, c, gl, h0, o, th, a, hbn⟩ := I
  have z : bd7 0 := by unfold bd7; omega
  refine ⟨fun e => ?_, fun e => ?_⟩
  · subst e
    have hb := own_idle o hk
    rw [pend_idle hk] at a
    have hbn' : b ≤ n := by
      split at hbn <;> omega
    refine ⟨⟨t, b, c, gl, by simpa using h0, ?_⟩, ⟨t, b, c, gl, by simpa using h0, ?_⟩⟩
    · simp only [List.getElem_set_self]
      refine ⟨.u0 z z hb, fun k hk1 hk2 => ?_, a.next, by simp; omega⟩
      rw [List.length_set] at hk1
      rw [List.getElem_set_ne (by omega)]
      exact thf_same (fun _ e => by have := e.1; simp at this) (th k hk1 hk2)
    · simp only [List.getElem_set_self]
      refine ⟨.o0 z z hb, fun k hk1 hk2 => ?_, a, by simpa using hbn'⟩
      rw [List.length_set] at hk1
      rw [List.getElem_set_ne (by omega)]
      exact thf_same (fun _ e => by have := e.2.1; simp at this) (th k hk1 hk2)
  · refine ⟨t, b, c, gl, by simpa using h0, ?_⟩
    rw [List.getElem_set_ne e]
    refine ⟨o, fun k hk1 hk2 => ?_, a, hbn⟩
    rw [List.length_set] at hk1
    by_cases ek : w = k
    · subst ek; rw [List.getElem_set_self]; exact .a0 z z
    · rw [List.getElem_set_ne ek]; exact th k hk1 hk2
theorem start_ok {k v : Int} (hk : k = 1 ∨ k = 2 ∨ k = 3) : go_ring_Start k v = (⟨k, 0, v, 0, 0, false, 0⟩, 0) := by
  rw [start_eq]
  unfold go_ravelref07_Start go_ravelref07_pcs
  rcases hk with rfl | rfl | rfl <;> rfl
theorem mput_new {g : Mp7} {v : Int} (h : mget g v = none) : mput g v (IntKind.i64.wrap ((mget g v).getD 0 + 1)) = g ++ [(v, 1)] := by
  rw [h, (mix_no h).2]
  rfl
theorem set_gt {hs : List api_Hand} {w : Nat} (hw : w < hs.length) (x : api_Hand) : st ([] ++ hs) (w : Int) x = hs.set w x := by simp [st]
/-- What the code does behind an access. -/
theorem once_tail {C th : Int} {turns : List Int} {i : Nat} {m m' : List Int} {hs : List api_Hand} {g : Mp7} {n lf : Int} {h h' : api_Hand} {w : Nat} (hi : i < 1000)
    (hW : Int.tmod (IntKind.i64.wrap (IntKind.u8.wrap (BitVec.ofInt IntKind.u8.bits (gt turns (i : Int)) &&& BitVec.ofInt IntKind.u8.bits 15).toNat)) (IntKind.i64.wrap (th + 1)) = (w : Int)) (hw : w < hs.length) (hl : hs.length ≤ 1000)
    (hs1 : go_ring_Step m (dq C) h = some (m', h', 0)) (hf : ends7 h' = true → mget g h'.V = none) :
    go_ravellaw07_RingOnce_j28 C th turns (i : Int) m hs false g n lf h.Kind h.Pc h.V h.T h.B h.Won h.State = some (.inl (((i + 1 : Nat) : Int), m', hs.set w h', n, lf, false, gotR g h')) := by
  unfold go_ravellaw07_RingOnce_j28
  have e1 : go_ring_Step m (api_Deque.mk 0 C) (api_Hand.mk h.Kind h.Pc h.V h.T h.B h.Won h.State) = some (m', h', 0) := hs1
  rw [e1, Option.bind_some]
  simp only [hW]
  rw [if_neg (by simp), if_pos (by unfold few; simp; omega), if_pos (by simp; omega)]
  unfold go_ravellaw07_RingOnce_j29 go_ravellaw07_RingOnce_j26
  simp only [hW]
  rw [set_gt hw, w64_nat (by omega)]
  by_cases h3 : h'.State = 3
  · have he : ends7 h' = true := by simp [ends7, h3]
    rw [if_neg (by simp [h3]), if_pos (by simp [h3]), mput_new (hf he)]
    unfold gotR
    rw [if_pos he]; rfl
  · by_cases h1 : h'.State = 1 ∧ h'.Kind ≠ 1
    · have he : ends7 h' = true := by simp [ends7, h1.1, h1.2]
      rw [if_pos (by simp [h1.1, h1.2]), if_neg (by simpa using h3), mput_new (hf he)]
      unfold gotR
      rw [if_pos he]; rfl
    · have he : ends7 h' = false := by rw [← Bool.not_eq_true]; intro he; simp [ends7] at he; rcases he with he | he; exact h1 he; exact h3 he
      rw [if_neg (by simp; intro a; apply Classical.byContradiction; intro b; exact h1 ⟨a, b⟩), if_neg (by simpa using h3)]
      unfold gotR
      rw [he]; rfl
theorem who_in {th turn : Int} (hth : 0 ≤ th ∧ th ≤ 4) : ∃ w : Nat, Int.tmod (IntKind.i64.wrap (IntKind.u8.wrap (BitVec.ofInt IntKind.u8.bits turn &&& BitVec.ofInt IntKind.u8.bits 15).toNat)) (IntKind.i64.wrap (th + 1)) = (w : Int) ∧ (w : Int) < th + 1 := by
  have hx : (BitVec.ofInt IntKind.u8.bits turn &&& BitVec.ofInt IntKind.u8.bits 15).toNat < 256 := (BitVec.ofInt IntKind.u8.bits turn &&& BitVec.ofInt IntKind.u8.bits 15).isLt
  generalize (BitVec.ofInt IntKind.u8.bits turn &&& BitVec.ofInt IntKind.u8.bits 15).toNat = x at hx
  rw [wu8_id (by omega) (by omega), w64_id (n := (x : Int)) (by omega) (by omega), w64_id (n := th + 1) (by omega) (by omega), Int.tmod_eq_emod_of_nonneg (by omega)]
  have h1 := Int.emod_nonneg (x : Int) (b := th + 1) (by omega)
  have h2 := Int.emod_lt_of_pos (x : Int) (b := th + 1) (by omega)
  exact ⟨((x : Int) % (th + 1)).toNat, by omega, by omega⟩
abbrev OnT := Int × List Int × List api_Hand × Int × Int × Bool × Mp7
theorem once_round {C th : Int} {turns : List Int} (hth : 0 ≤ th ∧ th ≤ 4) (ht : turns.length ≤ 300) {i : Nat} (hi : i < turns.length) {m : List Int} {hs : List api_Hand} {n : Nat} {lf : Int} {g : Mp7} (I : InvR C m hs n g) (hl : (hs.length : Int) = th + 1) (hlf : 0 ≤ lf) (hn : n + lf ≤ 1000) :
    ∃ m' hs' n' lf' g', go_ravellaw07_RingOnce_s22 C th turns true ((i : Int), m, hs, (n : Int), lf, false, g) = some (.inl (((i + 1 : Nat) : Int), m', hs', ((n' : Nat) : Int), lf', false, g')) ∧ InvR C m' hs' n' g' ∧ (hs'.length : Int) = th + 1 ∧ 0 ≤ lf' ∧ n' + lf' ≤ 1000 := by
  obtain ⟨w, hW, hwt⟩ := who_in (turn := gt turns (i : Int)) hth
  have hw : w < hs.length := by omega
  rw [go_ravellaw07_RingOnce_s22, if_pos (by simpa using hi), if_pos (by omega), if_pos (by rw [w64_id (by omega) (by omega)]; omega)]
  simp only [hW]
  rw [if_pos (by omega), gt_nat hw]
  by_cases hidle : hs[w].Kind = 0 ∨ hs[w].State ≠ 0
  · rw [if_pos (by simpa using hidle)]
    by_cases h0 : lf = 0
    · rw [if_pos (by simp [h0])]
      exact ⟨m, hs, n, lf, g, by unfold go_ravellaw07_RingOnce_j26; rw [w64_nat (by omega)]; rfl, I, hl, hlf, hn⟩
    · rw [if_neg (by simpa using h0)]
      obtain ⟨q0, q3⟩ := race_start I hw hidle
      have go : ∀ (k v : Int) (n' : Nat), (k = 1 ∨ k = 2 ∨ k = 3) → n' + (lf - 1) ≤ 1000 → InvR C m (hs.set w ⟨k, 0, v, 0, 0, false, 0⟩) n' g →
          ∃ m' hs' g', go_ravellaw07_RingOnce_j30 C th turns (i : Int) m hs lf false g k v (n' : Int) = some (.inl (((i + 1 : Nat) : Int), m', hs', ((n' : Nat) : Int), lf - 1, false, g')) ∧ InvR C m' hs' n' g' ∧ (hs'.length : Int) = th + 1 := by
        intro k v n' hk hn' I'
        obtain ⟨m', h', k1, k2, k3, k4⟩ := race_step I' (by omega) (w := w) (by simpa using hw) (by simp) (by simp; omega)
        simp only [List.getElem_set_self] at k1 k2
        refine ⟨m', hs.set w h', gotR g h', ?_, by simpa using k4, by simpa using hl⟩
        unfold go_ravellaw07_RingOnce_j30 letO
        rw [start_ok hk]
        simp only
        rw [w64_id (n := lf - 1) (by omega) (by omega)]
        exact once_tail (by omega) hW hw (by omega) k1 k3
      by_cases hz : w = 0
      · rw [if_pos (by simp [hz]), w64_id (n := (n : Int) + 1) (by omega) (by omega)]
        split
        · obtain ⟨m', hs', g', r1, r2, r3⟩ := go 1 ((n + 1 : Nat) : Int) (n + 1) (by simp) (by omega) (q0 hz).1
          exact ⟨m', hs', n + 1, lf - 1, g', r1, r2, r3, by omega, by omega⟩
        · obtain ⟨m', hs', g', r1, r2, r3⟩ := go 2 0 n (by simp) (by omega) (q0 hz).2
          exact ⟨m', hs', n, lf - 1, g', r1, r2, r3, by omega, by omega⟩
      · rw [if_neg (by simp; omega)]
        obtain ⟨m', hs', g', r1, r2, r3⟩ := go 3 0 n (by simp) (by omega) (q3 hz)
        exact ⟨m', hs', n, lf - 1, g', r1, r2, r3, by omega, by omega⟩
  · rw [if_neg (by simpa using hidle)]
    have hst : hs[w].State = 0 := Classical.byContradiction fun h => hidle (.inr h)
    have hk : hs[w].Kind ≠ 0 := fun h => hidle (.inl h)
    obtain ⟨m', h', k1, k2, k3, k4⟩ := race_step I (by omega) hw hst hk
    exact ⟨m', hs.set w h', n, lf, gotR g h', once_tail (by omega) hW hw (by omega) k1 k3, k4, by simpa using hl, hlf, hn⟩

end Go.Proofs.Ytoapmmcoaggekaa
