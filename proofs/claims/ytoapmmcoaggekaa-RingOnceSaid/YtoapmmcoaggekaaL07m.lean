/- Helper lemmas for the claim's theorem: an abstract machine over the model, proved sound; no condition beyond each lemma's own. -/
import Derived.Test.YtoapmmcoaggekaaL07l
set_option linter.unusedVariables false
set_option linter.unusedSimpArgs false
set_option linter.unnecessarySimpa false
set_option linter.unusedSectionVars false
/- Plain laws on the printed functions. -/
namespace Go.Proofs.Ytoapmmcoaggekaa
open Go Go.AM
set_option maxRecDepth 100000
set_option maxHeartbeats 1000000
set_option linter.unusedVariables false
set_option linter.unusedSimpArgs false
def idle7 (h : api_Hand) : Prop := h.Kind = 0 ∨ h.State ≠ 0
theorem once_tail2 {C : Int} {r : Nat} {m m' : List Int} {hs : List api_Hand} {g : Mp7} {h' : api_Hand} {w : Nat} (hr : r < 1000) (hw : w < hs.length) (hl : hs.length ≤ 1000) (hk : hs[w].Kind ≠ 0) (hst : hs[w].State = 0)
    (hs1 : go_ring_Step m (dq C) hs[w] = some (m', h', 0)) (hf : ends7 h' = true → mget g h'.V = none) :
    go_ravellaw07_RingOnce_j90 C (w : Int) (r : Int) m hs false g true = some (.inl (((r + 1 : Nat) : Int), m', hs.set w h', false, gotR g h')) := by
  unfold go_ravellaw07_RingOnce_j90
  have e1 : go_ring_Step m (api_Deque.mk 0 C) hs[w] = some (m', h', 0) := hs1
  rw [if_pos rfl, if_pos (by omega), gt_nat hw, if_neg (by simp [hk, hst]), e1, Option.bind_some]
  simp only
  rw [if_neg (by simp), if_pos (by unfold few; simp; omega), if_pos (by simp; omega)]
  unfold go_ravellaw07_RingOnce_j93 go_ravellaw07_RingOnce_j92
  rw [set_gt hw, w64_nat (by omega)]
  by_cases h3 : h'.State = 3
  · have he : ends7 h' = true := by simp [ends7, h3]
    rw [if_neg (by simp [h3]), if_pos (by simp [h3]), mput_new (hf he)]
    unfold gotR
    rw [if_pos he]; rfl
  · by_cases h1 : h'.State = 1 ∧ h'.Kind ≠ 1
    · have he : ends7 h' = true := by simp [ends7, h1.1, h1.2]
      rw [if_pos (by simp [h1.1, h1.2]), if_neg (by simpa using h3), mput_new (hf he)]
      unfold gotR
      rw [if_pos he]; rfl
    · have he : ends7 h' = false := by rw [← Bool.not_eq_true]; intro he; simp [ends7] at he; rcases he with he | he; exact h1 he; exact h3 he
      rw [if_neg (by simp; intro a; apply Classical.byContradiction; intro b; exact h1 ⟨a, b⟩), if_neg (by simpa using h3)]
      unfold gotR
      rw [he]; rfl
/-- One hand comes to its end. -/
theorem last_rounds {C : Int} {n : Nat} (hn : n ≤ 10000) {w : Nat} : ∀ (k r : Nat) (m : List Int) (hs : List api_Hand) (g : Mp7), r + k = 10 → InvR C m hs n g → (hw : w < hs.length) → hs.length ≤ 1000 → (idle7 hs[w] ∨ (r : Int) ≤ hs[w].Pc) →
    ∃ m' hs' g', whileO (go_ravellaw07_RingOnce_s89 C (w : Int)) ((r : Int), m, hs, false, g) = some (.inl (((w + 1 : Nat) : Int), m', hs', false, g')) ∧ InvR C m' hs' n g' ∧ hs'.length = hs.length ∧ (∀ (h : w < hs'.length), idle7 hs'[w]) ∧ ∀ j (h : j < hs.length) (h' : j < hs'.length), j ≠ w → hs'[j] = hs[j]
  | 0, r, m, hs, g, hr, I, hw, hl, hp => by
    have e : r = 10 := by omega
    subst e
    have hi : idle7 hs[w] := by
      rcases hp with h | h
      · exact h
      · apply Classical.byContradiction
        intro hni
        have hst : hs[w].State = 0 := Classical.byContradiction fun h => hni (.inr h)
        have hk : hs[w].Kind ≠ 0 := fun h => hni (.inl h)
        obtain ⟨m', h', k1, k2, k3, k4⟩ := race_step I hn hw hst hk
        have := k2.pc
        omega
    refine ⟨m, hs, g, whileO_inr ?_, I, rfl, fun _ => hi, fun _ _ _ _ => rfl⟩
    rw [go_ravellaw07_RingOnce_s89, if_neg (by simp), w64_nat (by omega)]; rfl
  | k + 1, r, m, hs, g, hr, I, hw, hl, hp => by
    by_cases hi : idle7 hs[w]
    · obtain ⟨m', hs', g', h1, h2⟩ := last_rounds hn k (r + 1) m hs g (by omega) I hw hl (.inl hi)
      refine ⟨m', hs', g', ?_, h2⟩
      rw [← h1]
      refine whileO_inl ?_
      rw [go_ravellaw07_RingOnce_s89, if_pos (by simp; omega), if_pos (by omega), gt_nat hw]
      have hj : go_ravellaw07_RingOnce_j90 C (w : Int) (r : Int) m hs false g false = some (.inl (((r + 1 : Nat) : Int), m, hs, false, g)) := by
        unfold go_ravellaw07_RingOnce_j90
        rw [if_neg (by simp), w64_nat (by omega)]; rfl
      by_cases hk : hs[w].Kind = 0
      · rw [if_neg (by simp [hk]), hj]
      · have hs0 : hs[w].State ≠ 0 := by rcases hi with h | h; exact absurd h hk; exact h
        rw [if_pos (by simp [hk]), if_pos (by omega)]
        have : (hs[w].State == 0) = false := by simpa using hs0
        rw [this, hj]
    · have hst : hs[w].State = 0 := Classical.byContradiction fun h => hi (.inr h)
      have hk : hs[w].Kind ≠ 0 := fun h => hi (.inl h)
      obtain ⟨m', h', k1, k2, k3, k4⟩ := race_step I hn hw hst hk
      have hP : (r : Int) ≤ hs[w].Pc := by rcases hp with h | h; exact absurd h hi; exact h
      obtain ⟨m2, hs2, g2, r1, r2, r3, r4, r5⟩ := last_rounds hn k (r + 1) m' (hs.set w h') (gotR g h') (by omega) k4 (by simpa using hw) (by simpa using hl) (by
        rw [List.getElem_set_self]
        rcases k2.goes with h | h
        · exact .inl (.inr h)
        · right; omega)
      refine ⟨m2, hs2, g2, ?_, r2, by simpa using r3, r4, fun j h h' hj => ?_⟩
      · rw [← r1]
        refine whileO_inl ?_
        rw [go_ravellaw07_RingOnce_s89, if_pos (by simp; omega), if_pos (by omega), gt_nat hw, if_pos (by simp [hk]), if_pos (by omega)]
        have : (hs[w].State == 0) = true := by simp [hst]
        rw [this]
        exact once_tail2 (by omega) hw hl hk hst k1 k3
      · rw [r5 j (by simpa using h) h' hj, List.getElem_set_ne (Ne.symm hj)]
theorem iota_len (n : Nat) : (iota n).length = n := by unfold iota; simp
/-- What is told at last. -/
theorem tell_loop {n : Nat} (hn : n ≤ 10000) {c : List Int} {g : Mp7} (a : Acc7 n g c []) : ∀ (k j : Nat), j + k = c.length → whileO (go_ravellaw07_RingOnce_s95 true (n : Int) c) ((if j = 0 then 0 else gt c ((j : Int) - 1)), (j : Int), g ++ (c.take j).map fun v => (v, (1 : Int))) = some true
  | 0, j, h => by
    have : j = c.length := by omega
    subst this
    rw [List.take_length]
    refine whileO_inr ?_
    rw [go_ravellaw07_RingOnce_s95, if_neg (by simp)]
    have hperm := a.perm
    rw [List.append_nil] at hperm
    have hall : ∀ p ∈ g ++ c.map (fun v => (v, (1 : Int))), 1 ≤ p.1 ∧ p.1 ≤ n ∧ p.2 = 1 := fun p hp => by
      have hk : p.1 ∈ g.map (·.1) ++ c := by
        rcases List.mem_append.1 hp with h | h
        · exact List.mem_append.2 (.inl (List.mem_map.2 ⟨p, h, rfl⟩))
        · obtain ⟨v, hv, rfl⟩ := List.mem_map.1 h
          exact List.mem_append.2 (.inr hv)
      have := iota_mem.1 (hperm.subset hk)
      refine ⟨this.1, this.2, ?_⟩
      rcases List.mem_append.1 hp with h | h
      · exact a.ones p h
      · obtain ⟨v, hv, rfl⟩ := List.mem_map.1 h; rfl
    have hlen : (g ++ c.map (fun v => (v, (1 : Int)))).length = n := by
      have := hperm.length_eq
      rw [iota_len] at this
      simpa using this
    have hf : ∀ p ∈ g ++ c.map (fun v => (v, (1 : Int))), (if (((decide (p.1 < 1)) || (decide (p.1 > (n : Int)))) || (p.2 != 1)) = true then some true else some false) = some false := fun p hp => by
      obtain ⟨h1, h2, h3⟩ := hall p hp
      rw [if_neg]
      simp [h3]; omega
    have hany : anyO (fun (k v : Int) => if (((decide (k < 1)) || (decide (k > (n : Int)))) || (v != 1)) = true then some true else some false) (g ++ c.map (fun v => (v, (1 : Int)))) = some false := by
      unfold anyO
      rw [if_pos (fun p hp => by show (if (((decide (p.1 < 1)) || (decide (p.1 > (n : Int)))) || (p.2 != 1)) = true then some true else some false) ≠ none; rw [hf p hp]; simp)]
      congr 1
      rw [List.any_eq_false]
      intro p hp
      show ¬ ((if (((decide (p.1 < 1)) || (decide (p.1 > (n : Int)))) || (p.2 != 1)) = true then some true else some false).getD false) = true
      rw [hf p hp]; simp
    rw [hany, Option.bind_some, if_neg (by simp), hlen]; simp
  | k + 1, j, h => by
    have hj : j < c.length := by omega
    rw [← tell_loop hn a k (j + 1) (by omega)]
    refine whileO_inl ?_
    have hsrt := a.srt
    have hperm := a.perm
    rw [List.append_nil] at hperm
    have hlen : c.length ≤ n := by
      have := hperm.length_eq
      rw [iota_len] at this
      simp at this; omega
    have h1 := iota_mem.1 (hperm.subset (List.mem_append.2 (.inr (List.getElem_mem hj))))
    have hlt : (if j = 0 then (0 : Int) else gt c ((j : Int) - 1)) < c[j] := by
      by_cases e : j = 0
      · rw [if_pos e]; omega
      · rw [if_neg e, show (j : Int) - 1 = ((j - 1 : Nat) : Int) by omega, gt_nat (by omega)]
        exact List.pairwise_iff_getElem.1 hsrt (j - 1) j (by omega) hj (by omega)
    rw [go_ravellaw07_RingOnce_s95, if_pos (by simpa using hj), if_pos (by omega), gt_nat hj, if_neg (by simp; omega)]
    have hno : mget (g ++ (c.take j).map fun v => (v, (1 : Int))) c[j] = none := by
      apply mget_no
      rw [List.map_append, List.map_map]
      intro hm
      rcases List.mem_append.1 hm with h2 | h2
      · exact a.fresh_c (List.getElem_mem hj) h2
      · obtain ⟨v, hv, hv2⟩ := List.mem_map.1 h2
        simp only [Function.comp] at hv2
        subst hv2
        obtain ⟨q, hq, hq2⟩ := List.mem_iff_getElem.1 hv
        rw [List.length_take] at hq
        rw [List.getElem_take] at hq2
        have := List.pairwise_iff_getElem.1 hsrt q j (by omega) hj (by omega)
        omega
    rw [mput_new hno, w64_nat (by omega), List.take_succ_eq_append_getElem hj, List.map_append, ← List.append_assoc]
    unfold nextO
    rw [if_neg (by omega), show ((j + 1 : Nat) : Int) - 1 = (j : Int) by omega, gt_nat hj]
    rfl
theorem all_end {C : Int} {n : Nat} (hn : n ≤ 10000) {hs0 : List api_Hand} : ∀ (k w : Nat) (m : List Int) (hs : List api_Hand) (g : Mp7), w + k = hs0.length → hs.length = hs0.length → hs0.length ≤ 1000 → InvR C m hs n g → (∀ j (h : j < hs.length), j < w → idle7 hs[j]) →
    whileO (go_ravellaw07_RingOnce_s82 C true hs0 (n : Int)) ((w : Int), m, hs, false, g) = some true
  | 0, w, m, hs, g, hw, hl, hl2, I, hi => by
    have e : w = hs0.length := by omega
    subst e
    refine whileO_inr ?_
    obtain ⟨t, b, c, gl, h0, o, th, a, hbn⟩ := I
    have hidle := hi 0 h0 (by omega)
    have hb := own_idle o hidle
    rw [pend_idle hidle] at a
    have hcl := gl.cl
    have t0 := gl.t0
    have tb := gl.tb
    have big := gl.big
    have room := gl.room
    have e1 : b = t + c.length := by omega
    have hh : Has7 m (dq C) t (t + c.length) := ⟨gl.ok, gl.top, by rw [← e1]; exact hb, t0, by omega, by omega, by rw [← e1]; exact room⟩
    have hlst := lst_has hh gl.at_
    have hL : go_ring_List m (api_Deque.mk 0 C) = some (c, 0) := by
      have := (lists_ok gl.ok).1
      rw [hlst] at this
      exact this
    rw [go_ravellaw07_RingOnce_s82, if_neg (by simp), hL, Option.bind_some]
    simp only
    rw [if_neg (by simp)]
    have ht := tell_loop hn a c.length 0 (by omega)
    rw [List.take_zero] at ht
    simp only [if_pos, List.map_nil, List.append_nil] at ht
    have ht' : whileO (go_ravellaw07_RingOnce_s95 true (n : Int) c) (0, 0, g) = some true := by simpa using ht
    rw [ht']; rfl
  | k + 1, w, m, hs, g, hw, hl, hl2, I, hi => by
    have hlt : w < hs.length := by omega
    have hPc : idle7 hs[w] ∨ ((0 : Nat) : Int) ≤ hs[w].Pc := by
      by_cases h : idle7 hs[w]
      · exact .inl h
      · right
        have hst : hs[w].State = 0 := Classical.byContradiction fun e => h (.inr e)
        have hk : hs[w].Kind ≠ 0 := fun e => h (.inl e)
        obtain ⟨m', h', k1, k2, k3, k4⟩ := race_step I hn hlt hst hk
        have := k2.pc
        omega
    obtain ⟨m', hs', g', r1, r2, r3, r4, r5⟩ := last_rounds hn (w := w) 10 0 m hs g rfl I hlt (by omega) hPc
    rw [whileO_inl (s' := (((w + 1 : Nat) : Int), m', hs', false, g'))]
    · refine all_end hn k (w + 1) m' hs' g' (by omega) (by omega) hl2 r2 fun j h hj => ?_
      by_cases e : j = w
      · subst e; exact r4 h
      · rw [r5 j (by omega) h e]
        exact hi j (by omega) (by omega)
    · rw [go_ravellaw07_RingOnce_s82, if_pos (by simp; omega)]
      exact r1
theorem once_loop {C th : Int} {turns : List Int} (hth : 0 ≤ th ∧ th ≤ 4) (ht : turns.length ≤ 300) : ∀ (k i : Nat) (m : List Int) (hs : List api_Hand) (n : Nat) (lf : Int) (g : Mp7), i + k = turns.length → InvR C m hs n g → (hs.length : Int) = th + 1 → 0 ≤ lf → n + lf ≤ 1000 →
    whileO (go_ravellaw07_RingOnce_s22 C th turns true) ((i : Int), m, hs, (n : Int), lf, false, g) = some true
  | 0, i, m, hs, n, lf, g, h, I, hl, hlf, hn => by
    have : i = turns.length := by omega
    subst this
    refine whileO_inr ?_
    have := all_end (C := C) (n := n) (by omega) (hs0 := hs) hs.length 0 m hs g (by omega) rfl (by omega) I (fun j _ hj => by omega)
    rw [go_ravellaw07_RingOnce_s22, if_neg (by simp)]
    have e : whileO (go_ravellaw07_RingOnce_s82 C true hs (n : Int)) (0, m, hs, false, g) = some true := this
    rw [e]; rfl
  | k + 1, i, m, hs, n, lf, g, h, I, hl, hlf, hn => by
    obtain ⟨m', hs', n', lf', g', r1, r2, r3, r4, r5⟩ := once_round (C := C) hth ht (i := i) (by omega) I hl hlf hn
    rw [whileO_inl r1]
    exact once_loop hth ht k (i + 1) m' hs' n' lf' g' (by omega) r2 r3 r4 r5
theorem gt_zero (k : Nat) (i : Int) : gt (List.replicate k (0 : Int)) i = 0 := by
  unfold gt
  rw [List.getD_eq_getElem?_getD, List.getElem?_replicate]
  split <;> rfl
theorem ringOnce_true {C th : Int} {turns : List Int} : go_ravellaw07_RingOnce C th turns = some true := by
  unfold go_ravellaw07_RingOnce
  rw [live_ok, Option.bind_some, if_neg (by simp)]
  by_cases hg : 1 ≤ C ∧ C ≤ 6 ∧ 0 ≤ th ∧ th ≤ 4 ∧ turns.length ≤ 300
  · rw [if_neg (by simp; omega), w64_id (n := C + 2) (by omega) (by omega), w64_id (n := th + 1) (by omega) (by omega), if_pos (by omega), if_pos (by omega)]
    refine once_loop (C := C) ⟨hg.2.2.1, hg.2.2.2.1⟩ hg.2.2.2.2 turns.length 0 _ _ 0 1000 [] (by omega) ?_ (by simp; omega) (by omega) (by omega)
    have hl : 0 < (List.replicate (th + 1).toNat api_Hand.zero).length := by rw [List.length_replicate]; omega
    refine ⟨0, 0, [], ⟨by simp; omega, by omega, gt_zero _ _, by omega, by omega, by omega, by omega, rfl, fun k hk => by simp at hk⟩, hl, ?_⟩
    rw [List.getElem_replicate]
    refine ⟨.idle (.inl rfl) (gt_zero _ _), fun k hk _ => by rw [List.getElem_replicate]; exact .idle (.inl rfl), ⟨by simp [pend, api_Hand.zero, iota], (fun p hp => by cases hp), .nil⟩, by simp [api_Hand.zero]⟩
  · rw [if_pos (by simp; omega)]

end Go.Proofs.Ytoapmmcoaggekaa
