/- Helper lemmas for the claim's theorem: an abstract machine over the model, proved sound; no condition beyond each lemma's own. -/
import Derived.Test.YtechkmappabefaaDoorSD
import Derived.Test.YtechkmappabefaaDoorAmE
set_option linter.unusedVariables false
set_option linter.unusedSimpArgs false
set_option linter.unnecessarySimpa false
set_option linter.unusedSectionVars false
namespace Go.Proofs.YtechkmappabefaaDoor
open Go Go.AM
set_option maxRecDepth 100000
set_option maxHeartbeats 1000000
set_option linter.unusedVariables false
set_option linter.unusedSimpArgs false
theorem rows1_take (xs : List Int) (k : Nat) : ((rows1 xs).drop 0).take (k - 0) = rows1 (xs.take k) := by simp [rows1]
theorem rows1_app (xs ys : List Int) : rows1 xs ++ rows1 ys = rows1 (xs ++ ys) := by simp [rows1]
theorem rows1_ones (xs : List Int) : ∀ r ∈ rows1 xs, V.ones r = true := by
  intro r hr
  obtain ⟨n, _, rfl⟩ := List.mem_map.1 hr
  rfl
theorem trN_le : ∀ (l : List Int) (a : Int) (i : Nat), trN a i l ≤ i + l.length
  | [], _, i => by simp [trN]
  | s :: r, a, i => by
    rw [trN]
    split
    · omega
    · have := trN_le r s (i + 1)
      simp only [List.length_cons]; omega
theorem trN_ge : ∀ (l : List Int) (a : Int) (i : Nat), i ≤ trN a i l
  | [], _, i => by simp [trN]
  | s :: r, a, i => by
    rw [trN]
    split
    · omega
    · have := trN_ge r s (i + 1)
      omega
theorem trN_take : ∀ (l : List Int) (a : Int) (i k : Nat), k ≤ l.length → trN a i (l.take k) = min (trN a i l) (i + k)
  | l, a, i, 0, _ => by
    have := trN_ge l a i
    simp [trN]; omega
  | [], a, i, k + 1, h => by simp at h
  | s :: r, a, i, k + 1, h => by
    rw [List.take_succ_cons, trN, trN]
    split
    · omega
    · rw [trN_take r s (i + 1) k (by simpa using h)]
      omega
theorem trN_app : ∀ (l : List Int) (a : Int) (i : Nat) (x : Int), trN a i l < i + l.length → trN a i (l ++ [x]) = trN a i l
  | [], a, i, x, h => by simp [trN] at h
  | s :: r, a, i, x, h => by
    rw [List.cons_append, trN, trN]
    rw [trN] at h
    split
    · rfl
    · rename_i hc
      rw [if_neg hc] at h
      exact trN_app r s (i + 1) x (by simp only [List.length_cons] at h; omega)
theorem trN_last : ∀ (l : List Int) (a : Int) (i : Nat) (x : Int), l ≠ [] → trN a i l = i + l.length → trN a i (l ++ [x]) = if legB (l.getD (l.length - 1) 0) x then i + l.length + 1 else i + l.length
  | [], a, i, x, h, _ => absurd rfl h
  | [s], a, i, x, _, h => by
    rw [trN] at h
    split at h
    · simp at h
    · rename_i hc
      rw [List.cons_append, trN, if_neg hc]
      simp only [List.nil_append, trN, List.length_singleton]
      cases hl : legB s x <;> simp [hl]
  | s :: t :: r, a, i, x, _, h => by
    rw [trN] at h
    split at h
    · simp at h
    · rename_i hc
      rw [List.cons_append, trN, if_neg hc, trN_last (t :: r) s (i + 1) x (by simp) (by rw [h]; simp only [List.length_cons]; omega)]
      simp only [List.length_cons, Nat.add_sub_cancel, List.getD_cons_succ]
      congr 1 <;> omega
theorem bad_take {xs : List Int} {k : Nat} (h : badB xs = false) (hk : 1 ≤ k) : badB (xs.take k) = false := by
  unfold badB at *
  rw [Bool.or_eq_false_iff] at *
  refine ⟨?_, ?_⟩
  · cases xs with
    | nil => cases h.1
    | cons x r =>
      obtain ⟨k, rfl⟩ : ∃ j, k = j + 1 := ⟨k - 1, by omega⟩
      rfl
  · rw [List.any_eq_false] at *
    exact fun x hx => h.2 x (List.mem_of_mem_take hx)
theorem bad_app {xs : List Int} (h : badB xs = false) (m : Int) : badB (xs ++ [m]) = !stB m := by
  unfold badB at *
  rw [Bool.or_eq_false_iff] at h
  simp [h.2]
theorem trE_zero {xs : List Int} (h : (trE xs != 0) = false) : badB xs = false := by
  unfold trE at h
  cases hb : badB xs with
  | true => simp [hb] at h
  | false => rfl
theorem trV_le (xs : List Int) : 0 ≤ trV xs ∧ trV xs ≤ xs.length := by
  unfold trV
  split
  · omega
  · have := trN_le xs 3 0
    omega
theorem trV_take {xs : List Int} (h : badB xs = false) {k : Nat} (h1 : 1 ≤ k) (hk : k ≤ xs.length) : trV (xs.take k) = min (trV xs) k := by
  unfold trV
  rw [h, bad_take h h1]
  simp only [Bool.false_eq_true, if_false]
  rw [trN_take xs 3 0 k hk]
  omega


theorem trV_app_lt {xs : List Int} {m : Int} (h : badB xs = false) (hs : stB m = true) (hl : trV xs < xs.length) : trV (xs ++ [m]) = trV xs := by
  unfold trV at *
  rw [bad_app h, hs, h] at *
  simp only [Bool.not_true, Bool.false_eq_true, if_false] at *
  rw [trN_app xs 3 0 m (by omega)]
theorem trV_app_eq {xs : List Int} {m : Int} (h : badB xs = false) (hs : stB m = true) (hp : 1 ≤ xs.length) (hn : trV xs = xs.length) : trV (xs ++ [m]) = if legB (xs.getD (xs.length - 1) 0) m then (xs.length : Int) + 1 else xs.length := by
  unfold trV at *
  rw [bad_app h, hs]
  rw [h] at hn
  simp only [Bool.not_true, Bool.false_eq_true, if_false] at *
  rw [trN_last xs 3 0 m (by intro e; simp [e] at hp) (by omega)]
  split <;> omega


theorem lifeTrace_sc (xs : List Int) (m : Int) (hlen : xs.length ≤ 9223372036854775807) : SC Tryd.prog gl 4 [.sl 1 (rows1 xs), .int .i64 m] (.bool true) := by
  refine SC.of E_good Tryd.func4 rfl (fun _ _ => Tryd.call4 _ _) rfl ?_
  repeat (first | refine Safe.seq ?_ | refine Safe.skip ?_ | with_reducible refine thenQ.n ?_ | with_reducible refine blockQ.n ?_)
  refine Safe.region ?_
  refine SafeOps.quiet0 E_good rfl rfl rfl (.fn rfl) ?_
  refine SafeOps.nil ?_
  repeat (first | refine Safe.seq ?_ | refine Safe.skip ?_ | with_reducible refine thenQ.n ?_ | with_reducible refine blockQ.n ?_)
  refine Safe.region ?_
  refine SafeOps.quiet0 E_good rfl rfl rfl (.callP rfl rfl live_sc rfl) ?_
  refine SafeOps.quiet0 E_good rfl rfl rfl (.fn rfl) ?_
  refine SafeOps.nil ?_
  repeat (first | refine Safe.seq ?_ | refine Safe.skip ?_ | with_reducible refine thenQ.n ?_ | with_reducible refine blockQ.n ?_)
  refine Safe.region ?_
  refine SafeOps.quiet0 E_good rfl rfl rfl (.fn rfl) ?_
  refine SafeOps.quiet0 E_good rfl rfl rfl (.fn rfl) ?_
  refine SafeOps.nil ?_
  repeat (first | refine Safe.seq ?_ | refine Safe.skip ?_ | with_reducible refine thenQ.n ?_ | with_reducible refine blockQ.n ?_)
  refine Safe.cond rfl (fun h1 => ?_) (fun h1 => ?_)
  · skip
    repeat (first | refine Safe.seq ?_ | refine Safe.skip ?_ | with_reducible refine thenQ.n ?_ | with_reducible refine blockQ.n ?_)
    refine Safe.region ?_
    refine SafeOps.quiet0 E_good rfl rfl rfl (.fn rfl) ?_
    refine SafeOps.nil ?_
    repeat (first | refine Safe.seq ?_ | refine Safe.skip ?_ | with_reducible refine thenQ.n ?_ | with_reducible refine blockQ.n ?_)
    refine Safe.ret ?_
    repeat (first | with_reducible refine thenQ.r ?_ | with_reducible refine blockQ.r ?_)
    refine retQ.cast ?_ (retQ.one rfl rfl (.free rfl) (by simp))
    first | rfl | (rw [h7]; done) | (rw [happ]; simp; done) | (rw [h103]; done) | (simp_all; done)
  · skip
    repeat (first | refine Safe.seq ?_ | refine Safe.skip ?_ | with_reducible refine thenQ.n ?_ | with_reducible refine blockQ.n ?_)
    refine Safe.region ?_
    refine SafeOps.quiet0 E_good rfl rfl rfl (.fn rfl) ?_
    refine SafeOps.quiet0 E_good rfl rfl rfl (.fn rfl) ?_
    refine SafeOps.quiet0 E_good rfl rfl rfl (.fn rfl) ?_
    refine SafeOps.quiet0 E_good rfl rfl rfl (.fn rfl) ?_
    refine SafeOps.split 19 rfl (fun h2 => ?_) (fun h2 => ?_)
    · skip
      refine SafeOps.skip rfl rfl rfl ?_
      refine SafeOps.skip rfl rfl rfl ?_
      refine SafeOps.skip rfl rfl rfl ?_
      refine SafeOps.quiet0 E_good rfl rfl rfl (.fn rfl) ?_
      refine SafeOps.nil ?_
      repeat (first | refine Safe.seq ?_ | refine Safe.skip ?_ | with_reducible refine thenQ.n ?_ | with_reducible refine blockQ.n ?_)
      refine Safe.condT rfl ?_
      repeat (first | refine Safe.seq ?_ | refine Safe.skip ?_ | with_reducible refine thenQ.n ?_ | with_reducible refine blockQ.n ?_)
      refine Safe.region ?_
      refine SafeOps.quiet0 E_good rfl rfl rfl (.fn rfl) ?_
      refine SafeOps.quiet0 E_good rfl rfl rfl (.fn rfl) ?_
      refine SafeOps.nil ?_
      repeat (first | refine Safe.seq ?_ | refine Safe.skip ?_ | with_reducible refine thenQ.n ?_ | with_reducible refine blockQ.n ?_)
      refine Safe.ret ?_
      repeat (first | with_reducible refine thenQ.r ?_ | with_reducible refine blockQ.r ?_)
      refine retQ.cast ?_ (retQ.one rfl rfl (.free rfl) (by simp))
      first | rfl | (rw [h7]; done) | (rw [happ]; simp; done) | (rw [h103]; done) | (simp_all; done)
    · skip
      have hpos : 1 ≤ xs.length := by
        have h0 := h2
        simp [rows1_len] at h0
        omega
      refine SafeOps.quiet0 E_good rfl rfl rfl (.fn rfl) ?_
      refine SafeOps.quiet0 E_good rfl rfl rfl (.fn rfl) ?_
      refine SafeOps.quiet0 E_good rfl rfl rfl (.fn rfl) ?_
      refine SafeOps.quiet0 E_good rfl rfl rfl (.fn rfl) ?_
      refine SafeOps.nil ?_
      repeat (first | refine Safe.seq ?_ | refine Safe.skip ?_ | with_reducible refine thenQ.n ?_ | with_reducible refine blockQ.n ?_)
      refine Safe.cond rfl (fun h3 => ?_) (fun h3 => ?_)
      · skip
        repeat (first | refine Safe.seq ?_ | refine Safe.skip ?_ | with_reducible refine thenQ.n ?_ | with_reducible refine blockQ.n ?_)
        refine Safe.region ?_
        refine SafeOps.quiet0 E_good rfl rfl rfl (.fn rfl) ?_
        refine SafeOps.quiet0 E_good rfl rfl rfl (.fn rfl) ?_
        refine SafeOps.nil ?_
        repeat (first | refine Safe.seq ?_ | refine Safe.skip ?_ | with_reducible refine thenQ.n ?_ | with_reducible refine blockQ.n ?_)
        refine Safe.ret ?_
        repeat (first | with_reducible refine thenQ.r ?_ | with_reducible refine blockQ.r ?_)
        refine retQ.cast ?_ (retQ.one rfl rfl (.free rfl) (by simp))
        first | rfl | (rw [h7]; done) | (rw [happ]; simp; done) | (rw [h103]; done) | (simp_all; done)
      · skip
        have h100 : xs.length ≤ 100 := by
          have h0 := h3
          simp [rows1_len] at h0
          omega
        repeat (first | refine Safe.seq ?_ | refine Safe.skip ?_ | with_reducible refine thenQ.n ?_ | with_reducible refine blockQ.n ?_)
        refine Safe.region ?_
        refine SafeOps.quiet0 E_good rfl rfl rfl (.fn rfl) ?_
        refine SafeOps.quiet0 E_good rfl rfl rfl (.callP rfl rfl (trace_sc _ hlen) rfl) ?_
        refine SafeOps.quiet0 E_good rfl rfl rfl (.fn rfl) ?_
        refine SafeOps.quiet0 E_good rfl rfl rfl (.fn rfl) ?_
        refine SafeOps.quiet0 E_good rfl rfl rfl (.fn rfl) ?_
        refine SafeOps.quiet0 E_good rfl rfl rfl (.fn rfl) ?_
        refine SafeOps.quiet0 E_good rfl rfl rfl (.fn rfl) ?_
        refine SafeOps.nil ?_
        repeat (first | refine Safe.seq ?_ | refine Safe.skip ?_ | with_reducible refine thenQ.n ?_ | with_reducible refine blockQ.n ?_)
        refine Safe.region ?_
        refine SafeOps.quiet0 E_good rfl rfl rfl (.fn rfl) ?_
        refine SafeOps.quiet0 E_good rfl rfl rfl (.fn rfl) ?_
        refine SafeOps.nil ?_
        repeat (first | refine Safe.seq ?_ | refine Safe.skip ?_ | with_reducible refine thenQ.n ?_ | with_reducible refine blockQ.n ?_)
        refine Safe.cond rfl (fun h4 => ?_) (fun h4 => ?_)
        · skip
          repeat (first | refine Safe.seq ?_ | refine Safe.skip ?_ | with_reducible refine thenQ.n ?_ | with_reducible refine blockQ.n ?_)
          refine Safe.region ?_
          refine SafeOps.quiet0 E_good rfl rfl rfl (.fn rfl) ?_
          refine SafeOps.quiet0 E_good rfl rfl rfl (.fn rfl) ?_
          refine SafeOps.nil ?_
          repeat (first | refine Safe.seq ?_ | refine Safe.skip ?_ | with_reducible refine thenQ.n ?_ | with_reducible refine blockQ.n ?_)
          refine Safe.ret ?_
          repeat (first | with_reducible refine thenQ.r ?_ | with_reducible refine blockQ.r ?_)
          refine retQ.cast ?_ (retQ.one rfl rfl (.free rfl) (by simp))
          first | rfl | (rw [h7]; done) | (rw [happ]; simp; done) | (rw [h103]; done) | (simp_all; done)
        · skip
          have hb := trE_zero h4
          repeat (first | refine Safe.seq ?_ | refine Safe.skip ?_ | with_reducible refine thenQ.n ?_ | with_reducible refine blockQ.n ?_)
          refine Safe.region ?_
          refine SafeOps.quiet0 E_good rfl rfl rfl (.fn rfl) ?_
          refine SafeOps.nil ?_
          repeat (first | refine Safe.seq ?_ | refine Safe.skip ?_ | with_reducible refine thenQ.n ?_ | with_reducible refine blockQ.n ?_)
          refine Safe.block ?_
          repeat (first | refine Safe.seq ?_ | refine Safe.skip ?_ | with_reducible refine thenQ.n ?_ | with_reducible refine blockQ.n ?_)
          refine Safe.loopI (ι := Nat) (fun k => ⟨Tryd.f4.ntmps, [(0, .sl 1 (rows1 xs)), (1, .int .i64 m), (5, .bool true), (6, .int .i64 (trV xs)), (8, .int .i64 (k : Nat))], [], [], []⟩) (fun k => 1 ≤ k ∧ k ≤ xs.length + 1) (fun k => xs.length + 1 - k) 1 ?_ ?_ ?_
          · exact ⟨Nat.le_refl _, by omega⟩
          · exact ⟨rfl, rfl, rfl, ⟨rfl, rfl, rfl, rfl, rfl, trivial⟩, trivial, rfl⟩
          · intro k ⟨h1, hk1⟩
            repeat (first | refine Safe.seq ?_ | refine Safe.skip ?_ | with_reducible refine thenQ.n ?_ | with_reducible refine blockQ.n ?_)
            refine Safe.region ?_
            refine SafeOps.quiet0 E_good rfl rfl rfl (.fn rfl) ?_
            refine SafeOps.quiet0 E_good rfl rfl rfl (.fn rfl) ?_
            refine SafeOps.quiet0 E_good rfl rfl rfl (.fn rfl) ?_
            refine SafeOps.quiet0 E_good rfl rfl rfl (.fn rfl) ?_
            refine SafeOps.nil ?_
            repeat (first | refine Safe.seq ?_ | refine Safe.skip ?_ | with_reducible refine thenQ.n ?_ | with_reducible refine blockQ.n ?_)
            refine Safe.cond rfl (fun h5 => ?_) (fun h5 => ?_)
            · skip
              have hk : k ≤ xs.length := by simpa [rows1_len] using h5
              repeat (first | refine Safe.seq ?_ | refine Safe.skip ?_ | with_reducible refine thenQ.n ?_ | with_reducible refine blockQ.n ?_)
              refine Safe.block ?_
              repeat (first | refine Safe.seq ?_ | refine Safe.skip ?_ | with_reducible refine thenQ.n ?_ | with_reducible refine blockQ.n ?_)
              refine Safe.region ?_
              refine SafeOps.quiet0 E_good rfl rfl rfl (.fn rfl) ?_
              refine SafeOps.quiet0 E_good rfl rfl rfl (.fn rfl) ?_
              refine SafeOps.quiet0 E_good rfl rfl rfl (v := .sl 1 (rows1 (xs.take k))) (by rw [← rows1_take]; exact .slSl rfl rfl rfl rfl .no (.lim (i := (k : Int)) rfl (by omega)) (by omega) (by rw [rows1_len]; omega)) ?_
              refine SafeOps.quiet0 E_good rfl rfl rfl (.callP rfl rfl (trace_sc _ (by rw [List.length_take]; omega)) rfl) ?_
              refine SafeOps.quiet0 E_good rfl rfl rfl (.fn rfl) ?_
              refine SafeOps.quiet0 E_good rfl rfl rfl (.fn rfl) ?_
              refine SafeOps.quiet0 E_good rfl rfl rfl (.fn rfl) ?_
              refine SafeOps.quiet0 E_good rfl rfl rfl (.fn rfl) ?_
              refine SafeOps.quiet0 E_good rfl rfl rfl (.fn rfl) ?_
              refine SafeOps.nil ?_
              repeat (first | refine Safe.seq ?_ | refine Safe.skip ?_ | with_reducible refine thenQ.n ?_ | with_reducible refine blockQ.n ?_)
              refine Safe.region ?_
              refine SafeOps.quiet0 E_good rfl rfl rfl (.fn rfl) ?_
              refine SafeOps.quiet0 E_good rfl rfl rfl (.fn rfl) ?_
              refine SafeOps.quiet0 E_good rfl rfl rfl (.fn rfl) ?_
              refine SafeOps.split 48 rfl (fun h6 => ?_) (fun h6 => ?_)
              · skip
                exfalso
                simp [trE, bad_take hb h1] at h6
              · skip
                refine SafeOps.quiet0 E_good rfl rfl rfl (.fn rfl) ?_
                refine SafeOps.quiet0 E_good rfl rfl rfl (.fn rfl) ?_
                refine SafeOps.quiet0 E_good rfl rfl rfl (.fn rfl) ?_
                refine SafeOps.quiet0 E_good rfl rfl rfl (.fn rfl) ?_
                refine SafeOps.quiet0 E_good rfl rfl rfl (.fn rfl) ?_
                refine SafeOps.quiet0 E_good rfl rfl rfl (.fn rfl) ?_
                refine SafeOps.nil ?_
                repeat (first | refine Safe.seq ?_ | refine Safe.skip ?_ | with_reducible refine thenQ.n ?_ | with_reducible refine blockQ.n ?_)
                refine Safe.cond rfl (fun h7 => ?_) (fun h7 => ?_)
                · skip
                  exfalso
                  have h0 := h7
                  rw [trV_take hb h1 hk] at h0
                  simp at h0
                  omega
                · skip
                  repeat (first | refine Safe.seq ?_ | refine Safe.skip ?_ | with_reducible refine thenQ.n ?_ | with_reducible refine blockQ.n ?_)
                  refine Safe.region ?_
                  refine SafeOps.quiet0 E_good rfl rfl rfl (.fn rfl) ?_
                  refine SafeOps.quiet0 E_good rfl rfl rfl (.fn rfl) ?_
                  refine SafeOps.quiet0 E_good rfl rfl rfl (.fn rfl) ?_
                  refine SafeOps.nil ?_
                  repeat (first | refine Safe.seq ?_ | refine Safe.skip ?_ | with_reducible refine thenQ.n ?_ | with_reducible refine blockQ.n ?_)
                  exact ⟨k + 1, ⟨by omega, by omega⟩, ⟨rfl, rfl, rfl, ⟨rfl, rfl, rfl, rfl, (by show V.int .i64 (IntKind.i64.wrap ((k : Int) + 1)) = _; rw [wrap_id (by omega) (by omega)]; rfl), trivial⟩, trivial, rfl⟩, (by omega)⟩
            · skip
              repeat (first | refine Safe.seq ?_ | refine Safe.skip ?_ | with_reducible refine thenQ.n ?_ | with_reducible refine blockQ.n ?_)
              refine Safe.exit ?_
              repeat (first | with_reducible refine thenQ.e ?_ | with_reducible refine blockQ.x rfl ?_ | with_reducible refine blockQ.y rfl ?_)
              repeat (first | refine Safe.seq ?_ | refine Safe.skip ?_ | with_reducible refine thenQ.n ?_ | with_reducible refine blockQ.n ?_)
              refine Safe.region ?_
              refine SafeOps.quiet0 E_good rfl rfl rfl (.fn rfl) ?_
              refine SafeOps.append E_good rfl rfl rfl rfl rfl rfl rfl rfl (.nils _) (.sl _ _) (rows1_ones xs) (rs := rows1 xs) (m := xs.length) rfl (rows1_len xs) (by show _ * 8 ≤ _; omega) (by omega) ?_
              refine SafeOps.quiet0 E_good rfl rfl rfl (.fn rfl) ?_
              refine SafeOps.quiet1 E_good rfl rfl rfl (.lit rfl rfl (by decide) rfl rfl rfl) rfl ?_
              refine SafeOps.append E_good rfl rfl rfl rfl rfl rfl rfl rfl (.full rfl (rows1_len xs).symm) (.full rfl rfl) (rows1_ones [m]) (rs := rows1 (xs ++ [m])) (m := xs.length + 1) (rows1_app xs [m]) (by simp [rows1]) (by show _ * 8 ≤ _; omega) (by omega) ?_
              refine SafeOps.quiet0 E_good rfl rfl rfl (.callS rfl (.cons (.full rfl (by simp [rows1])) .nil) (trace_sc (xs ++ [m]) (by simp; omega)) (.tup (by simp; exact ⟨.plain rfl, .plain rfl⟩)) rfl) ?_
              refine SafeOps.quiet0 E_good rfl rfl rfl (.fn rfl) ?_
              refine SafeOps.quiet0 E_good rfl rfl rfl (.fn rfl) ?_
              refine SafeOps.quiet0 E_good rfl rfl rfl (.fn rfl) ?_
              refine SafeOps.quiet0 E_good rfl rfl rfl (.fn rfl) ?_
              refine SafeOps.quiet0 E_good rfl rfl rfl (.fn rfl) ?_
              refine SafeOps.nil ?_
              repeat (first | refine Safe.seq ?_ | refine Safe.skip ?_ | with_reducible refine thenQ.n ?_ | with_reducible refine blockQ.n ?_)
              refine Safe.region ?_
              refine SafeOps.quiet0 E_good rfl rfl rfl (.fn rfl) ?_
              refine SafeOps.quiet0 E_good rfl rfl rfl (.fn rfl) ?_
              refine SafeOps.nil ?_
              repeat (first | refine Safe.seq ?_ | refine Safe.skip ?_ | with_reducible refine thenQ.n ?_ | with_reducible refine blockQ.n ?_)
              refine Safe.cond rfl (fun h8 => ?_) (fun h8 => ?_)
              · skip
                have hs : stB m = false := by
                  have h0 := h8
                  cases hs : stB m with
                  | false => rfl
                  | true => simp [trE, bad_app hb m, hs] at h0
                repeat (first | refine Safe.seq ?_ | refine Safe.skip ?_ | with_reducible refine thenQ.n ?_ | with_reducible refine blockQ.n ?_)
                refine Safe.region ?_
                refine SafeOps.quiet0 E_good rfl rfl rfl (.fn rfl) ?_
                refine SafeOps.quiet0 E_good rfl rfl rfl (.fn rfl) ?_
                refine SafeOps.split 67 rfl (fun h9 => ?_) (fun h9 => ?_)
                · skip
                  refine SafeOps.quiet0 E_good rfl rfl rfl (.fn rfl) ?_
                  refine SafeOps.quiet0 E_good rfl rfl rfl (.fn rfl) ?_
                  refine SafeOps.quiet0 E_good rfl rfl rfl (.fn rfl) ?_
                  refine SafeOps.split 70 rfl (fun h10 => ?_) (fun h10 => ?_)
                  · skip
                    refine SafeOps.skip rfl rfl rfl ?_
                    refine SafeOps.skip rfl rfl rfl ?_
                    refine SafeOps.quiet0 E_good rfl rfl rfl (.fn rfl) ?_
                    refine SafeOps.quiet0 E_good rfl rfl rfl (.fn rfl) ?_
                    refine SafeOps.quiet0 E_good rfl rfl rfl (.fn rfl) ?_
                    refine SafeOps.nil ?_
                    repeat (first | refine Safe.seq ?_ | refine Safe.skip ?_ | with_reducible refine thenQ.n ?_ | with_reducible refine blockQ.n ?_)
                    refine Safe.ret ?_
                    repeat (first | with_reducible refine thenQ.r ?_ | with_reducible refine blockQ.r ?_)
                    refine retQ.cast ?_ (retQ.one rfl rfl (.free rfl) (by simp))
                    first | rfl | (rw [h7]; done) | (rw [happ]; simp; done) | (rw [h103]; done) | (simp_all; done)
                  · skip
                    have h7 : decide (m > 7) = true := by
                      have h0 := h10
                      simp [stB] at hs h0
                      simp; omega
                    refine SafeOps.quiet0 E_good rfl rfl rfl (.fn rfl) ?_
                    refine SafeOps.quiet0 E_good rfl rfl rfl (.fn rfl) ?_
                    refine SafeOps.quiet0 E_good rfl rfl rfl (.fn rfl) ?_
                    refine SafeOps.quiet0 E_good rfl rfl rfl (.fn rfl) ?_
                    refine SafeOps.quiet0 E_good rfl rfl rfl (.fn rfl) ?_
                    refine SafeOps.nil ?_
                    repeat (first | refine Safe.seq ?_ | refine Safe.skip ?_ | with_reducible refine thenQ.n ?_ | with_reducible refine blockQ.n ?_)
                    refine Safe.ret ?_
                    repeat (first | with_reducible refine thenQ.r ?_ | with_reducible refine blockQ.r ?_)
                    refine retQ.cast ?_ (retQ.one rfl rfl (.free rfl) (by simp))
                    first | rfl | (rw [h7]; done) | (rw [happ]; simp; done) | (rw [h103]; done) | (simp_all; done)
                · skip
                  refine SafeOps.skip rfl rfl rfl ?_
                  refine SafeOps.skip rfl rfl rfl ?_
                  refine SafeOps.skip rfl rfl rfl ?_
                  refine SafeOps.skip rfl rfl rfl ?_
                  refine SafeOps.skip rfl rfl rfl ?_
                  refine SafeOps.skip rfl rfl rfl ?_
                  refine SafeOps.quiet0 E_good rfl rfl rfl (.fn rfl) ?_
                  refine SafeOps.quiet0 E_good rfl rfl rfl (.fn rfl) ?_
                  refine SafeOps.nil ?_
                  repeat (first | refine Safe.seq ?_ | refine Safe.skip ?_ | with_reducible refine thenQ.n ?_ | with_reducible refine blockQ.n ?_)
                  refine Safe.ret ?_
                  repeat (first | with_reducible refine thenQ.r ?_ | with_reducible refine blockQ.r ?_)
                  refine retQ.cast ?_ (retQ.one rfl rfl (.free rfl) (by simp))
                  first | rfl | (rw [h7]; done) | (rw [happ]; simp; done) | (rw [h103]; done) | (simp_all; done)
              · skip
                have hs : stB m = true := by
                  have h0 := h8
                  cases hs : stB m with
                  | true => rfl
                  | false => simp [trE, bad_app hb m, hs] at h0
                repeat (first | refine Safe.seq ?_ | refine Safe.skip ?_ | with_reducible refine thenQ.n ?_ | with_reducible refine blockQ.n ?_)
                refine Safe.region ?_
                refine SafeOps.quiet0 E_good rfl rfl rfl (.fn rfl) ?_
                refine SafeOps.quiet0 E_good rfl rfl rfl (.fn rfl) ?_
                refine SafeOps.quiet0 E_good rfl rfl rfl (.fn rfl) ?_
                refine SafeOps.quiet0 E_good rfl rfl rfl (.fn rfl) ?_
                refine SafeOps.nil ?_
                repeat (first | refine Safe.seq ?_ | refine Safe.skip ?_ | with_reducible refine thenQ.n ?_ | with_reducible refine blockQ.n ?_)
                refine Safe.cond rfl (fun h11 => ?_) (fun h11 => ?_)
                · skip
                  have hlt : trV xs < xs.length := by simpa [rows1_len] using h11
                  have happ := trV_app_lt hb hs hlt
                  repeat (first | refine Safe.seq ?_ | refine Safe.skip ?_ | with_reducible refine thenQ.n ?_ | with_reducible refine blockQ.n ?_)
                  refine Safe.region ?_
                  refine SafeOps.quiet0 E_good rfl rfl rfl (.fn rfl) ?_
                  refine SafeOps.quiet0 E_good rfl rfl rfl (.fn rfl) ?_
                  refine SafeOps.split 80 rfl (fun h12 => ?_) (fun h12 => ?_)
                  · skip
                    refine SafeOps.quiet0 E_good rfl rfl rfl (.fn rfl) ?_
                    refine SafeOps.quiet0 E_good rfl rfl rfl (.fn rfl) ?_
                    refine SafeOps.quiet0 E_good rfl rfl rfl (.fn rfl) ?_
                    refine SafeOps.quiet0 E_good rfl rfl rfl (.fn rfl) ?_
                    refine SafeOps.quiet0 E_good rfl rfl rfl (.fn rfl) ?_
                    refine SafeOps.nil ?_
                    repeat (first | refine Safe.seq ?_ | refine Safe.skip ?_ | with_reducible refine thenQ.n ?_ | with_reducible refine blockQ.n ?_)
                    refine Safe.ret ?_
                    repeat (first | with_reducible refine thenQ.r ?_ | with_reducible refine blockQ.r ?_)
                    refine retQ.cast ?_ (retQ.one rfl rfl (.free rfl) (by simp))
                    first | rfl | (rw [h7]; done) | (rw [happ]; simp; done) | (rw [h103]; done) | (simp_all; done)
                  · skip
                    refine SafeOps.skip rfl rfl rfl ?_
                    refine SafeOps.skip rfl rfl rfl ?_
                    refine SafeOps.skip rfl rfl rfl ?_
                    refine SafeOps.quiet0 E_good rfl rfl rfl (.fn rfl) ?_
                    refine SafeOps.quiet0 E_good rfl rfl rfl (.fn rfl) ?_
                    refine SafeOps.nil ?_
                    repeat (first | refine Safe.seq ?_ | refine Safe.skip ?_ | with_reducible refine thenQ.n ?_ | with_reducible refine blockQ.n ?_)
                    refine Safe.ret ?_
                    repeat (first | with_reducible refine thenQ.r ?_ | with_reducible refine blockQ.r ?_)
                    refine retQ.cast ?_ (retQ.one rfl rfl (.free rfl) (by simp))
                    first | rfl | (rw [h7]; done) | (rw [happ]; simp; done) | (rw [h103]; done) | (simp_all; done)
                · skip
                  have hn : trV xs = xs.length := by
                    have h0 := h11
                    have h9 := trV_le xs
                    simp [rows1_len] at h0
                    omega
                  have happ := trV_app_eq hb hs hpos hn
                  have hw1 : IntKind.i64.wrap (trV xs + 1) = ((xs.length + 1 : Nat) : Int) := by rw [hn, wrap_id (by omega) (by omega)]; rfl
                  have hw2 : IntKind.i64.wrap (trV xs - 1) = ((xs.length - 1 : Nat) : Int) := by rw [hn, wrap_id (by omega) (by omega)]; omega
                  repeat (first | refine Safe.seq ?_ | refine Safe.skip ?_ | with_reducible refine thenQ.n ?_ | with_reducible refine blockQ.n ?_)
                  refine Safe.region ?_
                  refine SafeOps.quiet0 E_good rfl rfl rfl (.fn rfl) ?_
                  refine SafeOps.quiet0 E_good rfl rfl rfl (.fn rfl) ?_
                  refine SafeOps.split 86 rfl (fun h13 => ?_) (fun h13 => ?_)
                  · skip
                    refine SafeOps.quiet0 E_good rfl rfl rfl (.fn rfl) ?_
                    refine SafeOps.quiet0 E_good rfl rfl rfl (.fn rfl) ?_
                    refine SafeOps.quiet0 E_good rfl rfl rfl (v := .int .i64 ((xs.length + 1 : Nat) : Int)) (.fn (by rw [← hw1]; rfl)) ?_
                    refine SafeOps.quiet0 E_good rfl rfl rfl (.fn rfl) ?_
                    refine SafeOps.quiet0 E_good rfl rfl rfl (.fn rfl) ?_
                    refine SafeOps.quiet0 E_good rfl rfl rfl (.fn rfl) ?_
                    refine SafeOps.quiet0 E_good rfl rfl rfl (v := .int .i64 ((xs.length - 1 : Nat) : Int)) (.fn (by rw [← hw2]; rfl)) ?_
                    refine SafeOps.quiet0 E_good rfl rfl rfl (.idxSl rfl rfl rfl rfl rfl (by omega) (by rw [rows1_len]; omega)) ?_
                    refine SafeOps.quiet0 E_good rfl rfl rfl (.load rfl rfl (.spt (rows1_get (by omega)) rfl) rfl) ?_
                    refine SafeOps.quiet0 E_good rfl rfl rfl (.fn rfl) ?_
                    refine SafeOps.quiet0 E_good rfl rfl rfl (.callP rfl rfl (legal_sc _ _) rfl) ?_
                    refine SafeOps.quiet0 E_good rfl rfl rfl (.fn rfl) ?_
                    refine SafeOps.quiet0 E_good rfl rfl rfl (.fn rfl) ?_
                    refine SafeOps.quiet0 E_good rfl rfl rfl (.fn rfl) ?_
                    refine SafeOps.split 100 rfl (fun h14 => ?_) (fun h14 => ?_)
                    · skip
                      have h103 : decide (trV (xs ++ [m]) ≥ trV xs) = true := by rw [happ, hn]; split <;> simp <;> omega
                      refine SafeOps.quiet0 E_good rfl rfl rfl (.fn rfl) ?_
                      refine SafeOps.quiet0 E_good rfl rfl rfl (.fn rfl) ?_
                      refine SafeOps.quiet0 E_good rfl rfl rfl (.fn rfl) ?_
                      refine SafeOps.quiet0 E_good rfl rfl rfl (.fn rfl) ?_
                      refine SafeOps.quiet0 E_good rfl rfl rfl (.fn rfl) ?_
                      refine SafeOps.nil ?_
                      repeat (first | refine Safe.seq ?_ | refine Safe.skip ?_ | with_reducible refine thenQ.n ?_ | with_reducible refine blockQ.n ?_)
                      refine Safe.ret ?_
                      repeat (first | with_reducible refine thenQ.r ?_ | with_reducible refine blockQ.r ?_)
                      refine retQ.cast ?_ (retQ.one rfl rfl (.free rfl) (by simp))
                      first | rfl | (rw [h7]; done) | (rw [happ]; simp; done) | (rw [h103]; done) | (simp_all; done)
                    · skip
                      exfalso
                      have h0 := h14
                      rw [happ] at h0
                      simp only [Int.toNat_natCast] at h0
                      cases hl : legB (xs.getD (xs.length - 1) 0) m <;> rw [hl] at h0 <;> simp at h0 <;> omega
                  · skip
                    refine SafeOps.skip rfl rfl rfl ?_
                    refine SafeOps.skip rfl rfl rfl ?_
                    refine SafeOps.skip rfl rfl rfl ?_
                    refine SafeOps.skip rfl rfl rfl ?_
                    refine SafeOps.skip rfl rfl rfl ?_
                    refine SafeOps.skip rfl rfl rfl ?_
                    refine SafeOps.skip rfl rfl rfl ?_
                    refine SafeOps.skip rfl rfl rfl ?_
                    refine SafeOps.skip rfl rfl rfl ?_
                    refine SafeOps.skip rfl rfl rfl ?_
                    refine SafeOps.skip rfl rfl rfl ?_
                    refine SafeOps.skip rfl rfl rfl ?_
                    refine SafeOps.quiet0 E_good rfl rfl rfl (.fn rfl) ?_
                    refine SafeOps.quiet0 E_good rfl rfl rfl (.fn rfl) ?_
                    refine SafeOps.skip rfl rfl rfl ?_
                    refine SafeOps.skip rfl rfl rfl ?_
                    refine SafeOps.skip rfl rfl rfl ?_
                    refine SafeOps.quiet0 E_good rfl rfl rfl (.fn rfl) ?_
                    refine SafeOps.quiet0 E_good rfl rfl rfl (.fn rfl) ?_
                    refine SafeOps.nil ?_
                    repeat (first | refine Safe.seq ?_ | refine Safe.skip ?_ | with_reducible refine thenQ.n ?_ | with_reducible refine blockQ.n ?_)
                    refine Safe.ret ?_
                    repeat (first | with_reducible refine thenQ.r ?_ | with_reducible refine blockQ.r ?_)
                    refine retQ.cast ?_ (retQ.one rfl rfl (.free rfl) (by simp))
                    first | rfl | (rw [h7]; done) | (rw [happ]; simp; done) | (rw [h103]; done) | (simp_all; done)

end Go.Proofs.YtechkmappabefaaDoor
