/- Helper lemmas for the claim's theorem: an abstract machine over the model, proved sound; no condition beyond each lemma's own. -/
import Derived.Test.YtechkmappabefaaDoorSA
set_option linter.unusedVariables false
set_option linter.unusedSimpArgs false
set_option linter.unnecessarySimpa false
set_option linter.unusedSectionVars false
namespace Go.Proofs.YtechkmappabefaaDoor
open Go Go.AM
set_option maxRecDepth 100000
set_option maxHeartbeats 1000000
set_option linter.unusedVariables false
set_option linter.unusedSimpArgs false
def trN (ahead : Int) (i : Nat) : List Int → Nat
  | [] => i
  | s :: r => if !legB ahead s || (i == 0 && s != 1) then i else trN s (i + 1) r
def badB (xs : List Int) : Bool := xs.isEmpty || xs.any (fun n => !stB n)
def trV (xs : List Int) : Int := if badB xs then 0 else trN 3 0 xs
def trE (xs : List Int) : Int := if badB xs then 1 else 0
theorem drop_cons {xs : List Int} {k : Nat} (h : k < xs.length) : xs.drop k = xs.getD k 0 :: xs.drop (k + 1) := by
  rw [List.drop_eq_getElem_cons h]; simp [List.getD, h]
theorem trN_stop {a : Int} {k : Nat} {xs : List Int} (h : k < xs.length) (hb : (!legB a (xs.getD k 0) || (k == 0 && xs.getD k 0 != 1)) = true) : trN a k (xs.drop k) = k := by
  rw [drop_cons h, trN, if_pos hb]
theorem trN_go {a : Int} {k : Nat} {xs : List Int} (h : k < xs.length) (hb : (!legB a (xs.getD k 0) || (k == 0 && xs.getD k 0 != 1)) = false) : trN a k (xs.drop k) = trN (xs.getD k 0) (k + 1) (xs.drop (k + 1)) := by
  rw [drop_cons h, trN, if_neg (by simp only [hb]; simp)]


theorem trace_sc (xs : List Int) (hlen : xs.length ≤ 9223372036854775807) : SC Tryd.prog gl 10 [.sl 1 (rows1 xs)] (.tup [.int .i64 (trV xs), .int .i64 (trE xs)]) := by
  refine SC.of E_good Tryd.func10 rfl (fun _ _ => Tryd.call10 _ _) rfl ?_
  repeat (first | refine Safe.seq ?_ | refine Safe.skip ?_ | with_reducible refine thenQ.n ?_ | with_reducible refine blockQ.n ?_)
  refine Safe.region ?_
  refine SafeOps.quiet0 E_good rfl rfl rfl (.fn rfl) ?_
  refine SafeOps.quiet0 E_good rfl rfl rfl (.fn rfl) ?_
  refine SafeOps.nil ?_
  repeat (first | refine Safe.seq ?_ | refine Safe.skip ?_ | with_reducible refine thenQ.n ?_ | with_reducible refine blockQ.n ?_)
  refine Safe.region ?_
  refine SafeOps.quiet0 E_good rfl rfl rfl (.fn rfl) ?_
  refine SafeOps.nil ?_
  repeat (first | refine Safe.seq ?_ | refine Safe.skip ?_ | with_reducible refine thenQ.n ?_ | with_reducible refine blockQ.n ?_)
  refine Safe.region ?_
  refine SafeOps.quiet0 E_good rfl rfl rfl (.fn rfl) ?_
  refine SafeOps.quiet0 E_good rfl rfl rfl (.fn rfl) ?_
  refine SafeOps.quiet0 E_good rfl rfl rfl (.fn rfl) ?_
  refine SafeOps.quiet0 E_good rfl rfl rfl (.fn rfl) ?_
  refine SafeOps.split 11 rfl (fun h1 => ?_) (fun h1 => ?_)
  · skip
    have h0 : xs = [] := by simpa [rows1_len] using h1
    have hb : badB xs = true := by simp [badB, h0]
    refine SafeOps.skip rfl rfl rfl ?_
    refine SafeOps.skip rfl rfl rfl ?_
    refine SafeOps.skip rfl rfl rfl ?_
    refine SafeOps.quiet0 E_good rfl rfl rfl (.fn rfl) ?_
    refine SafeOps.nil ?_
    repeat (first | refine Safe.seq ?_ | refine Safe.skip ?_ | with_reducible refine thenQ.n ?_ | with_reducible refine blockQ.n ?_)
    refine Safe.condT rfl ?_
    repeat (first | refine Safe.seq ?_ | refine Safe.skip ?_ | with_reducible refine thenQ.n ?_ | with_reducible refine blockQ.n ?_)
    refine Safe.region ?_
    refine SafeOps.quiet0 E_good rfl rfl rfl (.fn rfl) ?_
    refine SafeOps.quiet0 E_good rfl rfl rfl (.fn rfl) ?_
    refine SafeOps.nil ?_
    repeat (first | refine Safe.seq ?_ | refine Safe.skip ?_ | with_reducible refine thenQ.n ?_ | with_reducible refine blockQ.n ?_)
    refine Safe.ret ?_
    repeat (first | with_reducible refine thenQ.r ?_ | with_reducible refine blockQ.r ?_)
    refine retQ.cast ?_ (retQ.two rfl rfl rfl (.free rfl) (by simp))
    first | (simp [trV, trE, hb]; done) | (rw [trV, trE, hb, hn, trN_stop hlt hstop]; rfl) | (rw [trV, trE, hb, hn]; subst hge; simp [trN, rows1_len])
  · skip
    have hne : xs.isEmpty = false := by simpa [rows1_len] using h1
    refine SafeOps.quiet0 E_good rfl rfl rfl (.fn rfl) ?_
    refine SafeOps.quiet0 E_good rfl rfl rfl (.fn rfl) ?_
    refine SafeOps.quiet0 E_good rfl rfl rfl (.callP rfl rfl (contains_sc xs 24 [] (fun n => !stB n) hlen rfl (fun n => odd_sc n)) rfl) ?_
    refine SafeOps.quiet0 E_good rfl rfl rfl (.fn rfl) ?_
    refine SafeOps.nil ?_
    repeat (first | refine Safe.seq ?_ | refine Safe.skip ?_ | with_reducible refine thenQ.n ?_ | with_reducible refine blockQ.n ?_)
    refine Safe.cond rfl (fun h2 => ?_) (fun h2 => ?_)
    · skip
      have hb : badB xs = true := by unfold badB; rw [h2]; simp
      repeat (first | refine Safe.seq ?_ | refine Safe.skip ?_ | with_reducible refine thenQ.n ?_ | with_reducible refine blockQ.n ?_)
      refine Safe.region ?_
      refine SafeOps.quiet0 E_good rfl rfl rfl (.fn rfl) ?_
      refine SafeOps.quiet0 E_good rfl rfl rfl (.fn rfl) ?_
      refine SafeOps.nil ?_
      repeat (first | refine Safe.seq ?_ | refine Safe.skip ?_ | with_reducible refine thenQ.n ?_ | with_reducible refine blockQ.n ?_)
      refine Safe.ret ?_
      repeat (first | with_reducible refine thenQ.r ?_ | with_reducible refine blockQ.r ?_)
      refine retQ.cast ?_ (retQ.two rfl rfl rfl (.free rfl) (by simp))
      first | (simp [trV, trE, hb]; done) | (rw [trV, trE, hb, hn, trN_stop hlt hstop]; rfl) | (rw [trV, trE, hb, hn]; subst hge; simp [trN, rows1_len])
    · skip
      have hb : badB xs = false := by unfold badB; rw [h2, hne]; rfl
      repeat (first | refine Safe.seq ?_ | refine Safe.skip ?_ | with_reducible refine thenQ.n ?_ | with_reducible refine blockQ.n ?_)
      refine Safe.region ?_
      refine SafeOps.quiet0 E_good rfl rfl rfl (.fn rfl) ?_
      refine SafeOps.nil ?_
      repeat (first | refine Safe.seq ?_ | refine Safe.skip ?_ | with_reducible refine thenQ.n ?_ | with_reducible refine blockQ.n ?_)
      refine Safe.region ?_
      refine SafeOps.quiet0 E_good rfl rfl rfl (.fn rfl) ?_
      refine SafeOps.quiet0 E_good rfl rfl rfl (.fn rfl) ?_
      refine SafeOps.quiet0 E_good rfl rfl rfl (.fn rfl) ?_
      refine SafeOps.nil ?_
      repeat (first | refine Safe.seq ?_ | refine Safe.skip ?_ | with_reducible refine thenQ.n ?_ | with_reducible refine blockQ.n ?_)
      refine Safe.block ?_
      repeat (first | refine Safe.seq ?_ | refine Safe.skip ?_ | with_reducible refine thenQ.n ?_ | with_reducible refine blockQ.n ?_)
      refine Safe.loopI (ι := Nat × Int) (fun ⟨k, a⟩ => ⟨Tryd.f10.ntmps, [(0, .sl 1 (rows1 xs)), (5, .int .i64 a), (16, .sl 1 (rows1 xs)), (17, .int .i64 xs.length), (18, .int .i64 (k : Nat))], [], [], []⟩) (fun ⟨k, a⟩ => k ≤ xs.length ∧ trN 3 0 xs = trN a k (xs.drop k)) (fun ⟨k, a⟩ => xs.length - k) (0, 3) ?_ ?_ ?_
      · exact ⟨Nat.zero_le _, rfl⟩
      · exact ⟨rfl, rfl, rfl, ⟨rfl, rfl, rfl, (by simp [tget, rows1_len]), rfl, trivial⟩, trivial, rfl⟩
      · intro ix hF
        obtain ⟨k, a⟩ := ix
        obtain ⟨hk, hn⟩ := hF
        repeat (first | refine Safe.seq ?_ | refine Safe.skip ?_ | with_reducible refine thenQ.n ?_ | with_reducible refine blockQ.n ?_)
        refine Safe.region ?_
        refine SafeOps.quiet0 E_good rfl rfl rfl (.fn rfl) ?_
        refine SafeOps.nil ?_
        repeat (first | refine Safe.seq ?_ | refine Safe.skip ?_ | with_reducible refine thenQ.n ?_ | with_reducible refine blockQ.n ?_)
        refine Safe.cond rfl (fun h3 => ?_) (fun h3 => ?_)
        · skip
          have hlt : k < xs.length := by simpa using h3
          repeat (first | refine Safe.seq ?_ | refine Safe.skip ?_ | with_reducible refine thenQ.n ?_ | with_reducible refine blockQ.n ?_)
          refine Safe.block ?_
          repeat (first | refine Safe.seq ?_ | refine Safe.skip ?_ | with_reducible refine thenQ.n ?_ | with_reducible refine blockQ.n ?_)
          refine Safe.region ?_
          refine SafeOps.quiet0 E_good rfl rfl rfl (.fn rfl) ?_
          refine SafeOps.quiet0 E_good rfl rfl rfl (.idxSl rfl rfl rfl rfl rfl (by omega) (by rw [rows1_len]; omega)) ?_
          refine SafeOps.quiet0 E_good rfl rfl rfl (.load rfl rfl (.spt (rows1_get hlt) rfl) rfl) ?_
          refine SafeOps.quiet0 E_good rfl rfl rfl (.fn rfl) ?_
          refine SafeOps.quiet0 E_good rfl rfl rfl (.fn rfl) ?_
          refine SafeOps.nil ?_
          repeat (first | refine Safe.seq ?_ | refine Safe.skip ?_ | with_reducible refine thenQ.n ?_ | with_reducible refine blockQ.n ?_)
          refine Safe.region ?_
          refine SafeOps.quiet0 E_good rfl rfl rfl (.fn rfl) ?_
          refine SafeOps.quiet0 E_good rfl rfl rfl (.fn rfl) ?_
          refine SafeOps.quiet0 E_good rfl rfl rfl (.callP rfl rfl (legal_sc _ _) rfl) ?_
          refine SafeOps.quiet0 E_good rfl rfl rfl (.fn rfl) ?_
          refine SafeOps.quiet0 E_good rfl rfl rfl (.fn rfl) ?_
          refine SafeOps.split 27 rfl (fun h4 => ?_) (fun h4 => ?_)
          · skip
            have h27 : (!legB a (xs.getD k 0)) = true := h4
            have hstop : (!legB a (xs.getD k 0) || (k == 0 && xs.getD k 0 != 1)) = true := by rw [h27]; rfl
            refine SafeOps.skip rfl rfl rfl ?_
            refine SafeOps.skip rfl rfl rfl ?_
            refine SafeOps.skip rfl rfl rfl ?_
            refine SafeOps.skip rfl rfl rfl ?_
            refine SafeOps.skip rfl rfl rfl ?_
            refine SafeOps.skip rfl rfl rfl ?_
            refine SafeOps.quiet0 E_good rfl rfl rfl (.fn rfl) ?_
            refine SafeOps.nil ?_
            repeat (first | refine Safe.seq ?_ | refine Safe.skip ?_ | with_reducible refine thenQ.n ?_ | with_reducible refine blockQ.n ?_)
            refine Safe.condT rfl ?_
            repeat (first | refine Safe.seq ?_ | refine Safe.skip ?_ | with_reducible refine thenQ.n ?_ | with_reducible refine blockQ.n ?_)
            refine Safe.region ?_
            refine SafeOps.quiet0 E_good rfl rfl rfl (.fn rfl) ?_
            refine SafeOps.quiet0 E_good rfl rfl rfl (.fn rfl) ?_
            refine SafeOps.quiet0 E_good rfl rfl rfl (.fn rfl) ?_
            refine SafeOps.nil ?_
            repeat (first | refine Safe.seq ?_ | refine Safe.skip ?_ | with_reducible refine thenQ.n ?_ | with_reducible refine blockQ.n ?_)
            refine Safe.ret ?_
            repeat (first | with_reducible refine thenQ.r ?_ | with_reducible refine blockQ.r ?_)
            refine retQ.cast ?_ (retQ.two rfl rfl rfl (.free rfl) (by simp))
            first | (simp [trV, trE, hb]; done) | (rw [trV, trE, hb, hn, trN_stop hlt hstop]; rfl) | (rw [trV, trE, hb, hn]; subst hge; simp [trN, rows1_len])
          · skip
            have h27 : (!legB a (xs.getD k 0)) = false := h4
            refine SafeOps.quiet0 E_good rfl rfl rfl (.fn rfl) ?_
            refine SafeOps.quiet0 E_good rfl rfl rfl (.fn rfl) ?_
            refine SafeOps.quiet0 E_good rfl rfl rfl (.fn rfl) ?_
            refine SafeOps.split 30 rfl (fun h5 => ?_) (fun h5 => ?_)
            · skip
              have h30 : (k == 0) = true := by simpa using h5
              refine SafeOps.quiet0 E_good rfl rfl rfl (.fn rfl) ?_
              refine SafeOps.quiet0 E_good rfl rfl rfl (.fn rfl) ?_
              refine SafeOps.quiet0 E_good rfl rfl rfl (.fn rfl) ?_
              refine SafeOps.quiet0 E_good rfl rfl rfl (.fn rfl) ?_
              refine SafeOps.nil ?_
              repeat (first | refine Safe.seq ?_ | refine Safe.skip ?_ | with_reducible refine thenQ.n ?_ | with_reducible refine blockQ.n ?_)
              refine Safe.cond rfl (fun h6 => ?_) (fun h6 => ?_)
              · skip
                have hstop : (!legB a (xs.getD k 0) || (k == 0 && xs.getD k 0 != 1)) = true := by
                  have h34 : (xs.getD k 0 != 1) = true := by simpa using h6
                  rw [h30, h34]; simp
                repeat (first | refine Safe.seq ?_ | refine Safe.skip ?_ | with_reducible refine thenQ.n ?_ | with_reducible refine blockQ.n ?_)
                refine Safe.region ?_
                refine SafeOps.quiet0 E_good rfl rfl rfl (.fn rfl) ?_
                refine SafeOps.quiet0 E_good rfl rfl rfl (.fn rfl) ?_
                refine SafeOps.quiet0 E_good rfl rfl rfl (.fn rfl) ?_
                refine SafeOps.nil ?_
                repeat (first | refine Safe.seq ?_ | refine Safe.skip ?_ | with_reducible refine thenQ.n ?_ | with_reducible refine blockQ.n ?_)
                refine Safe.ret ?_
                repeat (first | with_reducible refine thenQ.r ?_ | with_reducible refine blockQ.r ?_)
                refine retQ.cast ?_ (retQ.two rfl rfl rfl (.free rfl) (by simp))
                first | (simp [trV, trE, hb]; done) | (rw [trV, trE, hb, hn, trN_stop hlt hstop]; rfl) | (rw [trV, trE, hb, hn]; subst hge; simp [trN, rows1_len])
              · skip
                have hgo : (!legB a (xs.getD k 0) || (k == 0 && xs.getD k 0 != 1)) = false := by
                  have h34 : (xs.getD k 0 != 1) = false := by simpa using h6
                  rw [h27, h34]; simp
                repeat (first | refine Safe.seq ?_ | refine Safe.skip ?_ | with_reducible refine thenQ.n ?_ | with_reducible refine blockQ.n ?_)
                refine Safe.region ?_
                refine SafeOps.quiet0 E_good rfl rfl rfl (.fn rfl) ?_
                refine SafeOps.quiet0 E_good rfl rfl rfl (.fn rfl) ?_
                refine SafeOps.nil ?_
                repeat (first | refine Safe.seq ?_ | refine Safe.skip ?_ | with_reducible refine thenQ.n ?_ | with_reducible refine blockQ.n ?_)
                refine Safe.region ?_
                refine SafeOps.quiet0 E_good rfl rfl rfl (.fn rfl) ?_
                refine SafeOps.quiet0 E_good rfl rfl rfl (.fn rfl) ?_
                refine SafeOps.nil ?_
                repeat (first | refine Safe.seq ?_ | refine Safe.skip ?_ | with_reducible refine thenQ.n ?_ | with_reducible refine blockQ.n ?_)
                exact ⟨(k + 1, xs.getD k 0), ⟨hlt, hn.trans (trN_go hlt hgo)⟩, ⟨rfl, rfl, rfl, ⟨rfl, rfl, rfl, rfl, (by show V.int .i64 (IntKind.i64.wrap ((k : Int) + 1)) = _; rw [wrap_id (by omega) (by omega)]; rfl), trivial⟩, trivial, rfl⟩, (by show xs.length - (k + 1) < xs.length - k; omega)⟩
            · skip
              have hgo : (!legB a (xs.getD k 0) || (k == 0 && xs.getD k 0 != 1)) = false := by
                have h30 : (k == 0) = false := by simpa using h5
                rw [h27, h30]; rfl
              refine SafeOps.skip rfl rfl rfl ?_
              refine SafeOps.skip rfl rfl rfl ?_
              refine SafeOps.quiet0 E_good rfl rfl rfl (.fn rfl) ?_
              refine SafeOps.quiet0 E_good rfl rfl rfl (.fn rfl) ?_
              refine SafeOps.nil ?_
              repeat (first | refine Safe.seq ?_ | refine Safe.skip ?_ | with_reducible refine thenQ.n ?_ | with_reducible refine blockQ.n ?_)
              refine Safe.condF rfl ?_
              repeat (first | refine Safe.seq ?_ | refine Safe.skip ?_ | with_reducible refine thenQ.n ?_ | with_reducible refine blockQ.n ?_)
              refine Safe.region ?_
              refine SafeOps.quiet0 E_good rfl rfl rfl (.fn rfl) ?_
              refine SafeOps.quiet0 E_good rfl rfl rfl (.fn rfl) ?_
              refine SafeOps.nil ?_
              repeat (first | refine Safe.seq ?_ | refine Safe.skip ?_ | with_reducible refine thenQ.n ?_ | with_reducible refine blockQ.n ?_)
              refine Safe.region ?_
              refine SafeOps.quiet0 E_good rfl rfl rfl (.fn rfl) ?_
              refine SafeOps.quiet0 E_good rfl rfl rfl (.fn rfl) ?_
              refine SafeOps.nil ?_
              repeat (first | refine Safe.seq ?_ | refine Safe.skip ?_ | with_reducible refine thenQ.n ?_ | with_reducible refine blockQ.n ?_)
              exact ⟨(k + 1, xs.getD k 0), ⟨hlt, hn.trans (trN_go hlt hgo)⟩, ⟨rfl, rfl, rfl, ⟨rfl, rfl, rfl, rfl, (by show V.int .i64 (IntKind.i64.wrap ((k : Int) + 1)) = _; rw [wrap_id (by omega) (by omega)]; rfl), trivial⟩, trivial, rfl⟩, (by show xs.length - (k + 1) < xs.length - k; omega)⟩
        · skip
          have hge : k = xs.length := Nat.le_antisymm hk (by simpa using h3)
          repeat (first | refine Safe.seq ?_ | refine Safe.skip ?_ | with_reducible refine thenQ.n ?_ | with_reducible refine blockQ.n ?_)
          refine Safe.exit ?_
          repeat (first | with_reducible refine thenQ.e ?_ | with_reducible refine blockQ.x rfl ?_ | with_reducible refine blockQ.y rfl ?_)
          repeat (first | refine Safe.seq ?_ | refine Safe.skip ?_ | with_reducible refine thenQ.n ?_ | with_reducible refine blockQ.n ?_)
          refine Safe.region ?_
          refine SafeOps.quiet0 E_good rfl rfl rfl (.fn rfl) ?_
          refine SafeOps.quiet0 E_good rfl rfl rfl (.fn rfl) ?_
          refine SafeOps.quiet0 E_good rfl rfl rfl (.fn rfl) ?_
          refine SafeOps.quiet0 E_good rfl rfl rfl (.fn rfl) ?_
          refine SafeOps.nil ?_
          repeat (first | refine Safe.seq ?_ | refine Safe.skip ?_ | with_reducible refine thenQ.n ?_ | with_reducible refine blockQ.n ?_)
          refine Safe.ret ?_
          repeat (first | with_reducible refine thenQ.r ?_ | with_reducible refine blockQ.r ?_)
          refine retQ.cast ?_ (retQ.two rfl rfl rfl (.free rfl) (by simp))
          first | (simp [trV, trE, hb]; done) | (rw [trV, trE, hb, hn, trN_stop hlt hstop]; rfl) | (rw [trV, trE, hb, hn]; subst hge; simp [trN, rows1_len])

theorem live_sc   : SC Tryd.prog gl 9 [] (.bool true) := by
  refine SC.of E_good Tryd.func9 rfl (fun _ _ => Tryd.call9 _ _) rfl ?_
  repeat (first | refine Safe.seq ?_ | refine Safe.skip ?_ | with_reducible refine thenQ.n ?_ | with_reducible refine blockQ.n ?_)
  refine Safe.region ?_
  refine SafeOps.quiet0 E_good rfl rfl rfl (.fn rfl) ?_
  refine SafeOps.nil ?_
  repeat (first | refine Safe.seq ?_ | refine Safe.skip ?_ | with_reducible refine thenQ.n ?_ | with_reducible refine blockQ.n ?_)
  refine Safe.region ?_
  refine SafeOps.quiet1 E_good rfl rfl rfl (.lit rfl rfl (by decide) rfl rfl rfl) rfl ?_
  refine SafeOps.quiet0 E_good rfl rfl rfl (.callS rfl (.cons (.full rfl rfl) .nil) (trace_sc [1, 2, 3, 1, 2, 7] (by decide)) (.tup (by simp; exact ⟨.plain rfl, .plain rfl⟩)) rfl) ?_
  refine SafeOps.quiet0 E_good rfl rfl rfl (.fn rfl) ?_
  refine SafeOps.quiet0 E_good rfl rfl rfl (.fn rfl) ?_
  refine SafeOps.quiet0 E_good rfl rfl rfl (.fn rfl) ?_
  refine SafeOps.quiet0 E_good rfl rfl rfl (.fn rfl) ?_
  refine SafeOps.quiet0 E_good rfl rfl rfl (.fn rfl) ?_
  refine SafeOps.nil ?_
  repeat (first | refine Safe.seq ?_ | refine Safe.skip ?_ | with_reducible refine thenQ.n ?_ | with_reducible refine blockQ.n ?_)
  refine Safe.region ?_
  refine SafeOps.quiet0 E_good rfl rfl rfl (.fn rfl) ?_
  refine SafeOps.quiet0 E_good rfl rfl rfl (.fn rfl) ?_
  refine SafeOps.quiet0 E_good rfl rfl rfl (.fn rfl) ?_
  refine SafeOps.split 10 rfl (fun h1 => ?_) (fun h1 => ?_)
  · skip
    refine SafeOps.quiet0 E_good rfl rfl rfl (.fn rfl) ?_
    refine SafeOps.quiet0 E_good rfl rfl rfl (.fn rfl) ?_
    refine SafeOps.quiet0 E_good rfl rfl rfl (.fn rfl) ?_
    refine SafeOps.quiet0 E_good rfl rfl rfl (.fn rfl) ?_
    refine SafeOps.split 14 rfl (fun h2 => ?_) (fun h2 => ?_)
    · skip
      refine SafeOps.quiet0 E_good rfl rfl rfl (.callP rfl rfl (legal_sc _ _) rfl) ?_
      refine SafeOps.quiet0 E_good rfl rfl rfl (.fn rfl) ?_
      refine SafeOps.quiet0 E_good rfl rfl rfl (.fn rfl) ?_
      refine SafeOps.quiet0 E_good rfl rfl rfl (.fn rfl) ?_
      refine SafeOps.nil ?_
      repeat (first | refine Safe.seq ?_ | refine Safe.skip ?_ | with_reducible refine thenQ.n ?_ | with_reducible refine blockQ.n ?_)
      refine Safe.ret ?_
      repeat (first | with_reducible refine thenQ.r ?_ | with_reducible refine blockQ.r ?_)
      refine retQ.cast ?_ (retQ.one rfl rfl (.free rfl) (by simp))
      first | rfl | decide | (simp at *; done) | (exfalso; revert h1; decide) | (exfalso; revert h2; decide)
    · skip
      refine SafeOps.skip rfl rfl rfl ?_
      refine SafeOps.skip rfl rfl rfl ?_
      refine SafeOps.quiet0 E_good rfl rfl rfl (.fn rfl) ?_
      refine SafeOps.quiet0 E_good rfl rfl rfl (.fn rfl) ?_
      refine SafeOps.nil ?_
      repeat (first | refine Safe.seq ?_ | refine Safe.skip ?_ | with_reducible refine thenQ.n ?_ | with_reducible refine blockQ.n ?_)
      refine Safe.ret ?_
      repeat (first | with_reducible refine thenQ.r ?_ | with_reducible refine blockQ.r ?_)
      refine retQ.cast ?_ (retQ.one rfl rfl (.free rfl) (by simp))
      first | rfl | decide | (simp at *; done) | (exfalso; revert h1; decide) | (exfalso; revert h2; decide)
  · skip
    refine SafeOps.skip rfl rfl rfl ?_
    refine SafeOps.skip rfl rfl rfl ?_
    refine SafeOps.quiet0 E_good rfl rfl rfl (.fn rfl) ?_
    refine SafeOps.quiet0 E_good rfl rfl rfl (.fn rfl) ?_
    refine SafeOps.skip rfl rfl rfl ?_
    refine SafeOps.skip rfl rfl rfl ?_
    refine SafeOps.quiet0 E_good rfl rfl rfl (.fn rfl) ?_
    refine SafeOps.quiet0 E_good rfl rfl rfl (.fn rfl) ?_
    refine SafeOps.nil ?_
    repeat (first | refine Safe.seq ?_ | refine Safe.skip ?_ | with_reducible refine thenQ.n ?_ | with_reducible refine blockQ.n ?_)
    refine Safe.ret ?_
    repeat (first | with_reducible refine thenQ.r ?_ | with_reducible refine blockQ.r ?_)
    refine retQ.cast ?_ (retQ.one rfl rfl (.free rfl) (by simp))
    first | rfl | decide | (simp at *; done) | (exfalso; revert h1; decide) | (exfalso; revert h2; decide)

theorem leg_eq (a b : Int) : legB a b = rlegB a b := by
  unfold legB rlegB
  cases ha : stB a with
  | false => simp
  | true =>
    cases hb : stB b with
    | false => simp
    | true =>
      obtain ⟨a1, a2⟩ := stB_range ha
      obtain ⟨b1, b2⟩ := stB_range hb
      have ka : a = 1 ∨ a = 2 ∨ a = 3 ∨ a = 4 ∨ a = 5 ∨ a = 6 ∨ a = 7 := by omega
      have kb : b = 1 ∨ b = 2 ∨ b = 3 ∨ b = 4 ∨ b = 5 ∨ b = 6 ∨ b = 7 := by omega
      rcases ka with rfl | rfl | rfl | rfl | rfl | rfl | rfl <;> rcases kb with rfl | rfl | rfl | rfl | rfl | rfl | rfl <;> decide


theorem lifeLegal_sc (a b : Int)  : SC Tryd.prog gl 5 [.int .i64 a, .int .i64 b] (.bool true) := by
  refine SC.of E_good Tryd.func5 rfl (fun _ _ => Tryd.call5 _ _) rfl ?_
  repeat (first | refine Safe.seq ?_ | refine Safe.skip ?_ | with_reducible refine thenQ.n ?_ | with_reducible refine blockQ.n ?_)
  refine Safe.region ?_
  refine SafeOps.quiet0 E_good rfl rfl rfl (.fn rfl) ?_
  refine SafeOps.nil ?_
  repeat (first | refine Safe.seq ?_ | refine Safe.skip ?_ | with_reducible refine thenQ.n ?_ | with_reducible refine blockQ.n ?_)
  refine Safe.region ?_
  refine SafeOps.quiet0 E_good rfl rfl rfl (.callP rfl rfl live_sc rfl) ?_
  refine SafeOps.quiet0 E_good rfl rfl rfl (.fn rfl) ?_
  refine SafeOps.nil ?_
  repeat (first | refine Safe.seq ?_ | refine Safe.skip ?_ | with_reducible refine thenQ.n ?_ | with_reducible refine blockQ.n ?_)
  refine Safe.region ?_
  refine SafeOps.quiet0 E_good rfl rfl rfl (.fn rfl) ?_
  refine SafeOps.quiet0 E_good rfl rfl rfl (.fn rfl) ?_
  refine SafeOps.nil ?_
  repeat (first | refine Safe.seq ?_ | refine Safe.skip ?_ | with_reducible refine thenQ.n ?_ | with_reducible refine blockQ.n ?_)
  refine Safe.cond rfl (fun h1 => ?_) (fun h1 => ?_)
  · skip
    repeat (first | refine Safe.seq ?_ | refine Safe.skip ?_ | with_reducible refine thenQ.n ?_ | with_reducible refine blockQ.n ?_)
    refine Safe.region ?_
    refine SafeOps.quiet0 E_good rfl rfl rfl (.fn rfl) ?_
    refine SafeOps.nil ?_
    repeat (first | refine Safe.seq ?_ | refine Safe.skip ?_ | with_reducible refine thenQ.n ?_ | with_reducible refine blockQ.n ?_)
    refine Safe.ret ?_
    repeat (first | with_reducible refine thenQ.r ?_ | with_reducible refine blockQ.r ?_)
    refine retQ.cast ?_ (retQ.one rfl rfl (.free rfl) (by simp))
    simp_all [leg_eq]
  · skip
    repeat (first | refine Safe.seq ?_ | refine Safe.skip ?_ | with_reducible refine thenQ.n ?_ | with_reducible refine blockQ.n ?_)
    refine Safe.region ?_
    refine SafeOps.quiet0 E_good rfl rfl rfl (.fn rfl) ?_
    refine SafeOps.quiet0 E_good rfl rfl rfl (.fn rfl) ?_
    refine SafeOps.split 10 rfl (fun h2 => ?_) (fun h2 => ?_)
    · skip
      refine SafeOps.quiet0 E_good rfl rfl rfl (.fn rfl) ?_
      refine SafeOps.quiet0 E_good rfl rfl rfl (.fn rfl) ?_
      refine SafeOps.quiet0 E_good rfl rfl rfl (.callP rfl rfl (legal_sc _ _) rfl) ?_
      refine SafeOps.quiet0 E_good rfl rfl rfl (.fn rfl) ?_
      refine SafeOps.quiet0 E_good rfl rfl rfl (.fn rfl) ?_
      refine SafeOps.quiet0 E_good rfl rfl rfl (.callP rfl rfl (rlegal_sc _ _) rfl) ?_
      refine SafeOps.quiet0 E_good rfl rfl rfl (.fn rfl) ?_
      refine SafeOps.quiet0 E_good rfl rfl rfl (.fn rfl) ?_
      refine SafeOps.quiet0 E_good rfl rfl rfl (.fn rfl) ?_
      refine SafeOps.split 19 rfl (fun h3 => ?_) (fun h3 => ?_)
      · skip
        refine SafeOps.quiet0 E_good rfl rfl rfl (.fn rfl) ?_
        refine SafeOps.quiet0 E_good rfl rfl rfl (.callP rfl rfl (waits_sc _) rfl) ?_
        refine SafeOps.quiet0 E_good rfl rfl rfl (.fn rfl) ?_
        refine SafeOps.quiet0 E_good rfl rfl rfl (.callP rfl rfl (rwaits_sc _) rfl) ?_
        refine SafeOps.quiet0 E_good rfl rfl rfl (.fn rfl) ?_
        refine SafeOps.quiet0 E_good rfl rfl rfl (.fn rfl) ?_
        refine SafeOps.quiet0 E_good rfl rfl rfl (.fn rfl) ?_
        refine SafeOps.nil ?_
        repeat (first | refine Safe.seq ?_ | refine Safe.skip ?_ | with_reducible refine thenQ.n ?_ | with_reducible refine blockQ.n ?_)
        refine Safe.ret ?_
        repeat (first | with_reducible refine thenQ.r ?_ | with_reducible refine blockQ.r ?_)
        refine retQ.cast ?_ (retQ.one rfl rfl (.free rfl) (by simp))
        simp_all [leg_eq]
      · skip
        refine SafeOps.skip rfl rfl rfl ?_
        refine SafeOps.skip rfl rfl rfl ?_
        refine SafeOps.skip rfl rfl rfl ?_
        refine SafeOps.skip rfl rfl rfl ?_
        refine SafeOps.skip rfl rfl rfl ?_
        refine SafeOps.quiet0 E_good rfl rfl rfl (.fn rfl) ?_
        refine SafeOps.quiet0 E_good rfl rfl rfl (.fn rfl) ?_
        refine SafeOps.nil ?_
        repeat (first | refine Safe.seq ?_ | refine Safe.skip ?_ | with_reducible refine thenQ.n ?_ | with_reducible refine blockQ.n ?_)
        refine Safe.ret ?_
        repeat (first | with_reducible refine thenQ.r ?_ | with_reducible refine blockQ.r ?_)
        refine retQ.cast ?_ (retQ.one rfl rfl (.free rfl) (by simp))
        simp_all [leg_eq]
    · skip
      refine SafeOps.skip rfl rfl rfl ?_
      refine SafeOps.skip rfl rfl rfl ?_
      refine SafeOps.skip rfl rfl rfl ?_
      refine SafeOps.skip rfl rfl rfl ?_
      refine SafeOps.skip rfl rfl rfl ?_
      refine SafeOps.skip rfl rfl rfl ?_
      refine SafeOps.skip rfl rfl rfl ?_
      refine SafeOps.quiet0 E_good rfl rfl rfl (.fn rfl) ?_
      refine SafeOps.quiet0 E_good rfl rfl rfl (.fn rfl) ?_
      refine SafeOps.skip rfl rfl rfl ?_
      refine SafeOps.skip rfl rfl rfl ?_
      refine SafeOps.skip rfl rfl rfl ?_
      refine SafeOps.skip rfl rfl rfl ?_
      refine SafeOps.skip rfl rfl rfl ?_
      refine SafeOps.quiet0 E_good rfl rfl rfl (.fn rfl) ?_
      refine SafeOps.quiet0 E_good rfl rfl rfl (.fn rfl) ?_
      refine SafeOps.nil ?_
      repeat (first | refine Safe.seq ?_ | refine Safe.skip ?_ | with_reducible refine thenQ.n ?_ | with_reducible refine blockQ.n ?_)
      refine Safe.ret ?_
      repeat (first | with_reducible refine thenQ.r ?_ | with_reducible refine blockQ.r ?_)
      refine retQ.cast ?_ (retQ.one rfl rfl (.free rfl) (by simp))
      simp_all [leg_eq]

end Go.Proofs.YtechkmappabefaaDoor
