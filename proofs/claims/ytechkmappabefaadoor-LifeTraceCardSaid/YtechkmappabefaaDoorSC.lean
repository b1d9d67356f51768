/- Helper lemmas for the claim's theorem: an abstract machine over the model, proved sound; no condition beyond each lemma's own. -/
import Derived.Test.YtechkmappabefaaDoorSB
import Derived.Test.YtechkmappabefaaDoorAmD
set_option linter.unusedVariables false
set_option linter.unusedSimpArgs false
set_option linter.unnecessarySimpa false
set_option linter.unusedSectionVars false
namespace Go.Proofs.YtechkmappabefaaDoor
open Go Go.AM
set_option maxRecDepth 100000
set_option maxHeartbeats 1000000
set_option linter.unusedVariables false
set_option linter.unusedSimpArgs false
theorem mixed : Tryd.prog.follows .mixedOrders = true := by kernel_rfl
def rN (a : Int) (i : Nat) : List Int → Nat
  | [] => i
  | s :: r => if !rlegB a s then i else rN s (i + 1) r
def odd1 (n : Int) : Bool := !stB n
def rtrV (xs : List Int) : Int := if badB xs then 0 else if xs.getD 0 0 != 1 then 0 else rN (xs.getD 0 0) 1 (xs.drop 1)
theorem rN_stop {a : Int} {k i : Nat} {xs : List Int} (h : k < xs.length) (hb : rlegB a (xs.getD k 0) = false) : rN a i (xs.drop k) = i := by
  rw [drop_cons h, rN, if_pos (by rw [hb]; rfl)]
theorem rN_go {a : Int} {k i : Nat} {xs : List Int} (h : k < xs.length) (hb : rlegB a (xs.getD k 0) = true) : rN a i (xs.drop k) = rN (xs.getD k 0) (i + 1) (xs.drop (k + 1)) := by
  rw [drop_cons h, rN, if_neg (by rw [hb]; simp)]
theorem any_go {xs : List Int} {p : Int → Bool} {k : Nat} (h : k < xs.length) (hp : p (xs.getD k 0) = false) : (xs.drop k).any p = (xs.drop (k + 1)).any p := by
  rw [drop_cons h, List.any_cons, hp, Bool.false_or]
theorem any_hit {xs : List Int} {p : Int → Bool} {k : Nat} (h : k < xs.length) (hp : p (xs.getD k 0) = true) : (xs.drop k).any p = true := by
  rw [drop_cons h, List.any_cons, hp, Bool.true_or]


theorem rtrace_sc (xs : List Int) (hlen : xs.length ≤ 9223372036854775807) : SC Tryd.prog gl 11 [.sl 1 (rows1 xs)] (.tup [.int .i64 (rtrV xs), .int .i64 (trE xs)]) := by
  refine SC.of E_good Tryd.func11 rfl (fun _ _ => Tryd.call11 _ _) rfl ?_
  repeat (first | refine Safe.seq ?_ | refine Safe.skip ?_ | with_reducible refine thenQ.n ?_ | with_reducible refine blockQ.n ?_)
  refine Safe.region ?_
  refine SafeOps.quiet0 E_good rfl rfl rfl (.fn rfl) ?_
  refine SafeOps.quiet0 E_good rfl rfl rfl (.fn rfl) ?_
  refine SafeOps.nil ?_
  repeat (first | refine Safe.seq ?_ | refine Safe.skip ?_ | with_reducible refine thenQ.n ?_ | with_reducible refine blockQ.n ?_)
  refine Safe.region ?_
  refine SafeOps.quiet0 E_good rfl rfl rfl (.fn rfl) ?_
  refine SafeOps.quiet0 E_good rfl rfl rfl (.fn rfl) ?_
  refine SafeOps.quiet0 E_good rfl rfl rfl (.fn rfl) ?_
  refine SafeOps.nil ?_
  repeat (first | refine Safe.seq ?_ | refine Safe.skip ?_ | with_reducible refine thenQ.n ?_ | with_reducible refine blockQ.n ?_)
  refine Safe.cond rfl (fun h1 => ?_) (fun h1 => ?_)
  · skip
    have h0 : xs = [] := by simpa [rows1_len] using h1
    have hb : badB xs = true := by simp [badB, h0]
    repeat (first | refine Safe.seq ?_ | refine Safe.skip ?_ | with_reducible refine thenQ.n ?_ | with_reducible refine blockQ.n ?_)
    refine Safe.region ?_
    refine SafeOps.quiet0 E_good rfl rfl rfl (.fn rfl) ?_
    refine SafeOps.quiet0 E_good rfl rfl rfl (.fn rfl) ?_
    refine SafeOps.nil ?_
    repeat (first | refine Safe.seq ?_ | refine Safe.skip ?_ | with_reducible refine thenQ.n ?_ | with_reducible refine blockQ.n ?_)
    refine Safe.ret ?_
    repeat (first | with_reducible refine thenQ.r ?_ | with_reducible refine blockQ.r ?_)
    refine retQ.cast ?_ (retQ.two rfl rfl rfl (.free rfl) (by simp))
    first | (simp [rtrV, trE, hb]; done) | (rw [rtrV, trE, hb, h23]; rfl) | (rw [rtrV, trE, hb, h23, hn2, rN_stop hlt h40]; rfl) | (rw [rtrV, trE, hb, h23, hn2]; subst hge; simp [rN, rows1_len])
  · skip
    have hne : xs.isEmpty = false := by simpa [rows1_len] using h1
    have hpos : 0 < xs.length := by cases xs with | nil => cases hne | cons => simp
    repeat (first | refine Safe.seq ?_ | refine Safe.skip ?_ | with_reducible refine thenQ.n ?_ | with_reducible refine blockQ.n ?_)
    refine Safe.region ?_
    refine SafeOps.quiet0 E_good rfl rfl rfl (.fn rfl) ?_
    refine SafeOps.quiet0 E_good rfl rfl rfl (.fn rfl) ?_
    refine SafeOps.quiet0 E_good rfl rfl rfl (.fn rfl) ?_
    refine SafeOps.nil ?_
    repeat (first | refine Safe.seq ?_ | refine Safe.skip ?_ | with_reducible refine thenQ.n ?_ | with_reducible refine blockQ.n ?_)
    refine Safe.block ?_
    repeat (first | refine Safe.seq ?_ | refine Safe.skip ?_ | with_reducible refine thenQ.n ?_ | with_reducible refine blockQ.n ?_)
    refine Safe.loopI (ι := Nat) (fun k => ⟨Tryd.f11.ntmps, [(0, .sl 1 (rows1 xs)), (10, .sl 1 (rows1 xs)), (11, .int .i64 xs.length), (12, .int .i64 (k : Nat))], [], [], []⟩) (fun k => k ≤ xs.length ∧ xs.any odd1 = (xs.drop k).any odd1) (fun k => xs.length - k) 0 ?_ ?_ ?_
    · exact ⟨Nat.zero_le _, rfl⟩
    · exact ⟨rfl, rfl, rfl, ⟨rfl, rfl, (by simp [tget, rows1_len]), rfl, trivial⟩, trivial, rfl⟩
    · intro k ⟨hk, hn⟩
      repeat (first | refine Safe.seq ?_ | refine Safe.skip ?_ | with_reducible refine thenQ.n ?_ | with_reducible refine blockQ.n ?_)
      refine Safe.region ?_
      refine SafeOps.quiet0 E_good rfl rfl rfl (.fn rfl) ?_
      refine SafeOps.nil ?_
      repeat (first | refine Safe.seq ?_ | refine Safe.skip ?_ | with_reducible refine thenQ.n ?_ | with_reducible refine blockQ.n ?_)
      refine Safe.cond rfl (fun h2 => ?_) (fun h2 => ?_)
      · skip
        have hlt : k < xs.length := by simpa using h2
        repeat (first | refine Safe.seq ?_ | refine Safe.skip ?_ | with_reducible refine thenQ.n ?_ | with_reducible refine blockQ.n ?_)
        refine Safe.block ?_
        repeat (first | refine Safe.seq ?_ | refine Safe.skip ?_ | with_reducible refine thenQ.n ?_ | with_reducible refine blockQ.n ?_)
        refine Safe.region ?_
        refine SafeOps.quiet0 E_good rfl rfl rfl (.idxSl rfl rfl rfl rfl rfl (by omega) (by rw [rows1_len]; omega)) ?_
        refine SafeOps.quiet0 E_good rfl rfl rfl (.load rfl rfl (.spt (rows1_get hlt) rfl) rfl) ?_
        refine SafeOps.quiet0 E_good rfl rfl rfl (.fn rfl) ?_
        refine SafeOps.nil ?_
        repeat (first | refine Safe.seq ?_ | refine Safe.skip ?_ | with_reducible refine thenQ.n ?_ | with_reducible refine blockQ.n ?_)
        refine Safe.region ?_
        refine SafeOps.quiet0 E_good rfl rfl rfl (.fn rfl) ?_
        refine SafeOps.quiet0 E_good rfl rfl rfl (.callP rfl rfl (rstate_sc _) rfl) ?_
        refine SafeOps.quiet0 E_good rfl rfl rfl (.fn rfl) ?_
        refine SafeOps.nil ?_
        repeat (first | refine Safe.seq ?_ | refine Safe.skip ?_ | with_reducible refine thenQ.n ?_ | with_reducible refine blockQ.n ?_)
        refine Safe.cond rfl (fun h3 => ?_) (fun h3 => ?_)
        · skip
          have hb : badB xs = true := by
            have := any_hit (p := odd1) hlt h3
            rw [this] at hn
            simpa [badB, hne, odd1] using hn
          repeat (first | refine Safe.seq ?_ | refine Safe.skip ?_ | with_reducible refine thenQ.n ?_ | with_reducible refine blockQ.n ?_)
          refine Safe.region ?_
          refine SafeOps.quiet0 E_good rfl rfl rfl (.fn rfl) ?_
          refine SafeOps.quiet0 E_good rfl rfl rfl (.fn rfl) ?_
          refine SafeOps.nil ?_
          repeat (first | refine Safe.seq ?_ | refine Safe.skip ?_ | with_reducible refine thenQ.n ?_ | with_reducible refine blockQ.n ?_)
          refine Safe.ret ?_
          repeat (first | with_reducible refine thenQ.r ?_ | with_reducible refine blockQ.r ?_)
          refine retQ.cast ?_ (retQ.two rfl rfl rfl (.free rfl) (by simp))
          first | (simp [rtrV, trE, hb]; done) | (rw [rtrV, trE, hb, h23]; rfl) | (rw [rtrV, trE, hb, h23, hn2, rN_stop hlt h40]; rfl) | (rw [rtrV, trE, hb, h23, hn2]; subst hge; simp [rN, rows1_len])
        · skip
          have hn' := hn.trans (any_go (p := odd1) hlt h3)
          repeat (first | refine Safe.seq ?_ | refine Safe.skip ?_ | with_reducible refine thenQ.n ?_ | with_reducible refine blockQ.n ?_)
          refine Safe.region ?_
          refine SafeOps.quiet0 E_good rfl rfl rfl (.fn rfl) ?_
          refine SafeOps.quiet0 E_good rfl rfl rfl (.fn rfl) ?_
          refine SafeOps.nil ?_
          repeat (first | refine Safe.seq ?_ | refine Safe.skip ?_ | with_reducible refine thenQ.n ?_ | with_reducible refine blockQ.n ?_)
          exact ⟨k + 1, ⟨hlt, hn'⟩, ⟨rfl, rfl, rfl, ⟨rfl, rfl, rfl, (by show V.int .i64 (IntKind.i64.wrap ((k : Int) + 1)) = _; rw [wrap_id (by omega) (by omega)]; rfl), trivial⟩, trivial, rfl⟩, (by omega)⟩
      · skip
        have hge : k = xs.length := Nat.le_antisymm hk (by simpa using h2)
        have hb : badB xs = false := by
          subst hge
          simpa [badB, hne, odd1] using hn
        repeat (first | refine Safe.seq ?_ | refine Safe.skip ?_ | with_reducible refine thenQ.n ?_ | with_reducible refine blockQ.n ?_)
        refine Safe.exit ?_
        repeat (first | with_reducible refine thenQ.e ?_ | with_reducible refine blockQ.x rfl ?_ | with_reducible refine blockQ.y rfl ?_)
        repeat (first | refine Safe.seq ?_ | refine Safe.skip ?_ | with_reducible refine thenQ.n ?_ | with_reducible refine blockQ.n ?_)
        refine Safe.region ?_
        refine SafeOps.quiet0 E_good rfl rfl rfl (.fn rfl) ?_
        refine SafeOps.quiet0 E_good rfl rfl rfl (.idxSl rfl rfl rfl rfl rfl (by omega) (by rw [rows1_len]; omega)) ?_
        refine SafeOps.quiet0 E_good rfl rfl rfl (.load rfl rfl (.spt (rows1_get hpos) rfl) rfl) ?_
        refine SafeOps.quiet0 E_good rfl rfl rfl (.fn rfl) ?_
        refine SafeOps.nil ?_
        repeat (first | refine Safe.seq ?_ | refine Safe.skip ?_ | with_reducible refine thenQ.n ?_ | with_reducible refine blockQ.n ?_)
        refine Safe.cond rfl (fun h4 => ?_) (fun h4 => ?_)
        · skip
          have h23 : (xs.getD 0 0 != 1) = true := h4
          repeat (first | refine Safe.seq ?_ | refine Safe.skip ?_ | with_reducible refine thenQ.n ?_ | with_reducible refine blockQ.n ?_)
          refine Safe.region ?_
          refine SafeOps.quiet0 E_good rfl rfl rfl (.fn rfl) ?_
          refine SafeOps.quiet0 E_good rfl rfl rfl (.fn rfl) ?_
          refine SafeOps.nil ?_
          repeat (first | refine Safe.seq ?_ | refine Safe.skip ?_ | with_reducible refine thenQ.n ?_ | with_reducible refine blockQ.n ?_)
          refine Safe.ret ?_
          repeat (first | with_reducible refine thenQ.r ?_ | with_reducible refine blockQ.r ?_)
          refine retQ.cast ?_ (retQ.two rfl rfl rfl (.free rfl) (by simp))
          first | (simp [rtrV, trE, hb]; done) | (rw [rtrV, trE, hb, h23]; rfl) | (rw [rtrV, trE, hb, h23, hn2, rN_stop hlt h40]; rfl) | (rw [rtrV, trE, hb, h23, hn2]; subst hge; simp [rN, rows1_len])
        · skip
          have h23 : (xs.getD 0 0 != 1) = false := h4
          repeat (first | refine Safe.seq ?_ | refine Safe.skip ?_ | with_reducible refine thenQ.n ?_ | with_reducible refine blockQ.n ?_)
          refine Safe.region ?_
          refine SafeOps.quiet0 E_good rfl rfl rfl (.fn rfl) ?_
          refine SafeOps.nil ?_
          repeat (first | refine Safe.seq ?_ | refine Safe.skip ?_ | with_reducible refine thenQ.n ?_ | with_reducible refine blockQ.n ?_)
          refine Safe.block ?_
          repeat (first | refine Safe.seq ?_ | refine Safe.skip ?_ | with_reducible refine thenQ.n ?_ | with_reducible refine blockQ.n ?_)
          refine Safe.loopI (ι := Nat) (fun k => ⟨Tryd.f11.ntmps, [(0, .sl 1 (rows1 xs)), (6, .int .i64 (k : Nat))], [], [], []⟩) (fun k => 1 ≤ k ∧ k ≤ xs.length ∧ rN (xs.getD 0 0) 1 (xs.drop 1) = rN (xs.getD (k - 1) 0) k (xs.drop k)) (fun k => xs.length - k) 1 ?_ ?_ ?_
          · exact ⟨Nat.le_refl _, hpos, rfl⟩
          · exact ⟨rfl, rfl, rfl, ⟨rfl, rfl, trivial⟩, trivial, rfl⟩
          · intro k ⟨hk1, hk, hn2⟩
            repeat (first | refine Safe.seq ?_ | refine Safe.skip ?_ | with_reducible refine thenQ.n ?_ | with_reducible refine blockQ.n ?_)
            refine Safe.region ?_
            refine SafeOps.quiet0 E_good rfl rfl rfl (.fn rfl) ?_
            refine SafeOps.quiet0 E_good rfl rfl rfl (.fn rfl) ?_
            refine SafeOps.quiet0 E_good rfl rfl rfl (.fn rfl) ?_
            refine SafeOps.quiet0 E_good rfl rfl rfl (.fn rfl) ?_
            refine SafeOps.nil ?_
            repeat (first | refine Safe.seq ?_ | refine Safe.skip ?_ | with_reducible refine thenQ.n ?_ | with_reducible refine blockQ.n ?_)
            refine Safe.cond rfl (fun h5 => ?_) (fun h5 => ?_)
            · skip
              have hlt : k < xs.length := by simpa [rows1_len] using h5
              repeat (first | refine Safe.seq ?_ | refine Safe.skip ?_ | with_reducible refine thenQ.n ?_ | with_reducible refine blockQ.n ?_)
              refine Safe.block ?_
              repeat (first | refine Safe.seq ?_ | refine Safe.skip ?_ | with_reducible refine thenQ.n ?_ | with_reducible refine blockQ.n ?_)
              refine Safe.regionD (n := 11) E_good mixed rfl ?_
              refine DAny.take (i := 0) rfl (by kernel_rfl) (by kernel_rfl) rfl rfl rfl (.fn rfl) ?_
              refine DAny.take (i := 1) rfl (by kernel_rfl) (by kernel_rfl) rfl rfl rfl (.fn rfl) ?_
              have hm1 : IntKind.i64.wrap ((k : Int) - 1) = ((k - 1 : Nat) : Int) := by rw [wrap_id (by omega) (by omega)]; omega
              refine DAny.take (i := 2) rfl (by kernel_rfl) (by kernel_rfl) rfl rfl rfl (v := .int .i64 ((k - 1 : Nat) : Int)) (.fn (by rw [← hm1]; rfl)) ?_
              refine DAny.take (i := 3) rfl (by kernel_rfl) (by kernel_rfl) rfl rfl rfl (.idxSl rfl rfl rfl rfl rfl (by omega) (by rw [rows1_len]; omega)) ?_
              refine DAny.take (i := 4) rfl (by kernel_rfl) (by kernel_rfl) rfl rfl rfl (.load rfl rfl (.spt (rows1_get (by omega)) rfl) rfl) ?_
              refine DAny.take (i := 5) rfl (by kernel_rfl) (by kernel_rfl) rfl rfl rfl (.fn rfl) ?_
              refine DAny.take (i := 6) rfl (by kernel_rfl) (by kernel_rfl) rfl rfl rfl (.fn rfl) ?_
              refine DAny.take (i := 7) rfl (by kernel_rfl) (by kernel_rfl) rfl rfl rfl (.idxSl rfl rfl rfl rfl rfl (by omega) (by rw [rows1_len]; omega)) ?_
              refine DAny.take (i := 8) rfl (by kernel_rfl) (by kernel_rfl) rfl rfl rfl (.load rfl rfl (.spt (rows1_get hlt) rfl) rfl) ?_
              refine DAny.take (i := 9) rfl (by kernel_rfl) (by kernel_rfl) rfl rfl rfl (.callP rfl rfl (rlegal_sc _ _) rfl) ?_
              refine DAny.take (i := 10) rfl (by kernel_rfl) (by kernel_rfl) rfl rfl rfl (.fn rfl) ?_
              refine DAny.nil (by kernel_rfl) ?_
              repeat (first | refine Safe.seq ?_ | refine Safe.skip ?_ | with_reducible refine thenQ.n ?_ | with_reducible refine blockQ.n ?_)
              refine Safe.cond rfl (fun h6 => ?_) (fun h6 => ?_)
              · skip
                have h40 : rlegB (xs.getD (k - 1) 0) (xs.getD k 0) = false := by simpa using h6
                repeat (first | refine Safe.seq ?_ | refine Safe.skip ?_ | with_reducible refine thenQ.n ?_ | with_reducible refine blockQ.n ?_)
                refine Safe.region ?_
                refine SafeOps.quiet0 E_good rfl rfl rfl (.fn rfl) ?_
                refine SafeOps.quiet0 E_good rfl rfl rfl (.fn rfl) ?_
                refine SafeOps.quiet0 E_good rfl rfl rfl (.fn rfl) ?_
                refine SafeOps.nil ?_
                repeat (first | refine Safe.seq ?_ | refine Safe.skip ?_ | with_reducible refine thenQ.n ?_ | with_reducible refine blockQ.n ?_)
                refine Safe.ret ?_
                repeat (first | with_reducible refine thenQ.r ?_ | with_reducible refine blockQ.r ?_)
                refine retQ.cast ?_ (retQ.two rfl rfl rfl (.free rfl) (by simp))
                first | (simp [rtrV, trE, hb]; done) | (rw [rtrV, trE, hb, h23]; rfl) | (rw [rtrV, trE, hb, h23, hn2, rN_stop hlt h40]; rfl) | (rw [rtrV, trE, hb, h23, hn2]; subst hge; simp [rN, rows1_len])
              · skip
                have h40 : rlegB (xs.getD (k - 1) 0) (xs.getD k 0) = true := by simpa using h6
                repeat (first | refine Safe.seq ?_ | refine Safe.skip ?_ | with_reducible refine thenQ.n ?_ | with_reducible refine blockQ.n ?_)
                refine Safe.region ?_
                refine SafeOps.quiet0 E_good rfl rfl rfl (.fn rfl) ?_
                refine SafeOps.quiet0 E_good rfl rfl rfl (.fn rfl) ?_
                refine SafeOps.quiet0 E_good rfl rfl rfl (.fn rfl) ?_
                refine SafeOps.nil ?_
                repeat (first | refine Safe.seq ?_ | refine Safe.skip ?_ | with_reducible refine thenQ.n ?_ | with_reducible refine blockQ.n ?_)
                exact ⟨k + 1, ⟨by omega, hlt, hn2.trans (rN_go hlt h40)⟩, ⟨rfl, rfl, rfl, ⟨rfl, (by show V.int .i64 (IntKind.i64.wrap ((k : Int) + 1)) = _; rw [wrap_id (by omega) (by omega)]; rfl), trivial⟩, trivial, rfl⟩, (by omega)⟩
            · skip
              have hge : k = xs.length := Nat.le_antisymm hk (by simpa [rows1_len] using h5)
              repeat (first | refine Safe.seq ?_ | refine Safe.skip ?_ | with_reducible refine thenQ.n ?_ | with_reducible refine blockQ.n ?_)
              refine Safe.exit ?_
              repeat (first | with_reducible refine thenQ.e ?_ | with_reducible refine blockQ.x rfl ?_ | with_reducible refine blockQ.y rfl ?_)
              repeat (first | refine Safe.seq ?_ | refine Safe.skip ?_ | with_reducible refine thenQ.n ?_ | with_reducible refine blockQ.n ?_)
              refine Safe.region ?_
              refine SafeOps.quiet0 E_good rfl rfl rfl (.fn rfl) ?_
              refine SafeOps.quiet0 E_good rfl rfl rfl (.fn rfl) ?_
              refine SafeOps.quiet0 E_good rfl rfl rfl (.fn rfl) ?_
              refine SafeOps.quiet0 E_good rfl rfl rfl (.fn rfl) ?_
              refine SafeOps.nil ?_
              repeat (first | refine Safe.seq ?_ | refine Safe.skip ?_ | with_reducible refine thenQ.n ?_ | with_reducible refine blockQ.n ?_)
              refine Safe.ret ?_
              repeat (first | with_reducible refine thenQ.r ?_ | with_reducible refine blockQ.r ?_)
              refine retQ.cast ?_ (retQ.two rfl rfl rfl (.free rfl) (by simp))
              first | (simp [rtrV, trE, hb]; done) | (rw [rtrV, trE, hb, h23]; rfl) | (rw [rtrV, trE, hb, h23, hn2, rN_stop hlt h40]; rfl) | (rw [rtrV, trE, hb, h23, hn2]; subst hge; simp [rN, rows1_len])

end Go.Proofs.YtechkmappabefaaDoor
