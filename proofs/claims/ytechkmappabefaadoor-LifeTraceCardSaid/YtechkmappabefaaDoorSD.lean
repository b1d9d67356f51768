/- Helper lemmas for the claim's theorem: an abstract machine over the model, proved sound; no condition beyond each lemma's own. -/
import Derived.Test.YtechkmappabefaaDoorSC
import Derived.Test.YtechkmappabefaaDoorAmD
set_option linter.unusedVariables false
set_option linter.unusedSimpArgs false
set_option linter.unnecessarySimpa false
set_option linter.unusedSectionVars false
namespace Go.Proofs.YtechkmappabefaaDoor
open Go Go.AM
set_option maxRecDepth 100000
set_option maxHeartbeats 1000000
set_option linter.unusedVariables false
set_option linter.unusedSimpArgs false
theorem trN_rN : ∀ (r : List Int) (a : Int) (i : Nat), trN a (i + 1) r = rN a (i + 1) r
  | [], _, _ => rfl
  | s :: r, a, i => by
    rw [trN, rN, leg_eq, trN_rN r s (i + 1)]
    simp
theorem trV_eq (xs : List Int) : trV xs = rtrV xs := by
  unfold trV rtrV
  cases hb : badB xs with
  | true => rfl
  | false =>
    cases xs with
    | nil => cases hb
    | cons x r =>
      by_cases hx : x = 1
      · subst hx
        simp only [trN, List.getD_cons_zero, List.drop_succ_cons, List.drop_zero]
        have h31 : legB 3 1 = true := by decide
        rw [← trN_rN]
        simp [h31]
      · simp [trN, hx]


theorem lifeTraces_sc (xs : List Int) (hlen : xs.length ≤ 9223372036854775807) : SC Tryd.prog gl 3 [.sl 1 (rows1 xs)] (.bool true) := by
  refine SC.of E_good Tryd.func3 rfl (fun _ _ => Tryd.call3 _ _) rfl ?_
  repeat (first | refine Safe.seq ?_ | refine Safe.skip ?_ | with_reducible refine thenQ.n ?_ | with_reducible refine blockQ.n ?_)
  refine Safe.region ?_
  refine SafeOps.quiet0 E_good rfl rfl rfl (.fn rfl) ?_
  refine SafeOps.nil ?_
  repeat (first | refine Safe.seq ?_ | refine Safe.skip ?_ | with_reducible refine thenQ.n ?_ | with_reducible refine blockQ.n ?_)
  refine Safe.region ?_
  refine SafeOps.quiet0 E_good rfl rfl rfl (.callP rfl rfl live_sc rfl) ?_
  refine SafeOps.quiet0 E_good rfl rfl rfl (.fn rfl) ?_
  refine SafeOps.nil ?_
  repeat (first | refine Safe.seq ?_ | refine Safe.skip ?_ | with_reducible refine thenQ.n ?_ | with_reducible refine blockQ.n ?_)
  refine Safe.region ?_
  refine SafeOps.quiet0 E_good rfl rfl rfl (.fn rfl) ?_
  refine SafeOps.quiet0 E_good rfl rfl rfl (.fn rfl) ?_
  refine SafeOps.nil ?_
  repeat (first | refine Safe.seq ?_ | refine Safe.skip ?_ | with_reducible refine thenQ.n ?_ | with_reducible refine blockQ.n ?_)
  refine Safe.cond rfl (fun h1 => ?_) (fun h1 => ?_)
  · skip
    repeat (first | refine Safe.seq ?_ | refine Safe.skip ?_ | with_reducible refine thenQ.n ?_ | with_reducible refine blockQ.n ?_)
    refine Safe.region ?_
    refine SafeOps.quiet0 E_good rfl rfl rfl (.fn rfl) ?_
    refine SafeOps.nil ?_
    repeat (first | refine Safe.seq ?_ | refine Safe.skip ?_ | with_reducible refine thenQ.n ?_ | with_reducible refine blockQ.n ?_)
    refine Safe.ret ?_
    repeat (first | with_reducible refine thenQ.r ?_ | with_reducible refine blockQ.r ?_)
    refine retQ.cast ?_ (retQ.one rfl rfl (.free rfl) (by simp))
    first | rfl | (simp_all [trV_eq]; done)
  · skip
    repeat (first | refine Safe.seq ?_ | refine Safe.skip ?_ | with_reducible refine thenQ.n ?_ | with_reducible refine blockQ.n ?_)
    refine Safe.region ?_
    refine SafeOps.quiet0 E_good rfl rfl rfl (.fn rfl) ?_
    refine SafeOps.quiet0 E_good rfl rfl rfl (.fn rfl) ?_
    refine SafeOps.quiet0 E_good rfl rfl rfl (.fn rfl) ?_
    refine SafeOps.nil ?_
    repeat (first | refine Safe.seq ?_ | refine Safe.skip ?_ | with_reducible refine thenQ.n ?_ | with_reducible refine blockQ.n ?_)
    refine Safe.cond rfl (fun h2 => ?_) (fun h2 => ?_)
    · skip
      repeat (first | refine Safe.seq ?_ | refine Safe.skip ?_ | with_reducible refine thenQ.n ?_ | with_reducible refine blockQ.n ?_)
      refine Safe.region ?_
      refine SafeOps.quiet0 E_good rfl rfl rfl (.fn rfl) ?_
      refine SafeOps.quiet0 E_good rfl rfl rfl (.fn rfl) ?_
      refine SafeOps.nil ?_
      repeat (first | refine Safe.seq ?_ | refine Safe.skip ?_ | with_reducible refine thenQ.n ?_ | with_reducible refine blockQ.n ?_)
      refine Safe.ret ?_
      repeat (first | with_reducible refine thenQ.r ?_ | with_reducible refine blockQ.r ?_)
      refine retQ.cast ?_ (retQ.one rfl rfl (.free rfl) (by simp))
      first | rfl | (simp_all [trV_eq]; done)
    · skip
      repeat (first | refine Safe.seq ?_ | refine Safe.skip ?_ | with_reducible refine thenQ.n ?_ | with_reducible refine blockQ.n ?_)
      refine Safe.region ?_
      refine SafeOps.quiet0 E_good rfl rfl rfl (.fn rfl) ?_
      refine SafeOps.quiet0 E_good rfl rfl rfl (.callP rfl rfl (trace_sc _ hlen) rfl) ?_
      refine SafeOps.quiet0 E_good rfl rfl rfl (.fn rfl) ?_
      refine SafeOps.quiet0 E_good rfl rfl rfl (.fn rfl) ?_
      refine SafeOps.quiet0 E_good rfl rfl rfl (.fn rfl) ?_
      refine SafeOps.quiet0 E_good rfl rfl rfl (.fn rfl) ?_
      refine SafeOps.quiet0 E_good rfl rfl rfl (.fn rfl) ?_
      refine SafeOps.nil ?_
      repeat (first | refine Safe.seq ?_ | refine Safe.skip ?_ | with_reducible refine thenQ.n ?_ | with_reducible refine blockQ.n ?_)
      refine Safe.region ?_
      refine SafeOps.quiet0 E_good rfl rfl rfl (.fn rfl) ?_
      refine SafeOps.quiet0 E_good rfl rfl rfl (.callP rfl rfl (rtrace_sc _ hlen) rfl) ?_
      refine SafeOps.quiet0 E_good rfl rfl rfl (.fn rfl) ?_
      refine SafeOps.quiet0 E_good rfl rfl rfl (.fn rfl) ?_
      refine SafeOps.quiet0 E_good rfl rfl rfl (.fn rfl) ?_
      refine SafeOps.quiet0 E_good rfl rfl rfl (.fn rfl) ?_
      refine SafeOps.quiet0 E_good rfl rfl rfl (.fn rfl) ?_
      refine SafeOps.nil ?_
      repeat (first | refine Safe.seq ?_ | refine Safe.skip ?_ | with_reducible refine thenQ.n ?_ | with_reducible refine blockQ.n ?_)
      refine Safe.region ?_
      refine SafeOps.quiet0 E_good rfl rfl rfl (.fn rfl) ?_
      refine SafeOps.quiet0 E_good rfl rfl rfl (.fn rfl) ?_
      refine SafeOps.split 26 rfl (fun h3 => ?_) (fun h3 => ?_)
      · skip
        refine SafeOps.quiet0 E_good rfl rfl rfl (.fn rfl) ?_
        refine SafeOps.quiet0 E_good rfl rfl rfl (.fn rfl) ?_
        refine SafeOps.quiet0 E_good rfl rfl rfl (.fn rfl) ?_
        refine SafeOps.quiet0 E_good rfl rfl rfl (.fn rfl) ?_
        refine SafeOps.quiet0 E_good rfl rfl rfl (.fn rfl) ?_
        refine SafeOps.split 31 rfl (fun h4 => ?_) (fun h4 => ?_)
        · skip
          refine SafeOps.quiet0 E_good rfl rfl rfl (.fn rfl) ?_
          refine SafeOps.quiet0 E_good rfl rfl rfl (.fn rfl) ?_
          refine SafeOps.quiet0 E_good rfl rfl rfl (.fn rfl) ?_
          refine SafeOps.quiet0 E_good rfl rfl rfl (.fn rfl) ?_
          refine SafeOps.quiet0 E_good rfl rfl rfl (.fn rfl) ?_
          refine SafeOps.nil ?_
          repeat (first | refine Safe.seq ?_ | refine Safe.skip ?_ | with_reducible refine thenQ.n ?_ | with_reducible refine blockQ.n ?_)
          refine Safe.ret ?_
          repeat (first | with_reducible refine thenQ.r ?_ | with_reducible refine blockQ.r ?_)
          refine retQ.cast ?_ (retQ.one rfl rfl (.free rfl) (by simp))
          first | rfl | (simp_all [trV_eq]; done)
        · skip
          refine SafeOps.skip rfl rfl rfl ?_
          refine SafeOps.skip rfl rfl rfl ?_
          refine SafeOps.skip rfl rfl rfl ?_
          refine SafeOps.quiet0 E_good rfl rfl rfl (.fn rfl) ?_
          refine SafeOps.quiet0 E_good rfl rfl rfl (.fn rfl) ?_
          refine SafeOps.nil ?_
          repeat (first | refine Safe.seq ?_ | refine Safe.skip ?_ | with_reducible refine thenQ.n ?_ | with_reducible refine blockQ.n ?_)
          refine Safe.ret ?_
          repeat (first | with_reducible refine thenQ.r ?_ | with_reducible refine blockQ.r ?_)
          refine retQ.cast ?_ (retQ.one rfl rfl (.free rfl) (by simp))
          first | rfl | (simp_all [trV_eq]; done)
      · skip
        refine SafeOps.skip rfl rfl rfl ?_
        refine SafeOps.skip rfl rfl rfl ?_
        refine SafeOps.skip rfl rfl rfl ?_
        refine SafeOps.quiet0 E_good rfl rfl rfl (.fn rfl) ?_
        refine SafeOps.quiet0 E_good rfl rfl rfl (.fn rfl) ?_
        refine SafeOps.skip rfl rfl rfl ?_
        refine SafeOps.skip rfl rfl rfl ?_
        refine SafeOps.skip rfl rfl rfl ?_
        refine SafeOps.quiet0 E_good rfl rfl rfl (.fn rfl) ?_
        refine SafeOps.quiet0 E_good rfl rfl rfl (.fn rfl) ?_
        refine SafeOps.nil ?_
        repeat (first | refine Safe.seq ?_ | refine Safe.skip ?_ | with_reducible refine thenQ.n ?_ | with_reducible refine blockQ.n ?_)
        refine Safe.ret ?_
        repeat (first | with_reducible refine thenQ.r ?_ | with_reducible refine blockQ.r ?_)
        refine retQ.cast ?_ (retQ.one rfl rfl (.free rfl) (by simp))
        first | rfl | (simp_all [trV_eq]; done)

end Go.Proofs.YtechkmappabefaaDoor
