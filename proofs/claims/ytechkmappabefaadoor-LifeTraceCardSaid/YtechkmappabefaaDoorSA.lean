/- Helper lemmas for the claim's theorem: an abstract machine over the model, proved sound; no condition beyond each lemma's own. -/
import Derived.Test.YtechkmappabefaaDoorSEnv
set_option linter.unusedVariables false
set_option linter.unusedSimpArgs false
set_option linter.unnecessarySimpa false
set_option linter.unusedSectionVars false
namespace Go.Proofs.YtechkmappabefaaDoor
open Go Go.AM
set_option maxRecDepth 100000
set_option maxHeartbeats 1000000
set_option linter.unusedVariables false
set_option linter.unusedSimpArgs false
def stB (n : Int) : Bool := decide (n ≥ 1) && decide (n ≤ 7)
def waB (n : Int) : Bool := decide (n ≥ 3) && decide (n ≤ 6)
def tbl : List Int := [0, 132, 250, 130, 130, 130, 130, 0]
def bitB (a b : Int) : Bool := (IntKind.u8.wrap ((BitVec.ofInt IntKind.u8.bits ((tbl.getD (0 + a.toNat * 1) 0).fdiv (2 ^ (min b.toNat IntKind.u8.bits))) &&& BitVec.ofInt IntKind.u8.bits 1).toNat)) == 1
def legB (a b : Int) : Bool := stB a && stB b && bitB a b
def rlegB (a b : Int) : Bool := if !stB a || !stB b then false else if b == 7 then a != 7 else if b == 2 then a == 1 else if b == 1 then a == 2 || waB a else a == 2
theorem stB_range {n : Int} (h : stB n = true) : 1 ≤ n ∧ n ≤ 7 := by simpa [stB] using h


theorem state_sc (n : Int)  : SC Tryd.prog gl 25 [.int .i64 n] (.bool (stB n)) := by
  refine SC.of E_good Tryd.func25 rfl (fun _ _ => Tryd.call25 _ _) rfl ?_
  repeat (first | refine Safe.seq ?_ | refine Safe.skip ?_ | with_reducible refine thenQ.n ?_ | with_reducible refine blockQ.n ?_)
  refine Safe.region ?_
  refine SafeOps.quiet0 E_good rfl rfl rfl (.fn rfl) ?_
  refine SafeOps.nil ?_
  repeat (first | refine Safe.seq ?_ | refine Safe.skip ?_ | with_reducible refine thenQ.n ?_ | with_reducible refine blockQ.n ?_)
  refine Safe.region ?_
  refine SafeOps.quiet0 E_good rfl rfl rfl (.fn rfl) ?_
  refine SafeOps.quiet0 E_good rfl rfl rfl (.fn rfl) ?_
  refine SafeOps.quiet0 E_good rfl rfl rfl (.fn rfl) ?_
  refine SafeOps.split 5 rfl (fun h1 => ?_) (fun h1 => ?_)
  · skip
    refine SafeOps.quiet0 E_good rfl rfl rfl (.fn rfl) ?_
    refine SafeOps.quiet0 E_good rfl rfl rfl (.fn rfl) ?_
    refine SafeOps.quiet0 E_good rfl rfl rfl (.fn rfl) ?_
    refine SafeOps.quiet0 E_good rfl rfl rfl (.fn rfl) ?_
    refine SafeOps.nil ?_
    repeat (first | refine Safe.seq ?_ | refine Safe.skip ?_ | with_reducible refine thenQ.n ?_ | with_reducible refine blockQ.n ?_)
    refine Safe.ret ?_
    repeat (first | with_reducible refine thenQ.r ?_ | with_reducible refine blockQ.r ?_)
    refine retQ.cast ?_ (retQ.one rfl rfl (.free rfl) (by simp))
    first | (simp_all [stB, waB]; done) | (simp_all [stB, waB]; omega)
  · skip
    refine SafeOps.skip rfl rfl rfl ?_
    refine SafeOps.skip rfl rfl rfl ?_
    refine SafeOps.quiet0 E_good rfl rfl rfl (.fn rfl) ?_
    refine SafeOps.quiet0 E_good rfl rfl rfl (.fn rfl) ?_
    refine SafeOps.nil ?_
    repeat (first | refine Safe.seq ?_ | refine Safe.skip ?_ | with_reducible refine thenQ.n ?_ | with_reducible refine blockQ.n ?_)
    refine Safe.ret ?_
    repeat (first | with_reducible refine thenQ.r ?_ | with_reducible refine blockQ.r ?_)
    refine retQ.cast ?_ (retQ.one rfl rfl (.free rfl) (by simp))
    first | (simp_all [stB, waB]; done) | (simp_all [stB, waB]; omega)

theorem rstate_sc (n : Int)  : SC Tryd.prog gl 27 [.int .i64 n] (.bool (stB n)) := by
  refine SC.of E_good Tryd.func27 rfl (fun _ _ => Tryd.call27 _ _) rfl ?_
  repeat (first | refine Safe.seq ?_ | refine Safe.skip ?_ | with_reducible refine thenQ.n ?_ | with_reducible refine blockQ.n ?_)
  refine Safe.region ?_
  refine SafeOps.quiet0 E_good rfl rfl rfl (.fn rfl) ?_
  refine SafeOps.nil ?_
  repeat (first | refine Safe.seq ?_ | refine Safe.skip ?_ | with_reducible refine thenQ.n ?_ | with_reducible refine blockQ.n ?_)
  refine Safe.region ?_
  refine SafeOps.quiet0 E_good rfl rfl rfl (.fn rfl) ?_
  refine SafeOps.quiet0 E_good rfl rfl rfl (.fn rfl) ?_
  refine SafeOps.quiet0 E_good rfl rfl rfl (.fn rfl) ?_
  refine SafeOps.split 5 rfl (fun h1 => ?_) (fun h1 => ?_)
  · skip
    refine SafeOps.quiet0 E_good rfl rfl rfl (.fn rfl) ?_
    refine SafeOps.quiet0 E_good rfl rfl rfl (.fn rfl) ?_
    refine SafeOps.quiet0 E_good rfl rfl rfl (.fn rfl) ?_
    refine SafeOps.quiet0 E_good rfl rfl rfl (.fn rfl) ?_
    refine SafeOps.nil ?_
    repeat (first | refine Safe.seq ?_ | refine Safe.skip ?_ | with_reducible refine thenQ.n ?_ | with_reducible refine blockQ.n ?_)
    refine Safe.ret ?_
    repeat (first | with_reducible refine thenQ.r ?_ | with_reducible refine blockQ.r ?_)
    refine retQ.cast ?_ (retQ.one rfl rfl (.free rfl) (by simp))
    first | (simp_all [stB, waB]; done) | (simp_all [stB, waB]; omega)
  · skip
    refine SafeOps.skip rfl rfl rfl ?_
    refine SafeOps.skip rfl rfl rfl ?_
    refine SafeOps.quiet0 E_good rfl rfl rfl (.fn rfl) ?_
    refine SafeOps.quiet0 E_good rfl rfl rfl (.fn rfl) ?_
    refine SafeOps.nil ?_
    repeat (first | refine Safe.seq ?_ | refine Safe.skip ?_ | with_reducible refine thenQ.n ?_ | with_reducible refine blockQ.n ?_)
    refine Safe.ret ?_
    repeat (first | with_reducible refine thenQ.r ?_ | with_reducible refine blockQ.r ?_)
    refine retQ.cast ?_ (retQ.one rfl rfl (.free rfl) (by simp))
    first | (simp_all [stB, waB]; done) | (simp_all [stB, waB]; omega)

theorem waits_sc (n : Int)  : SC Tryd.prog gl 14 [.int .i64 n] (.bool (waB n)) := by
  refine SC.of E_good Tryd.func14 rfl (fun _ _ => Tryd.call14 _ _) rfl ?_
  repeat (first | refine Safe.seq ?_ | refine Safe.skip ?_ | with_reducible refine thenQ.n ?_ | with_reducible refine blockQ.n ?_)
  refine Safe.region ?_
  refine SafeOps.quiet0 E_good rfl rfl rfl (.fn rfl) ?_
  refine SafeOps.nil ?_
  repeat (first | refine Safe.seq ?_ | refine Safe.skip ?_ | with_reducible refine thenQ.n ?_ | with_reducible refine blockQ.n ?_)
  refine Safe.region ?_
  refine SafeOps.quiet0 E_good rfl rfl rfl (.fn rfl) ?_
  refine SafeOps.quiet0 E_good rfl rfl rfl (.fn rfl) ?_
  refine SafeOps.quiet0 E_good rfl rfl rfl (.fn rfl) ?_
  refine SafeOps.split 5 rfl (fun h1 => ?_) (fun h1 => ?_)
  · skip
    refine SafeOps.quiet0 E_good rfl rfl rfl (.fn rfl) ?_
    refine SafeOps.quiet0 E_good rfl rfl rfl (.fn rfl) ?_
    refine SafeOps.quiet0 E_good rfl rfl rfl (.fn rfl) ?_
    refine SafeOps.quiet0 E_good rfl rfl rfl (.fn rfl) ?_
    refine SafeOps.nil ?_
    repeat (first | refine Safe.seq ?_ | refine Safe.skip ?_ | with_reducible refine thenQ.n ?_ | with_reducible refine blockQ.n ?_)
    refine Safe.ret ?_
    repeat (first | with_reducible refine thenQ.r ?_ | with_reducible refine blockQ.r ?_)
    refine retQ.cast ?_ (retQ.one rfl rfl (.free rfl) (by simp))
    first | (simp_all [stB, waB]; done) | (simp_all [stB, waB]; omega)
  · skip
    refine SafeOps.skip rfl rfl rfl ?_
    refine SafeOps.skip rfl rfl rfl ?_
    refine SafeOps.quiet0 E_good rfl rfl rfl (.fn rfl) ?_
    refine SafeOps.quiet0 E_good rfl rfl rfl (.fn rfl) ?_
    refine SafeOps.nil ?_
    repeat (first | refine Safe.seq ?_ | refine Safe.skip ?_ | with_reducible refine thenQ.n ?_ | with_reducible refine blockQ.n ?_)
    refine Safe.ret ?_
    repeat (first | with_reducible refine thenQ.r ?_ | with_reducible refine blockQ.r ?_)
    refine retQ.cast ?_ (retQ.one rfl rfl (.free rfl) (by simp))
    first | (simp_all [stB, waB]; done) | (simp_all [stB, waB]; omega)

theorem rwaits_sc (n : Int)  : SC Tryd.prog gl 15 [.int .i64 n] (.bool (waB n)) := by
  refine SC.of E_good Tryd.func15 rfl (fun _ _ => Tryd.call15 _ _) rfl ?_
  repeat (first | refine Safe.seq ?_ | refine Safe.skip ?_ | with_reducible refine thenQ.n ?_ | with_reducible refine blockQ.n ?_)
  refine Safe.region ?_
  refine SafeOps.quiet0 E_good rfl rfl rfl (.fn rfl) ?_
  refine SafeOps.nil ?_
  repeat (first | refine Safe.seq ?_ | refine Safe.skip ?_ | with_reducible refine thenQ.n ?_ | with_reducible refine blockQ.n ?_)
  refine Safe.region ?_
  refine SafeOps.quiet0 E_good rfl rfl rfl (.fn rfl) ?_
  refine SafeOps.quiet0 E_good rfl rfl rfl (.fn rfl) ?_
  refine SafeOps.quiet0 E_good rfl rfl rfl (.fn rfl) ?_
  refine SafeOps.split 5 rfl (fun h1 => ?_) (fun h1 => ?_)
  · skip
    refine SafeOps.quiet0 E_good rfl rfl rfl (.fn rfl) ?_
    refine SafeOps.quiet0 E_good rfl rfl rfl (.fn rfl) ?_
    refine SafeOps.quiet0 E_good rfl rfl rfl (.fn rfl) ?_
    refine SafeOps.quiet0 E_good rfl rfl rfl (.fn rfl) ?_
    refine SafeOps.nil ?_
    repeat (first | refine Safe.seq ?_ | refine Safe.skip ?_ | with_reducible refine thenQ.n ?_ | with_reducible refine blockQ.n ?_)
    refine Safe.ret ?_
    repeat (first | with_reducible refine thenQ.r ?_ | with_reducible refine blockQ.r ?_)
    refine retQ.cast ?_ (retQ.one rfl rfl (.free rfl) (by simp))
    first | (simp_all [stB, waB]; done) | (simp_all [stB, waB]; omega)
  · skip
    refine SafeOps.skip rfl rfl rfl ?_
    refine SafeOps.skip rfl rfl rfl ?_
    refine SafeOps.quiet0 E_good rfl rfl rfl (.fn rfl) ?_
    refine SafeOps.quiet0 E_good rfl rfl rfl (.fn rfl) ?_
    refine SafeOps.nil ?_
    repeat (first | refine Safe.seq ?_ | refine Safe.skip ?_ | with_reducible refine thenQ.n ?_ | with_reducible refine blockQ.n ?_)
    refine Safe.ret ?_
    repeat (first | with_reducible refine thenQ.r ?_ | with_reducible refine blockQ.r ?_)
    refine retQ.cast ?_ (retQ.one rfl rfl (.free rfl) (by simp))
    first | (simp_all [stB, waB]; done) | (simp_all [stB, waB]; omega)

theorem legal_sc (a b : Int)  : SC Tryd.prog gl 12 [.int .i64 a, .int .i64 b] (.bool (legB a b)) := by
  refine SC.of E_good Tryd.func12 rfl (fun _ _ => Tryd.call12 _ _) rfl ?_
  repeat (first | refine Safe.seq ?_ | refine Safe.skip ?_ | with_reducible refine thenQ.n ?_ | with_reducible refine blockQ.n ?_)
  refine Safe.region ?_
  refine SafeOps.quiet0 E_good rfl rfl rfl (.fn rfl) ?_
  refine SafeOps.nil ?_
  repeat (first | refine Safe.seq ?_ | refine Safe.skip ?_ | with_reducible refine thenQ.n ?_ | with_reducible refine blockQ.n ?_)
  refine Safe.region ?_
  refine SafeOps.quiet0 E_good rfl rfl rfl (.fn rfl) ?_
  refine SafeOps.quiet0 E_good rfl rfl rfl (.callP rfl rfl (state_sc _) rfl) ?_
  refine SafeOps.quiet0 E_good rfl rfl rfl (.fn rfl) ?_
  refine SafeOps.split 7 rfl (fun h1 => ?_) (fun h1 => ?_)
  · skip
    refine SafeOps.quiet0 E_good rfl rfl rfl (.fn rfl) ?_
    refine SafeOps.quiet0 E_good rfl rfl rfl (.callP rfl rfl (state_sc _) rfl) ?_
    refine SafeOps.quiet0 E_good rfl rfl rfl (.fn rfl) ?_
    refine SafeOps.quiet0 E_good rfl rfl rfl (.fn rfl) ?_
    refine SafeOps.split 11 rfl (fun h2 => ?_) (fun h2 => ?_)
    · skip
      refine SafeOps.quiet0 E_good rfl rfl rfl (.fn rfl) ?_
      have q1 : 1 ≤ a ∧ a ≤ 7 := stB_range (by assumption)
      have q2 : 1 ≤ b ∧ b ≤ 7 := stB_range (by assumption)
      refine SafeOps.quiet0 E_good rfl rfl rfl (.idxArrG rfl rfl rfl rfl (by omega) (by omega)) ?_
      refine SafeOps.quiet0 E_good rfl rfl rfl (.load rfl rfl (.globI (xs := tbl) rfl (by show 0 + a.toNat * 1 < 8; omega)) rfl) ?_
      refine SafeOps.quiet0 E_good rfl rfl rfl (.fn rfl) ?_
      refine SafeOps.quiet0 E_good rfl rfl rfl (.shrV rfl rfl (by omega)) ?_
      refine SafeOps.quiet0 E_good rfl rfl rfl (.fn rfl) ?_
      refine SafeOps.quiet0 E_good rfl rfl rfl (.fn rfl) ?_
      refine SafeOps.quiet0 E_good rfl rfl rfl (.fn rfl) ?_
      refine SafeOps.quiet0 E_good rfl rfl rfl (.fn rfl) ?_
      refine SafeOps.nil ?_
      repeat (first | refine Safe.seq ?_ | refine Safe.skip ?_ | with_reducible refine thenQ.n ?_ | with_reducible refine blockQ.n ?_)
      refine Safe.ret ?_
      repeat (first | with_reducible refine thenQ.r ?_ | with_reducible refine blockQ.r ?_)
      refine retQ.cast ?_ (retQ.one rfl rfl (.free rfl) (by simp))
      simp_all [legB, bitB]
    · skip
      refine SafeOps.skip rfl rfl rfl ?_
      refine SafeOps.skip rfl rfl rfl ?_
      refine SafeOps.skip rfl rfl rfl ?_
      refine SafeOps.skip rfl rfl rfl ?_
      refine SafeOps.skip rfl rfl rfl ?_
      refine SafeOps.skip rfl rfl rfl ?_
      refine SafeOps.skip rfl rfl rfl ?_
      refine SafeOps.quiet0 E_good rfl rfl rfl (.fn rfl) ?_
      refine SafeOps.quiet0 E_good rfl rfl rfl (.fn rfl) ?_
      refine SafeOps.nil ?_
      repeat (first | refine Safe.seq ?_ | refine Safe.skip ?_ | with_reducible refine thenQ.n ?_ | with_reducible refine blockQ.n ?_)
      refine Safe.ret ?_
      repeat (first | with_reducible refine thenQ.r ?_ | with_reducible refine blockQ.r ?_)
      refine retQ.cast ?_ (retQ.one rfl rfl (.free rfl) (by simp))
      simp_all [legB, bitB]
  · skip
    refine SafeOps.skip rfl rfl rfl ?_
    refine SafeOps.skip rfl rfl rfl ?_
    refine SafeOps.quiet0 E_good rfl rfl rfl (.fn rfl) ?_
    refine SafeOps.quiet0 E_good rfl rfl rfl (.fn rfl) ?_
    refine SafeOps.skip rfl rfl rfl ?_
    refine SafeOps.skip rfl rfl rfl ?_
    refine SafeOps.skip rfl rfl rfl ?_
    refine SafeOps.skip rfl rfl rfl ?_
    refine SafeOps.skip rfl rfl rfl ?_
    refine SafeOps.skip rfl rfl rfl ?_
    refine SafeOps.skip rfl rfl rfl ?_
    refine SafeOps.quiet0 E_good rfl rfl rfl (.fn rfl) ?_
    refine SafeOps.quiet0 E_good rfl rfl rfl (.fn rfl) ?_
    refine SafeOps.nil ?_
    repeat (first | refine Safe.seq ?_ | refine Safe.skip ?_ | with_reducible refine thenQ.n ?_ | with_reducible refine blockQ.n ?_)
    refine Safe.ret ?_
    repeat (first | with_reducible refine thenQ.r ?_ | with_reducible refine blockQ.r ?_)
    refine retQ.cast ?_ (retQ.one rfl rfl (.free rfl) (by simp))
    simp_all [legB, bitB]

theorem rlegal_sc (a b : Int)  : SC Tryd.prog gl 13 [.int .i64 a, .int .i64 b] (.bool (rlegB a b)) := by
  refine SC.of E_good Tryd.func13 rfl (fun _ _ => Tryd.call13 _ _) rfl ?_
  repeat (first | refine Safe.seq ?_ | refine Safe.skip ?_ | with_reducible refine thenQ.n ?_ | with_reducible refine blockQ.n ?_)
  refine Safe.region ?_
  refine SafeOps.quiet0 E_good rfl rfl rfl (.fn rfl) ?_
  refine SafeOps.nil ?_
  repeat (first | refine Safe.seq ?_ | refine Safe.skip ?_ | with_reducible refine thenQ.n ?_ | with_reducible refine blockQ.n ?_)
  refine Safe.region ?_
  refine SafeOps.quiet0 E_good rfl rfl rfl (.fn rfl) ?_
  refine SafeOps.quiet0 E_good rfl rfl rfl (.callP rfl rfl (rstate_sc _) rfl) ?_
  refine SafeOps.quiet0 E_good rfl rfl rfl (.fn rfl) ?_
  refine SafeOps.quiet0 E_good rfl rfl rfl (.fn rfl) ?_
  refine SafeOps.split 8 rfl (fun h1 => ?_) (fun h1 => ?_)
  · skip
    refine SafeOps.skip rfl rfl rfl ?_
    refine SafeOps.skip rfl rfl rfl ?_
    refine SafeOps.skip rfl rfl rfl ?_
    refine SafeOps.quiet0 E_good rfl rfl rfl (.fn rfl) ?_
    refine SafeOps.nil ?_
    repeat (first | refine Safe.seq ?_ | refine Safe.skip ?_ | with_reducible refine thenQ.n ?_ | with_reducible refine blockQ.n ?_)
    refine Safe.condT rfl ?_
    repeat (first | refine Safe.seq ?_ | refine Safe.skip ?_ | with_reducible refine thenQ.n ?_ | with_reducible refine blockQ.n ?_)
    refine Safe.region ?_
    refine SafeOps.quiet0 E_good rfl rfl rfl (.fn rfl) ?_
    refine SafeOps.nil ?_
    repeat (first | refine Safe.seq ?_ | refine Safe.skip ?_ | with_reducible refine thenQ.n ?_ | with_reducible refine blockQ.n ?_)
    refine Safe.ret ?_
    repeat (first | with_reducible refine thenQ.r ?_ | with_reducible refine blockQ.r ?_)
    refine retQ.cast ?_ (retQ.one rfl rfl (.free rfl) (by simp))
    simp_all [rlegB]
  · skip
    refine SafeOps.quiet0 E_good rfl rfl rfl (.fn rfl) ?_
    refine SafeOps.quiet0 E_good rfl rfl rfl (.callP rfl rfl (rstate_sc _) rfl) ?_
    refine SafeOps.quiet0 E_good rfl rfl rfl (.fn rfl) ?_
    refine SafeOps.quiet0 E_good rfl rfl rfl (.fn rfl) ?_
    refine SafeOps.nil ?_
    repeat (first | refine Safe.seq ?_ | refine Safe.skip ?_ | with_reducible refine thenQ.n ?_ | with_reducible refine blockQ.n ?_)
    refine Safe.cond rfl (fun h2 => ?_) (fun h2 => ?_)
    · skip
      repeat (first | refine Safe.seq ?_ | refine Safe.skip ?_ | with_reducible refine thenQ.n ?_ | with_reducible refine blockQ.n ?_)
      refine Safe.region ?_
      refine SafeOps.quiet0 E_good rfl rfl rfl (.fn rfl) ?_
      refine SafeOps.nil ?_
      repeat (first | refine Safe.seq ?_ | refine Safe.skip ?_ | with_reducible refine thenQ.n ?_ | with_reducible refine blockQ.n ?_)
      refine Safe.ret ?_
      repeat (first | with_reducible refine thenQ.r ?_ | with_reducible refine blockQ.r ?_)
      refine retQ.cast ?_ (retQ.one rfl rfl (.free rfl) (by simp))
      simp_all [rlegB]
    · skip
      repeat (first | refine Safe.seq ?_ | refine Safe.skip ?_ | with_reducible refine thenQ.n ?_ | with_reducible refine blockQ.n ?_)
      refine Safe.region ?_
      refine SafeOps.quiet0 E_good rfl rfl rfl (.fn rfl) ?_
      refine SafeOps.quiet0 E_good rfl rfl rfl (.fn rfl) ?_
      refine SafeOps.nil ?_
      repeat (first | refine Safe.seq ?_ | refine Safe.skip ?_ | with_reducible refine thenQ.n ?_ | with_reducible refine blockQ.n ?_)
      refine Safe.cond rfl (fun h3 => ?_) (fun h3 => ?_)
      · skip
        repeat (first | refine Safe.seq ?_ | refine Safe.skip ?_ | with_reducible refine thenQ.n ?_ | with_reducible refine blockQ.n ?_)
        refine Safe.region ?_
        refine SafeOps.quiet0 E_good rfl rfl rfl (.fn rfl) ?_
        refine SafeOps.quiet0 E_good rfl rfl rfl (.fn rfl) ?_
        refine SafeOps.quiet0 E_good rfl rfl rfl (.fn rfl) ?_
        refine SafeOps.nil ?_
        repeat (first | refine Safe.seq ?_ | refine Safe.skip ?_ | with_reducible refine thenQ.n ?_ | with_reducible refine blockQ.n ?_)
        refine Safe.ret ?_
        repeat (first | with_reducible refine thenQ.r ?_ | with_reducible refine blockQ.r ?_)
        refine retQ.cast ?_ (retQ.one rfl rfl (.free rfl) (by simp))
        simp_all [rlegB]
      · skip
        repeat (first | refine Safe.seq ?_ | refine Safe.skip ?_ | with_reducible refine thenQ.n ?_ | with_reducible refine blockQ.n ?_)
        refine Safe.region ?_
        refine SafeOps.quiet0 E_good rfl rfl rfl (.fn rfl) ?_
        refine SafeOps.quiet0 E_good rfl rfl rfl (.fn rfl) ?_
        refine SafeOps.nil ?_
        repeat (first | refine Safe.seq ?_ | refine Safe.skip ?_ | with_reducible refine thenQ.n ?_ | with_reducible refine blockQ.n ?_)
        refine Safe.cond rfl (fun h4 => ?_) (fun h4 => ?_)
        · skip
          repeat (first | refine Safe.seq ?_ | refine Safe.skip ?_ | with_reducible refine thenQ.n ?_ | with_reducible refine blockQ.n ?_)
          refine Safe.region ?_
          refine SafeOps.quiet0 E_good rfl rfl rfl (.fn rfl) ?_
          refine SafeOps.quiet0 E_good rfl rfl rfl (.fn rfl) ?_
          refine SafeOps.quiet0 E_good rfl rfl rfl (.fn rfl) ?_
          refine SafeOps.nil ?_
          repeat (first | refine Safe.seq ?_ | refine Safe.skip ?_ | with_reducible refine thenQ.n ?_ | with_reducible refine blockQ.n ?_)
          refine Safe.ret ?_
          repeat (first | with_reducible refine thenQ.r ?_ | with_reducible refine blockQ.r ?_)
          refine retQ.cast ?_ (retQ.one rfl rfl (.free rfl) (by simp))
          simp_all [rlegB]
        · skip
          repeat (first | refine Safe.seq ?_ | refine Safe.skip ?_ | with_reducible refine thenQ.n ?_ | with_reducible refine blockQ.n ?_)
          refine Safe.region ?_
          refine SafeOps.quiet0 E_good rfl rfl rfl (.fn rfl) ?_
          refine SafeOps.quiet0 E_good rfl rfl rfl (.fn rfl) ?_
          refine SafeOps.nil ?_
          repeat (first | refine Safe.seq ?_ | refine Safe.skip ?_ | with_reducible refine thenQ.n ?_ | with_reducible refine blockQ.n ?_)
          refine Safe.cond rfl (fun h5 => ?_) (fun h5 => ?_)
          · skip
            repeat (first | refine Safe.seq ?_ | refine Safe.skip ?_ | with_reducible refine thenQ.n ?_ | with_reducible refine blockQ.n ?_)
            refine Safe.region ?_
            refine SafeOps.quiet0 E_good rfl rfl rfl (.fn rfl) ?_
            refine SafeOps.quiet0 E_good rfl rfl rfl (.fn rfl) ?_
            refine SafeOps.quiet0 E_good rfl rfl rfl (.fn rfl) ?_
            refine SafeOps.split 25 rfl (fun h6 => ?_) (fun h6 => ?_)
            · skip
              refine SafeOps.skip rfl rfl rfl ?_
              refine SafeOps.skip rfl rfl rfl ?_
              refine SafeOps.quiet0 E_good rfl rfl rfl (.fn rfl) ?_
              refine SafeOps.quiet0 E_good rfl rfl rfl (.fn rfl) ?_
              refine SafeOps.nil ?_
              repeat (first | refine Safe.seq ?_ | refine Safe.skip ?_ | with_reducible refine thenQ.n ?_ | with_reducible refine blockQ.n ?_)
              refine Safe.ret ?_
              repeat (first | with_reducible refine thenQ.r ?_ | with_reducible refine blockQ.r ?_)
              refine retQ.cast ?_ (retQ.one rfl rfl (.free rfl) (by simp))
              simp_all [rlegB]
            · skip
              refine SafeOps.quiet0 E_good rfl rfl rfl (.fn rfl) ?_
              refine SafeOps.quiet0 E_good rfl rfl rfl (.callP rfl rfl (rwaits_sc _) rfl) ?_
              refine SafeOps.quiet0 E_good rfl rfl rfl (.fn rfl) ?_
              refine SafeOps.quiet0 E_good rfl rfl rfl (.fn rfl) ?_
              refine SafeOps.nil ?_
              repeat (first | refine Safe.seq ?_ | refine Safe.skip ?_ | with_reducible refine thenQ.n ?_ | with_reducible refine blockQ.n ?_)
              refine Safe.ret ?_
              repeat (first | with_reducible refine thenQ.r ?_ | with_reducible refine blockQ.r ?_)
              refine retQ.cast ?_ (retQ.one rfl rfl (.free rfl) (by simp))
              simp_all [rlegB]
          · skip
            repeat (first | refine Safe.seq ?_ | refine Safe.skip ?_ | with_reducible refine thenQ.n ?_ | with_reducible refine blockQ.n ?_)
            refine Safe.region ?_
            refine SafeOps.quiet0 E_good rfl rfl rfl (.fn rfl) ?_
            refine SafeOps.quiet0 E_good rfl rfl rfl (.fn rfl) ?_
            refine SafeOps.quiet0 E_good rfl rfl rfl (.fn rfl) ?_
            refine SafeOps.nil ?_
            repeat (first | refine Safe.seq ?_ | refine Safe.skip ?_ | with_reducible refine thenQ.n ?_ | with_reducible refine blockQ.n ?_)
            refine Safe.ret ?_
            repeat (first | with_reducible refine thenQ.r ?_ | with_reducible refine blockQ.r ?_)
            refine retQ.cast ?_ (retQ.one rfl rfl (.free rfl) (by simp))
            simp_all [rlegB]

theorem odd_sc (n : Int)  : SC Tryd.prog gl 24 [.int .i64 n] (.bool (!stB n)) := by
  refine SC.of E_good Tryd.func24 rfl (fun _ _ => Tryd.call24 _ _) rfl ?_
  repeat (first | refine Safe.seq ?_ | refine Safe.skip ?_ | with_reducible refine thenQ.n ?_ | with_reducible refine blockQ.n ?_)
  refine Safe.region ?_
  refine SafeOps.quiet0 E_good rfl rfl rfl (.fn rfl) ?_
  refine SafeOps.nil ?_
  repeat (first | refine Safe.seq ?_ | refine Safe.skip ?_ | with_reducible refine thenQ.n ?_ | with_reducible refine blockQ.n ?_)
  refine Safe.region ?_
  refine SafeOps.quiet0 E_good rfl rfl rfl (.fn rfl) ?_
  refine SafeOps.quiet0 E_good rfl rfl rfl (.callP rfl rfl (state_sc _) rfl) ?_
  refine SafeOps.quiet0 E_good rfl rfl rfl (.fn rfl) ?_
  refine SafeOps.quiet0 E_good rfl rfl rfl (.fn rfl) ?_
  refine SafeOps.nil ?_
  repeat (first | refine Safe.seq ?_ | refine Safe.skip ?_ | with_reducible refine thenQ.n ?_ | with_reducible refine blockQ.n ?_)
  refine Safe.ret ?_
  repeat (first | with_reducible refine thenQ.r ?_ | with_reducible refine blockQ.r ?_)
  refine retQ.cast ?_ (retQ.one rfl rfl (.free rfl) (by simp))
  first | rfl | simp_all

def rows1 (xs : List Int) : List (List V) := xs.map fun n => [V.int .i64 n]
theorem rows1_len (xs : List Int) : (rows1 xs).length = xs.length := by simp [rows1]
theorem rows1_get {xs : List Int} {i : Nat} (h : i < xs.length) : (rows1 xs)[i]? = some [V.int .i64 (xs.getD i 0)] := by simp [rows1, h, List.getD]
theorem wrap_id {n : Int} (h0 : 0 ≤ n) (h1 : n ≤ 9223372036854775807) : IntKind.i64.wrap n = n := by unfold IntKind.wrap; simp [IntKind.signed, IntKind.bits]; omega
def idxOf (p : Int → Bool) (xs : List Int) : Int := match xs.findIdx? p with | some i => i | none => -1
theorem idxOf_at {p : Int → Bool} {xs : List Int} {k : Nat} (h : k < xs.length) (hp : p (xs.getD k 0) = true) (hn : ∀ j, j < k → p (xs.getD j 0) = false) : idxOf p xs = k := by
  have : xs.findIdx? p = some k := by
    rw [List.findIdx?_eq_some_iff_getElem]
    refine ⟨h, by simpa [List.getD, h] using hp, fun j hj => ?_⟩
    have := hn j hj
    simpa [List.getD, Nat.lt_trans hj h] using this
  simp [idxOf, this]
theorem idxOf_none {p : Int → Bool} {xs : List Int} (hn : ∀ j, j < xs.length → p (xs.getD j 0) = false) : idxOf p xs = -1 := by
  have : xs.findIdx? p = none := by
    rw [List.findIdx?_eq_none_iff]
    intro x hx
    obtain ⟨j, hj, rfl⟩ := List.mem_iff_getElem.1 hx
    have := hn j hj
    simpa [List.getD, hj] using this
  simp [idxOf, this]
theorem idxOf_any (p : Int → Bool) (xs : List Int) : decide (idxOf p xs ≥ 0) = xs.any p := by
  unfold idxOf
  cases h : xs.findIdx? p with
  | none =>
    have := List.findIdx?_eq_none_iff.1 h
    simp
    intro x hx
    simpa using this x hx
  | some i =>
    have := List.findIdx?_eq_some_iff_getElem.1 h
    obtain ⟨h1, h2, _⟩ := this
    simp
    exact ⟨xs[i], List.getElem_mem h1, h2⟩

theorem index_sc (xs : List Int) (f : Nat) (caps : List V) (p : Int → Bool) (hlen : xs.length ≤ 9223372036854775807) (hfree : V.free.frees caps = true) (hp : ∀ n, SC Tryd.prog gl f ([.int .i64 n] ++ caps) (.bool (p n))) : SC Tryd.prog gl 30 [.sl 1 (rows1 xs), .fn f caps] (.int .i64 (idxOf p xs)) := by
  refine SC.of E_good Tryd.func30 rfl (fun _ _ => Tryd.call30 _ _) rfl ?_
  repeat (first | refine Safe.seq ?_ | refine Safe.skip ?_ | with_reducible refine thenQ.n ?_ | with_reducible refine blockQ.n ?_)
  refine Safe.region ?_
  refine SafeOps.quiet0 E_good rfl rfl rfl (.fn rfl) ?_
  refine SafeOps.nil ?_
  repeat (first | refine Safe.seq ?_ | refine Safe.skip ?_ | with_reducible refine thenQ.n ?_ | with_reducible refine blockQ.n ?_)
  refine Safe.region ?_
  refine SafeOps.quiet0 E_good rfl rfl rfl (.fn rfl) ?_
  refine SafeOps.quiet0 E_good rfl rfl rfl (.fn rfl) ?_
  refine SafeOps.quiet0 E_good rfl rfl rfl (.fn rfl) ?_
  refine SafeOps.nil ?_
  repeat (first | refine Safe.seq ?_ | refine Safe.skip ?_ | with_reducible refine thenQ.n ?_ | with_reducible refine blockQ.n ?_)
  refine Safe.block ?_
  repeat (first | refine Safe.seq ?_ | refine Safe.skip ?_ | with_reducible refine thenQ.n ?_ | with_reducible refine blockQ.n ?_)
  refine Safe.loopI (ι := Nat) (fun k => ⟨Tryd.f30.ntmps, [(0, .sl 1 (rows1 xs)), (1, .fn f caps), (7, .int .i64 xs.length), (8, .int .i64 (k : Nat))], [], [], []⟩) (fun k => k ≤ xs.length ∧ ∀ j, j < k → p (xs.getD j 0) = false) (fun k => xs.length - k) 0 ?_ ?_ ?_
  · exact ⟨Nat.zero_le _, fun j hj => absurd hj (by omega)⟩
  · exact ⟨rfl, rfl, rfl, ⟨rfl, rfl, (by simp [tget, rows1_len]), rfl, trivial⟩, trivial, (by simp [tmWithin, obWithin, outWithin, V.within, frees_within hfree])⟩
  · intro k ⟨hk, hn⟩
    repeat (first | refine Safe.seq ?_ | refine Safe.skip ?_ | with_reducible refine thenQ.n ?_ | with_reducible refine blockQ.n ?_)
    refine Safe.region ?_
    refine SafeOps.quiet0 E_good rfl rfl rfl (.fn rfl) ?_
    refine SafeOps.nil ?_
    repeat (first | refine Safe.seq ?_ | refine Safe.skip ?_ | with_reducible refine thenQ.n ?_ | with_reducible refine blockQ.n ?_)
    refine Safe.cond rfl (fun h1 => ?_) (fun h1 => ?_)
    · skip
      have hlt : k < xs.length := by simpa using h1
      repeat (first | refine Safe.seq ?_ | refine Safe.skip ?_ | with_reducible refine thenQ.n ?_ | with_reducible refine blockQ.n ?_)
      refine Safe.block ?_
      repeat (first | refine Safe.seq ?_ | refine Safe.skip ?_ | with_reducible refine thenQ.n ?_ | with_reducible refine blockQ.n ?_)
      refine Safe.region ?_
      refine SafeOps.quiet0 E_good rfl rfl rfl (.fn rfl) ?_
      refine SafeOps.quiet0 E_good rfl rfl rfl (.fn rfl) ?_
      refine SafeOps.nil ?_
      repeat (first | refine Safe.seq ?_ | refine Safe.skip ?_ | with_reducible refine thenQ.n ?_ | with_reducible refine blockQ.n ?_)
      refine Safe.region ?_
      refine SafeOps.quiet0 E_good rfl rfl rfl (.fn rfl) ?_
      refine SafeOps.quiet0 E_good rfl rfl rfl (.fn rfl) ?_
      refine SafeOps.quiet0 E_good rfl rfl rfl (.fn rfl) ?_
      refine SafeOps.quiet0 E_good rfl rfl rfl (.idxSl rfl rfl rfl rfl rfl (by omega) (by rw [rows1_len]; omega)) ?_
      refine SafeOps.quiet0 E_good rfl rfl rfl (.load rfl rfl (.spt (rows1_get hlt) rfl) rfl) ?_
      refine SafeOps.quiet0 E_good rfl rfl rfl (.callP rfl (by show V.free.frees ([V.int _ _] ++ caps) = true; simpa [V.free.frees, V.free] using hfree) (hp _) rfl) ?_
      refine SafeOps.nil ?_
      repeat (first | refine Safe.seq ?_ | refine Safe.skip ?_ | with_reducible refine thenQ.n ?_ | with_reducible refine blockQ.n ?_)
      refine Safe.cond rfl (fun h2 => ?_) (fun h2 => ?_)
      · skip
        repeat (first | refine Safe.seq ?_ | refine Safe.skip ?_ | with_reducible refine thenQ.n ?_ | with_reducible refine blockQ.n ?_)
        refine Safe.region ?_
        refine SafeOps.quiet0 E_good rfl rfl rfl (.fn rfl) ?_
        refine SafeOps.quiet0 E_good rfl rfl rfl (.fn rfl) ?_
        refine SafeOps.nil ?_
        repeat (first | refine Safe.seq ?_ | refine Safe.skip ?_ | with_reducible refine thenQ.n ?_ | with_reducible refine blockQ.n ?_)
        refine Safe.ret ?_
        repeat (first | with_reducible refine thenQ.r ?_ | with_reducible refine blockQ.r ?_)
        refine retQ.cast ?_ (retQ.one rfl rfl (.free rfl) (by simp))
        first | (rw [idxOf_at hlt (by assumption) hn]) | (rw [idxOf_none (by subst hge; exact hn)])
      · skip
        repeat (first | refine Safe.seq ?_ | refine Safe.skip ?_ | with_reducible refine thenQ.n ?_ | with_reducible refine blockQ.n ?_)
        refine Safe.region ?_
        refine SafeOps.quiet0 E_good rfl rfl rfl (.fn rfl) ?_
        refine SafeOps.quiet0 E_good rfl rfl rfl (.fn rfl) ?_
        refine SafeOps.nil ?_
        repeat (first | refine Safe.seq ?_ | refine Safe.skip ?_ | with_reducible refine thenQ.n ?_ | with_reducible refine blockQ.n ?_)
        exact ⟨k + 1, ⟨by omega, fun j hj => by rcases Nat.lt_succ_iff_lt_or_eq.1 hj with h | h; exact hn j h; subst h; simpa using h2⟩, ⟨rfl, rfl, rfl, ⟨rfl, rfl, rfl, (by show V.int .i64 (IntKind.i64.wrap ((k : Int) + 1)) = _; rw [wrap_id (by omega) (by omega)]; rfl), trivial⟩, trivial, (by simp [tmWithin, obWithin, outWithin, V.within, frees_within hfree])⟩, by omega⟩
    · skip
      have hge : k = xs.length := Nat.le_antisymm hk (by simpa using h1)
      repeat (first | refine Safe.seq ?_ | refine Safe.skip ?_ | with_reducible refine thenQ.n ?_ | with_reducible refine blockQ.n ?_)
      refine Safe.exit ?_
      repeat (first | with_reducible refine thenQ.e ?_ | with_reducible refine blockQ.x rfl ?_ | with_reducible refine blockQ.y rfl ?_)
      repeat (first | refine Safe.seq ?_ | refine Safe.skip ?_ | with_reducible refine thenQ.n ?_ | with_reducible refine blockQ.n ?_)
      refine Safe.region ?_
      refine SafeOps.quiet0 E_good rfl rfl rfl (.fn rfl) ?_
      refine SafeOps.nil ?_
      repeat (first | refine Safe.seq ?_ | refine Safe.skip ?_ | with_reducible refine thenQ.n ?_ | with_reducible refine blockQ.n ?_)
      refine Safe.ret ?_
      repeat (first | with_reducible refine thenQ.r ?_ | with_reducible refine blockQ.r ?_)
      refine retQ.cast ?_ (retQ.one rfl rfl (.free rfl) (by simp))
      first | (rw [idxOf_at hlt (by assumption) hn]) | (rw [idxOf_none (by subst hge; exact hn)])

theorem contains_sc (xs : List Int) (f : Nat) (caps : List V) (p : Int → Bool) (hlen : xs.length ≤ 9223372036854775807) (hfree : V.free.frees caps = true) (hp : ∀ n, SC Tryd.prog gl f ([.int .i64 n] ++ caps) (.bool (p n))) : SC Tryd.prog gl 26 [.sl 1 (rows1 xs), .fn f caps] (.bool (xs.any p)) := by
  refine SC.of E_good Tryd.func26 rfl (fun _ _ => Tryd.call26 _ _) rfl ?_
  repeat (first | refine Safe.seq ?_ | refine Safe.skip ?_ | with_reducible refine thenQ.n ?_ | with_reducible refine blockQ.n ?_)
  refine Safe.region ?_
  refine SafeOps.quiet0 E_good rfl rfl rfl (.fn rfl) ?_
  refine SafeOps.nil ?_
  repeat (first | refine Safe.seq ?_ | refine Safe.skip ?_ | with_reducible refine thenQ.n ?_ | with_reducible refine blockQ.n ?_)
  refine Safe.region ?_
  refine SafeOps.quiet0 E_good rfl rfl rfl (.fn rfl) ?_
  refine SafeOps.quiet0 E_good rfl rfl rfl (.fn rfl) ?_
  refine SafeOps.quiet0 E_good rfl rfl rfl (.callP rfl (by show V.free.frees [V.sl _ _, V.fn _ _] = true; simpa [V.free.frees, V.free] using hfree) (index_sc xs f caps p hlen hfree hp) rfl) ?_
  refine SafeOps.quiet0 E_good rfl rfl rfl (.fn rfl) ?_
  refine SafeOps.quiet0 E_good rfl rfl rfl (.fn rfl) ?_
  refine SafeOps.nil ?_
  repeat (first | refine Safe.seq ?_ | refine Safe.skip ?_ | with_reducible refine thenQ.n ?_ | with_reducible refine blockQ.n ?_)
  refine Safe.ret ?_
  repeat (first | with_reducible refine thenQ.r ?_ | with_reducible refine blockQ.r ?_)
  refine retQ.cast ?_ (retQ.one rfl rfl (.free rfl) (by simp))
  rw [idxOf_any]

end Go.Proofs.YtechkmappabefaaDoor
