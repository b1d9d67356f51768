/- Helper lemmas for the claim's theorem: an abstract machine over the model, proved sound; no condition beyond each lemma's own. -/
import Derived.Test.YtgbolkdlghenfaaT0
set_option linter.unusedVariables false
set_option linter.unusedSimpArgs false
set_option linter.unnecessarySimpa false
set_option linter.unusedSectionVars false
namespace Go.Proofs.Ytgbolkdlghenfaa
open Go Go.AM
set_option maxRecDepth 100000
set_option maxHeartbeats 1000000
set_option linter.unusedVariables false
set_option linter.unusedSimpArgs false
variable {gl : List (Nat × List V)}
noncomputable def go_ravellaw01_CellBack (a0_438 : List Int) (a1_439 : Int) (a2_440 : Int) (a3_441 : Int) (a4_442 : Int) : Option Bool :=
  (go_ravellaw01_live).bind fun x_542 =>
  if (!x_542) = true then
    some false
  else
    if (decide ((a0_438.length : Int) > 300)) = true then
      some x_542
    else
      (go_cell_Load a0_438 a1_439).bind fun (x_546, x_547) =>
      (go_cell_Store a0_438 a1_439 a3_441).bind fun (x_549, x_550) =>
      if ((x_547 != 0) || (x_550 != 0)) = true then
        some ((x_542 && (x_547 == x_550)) && ((decide (a1_439 < 0)) || (decide (a1_439 ≥ (a0_438.length : Int)))))
      else
        (go_cell_Load x_549 a1_439).bind fun (x_560, x_561) =>
        (go_cell_Store x_549 a1_439 x_546).bind fun (x_563, x_564) =>
        if (((x_561 != 0) || (x_564 != 0)) || (x_560 != a3_441)) = true then
          some false
        else
          (go_cell_Same x_563 a0_438).bind fun x_571 =>
          if (!x_571) = true then
            some false
          else
            (go_cell_Store x_549 a2_440 a4_442).bind fun (x_574, x_575) =>
            (go_cell_Store a0_438 a2_440 a4_442).bind fun (x_577, x_578) =>
            if ((x_575 != 0) || (x_578 != 0)) = true then
              some (x_542 && (x_575 == x_578))
            else
              (go_cell_Store x_577 a1_439 a3_441).bind fun (x_584, x_585) =>
              if (x_542 && (x_585 == 0)) = true then
                if (a1_439 == a2_440) = true then
                  some true
                else
                  (go_cell_Same x_574 x_584).bind fun x_597 =>
                  some x_597
              else
                some false

theorem go_ravellaw01_CellBack_sc (a0_438 : List Int) (a1_439 : Int) (a2_440 : Int) (a3_441 : Int) (a4_442 : Int) (r : Bool) (h : go_ravellaw01_CellBack a0_438 a1_439 a2_440 a3_441 a4_442 = some r) : SC Try.prog gl 4 [V.sl 1 (rws (fun n => [V.int .i64 n]) a0_438), V.int .i64 a1_439, V.int .i64 a2_440, V.int .i64 a3_441, V.int .i64 a4_442] (V.bool r) := by
  rw [go_ravellaw01_CellBack] at h
  refine SC.of E_good Try.func4 rfl (fun _ _ => Try.call4 _ _) rfl ?_
  repeat (first | refine Safe.seq ?_ | refine Safe.skip ?_ | with_reducible refine thenQ.n ?_ | with_reducible refine blockQ.n ?_)
  refine Safe.region ?_
  refine SafeOps.quiet0 E_good rfl rfl rfl (v := V.bool false) (.fn rfl) ?_
  refine SafeOps.nil ?_
  repeat (first | refine Safe.seq ?_ | refine Safe.skip ?_ | with_reducible refine thenQ.n ?_ | with_reducible refine blockQ.n ?_)
  refine Safe.region ?_
  refine bindG h ?_
  intro x_542 he543 h
  refine SafeOps.quiet0 E_good rfl rfl rfl (v := V.bool x_542) (.callP rfl rfl (go_ravellaw01_live_sc  _ he543) rfl) ?_
  refine SafeOps.quiet0 E_good rfl rfl rfl (v := V.bool x_542) (.fn rfl) ?_
  refine SafeOps.nil ?_
  repeat (first | refine Safe.seq ?_ | refine Safe.skip ?_ | with_reducible refine thenQ.n ?_ | with_reducible refine blockQ.n ?_)
  refine Safe.region ?_
  refine SafeOps.quiet0 E_good rfl rfl rfl (v := V.bool x_542) (.fn rfl) ?_
  refine SafeOps.quiet0 E_good rfl rfl rfl (v := V.bool (!x_542)) (.fn rfl) ?_
  refine SafeOps.nil ?_
  repeat (first | refine Safe.seq ?_ | refine Safe.skip ?_ | with_reducible refine thenQ.n ?_ | with_reducible refine blockQ.n ?_)
  refine ifG h (fun hc544 h => ?_) (fun hc544 h => ?_)
  · skip
    refine Safe.condK rfl hc544 ?_
    repeat (first | refine Safe.seq ?_ | refine Safe.skip ?_ | with_reducible refine thenQ.n ?_ | with_reducible refine blockQ.n ?_)
    refine Safe.region ?_
    refine SafeOps.quiet0 E_good rfl rfl rfl (v := V.bool false) (.fn rfl) ?_
    refine SafeOps.nil ?_
    repeat (first | refine Safe.seq ?_ | refine Safe.skip ?_ | with_reducible refine thenQ.n ?_ | with_reducible refine blockQ.n ?_)
    refine Safe.ret ?_
    repeat (first | with_reducible refine thenQ.r ?_ | with_reducible refine blockQ.r ?_)
    obtain rfl := Option.some.inj h
    exact retQ.gen (vs := [V.bool false]) rfl (.tmp (v := V.bool false) rfl .nil) (.free rfl) (by simp) (.inr rfl)
  · skip
    refine Safe.condN rfl hc544 ?_
    repeat (first | refine Safe.seq ?_ | refine Safe.skip ?_ | with_reducible refine thenQ.n ?_ | with_reducible refine blockQ.n ?_)
    refine Safe.region ?_
    refine SafeOps.quiet0 E_good rfl rfl rfl (v := V.sl 1 (rws (fun n => [V.int .i64 n]) a0_438)) (.fn rfl) ?_
    refine SafeOps.quiet0 E_good rfl rfl rfl (v := V.int .i64 (a0_438.length : Int)) (.fnE rfl lenE) ?_
    refine SafeOps.quiet0 E_good rfl rfl rfl (v := V.bool (decide ((a0_438.length : Int) > 300))) (.fn rfl) ?_
    refine SafeOps.nil ?_
    repeat (first | refine Safe.seq ?_ | refine Safe.skip ?_ | with_reducible refine thenQ.n ?_ | with_reducible refine blockQ.n ?_)
    refine ifG h (fun hc545 h => ?_) (fun hc545 h => ?_)
    · skip
      refine Safe.condK rfl hc545 ?_
      repeat (first | refine Safe.seq ?_ | refine Safe.skip ?_ | with_reducible refine thenQ.n ?_ | with_reducible refine blockQ.n ?_)
      refine Safe.region ?_
      refine SafeOps.quiet0 E_good rfl rfl rfl (v := V.bool x_542) (.fn rfl) ?_
      refine SafeOps.quiet0 E_good rfl rfl rfl (v := V.bool x_542) (.fn rfl) ?_
      refine SafeOps.nil ?_
      repeat (first | refine Safe.seq ?_ | refine Safe.skip ?_ | with_reducible refine thenQ.n ?_ | with_reducible refine blockQ.n ?_)
      refine Safe.ret ?_
      repeat (first | with_reducible refine thenQ.r ?_ | with_reducible refine blockQ.r ?_)
      obtain rfl := Option.some.inj h
      exact retQ.gen (vs := [V.bool x_542]) rfl (.tmp (v := V.bool x_542) rfl .nil) (.free rfl) (by simp) (.inr rfl)
    · skip
      refine Safe.condN rfl hc545 ?_
      repeat (first | refine Safe.seq ?_ | refine Safe.skip ?_ | with_reducible refine thenQ.n ?_ | with_reducible refine blockQ.n ?_)
      refine Safe.region ?_
      refine SafeOps.quiet0 E_good rfl rfl rfl (v := V.sl 1 (rws (fun n => [V.int .i64 n]) a0_438)) (.fn rfl) ?_
      refine SafeOps.quiet0 E_good rfl rfl rfl (v := V.int .i64 a1_439) (.fn rfl) ?_
      refine bindG h ?_
      rintro ⟨x_546, x_547⟩ he548 h
      refine SafeOps.quiet0 E_good rfl rfl rfl (v := V.tup [V.int .i64 x_546, V.int .i64 x_547]) (.callP rfl rfl (go_cell_Load_sc a0_438 a1_439 _ he548) rfl) ?_
      refine SafeOps.quiet0 E_good rfl rfl rfl (v := V.tup [V.int .i64 x_546, V.int .i64 x_547]) (.fn rfl) ?_
      refine SafeOps.quiet0 E_good rfl rfl rfl (v := V.int .i64 x_546) (.fn rfl) ?_
      refine SafeOps.quiet0 E_good rfl rfl rfl (v := V.int .i64 x_547) (.fn rfl) ?_
      refine SafeOps.quiet0 E_good rfl rfl rfl (v := V.int .i64 x_546) (.fn rfl) ?_
      refine SafeOps.quiet0 E_good rfl rfl rfl (v := V.int .i64 x_547) (.fn rfl) ?_
      refine SafeOps.nil ?_
      repeat (first | refine Safe.seq ?_ | refine Safe.skip ?_ | with_reducible refine thenQ.n ?_ | with_reducible refine blockQ.n ?_)
      refine Safe.region ?_
      refine SafeOps.quiet0 E_good rfl rfl rfl (v := V.sl 1 (rws (fun n => [V.int .i64 n]) a0_438)) (.fn rfl) ?_
      refine SafeOps.quiet0 E_good rfl rfl rfl (v := V.int .i64 a1_439) (.fn rfl) ?_
      refine SafeOps.quiet0 E_good rfl rfl rfl (v := V.int .i64 a3_441) (.fn rfl) ?_
      refine bindG h ?_
      rintro ⟨x_549, x_550⟩ he551 h
      refine SafeOps.quiet E_good rfl rfl rfl (v := V.tup [V.ref [43, 0] 0 (rws (fun n => [V.int .i64 n]) x_549).length, V.int .i64 x_550]) (.callP rfl rfl (go_cell_Store_sc a0_438 a1_439 a3_441 _ he551) rfl) rfl ?_
      refine SafeOps.quiet0 E_good rfl rfl rfl (v := V.tup [V.ref [43, 0] 0 (rws (fun n => [V.int .i64 n]) x_549).length, V.int .i64 x_550]) (.fn rfl) ?_
      refine SafeOps.quiet0 E_good rfl rfl rfl (v := V.ref [43, 0] 0 (rws (fun n => [V.int .i64 n]) x_549).length) (.fn rfl) ?_
      refine SafeOps.quiet0 E_good rfl rfl rfl (v := V.int .i64 x_550) (.fn rfl) ?_
      refine SafeOps.quiet0 E_good rfl rfl rfl (v := V.ref [43, 0] 0 (rws (fun n => [V.int .i64 n]) x_549).length) (.fn rfl) ?_
      refine SafeOps.quiet0 E_good rfl rfl rfl (v := V.int .i64 x_550) (.fn rfl) ?_
      refine SafeOps.nil ?_
      repeat (first | refine Safe.seq ?_ | refine Safe.skip ?_ | with_reducible refine thenQ.n ?_ | with_reducible refine blockQ.n ?_)
      refine Safe.region ?_
      refine SafeOps.quiet0 E_good rfl rfl rfl (v := V.int .i64 x_547) (.fn rfl) ?_
      refine SafeOps.quiet0 E_good rfl rfl rfl (v := V.bool (x_547 != 0)) (.fn rfl) ?_
      refine SafeOps.quiet0 E_good rfl rfl rfl (v := V.bool (x_547 != 0)) (.fn rfl) ?_
      refine SafeOps.bjoin 3 51 (b := ((x_547 != 0) || (x_550 != 0))) (b1 := true) (b0 := (x_550 != 0)) (fun hc552 K => ?_) (fun hc552 K => ?_) bj_or ?_
      · skip
        refine SafeOps.skip (congrArg (fun b => some (!b)) hc552) rfl rfl ?_
        refine SafeOps.skip (congrArg (fun b => some (!b)) hc552) rfl rfl ?_
        refine SafeOps.quiet0 E_good rfl rfl rfl (v := V.bool true) (.pickK rfl hc552 rfl) ?_
        exact SafeOps.drop' 3 rfl rfl rfl K
      · skip
        refine SafeOps.quiet0 E_good (congrArg (fun b => some (!b)) hc552) rfl rfl (v := V.int .i64 x_550) (.fn rfl) ?_
        refine SafeOps.quiet0 E_good (congrArg (fun b => some (!b)) hc552) rfl rfl (v := V.bool (x_550 != 0)) (.fn rfl) ?_
        refine SafeOps.quiet0 E_good rfl rfl rfl (v := V.bool (x_550 != 0)) (.pickK rfl hc552 rfl) ?_
        exact SafeOps.drop' 3 rfl rfl rfl K
      refine SafeOps.nil ?_
      repeat (first | refine Safe.seq ?_ | refine Safe.skip ?_ | with_reducible refine thenQ.n ?_ | with_reducible refine blockQ.n ?_)
      refine ifG h (fun hc556 h => ?_) (fun hc556 h => ?_)
      · skip
        refine Safe.condK rfl hc556 ?_
        repeat (first | refine Safe.seq ?_ | refine Safe.skip ?_ | with_reducible refine thenQ.n ?_ | with_reducible refine blockQ.n ?_)
        refine Safe.region ?_
        refine SafeOps.quiet0 E_good rfl rfl rfl (v := V.bool x_542) (.fn rfl) ?_
        refine SafeOps.quiet0 E_good rfl rfl rfl (v := V.bool x_542) (.fn rfl) ?_
        refine SafeOps.bjoin 4 57 (b := (x_542 && (x_547 == x_550))) (b1 := (x_547 == x_550)) (b0 := false) (fun hc557 K => ?_) (fun hc557 K => ?_) bj_and ?_
        · skip
          refine SafeOps.quiet0 E_good (congrArg some hc557) rfl rfl (v := V.int .i64 x_547) (.fn rfl) ?_
          refine SafeOps.quiet0 E_good (congrArg some hc557) rfl rfl (v := V.int .i64 x_550) (.fn rfl) ?_
          refine SafeOps.quiet0 E_good (congrArg some hc557) rfl rfl (v := V.bool (x_547 == x_550)) (.fn rfl) ?_
          refine SafeOps.quiet0 E_good rfl rfl rfl (v := V.bool (x_547 == x_550)) (.pickK rfl hc557 rfl) ?_
          exact SafeOps.drop' 4 rfl rfl rfl K
        · skip
          refine SafeOps.skip (congrArg some hc557) rfl rfl ?_
          refine SafeOps.skip (congrArg some hc557) rfl rfl ?_
          refine SafeOps.skip (congrArg some hc557) rfl rfl ?_
          refine SafeOps.quiet0 E_good rfl rfl rfl (v := V.bool false) (.pickK rfl hc557 rfl) ?_
          exact SafeOps.drop' 4 rfl rfl rfl K
        refine SafeOps.quiet0 E_good rfl rfl rfl (v := V.bool (x_542 && (x_547 == x_550))) (.fn rfl) ?_
        refine SafeOps.bjoin 9 67 (b := ((x_542 && (x_547 == x_550)) && ((decide (a1_439 < 0)) || (decide (a1_439 ≥ (a0_438.length : Int)))))) (b1 := ((decide (a1_439 < 0)) || (decide (a1_439 ≥ (a0_438.length : Int))))) (b0 := false) (fun hc558 K => ?_) (fun hc558 K => ?_) bj_and ?_
        · skip
          refine SafeOps.quiet0 E_good (congrArg some hc558) rfl rfl (v := V.int .i64 a1_439) (.fn rfl) ?_
          refine SafeOps.quiet0 E_good (congrArg some hc558) rfl rfl (v := V.bool (decide (a1_439 < 0))) (.fn rfl) ?_
          refine SafeOps.quiet0 E_good (congrArg some hc558) rfl rfl (v := V.bool (decide (a1_439 < 0))) (.fn rfl) ?_
          refine SafeOps.bjoin 5 66 (b := ((decide (a1_439 < 0)) || (decide (a1_439 ≥ (a0_438.length : Int))))) (b1 := true) (b0 := decide (a1_439 ≥ (a0_438.length : Int))) (fun hc559 K => ?_) (fun hc559 K => ?_) bj_or ?_
          · skip
            refine SafeOps.skip (congrArg (fun b => some (!b)) hc559) rfl rfl ?_
            refine SafeOps.skip (congrArg (fun b => some (!b)) hc559) rfl rfl ?_
            refine SafeOps.skip (congrArg (fun b => some (!b)) hc559) rfl rfl ?_
            refine SafeOps.skip (congrArg (fun b => some (!b)) hc559) rfl rfl ?_
            refine SafeOps.quiet0 E_good (congrArg some hc558) rfl rfl (v := V.bool true) (.pickK rfl hc559 rfl) ?_
            exact SafeOps.drop' 5 rfl rfl rfl K
          · skip
            refine SafeOps.quiet0 E_good (congrArg (fun b => some (!b)) hc559) rfl rfl (v := V.int .i64 a1_439) (.fn rfl) ?_
            refine SafeOps.quiet0 E_good (congrArg (fun b => some (!b)) hc559) rfl rfl (v := V.sl 1 (rws (fun n => [V.int .i64 n]) a0_438)) (.fn rfl) ?_
            refine SafeOps.quiet0 E_good (congrArg (fun b => some (!b)) hc559) rfl rfl (v := V.int .i64 (a0_438.length : Int)) (.fnE rfl lenE) ?_
            refine SafeOps.quiet0 E_good (congrArg (fun b => some (!b)) hc559) rfl rfl (v := V.bool (decide (a1_439 ≥ (a0_438.length : Int)))) (.fn rfl) ?_
            refine SafeOps.quiet0 E_good (congrArg some hc558) rfl rfl (v := V.bool (decide (a1_439 ≥ (a0_438.length : Int)))) (.pickK rfl hc559 rfl) ?_
            exact SafeOps.drop' 5 rfl rfl rfl K
          refine SafeOps.quiet0 E_good rfl rfl rfl (v := V.bool ((decide (a1_439 < 0)) || (decide (a1_439 ≥ (a0_438.length : Int))))) (.pickK rfl hc558 rfl) ?_
          exact SafeOps.drop' 5 rfl rfl rfl K
        · skip
          refine SafeOps.skip (congrArg some hc558) rfl rfl ?_
          refine SafeOps.skip (congrArg some hc558) rfl rfl ?_
          refine SafeOps.skip (congrArg some hc558) rfl rfl ?_
          refine SafeOps.skip rfl rfl rfl ?_
          refine SafeOps.skip rfl rfl rfl ?_
          refine SafeOps.skip rfl rfl rfl ?_
          refine SafeOps.skip rfl rfl rfl ?_
          refine SafeOps.skip (congrArg some hc558) rfl rfl ?_
          refine SafeOps.quiet0 E_good rfl rfl rfl (v := V.bool false) (.pickK rfl hc558 rfl) ?_
          exact SafeOps.drop' 9 rfl rfl rfl K
        refine SafeOps.quiet0 E_good rfl rfl rfl (v := V.bool ((x_542 && (x_547 == x_550)) && ((decide (a1_439 < 0)) || (decide (a1_439 ≥ (a0_438.length : Int)))))) (.fn rfl) ?_
        refine SafeOps.nil ?_
        repeat (first | refine Safe.seq ?_ | refine Safe.skip ?_ | with_reducible refine thenQ.n ?_ | with_reducible refine blockQ.n ?_)
        refine Safe.ret ?_
        repeat (first | with_reducible refine thenQ.r ?_ | with_reducible refine blockQ.r ?_)
        obtain rfl := Option.some.inj h
        exact retQ.gen (vs := [V.bool ((x_542 && (x_547 == x_550)) && ((decide (a1_439 < 0)) || (decide (a1_439 ≥ (a0_438.length : Int)))))]) rfl (.tmp (v := V.bool ((x_542 && (x_547 == x_550)) && ((decide (a1_439 < 0)) || (decide (a1_439 ≥ (a0_438.length : Int)))))) rfl .nil) (.free rfl) (by simp) (.inr rfl)
      · skip
        refine Safe.condN rfl hc556 ?_
        repeat (first | refine Safe.seq ?_ | refine Safe.skip ?_ | with_reducible refine thenQ.n ?_ | with_reducible refine blockQ.n ?_)
        refine Safe.region ?_
        refine SafeOps.quiet0 E_good rfl rfl rfl (v := V.ref [43, 0] 0 (rws (fun n => [V.int .i64 n]) x_549).length) (.fn rfl) ?_
        refine SafeOps.quiet0 E_good rfl rfl rfl (v := V.int .i64 a1_439) (.fn rfl) ?_
        refine bindG h ?_
        rintro ⟨x_560, x_561⟩ he562 h
        refine SafeOps.quiet0 E_good rfl rfl rfl (v := V.tup [V.int .i64 x_560, V.int .i64 x_561]) (.callS rfl (.cons (.full rfl rfl) (.cons (.free rfl) .nil)) (go_cell_Load_sc x_549 a1_439 _ he562) (.tupL (.cons (.plain rfl) (.cons (.plain rfl) .nil))) rfl) ?_
        refine SafeOps.quiet0 E_good rfl rfl rfl (v := V.tup [V.int .i64 x_560, V.int .i64 x_561]) (.fn rfl) ?_
        refine SafeOps.quiet0 E_good rfl rfl rfl (v := V.int .i64 x_560) (.fn rfl) ?_
        refine SafeOps.quiet0 E_good rfl rfl rfl (v := V.int .i64 x_561) (.fn rfl) ?_
        refine SafeOps.quiet0 E_good rfl rfl rfl (v := V.int .i64 x_560) (.fn rfl) ?_
        refine SafeOps.quiet0 E_good rfl rfl rfl (v := V.int .i64 x_561) (.fn rfl) ?_
        refine SafeOps.nil ?_
        repeat (first | refine Safe.seq ?_ | refine Safe.skip ?_ | with_reducible refine thenQ.n ?_ | with_reducible refine blockQ.n ?_)
        refine Safe.region ?_
        refine SafeOps.quiet0 E_good rfl rfl rfl (v := V.ref [43, 0] 0 (rws (fun n => [V.int .i64 n]) x_549).length) (.fn rfl) ?_
        refine SafeOps.quiet0 E_good rfl rfl rfl (v := V.int .i64 a1_439) (.fn rfl) ?_
        refine SafeOps.quiet0 E_good rfl rfl rfl (v := V.int .i64 x_546) (.fn rfl) ?_
        refine bindG h ?_
        rintro ⟨x_563, x_564⟩ he565 h
        refine SafeOps.quiet E_good rfl rfl rfl (v := V.tup [V.ref [78, 0] 0 (rws (fun n => [V.int .i64 n]) x_563).length, V.int .i64 x_564]) (.callS rfl (.cons (.full rfl rfl) (.cons (.free rfl) (.cons (.free rfl) .nil))) (go_cell_Store_sc x_549 a1_439 x_546 _ he565) (.tupL (.cons (.ownM (fun _ => rfl)) (.cons (.plain rfl) .nil))) rfl) rfl ?_
        refine SafeOps.quiet0 E_good rfl rfl rfl (v := V.tup [V.ref [78, 0] 0 (rws (fun n => [V.int .i64 n]) x_563).length, V.int .i64 x_564]) (.fn rfl) ?_
        refine SafeOps.quiet0 E_good rfl rfl rfl (v := V.ref [78, 0] 0 (rws (fun n => [V.int .i64 n]) x_563).length) (.fn rfl) ?_
        refine SafeOps.quiet0 E_good rfl rfl rfl (v := V.int .i64 x_564) (.fn rfl) ?_
        refine SafeOps.quiet0 E_good rfl rfl rfl (v := V.ref [78, 0] 0 (rws (fun n => [V.int .i64 n]) x_563).length) (.fn rfl) ?_
        refine SafeOps.quiet0 E_good rfl rfl rfl (v := V.int .i64 x_564) (.fn rfl) ?_
        refine SafeOps.nil ?_
        repeat (first | refine Safe.seq ?_ | refine Safe.skip ?_ | with_reducible refine thenQ.n ?_ | with_reducible refine blockQ.n ?_)
        refine Safe.region ?_
        refine SafeOps.quiet0 E_good rfl rfl rfl (v := V.int .i64 x_561) (.fn rfl) ?_
        refine SafeOps.quiet0 E_good rfl rfl rfl (v := V.bool (x_561 != 0)) (.fn rfl) ?_
        refine SafeOps.quiet0 E_good rfl rfl rfl (v := V.bool (x_561 != 0)) (.fn rfl) ?_
        refine SafeOps.bjoin 3 86 (b := ((x_561 != 0) || (x_564 != 0))) (b1 := true) (b0 := (x_564 != 0)) (fun hc566 K => ?_) (fun hc566 K => ?_) bj_or ?_
        · skip
          refine SafeOps.skip (congrArg (fun b => some (!b)) hc566) rfl rfl ?_
          refine SafeOps.skip (congrArg (fun b => some (!b)) hc566) rfl rfl ?_
          refine SafeOps.quiet0 E_good rfl rfl rfl (v := V.bool true) (.pickK rfl hc566 rfl) ?_
          exact SafeOps.drop' 3 rfl rfl rfl K
        · skip
          refine SafeOps.quiet0 E_good (congrArg (fun b => some (!b)) hc566) rfl rfl (v := V.int .i64 x_564) (.fn rfl) ?_
          refine SafeOps.quiet0 E_good (congrArg (fun b => some (!b)) hc566) rfl rfl (v := V.bool (x_564 != 0)) (.fn rfl) ?_
          refine SafeOps.quiet0 E_good rfl rfl rfl (v := V.bool (x_564 != 0)) (.pickK rfl hc566 rfl) ?_
          exact SafeOps.drop' 3 rfl rfl rfl K
        refine SafeOps.quiet0 E_good rfl rfl rfl (v := V.bool ((x_561 != 0) || (x_564 != 0))) (.fn rfl) ?_
        refine SafeOps.bjoin 4 91 (b := (((x_561 != 0) || (x_564 != 0)) || (x_560 != a3_441))) (b1 := true) (b0 := (x_560 != a3_441)) (fun hc567 K => ?_) (fun hc567 K => ?_) bj_or ?_
        · skip
          refine SafeOps.skip (congrArg (fun b => some (!b)) hc567) rfl rfl ?_
          refine SafeOps.skip (congrArg (fun b => some (!b)) hc567) rfl rfl ?_
          refine SafeOps.skip (congrArg (fun b => some (!b)) hc567) rfl rfl ?_
          refine SafeOps.quiet0 E_good rfl rfl rfl (v := V.bool true) (.pickK rfl hc567 rfl) ?_
          exact SafeOps.drop' 4 rfl rfl rfl K
        · skip
          refine SafeOps.quiet0 E_good (congrArg (fun b => some (!b)) hc567) rfl rfl (v := V.int .i64 x_560) (.fn rfl) ?_
          refine SafeOps.quiet0 E_good (congrArg (fun b => some (!b)) hc567) rfl rfl (v := V.int .i64 a3_441) (.fn rfl) ?_
          refine SafeOps.quiet0 E_good (congrArg (fun b => some (!b)) hc567) rfl rfl (v := V.bool (x_560 != a3_441)) (.fn rfl) ?_
          refine SafeOps.quiet0 E_good rfl rfl rfl (v := V.bool (x_560 != a3_441)) (.pickK rfl hc567 rfl) ?_
          exact SafeOps.drop' 4 rfl rfl rfl K
        refine SafeOps.quiet0 E_good rfl rfl rfl (v := V.bool (((x_561 != 0) || (x_564 != 0)) || (x_560 != a3_441))) (.fn rfl) ?_
        refine ifG h (fun hc568 h => ?_) (fun hc568 h => ?_)
        · skip
          refine SafeOps.skip (congrArg (fun b => some (!b)) hc568) rfl rfl ?_
          refine SafeOps.skip (congrArg (fun b => some (!b)) hc568) rfl rfl ?_
          refine SafeOps.skip (congrArg (fun b => some (!b)) hc568) rfl rfl ?_
          refine SafeOps.skip (congrArg (fun b => some (!b)) hc568) rfl rfl ?_
          refine SafeOps.quiet0 E_good rfl rfl rfl (v := V.bool true) (.pickK rfl hc568 rfl) ?_
          refine SafeOps.nil ?_
          repeat (first | refine Safe.seq ?_ | refine Safe.skip ?_ | with_reducible refine thenQ.n ?_ | with_reducible refine blockQ.n ?_)
          refine Safe.condK rfl rfl ?_
          repeat (first | refine Safe.seq ?_ | refine Safe.skip ?_ | with_reducible refine thenQ.n ?_ | with_reducible refine blockQ.n ?_)
          refine Safe.region ?_
          refine SafeOps.quiet0 E_good rfl rfl rfl (v := V.bool false) (.fn rfl) ?_
          refine SafeOps.nil ?_
          repeat (first | refine Safe.seq ?_ | refine Safe.skip ?_ | with_reducible refine thenQ.n ?_ | with_reducible refine blockQ.n ?_)
          refine Safe.ret ?_
          repeat (first | with_reducible refine thenQ.r ?_ | with_reducible refine blockQ.r ?_)
          obtain rfl := Option.some.inj h
          exact retQ.gen (vs := [V.bool false]) rfl (.tmp (v := V.bool false) rfl .nil) (.free rfl) (by simp) (.inr rfl)
        · skip
          refine SafeOps.quiet0 E_good (congrArg (fun b => some (!b)) hc568) rfl rfl (v := V.ref [78, 0] 0 (rws (fun n => [V.int .i64 n]) x_563).length) (.fn rfl) ?_
          refine SafeOps.quiet0 E_good (congrArg (fun b => some (!b)) hc568) rfl rfl (v := V.sl 1 (rws (fun n => [V.int .i64 n]) a0_438)) (.fn rfl) ?_
          refine bindG h ?_
          intro x_571 he572 h
          refine SafeOps.quiet0 E_good (congrArg (fun b => some (!b)) hc568) rfl rfl (v := V.bool x_571) (.callS rfl (.cons (.full rfl rfl) (.cons (.free rfl) .nil)) (go_cell_Same_sc x_563 a0_438 _ he572) (.plain rfl) rfl) ?_
          refine SafeOps.quiet0 E_good (congrArg (fun b => some (!b)) hc568) rfl rfl (v := V.bool (!x_571)) (.fn rfl) ?_
          refine SafeOps.quiet0 E_good rfl rfl rfl (v := V.bool (!x_571)) (.pickK rfl hc568 rfl) ?_
          refine SafeOps.nil ?_
          repeat (first | refine Safe.seq ?_ | refine Safe.skip ?_ | with_reducible refine thenQ.n ?_ | with_reducible refine blockQ.n ?_)
          refine ifG h (fun hc573 h => ?_) (fun hc573 h => ?_)
          · skip
            refine Safe.condK rfl hc573 ?_
            repeat (first | refine Safe.seq ?_ | refine Safe.skip ?_ | with_reducible refine thenQ.n ?_ | with_reducible refine blockQ.n ?_)
            refine Safe.region ?_
            refine SafeOps.quiet0 E_good rfl rfl rfl (v := V.bool false) (.fn rfl) ?_
            refine SafeOps.nil ?_
            repeat (first | refine Safe.seq ?_ | refine Safe.skip ?_ | with_reducible refine thenQ.n ?_ | with_reducible refine blockQ.n ?_)
            refine Safe.ret ?_
            repeat (first | with_reducible refine thenQ.r ?_ | with_reducible refine blockQ.r ?_)
            obtain rfl := Option.some.inj h
            exact retQ.gen (vs := [V.bool false]) rfl (.tmp (v := V.bool false) rfl .nil) (.free rfl) (by simp) (.inr rfl)
          · skip
            refine Safe.condN rfl hc573 ?_
            repeat (first | refine Safe.seq ?_ | refine Safe.skip ?_ | with_reducible refine thenQ.n ?_ | with_reducible refine blockQ.n ?_)
            refine Safe.region ?_
            refine SafeOps.quiet0 E_good rfl rfl rfl (v := V.ref [43, 0] 0 (rws (fun n => [V.int .i64 n]) x_549).length) (.fn rfl) ?_
            refine SafeOps.quiet0 E_good rfl rfl rfl (v := V.int .i64 a2_440) (.fn rfl) ?_
            refine SafeOps.quiet0 E_good rfl rfl rfl (v := V.int .i64 a4_442) (.fn rfl) ?_
            refine bindG h ?_
            rintro ⟨x_574, x_575⟩ he576 h
            refine SafeOps.quiet E_good rfl rfl rfl (v := V.tup [V.ref [102, 0] 0 (rws (fun n => [V.int .i64 n]) x_574).length, V.int .i64 x_575]) (.callS rfl (.cons (.full rfl rfl) (.cons (.free rfl) (.cons (.free rfl) .nil))) (go_cell_Store_sc x_549 a2_440 a4_442 _ he576) (.tupL (.cons (.ownM (fun _ => rfl)) (.cons (.plain rfl) .nil))) rfl) rfl ?_
            refine SafeOps.quiet0 E_good rfl rfl rfl (v := V.tup [V.ref [102, 0] 0 (rws (fun n => [V.int .i64 n]) x_574).length, V.int .i64 x_575]) (.fn rfl) ?_
            refine SafeOps.quiet0 E_good rfl rfl rfl (v := V.ref [102, 0] 0 (rws (fun n => [V.int .i64 n]) x_574).length) (.fn rfl) ?_
            refine SafeOps.quiet0 E_good rfl rfl rfl (v := V.int .i64 x_575) (.fn rfl) ?_
            refine SafeOps.quiet0 E_good rfl rfl rfl (v := V.ref [102, 0] 0 (rws (fun n => [V.int .i64 n]) x_574).length) (.fn rfl) ?_
            refine SafeOps.quiet0 E_good rfl rfl rfl (v := V.int .i64 x_575) (.fn rfl) ?_
            refine SafeOps.nil ?_
            repeat (first | refine Safe.seq ?_ | refine Safe.skip ?_ | with_reducible refine thenQ.n ?_ | with_reducible refine blockQ.n ?_)
            refine Safe.region ?_
            refine SafeOps.quiet0 E_good rfl rfl rfl (v := V.sl 1 (rws (fun n => [V.int .i64 n]) a0_438)) (.fn rfl) ?_
            refine SafeOps.quiet0 E_good rfl rfl rfl (v := V.int .i64 a2_440) (.fn rfl) ?_
            refine SafeOps.quiet0 E_good rfl rfl rfl (v := V.int .i64 a4_442) (.fn rfl) ?_
            refine bindG h ?_
            rintro ⟨x_577, x_578⟩ he579 h
            refine SafeOps.quiet E_good rfl rfl rfl (v := V.tup [V.ref [109, 0] 0 (rws (fun n => [V.int .i64 n]) x_577).length, V.int .i64 x_578]) (.callP rfl rfl (go_cell_Store_sc a0_438 a2_440 a4_442 _ he579) rfl) rfl ?_
            refine SafeOps.quiet0 E_good rfl rfl rfl (v := V.tup [V.ref [109, 0] 0 (rws (fun n => [V.int .i64 n]) x_577).length, V.int .i64 x_578]) (.fn rfl) ?_
            refine SafeOps.quiet0 E_good rfl rfl rfl (v := V.ref [109, 0] 0 (rws (fun n => [V.int .i64 n]) x_577).length) (.fn rfl) ?_
            refine SafeOps.quiet0 E_good rfl rfl rfl (v := V.int .i64 x_578) (.fn rfl) ?_
            refine SafeOps.quiet0 E_good rfl rfl rfl (v := V.ref [109, 0] 0 (rws (fun n => [V.int .i64 n]) x_577).length) (.fn rfl) ?_
            refine SafeOps.quiet0 E_good rfl rfl rfl (v := V.int .i64 x_578) (.fn rfl) ?_
            refine SafeOps.nil ?_
            repeat (first | refine Safe.seq ?_ | refine Safe.skip ?_ | with_reducible refine thenQ.n ?_ | with_reducible refine blockQ.n ?_)
            refine Safe.region ?_
            refine SafeOps.quiet0 E_good rfl rfl rfl (v := V.int .i64 x_575) (.fn rfl) ?_
            refine SafeOps.quiet0 E_good rfl rfl rfl (v := V.bool (x_575 != 0)) (.fn rfl) ?_
            refine SafeOps.quiet0 E_good rfl rfl rfl (v := V.bool (x_575 != 0)) (.fn rfl) ?_
            refine SafeOps.bjoin 3 117 (b := ((x_575 != 0) || (x_578 != 0))) (b1 := true) (b0 := (x_578 != 0)) (fun hc580 K => ?_) (fun hc580 K => ?_) bj_or ?_
            · skip
              refine SafeOps.skip (congrArg (fun b => some (!b)) hc580) rfl rfl ?_
              refine SafeOps.skip (congrArg (fun b => some (!b)) hc580) rfl rfl ?_
              refine SafeOps.quiet0 E_good rfl rfl rfl (v := V.bool true) (.pickK rfl hc580 rfl) ?_
              exact SafeOps.drop' 3 rfl rfl rfl K
            · skip
              refine SafeOps.quiet0 E_good (congrArg (fun b => some (!b)) hc580) rfl rfl (v := V.int .i64 x_578) (.fn rfl) ?_
              refine SafeOps.quiet0 E_good (congrArg (fun b => some (!b)) hc580) rfl rfl (v := V.bool (x_578 != 0)) (.fn rfl) ?_
              refine SafeOps.quiet0 E_good rfl rfl rfl (v := V.bool (x_578 != 0)) (.pickK rfl hc580 rfl) ?_
              exact SafeOps.drop' 3 rfl rfl rfl K
            refine SafeOps.nil ?_
            repeat (first | refine Safe.seq ?_ | refine Safe.skip ?_ | with_reducible refine thenQ.n ?_ | with_reducible refine blockQ.n ?_)
            refine ifG h (fun hc582 h => ?_) (fun hc582 h => ?_)
            · skip
              refine Safe.condK rfl hc582 ?_
              repeat (first | refine Safe.seq ?_ | refine Safe.skip ?_ | with_reducible refine thenQ.n ?_ | with_reducible refine blockQ.n ?_)
              refine Safe.region ?_
              refine SafeOps.quiet0 E_good rfl rfl rfl (v := V.bool x_542) (.fn rfl) ?_
              refine SafeOps.quiet0 E_good rfl rfl rfl (v := V.bool x_542) (.fn rfl) ?_
              refine SafeOps.bjoin 4 123 (b := (x_542 && (x_575 == x_578))) (b1 := (x_575 == x_578)) (b0 := false) (fun hc583 K => ?_) (fun hc583 K => ?_) bj_and ?_
              · skip
                refine SafeOps.quiet0 E_good (congrArg some hc583) rfl rfl (v := V.int .i64 x_575) (.fn rfl) ?_
                refine SafeOps.quiet0 E_good (congrArg some hc583) rfl rfl (v := V.int .i64 x_578) (.fn rfl) ?_
                refine SafeOps.quiet0 E_good (congrArg some hc583) rfl rfl (v := V.bool (x_575 == x_578)) (.fn rfl) ?_
                refine SafeOps.quiet0 E_good rfl rfl rfl (v := V.bool (x_575 == x_578)) (.pickK rfl hc583 rfl) ?_
                exact SafeOps.drop' 4 rfl rfl rfl K
              · skip
                refine SafeOps.skip (congrArg some hc583) rfl rfl ?_
                refine SafeOps.skip (congrArg some hc583) rfl rfl ?_
                refine SafeOps.skip (congrArg some hc583) rfl rfl ?_
                refine SafeOps.quiet0 E_good rfl rfl rfl (v := V.bool false) (.pickK rfl hc583 rfl) ?_
                exact SafeOps.drop' 4 rfl rfl rfl K
              refine SafeOps.quiet0 E_good rfl rfl rfl (v := V.bool (x_542 && (x_575 == x_578))) (.fn rfl) ?_
              refine SafeOps.nil ?_
              repeat (first | refine Safe.seq ?_ | refine Safe.skip ?_ | with_reducible refine thenQ.n ?_ | with_reducible refine blockQ.n ?_)
              refine Safe.ret ?_
              repeat (first | with_reducible refine thenQ.r ?_ | with_reducible refine blockQ.r ?_)
              obtain rfl := Option.some.inj h
              exact retQ.gen (vs := [V.bool (x_542 && (x_575 == x_578))]) rfl (.tmp (v := V.bool (x_542 && (x_575 == x_578))) rfl .nil) (.free rfl) (by simp) (.inr rfl)
            · skip
              refine Safe.condN rfl hc582 ?_
              repeat (first | refine Safe.seq ?_ | refine Safe.skip ?_ | with_reducible refine thenQ.n ?_ | with_reducible refine blockQ.n ?_)
              refine Safe.region ?_
              refine SafeOps.quiet0 E_good rfl rfl rfl (v := V.ref [109, 0] 0 (rws (fun n => [V.int .i64 n]) x_577).length) (.fn rfl) ?_
              refine SafeOps.quiet0 E_good rfl rfl rfl (v := V.int .i64 a1_439) (.fn rfl) ?_
              refine SafeOps.quiet0 E_good rfl rfl rfl (v := V.int .i64 a3_441) (.fn rfl) ?_
              refine bindG h ?_
              rintro ⟨x_584, x_585⟩ he586 h
              refine SafeOps.quiet E_good rfl rfl rfl (v := V.tup [V.ref [128, 0] 0 (rws (fun n => [V.int .i64 n]) x_584).length, V.int .i64 x_585]) (.callS rfl (.cons (.full rfl rfl) (.cons (.free rfl) (.cons (.free rfl) .nil))) (go_cell_Store_sc x_577 a1_439 a3_441 _ he586) (.tupL (.cons (.ownM (fun _ => rfl)) (.cons (.plain rfl) .nil))) rfl) rfl ?_
              refine SafeOps.quiet0 E_good rfl rfl rfl (v := V.tup [V.ref [128, 0] 0 (rws (fun n => [V.int .i64 n]) x_584).length, V.int .i64 x_585]) (.fn rfl) ?_
              refine SafeOps.quiet0 E_good rfl rfl rfl (v := V.ref [128, 0] 0 (rws (fun n => [V.int .i64 n]) x_584).length) (.fn rfl) ?_
              refine SafeOps.quiet0 E_good rfl rfl rfl (v := V.int .i64 x_585) (.fn rfl) ?_
              refine SafeOps.quiet0 E_good rfl rfl rfl (v := V.ref [128, 0] 0 (rws (fun n => [V.int .i64 n]) x_584).length) (.fn rfl) ?_
              refine SafeOps.quiet0 E_good rfl rfl rfl (v := V.int .i64 x_585) (.fn rfl) ?_
              refine SafeOps.nil ?_
              repeat (first | refine Safe.seq ?_ | refine Safe.skip ?_ | with_reducible refine thenQ.n ?_ | with_reducible refine blockQ.n ?_)
              refine Safe.region ?_
              refine SafeOps.quiet0 E_good rfl rfl rfl (v := V.bool x_542) (.fn rfl) ?_
              refine SafeOps.quiet0 E_good rfl rfl rfl (v := V.bool x_542) (.fn rfl) ?_
              refine SafeOps.bjoin 3 135 (b := (x_542 && (x_585 == 0))) (b1 := (x_585 == 0)) (b0 := false) (fun hc587 K => ?_) (fun hc587 K => ?_) bj_and ?_
              · skip
                refine SafeOps.quiet0 E_good (congrArg some hc587) rfl rfl (v := V.int .i64 x_585) (.fn rfl) ?_
                refine SafeOps.quiet0 E_good (congrArg some hc587) rfl rfl (v := V.bool (x_585 == 0)) (.fn rfl) ?_
                refine SafeOps.quiet0 E_good rfl rfl rfl (v := V.bool (x_585 == 0)) (.pickK rfl hc587 rfl) ?_
                exact SafeOps.drop' 3 rfl rfl rfl K
              · skip
                refine SafeOps.skip (congrArg some hc587) rfl rfl ?_
                refine SafeOps.skip (congrArg some hc587) rfl rfl ?_
                refine SafeOps.quiet0 E_good rfl rfl rfl (v := V.bool false) (.pickK rfl hc587 rfl) ?_
                exact SafeOps.drop' 3 rfl rfl rfl K
              refine SafeOps.quiet0 E_good rfl rfl rfl (v := V.bool (x_542 && (x_585 == 0))) (.fn rfl) ?_
              refine ifG h (fun hc588 h => ?_) (fun hc588 h => ?_)
              · skip
                refine SafeOps.quiet0 E_good (congrArg some hc588) rfl rfl (v := V.int .i64 a1_439) (.fn rfl) ?_
                refine SafeOps.quiet0 E_good (congrArg some hc588) rfl rfl (v := V.int .i64 a2_440) (.fn rfl) ?_
                refine SafeOps.quiet0 E_good (congrArg some hc588) rfl rfl (v := V.bool (a1_439 == a2_440)) (.fn rfl) ?_
                refine SafeOps.quiet0 E_good (congrArg some hc588) rfl rfl (v := V.bool (a1_439 == a2_440)) (.fn rfl) ?_
                refine ifG h (fun hc594 h => ?_) (fun hc594 h => ?_)
                · skip
                  refine SafeOps.skip (congrArg (fun b => some (!b)) hc594) rfl rfl ?_
                  refine SafeOps.skip (congrArg (fun b => some (!b)) hc594) rfl rfl ?_
                  refine SafeOps.skip (congrArg (fun b => some (!b)) hc594) rfl rfl ?_
                  refine SafeOps.quiet0 E_good (congrArg some hc588) rfl rfl (v := V.bool true) (.pickK rfl hc594 rfl) ?_
                  refine SafeOps.quiet0 E_good rfl rfl rfl (v := V.bool true) (.pickK rfl hc588 rfl) ?_
                  refine SafeOps.quiet0 E_good rfl rfl rfl (v := V.bool true) (.fn rfl) ?_
                  refine SafeOps.nil ?_
                  repeat (first | refine Safe.seq ?_ | refine Safe.skip ?_ | with_reducible refine thenQ.n ?_ | with_reducible refine blockQ.n ?_)
                  refine Safe.ret ?_
                  repeat (first | with_reducible refine thenQ.r ?_ | with_reducible refine blockQ.r ?_)
                  obtain rfl := Option.some.inj h
                  exact retQ.gen (vs := [V.bool true]) rfl (.tmp (v := V.bool true) rfl .nil) (.free rfl) (by simp) (.inr rfl)
                · skip
                  refine SafeOps.quiet0 E_good (congrArg (fun b => some (!b)) hc594) rfl rfl (v := V.ref [102, 0] 0 (rws (fun n => [V.int .i64 n]) x_574).length) (.fn rfl) ?_
                  refine SafeOps.quiet0 E_good (congrArg (fun b => some (!b)) hc594) rfl rfl (v := V.ref [128, 0] 0 (rws (fun n => [V.int .i64 n]) x_584).length) (.fn rfl) ?_
                  refine bindG h ?_
                  intro x_597 he598 h
                  refine SafeOps.quiet0 E_good (congrArg (fun b => some (!b)) hc594) rfl rfl (v := V.bool x_597) (.callS rfl (.cons (.full rfl rfl) (.cons (.full rfl rfl) .nil)) (go_cell_Same_sc x_574 x_584 _ he598) (.plain rfl) rfl) ?_
                  refine SafeOps.quiet0 E_good (congrArg some hc588) rfl rfl (v := V.bool x_597) (.pickK rfl hc594 rfl) ?_
                  refine SafeOps.quiet0 E_good rfl rfl rfl (v := V.bool x_597) (.pickK rfl hc588 rfl) ?_
                  refine SafeOps.quiet0 E_good rfl rfl rfl (v := V.bool x_597) (.fn rfl) ?_
                  refine SafeOps.nil ?_
                  repeat (first | refine Safe.seq ?_ | refine Safe.skip ?_ | with_reducible refine thenQ.n ?_ | with_reducible refine blockQ.n ?_)
                  refine Safe.ret ?_
                  repeat (first | with_reducible refine thenQ.r ?_ | with_reducible refine blockQ.r ?_)
                  obtain rfl := Option.some.inj h
                  exact retQ.gen (vs := [V.bool x_597]) rfl (.tmp (v := V.bool x_597) rfl .nil) (.free rfl) (by simp) (.inr rfl)
              · skip
                refine SafeOps.skip (congrArg some hc588) rfl rfl ?_
                refine SafeOps.skip (congrArg some hc588) rfl rfl ?_
                refine SafeOps.skip (congrArg some hc588) rfl rfl ?_
                refine SafeOps.skip (congrArg some hc588) rfl rfl ?_
                refine SafeOps.skip rfl rfl rfl ?_
                refine SafeOps.skip rfl rfl rfl ?_
                refine SafeOps.skip rfl rfl rfl ?_
                refine SafeOps.skip (congrArg some hc588) rfl rfl ?_
                refine SafeOps.quiet0 E_good rfl rfl rfl (v := V.bool false) (.pickK rfl hc588 rfl) ?_
                refine SafeOps.quiet0 E_good rfl rfl rfl (v := V.bool false) (.fn rfl) ?_
                refine SafeOps.nil ?_
                repeat (first | refine Safe.seq ?_ | refine Safe.skip ?_ | with_reducible refine thenQ.n ?_ | with_reducible refine blockQ.n ?_)
                refine Safe.ret ?_
                repeat (first | with_reducible refine thenQ.r ?_ | with_reducible refine blockQ.r ?_)
                obtain rfl := Option.some.inj h
                exact retQ.gen (vs := [V.bool false]) rfl (.tmp (v := V.bool false) rfl .nil) (.free rfl) (by simp) (.inr rfl)

noncomputable def go_cell_Do_j1 (v4_685 : List Int) (v5_686 : Int) (v6_687 : Int) : Option ((List Int) × Int × Int) :=
  some (v4_685, v5_686, v6_687)

noncomputable def go_cell_Do (a0_612 : List Int) (a1_613 : api_Mic) : Option ((List Int) × Int × Int) :=
  if (a1_613.Kind == 0) = true then
    (go_cell_Load a0_612 a1_613.At).bind fun (x_690, x_691) =>
    if (x_691 == 0) = true then
      (go_slices_Clone_api_Mem_int64 a0_612).bind fun x_694 =>
      go_cell_Do_j1 x_694 x_690 x_691
    else
      go_cell_Do_j1 [] x_690 x_691
  else
    if (a1_613.Kind == 1) = true then
      (go_cell_Store a0_612 a1_613.At a1_613.A).bind fun (x_697, x_698) =>
      go_cell_Do_j1 x_697 0 x_698
    else
      if (a1_613.Kind == 2) = true then
        (go_cell_Cas a0_612 a1_613.At a1_613.A a1_613.B).bind fun (x_701, x_702, x_703) =>
        if x_702 = true then
          go_cell_Do_j1 x_701 1 x_703
        else
          go_cell_Do_j1 x_701 0 x_703
      else
        if (a1_613.Kind == 3) = true then
          (go_cell_Add a0_612 a1_613.At a1_613.A).bind fun (x_707, x_708, x_709) =>
          go_cell_Do_j1 x_707 x_708 x_709
        else
          go_cell_Do_j1 [] 0 1

theorem go_cell_Do_sc (a0_612 : List Int) (a1_613 : api_Mic) (r : (List Int) × Int × Int) (h : go_cell_Do a0_612 a1_613 = some r) : SC Try.prog gl 16 [V.sl 1 (rws (fun n => [V.int .i64 n]) a0_612), V.agg [V.int .i64 a1_613.Kind, V.int .i64 a1_613.At, V.int .i64 a1_613.A, V.int .i64 a1_613.B]] (V.tup [V.own 1 (rws (fun n => [V.int .i64 n]) r.1), V.int .i64 r.2.1, V.int .i64 r.2.2]) := by
  rw [go_cell_Do] at h
  refine SC.of E_good Try.func16 rfl (fun _ _ => Try.call16 _ _) rfl ?_
  repeat (first | refine Safe.seq ?_ | refine Safe.skip ?_ | with_reducible refine thenQ.n ?_ | with_reducible refine blockQ.n ?_)
  refine Safe.region ?_
  refine SafeOps.quiet1 E_good rfl rfl rfl (.box rfl rfl) rfl ?_
  refine SafeOps.quiet0 E_good rfl rfl rfl (v := V.nils) (.fn rfl) ?_
  refine SafeOps.quiet0 E_good rfl rfl rfl (v := V.int .i64 0) (.fn rfl) ?_
  refine SafeOps.quiet0 E_good rfl rfl rfl (v := V.int .i64 0) (.fn rfl) ?_
  refine SafeOps.nil ?_
  repeat (first | refine Safe.seq ?_ | refine Safe.skip ?_ | with_reducible refine thenQ.n ?_ | with_reducible refine blockQ.n ?_)
  refine Safe.region ?_
  refine SafeOps.quiet0 E_good rfl rfl rfl (v := V.ptr [3] 0 0) (.fn rfl) ?_
  refine SafeOps.quiet0 E_good rfl rfl rfl (v := V.int .i64 a1_613.Kind) (.load rfl rfl (.box rfl rfl) rfl) ?_
  refine SafeOps.nil ?_
  repeat (first | refine Safe.seq ?_ | refine Safe.skip ?_ | with_reducible refine thenQ.n ?_ | with_reducible refine blockQ.n ?_)
  refine Safe.joinT (fun ((v4_685, v5_686, v6_687) : (List Int) × Int × Int) => go_cell_Do_j1 v4_685 v5_686 v6_687 = some r) (fun ((v4_685, v5_686, v6_687) : (List Int) × Int × Int) => ⟨Try.f16.ntmps, [(4, V.ref [7000, 118, 4] 0 (rws (fun n => [V.int .i64 n]) v4_685).length), (5, V.int .i64 v5_686), (6, V.int .i64 v6_687)], [([7000, 118, 4], Obj.rows 1 (rws (fun n => [V.int .i64 n]) v4_685) false)], [], []⟩) ?_ (fun HJ688 => ?_)
  · rintro ⟨v4_685, v5_686, v6_687⟩ h
    replace h : go_cell_Do_j1 v4_685 v5_686 v6_687 = some r := h
    rw [go_cell_Do_j1] at h
    repeat (first | refine Safe.seq ?_ | refine Safe.skip ?_ | with_reducible refine thenQ.n ?_ | with_reducible refine blockQ.n ?_)
    refine Safe.region ?_
    refine SafeOps.quiet0 E_good rfl rfl rfl (v := V.ref [7000, 118, 4] 0 (rws (fun n => [V.int .i64 n]) v4_685).length) (.fn rfl) ?_
    refine SafeOps.quiet0 E_good rfl rfl rfl (v := V.int .i64 v5_686) (.fn rfl) ?_
    refine SafeOps.quiet0 E_good rfl rfl rfl (v := V.int .i64 v6_687) (.fn rfl) ?_
    refine SafeOps.quiet0 E_good rfl rfl rfl (v := V.ref [7000, 118, 4] 0 (rws (fun n => [V.int .i64 n]) v4_685).length) (.fn rfl) ?_
    refine SafeOps.quiet0 E_good rfl rfl rfl (v := V.int .i64 v5_686) (.fn rfl) ?_
    refine SafeOps.quiet0 E_good rfl rfl rfl (v := V.int .i64 v6_687) (.fn rfl) ?_
    refine SafeOps.nil ?_
    repeat (first | refine Safe.seq ?_ | refine Safe.skip ?_ | with_reducible refine thenQ.n ?_ | with_reducible refine blockQ.n ?_)
    refine Safe.ret ?_
    repeat (first | with_reducible refine thenQ.r ?_ | with_reducible refine blockQ.r ?_)
    obtain rfl := Option.some.inj h
    exact retQ.gen (vs := [V.ref [7000, 118, 4] 0 (rws (fun n => [V.int .i64 n]) v4_685).length, V.int .i64 v5_686, V.int .i64 v6_687]) rfl (.tmp (v := V.ref [7000, 118, 4] 0 (rws (fun n => [V.int .i64 n]) v4_685).length) rfl (.tmp (v := V.int .i64 v5_686) rfl (.tmp (v := V.int .i64 v6_687) rfl .nil))) (by exact (.tup (.cons (.own rfl rfl) (.cons (.free rfl) (.cons (.free rfl) .nil))))) (by simp) (.inr rfl)
  · skip
    refine Safe.block ?_
    repeat (first | refine Safe.seq ?_ | refine Safe.skip ?_ | with_reducible refine thenQ.n ?_ | with_reducible refine blockQ.n ?_)
    refine Safe.region ?_
    refine SafeOps.quiet0 E_good rfl rfl rfl (v := V.bool (a1_613.Kind == 0)) (.fn rfl) ?_
    refine SafeOps.quiet0 E_good rfl rfl rfl (v := V.bool (a1_613.Kind == 0)) (.fn rfl) ?_
    refine SafeOps.nil ?_
    repeat (first | refine Safe.seq ?_ | refine Safe.skip ?_ | with_reducible refine thenQ.n ?_ | with_reducible refine blockQ.n ?_)
    refine ifG h (fun hc689 h => ?_) (fun hc689 h => ?_)
    · skip
      refine Safe.condK rfl hc689 ?_
      repeat (first | refine Safe.seq ?_ | refine Safe.skip ?_ | with_reducible refine thenQ.n ?_ | with_reducible refine blockQ.n ?_)
      refine Safe.region ?_
      refine SafeOps.quiet0 E_good rfl rfl rfl (v := V.sl 1 (rws (fun n => [V.int .i64 n]) a0_612)) (.fn rfl) ?_
      refine SafeOps.quiet0 E_good rfl rfl rfl (v := V.ptr [3] 0 1) (.fn rfl) ?_
      refine SafeOps.quiet0 E_good rfl rfl rfl (v := V.int .i64 a1_613.At) (.load rfl rfl (.box rfl rfl) rfl) ?_
      refine bindG h ?_
      rintro ⟨x_690, x_691⟩ he692 h
      refine SafeOps.quiet0 E_good rfl rfl rfl (v := V.tup [V.int .i64 x_690, V.int .i64 x_691]) (.callP rfl rfl (go_cell_Load_sc a0_612 a1_613.At _ he692) rfl) ?_
      refine SafeOps.quiet0 E_good rfl rfl rfl (v := V.tup [V.int .i64 x_690, V.int .i64 x_691]) (.fn rfl) ?_
      refine SafeOps.quiet0 E_good rfl rfl rfl (v := V.int .i64 x_690) (.fn rfl) ?_
      refine SafeOps.quiet0 E_good rfl rfl rfl (v := V.int .i64 x_691) (.fn rfl) ?_
      refine SafeOps.quiet0 E_good rfl rfl rfl (v := V.int .i64 x_690) (.fn rfl) ?_
      refine SafeOps.quiet0 E_good rfl rfl rfl (v := V.int .i64 x_691) (.fn rfl) ?_
      refine SafeOps.nil ?_
      repeat (first | refine Safe.seq ?_ | refine Safe.skip ?_ | with_reducible refine thenQ.n ?_ | with_reducible refine blockQ.n ?_)
      refine Safe.region ?_
      refine SafeOps.quiet0 E_good rfl rfl rfl (v := V.int .i64 x_691) (.fn rfl) ?_
      refine SafeOps.quiet0 E_good rfl rfl rfl (v := V.bool (x_691 == 0)) (.fn rfl) ?_
      refine SafeOps.nil ?_
      repeat (first | refine Safe.seq ?_ | refine Safe.skip ?_ | with_reducible refine thenQ.n ?_ | with_reducible refine blockQ.n ?_)
      refine ifG h (fun hc693 h => ?_) (fun hc693 h => ?_)
      · skip
        refine Safe.condK rfl hc693 ?_
        repeat (first | refine Safe.seq ?_ | refine Safe.skip ?_ | with_reducible refine thenQ.n ?_ | with_reducible refine blockQ.n ?_)
        refine Safe.region ?_
        refine SafeOps.quiet0 E_good rfl rfl rfl (v := V.sl 1 (rws (fun n => [V.int .i64 n]) a0_612)) (.fn rfl) ?_
        refine bindG h ?_
        intro x_694 he695 h
        refine SafeOps.quiet E_good rfl rfl rfl (v := V.ref [22, 0] 0 (rws (fun n => [V.int .i64 n]) x_694).length) (.callP rfl rfl (go_slices_Clone_api_Mem_int64_sc a0_612 _ he695) rfl) rfl ?_
        refine SafeOps.quiet0 E_good rfl rfl rfl (v := V.ref [22, 0] 0 (rws (fun n => [V.int .i64 n]) x_694).length) (.fn rfl) ?_
        refine SafeOps.nil ?_
        repeat (first | refine Safe.skip ?_ | with_reducible refine thenQ.n ?_ | with_reducible refine blockQ.n ?_)
        exact Safe.got (HJ688 (x_694, x_690, x_691) h) (.ren [22, 0] [7000, 118, 4] (.cov ⟨rfl, rfl, (upT_cons (.refl _) (upT_cons (.refl _) (upT_cons (.refl _) upT_nil))), (upOb_cons rfl (.refl _) upOb_nil), upOut_nil, rfl⟩))
      · skip
        refine Safe.condN rfl hc693 ?_
        repeat (first | refine Safe.skip ?_ | with_reducible refine thenQ.n ?_ | with_reducible refine blockQ.n ?_)
        exact Safe.got (HJ688 ([], x_690, x_691) h) (.empty [7000, 118, 4] 1 rfl (.cov ⟨rfl, rfl, (upT_cons (.nilref _) (upT_cons (.refl _) (upT_cons (.refl _) upT_nil))), (upOb_cons rfl (.refl _) upOb_nil), upOut_nil, rfl⟩))
    · skip
      refine Safe.condN rfl hc689 ?_
      repeat (first | refine Safe.seq ?_ | refine Safe.skip ?_ | with_reducible refine thenQ.n ?_ | with_reducible refine blockQ.n ?_)
      refine Safe.region ?_
      refine SafeOps.quiet0 E_good rfl rfl rfl (v := V.bool (a1_613.Kind == 1)) (.fn rfl) ?_
      refine SafeOps.quiet0 E_good rfl rfl rfl (v := V.bool (a1_613.Kind == 1)) (.fn rfl) ?_
      refine SafeOps.nil ?_
      repeat (first | refine Safe.seq ?_ | refine Safe.skip ?_ | with_reducible refine thenQ.n ?_ | with_reducible refine blockQ.n ?_)
      refine ifG h (fun hc696 h => ?_) (fun hc696 h => ?_)
      · skip
        refine Safe.condK rfl hc696 ?_
        repeat (first | refine Safe.seq ?_ | refine Safe.skip ?_ | with_reducible refine thenQ.n ?_ | with_reducible refine blockQ.n ?_)
        refine Safe.region ?_
        refine SafeOps.quiet0 E_good rfl rfl rfl (v := V.sl 1 (rws (fun n => [V.int .i64 n]) a0_612)) (.fn rfl) ?_
        refine SafeOps.quiet0 E_good rfl rfl rfl (v := V.ptr [3] 0 1) (.fn rfl) ?_
        refine SafeOps.quiet0 E_good rfl rfl rfl (v := V.int .i64 a1_613.At) (.load rfl rfl (.box rfl rfl) rfl) ?_
        refine SafeOps.quiet0 E_good rfl rfl rfl (v := V.ptr [3] 0 2) (.fn rfl) ?_
        refine SafeOps.quiet0 E_good rfl rfl rfl (v := V.int .i64 a1_613.A) (.load rfl rfl (.box rfl rfl) rfl) ?_
        refine bindG h ?_
        rintro ⟨x_697, x_698⟩ he699 h
        refine SafeOps.quiet E_good rfl rfl rfl (v := V.tup [V.ref [31, 0] 0 (rws (fun n => [V.int .i64 n]) x_697).length, V.int .i64 x_698]) (.callP rfl rfl (go_cell_Store_sc a0_612 a1_613.At a1_613.A _ he699) rfl) rfl ?_
        refine SafeOps.quiet0 E_good rfl rfl rfl (v := V.tup [V.ref [31, 0] 0 (rws (fun n => [V.int .i64 n]) x_697).length, V.int .i64 x_698]) (.fn rfl) ?_
        refine SafeOps.quiet0 E_good rfl rfl rfl (v := V.ref [31, 0] 0 (rws (fun n => [V.int .i64 n]) x_697).length) (.fn rfl) ?_
        refine SafeOps.quiet0 E_good rfl rfl rfl (v := V.int .i64 x_698) (.fn rfl) ?_
        refine SafeOps.quiet0 E_good rfl rfl rfl (v := V.ref [31, 0] 0 (rws (fun n => [V.int .i64 n]) x_697).length) (.fn rfl) ?_
        refine SafeOps.quiet0 E_good rfl rfl rfl (v := V.int .i64 x_698) (.fn rfl) ?_
        refine SafeOps.nil ?_
        repeat (first | refine Safe.skip ?_ | with_reducible refine thenQ.n ?_ | with_reducible refine blockQ.n ?_)
        exact Safe.got (HJ688 (x_697, 0, x_698) h) (.ren [31, 0] [7000, 118, 4] (.cov ⟨rfl, rfl, (upT_cons (.refl _) (upT_cons (.refl _) (upT_cons (.refl _) upT_nil))), (upOb_cons rfl (.refl _) upOb_nil), upOut_nil, rfl⟩))
      · skip
        refine Safe.condN rfl hc696 ?_
        repeat (first | refine Safe.seq ?_ | refine Safe.skip ?_ | with_reducible refine thenQ.n ?_ | with_reducible refine blockQ.n ?_)
        refine Safe.region ?_
        refine SafeOps.quiet0 E_good rfl rfl rfl (v := V.bool (a1_613.Kind == 2)) (.fn rfl) ?_
        refine SafeOps.quiet0 E_good rfl rfl rfl (v := V.bool (a1_613.Kind == 2)) (.fn rfl) ?_
        refine SafeOps.nil ?_
        repeat (first | refine Safe.seq ?_ | refine Safe.skip ?_ | with_reducible refine thenQ.n ?_ | with_reducible refine blockQ.n ?_)
        refine ifG h (fun hc700 h => ?_) (fun hc700 h => ?_)
        · skip
          refine Safe.condK rfl hc700 ?_
          repeat (first | refine Safe.seq ?_ | refine Safe.skip ?_ | with_reducible refine thenQ.n ?_ | with_reducible refine blockQ.n ?_)
          refine Safe.region ?_
          refine SafeOps.quiet0 E_good rfl rfl rfl (v := V.bool false) (.fn rfl) ?_
          refine SafeOps.nil ?_
          repeat (first | refine Safe.seq ?_ | refine Safe.skip ?_ | with_reducible refine thenQ.n ?_ | with_reducible refine blockQ.n ?_)
          refine Safe.region ?_
          refine SafeOps.quiet0 E_good rfl rfl rfl (v := V.sl 1 (rws (fun n => [V.int .i64 n]) a0_612)) (.fn rfl) ?_
          refine SafeOps.quiet0 E_good rfl rfl rfl (v := V.ptr [3] 0 1) (.fn rfl) ?_
          refine SafeOps.quiet0 E_good rfl rfl rfl (v := V.int .i64 a1_613.At) (.load rfl rfl (.box rfl rfl) rfl) ?_
          refine SafeOps.quiet0 E_good rfl rfl rfl (v := V.ptr [3] 0 2) (.fn rfl) ?_
          refine SafeOps.quiet0 E_good rfl rfl rfl (v := V.int .i64 a1_613.A) (.load rfl rfl (.box rfl rfl) rfl) ?_
          refine SafeOps.quiet0 E_good rfl rfl rfl (v := V.ptr [3] 0 3) (.fn rfl) ?_
          refine SafeOps.quiet0 E_good rfl rfl rfl (v := V.int .i64 a1_613.B) (.load rfl rfl (.box rfl rfl) rfl) ?_
          refine bindG h ?_
          rintro ⟨x_701, x_702, x_703⟩ he704 h
          refine SafeOps.quiet E_good rfl rfl rfl (v := V.tup [V.ref [44, 0] 0 (rws (fun n => [V.int .i64 n]) x_701).length, V.bool x_702, V.int .i64 x_703]) (.callP rfl rfl (go_cell_Cas_sc a0_612 a1_613.At a1_613.A a1_613.B _ he704) rfl) rfl ?_
          refine SafeOps.quiet0 E_good rfl rfl rfl (v := V.tup [V.ref [44, 0] 0 (rws (fun n => [V.int .i64 n]) x_701).length, V.bool x_702, V.int .i64 x_703]) (.fn rfl) ?_
          refine SafeOps.quiet0 E_good rfl rfl rfl (v := V.ref [44, 0] 0 (rws (fun n => [V.int .i64 n]) x_701).length) (.fn rfl) ?_
          refine SafeOps.quiet0 E_good rfl rfl rfl (v := V.bool x_702) (.fn rfl) ?_
          refine SafeOps.quiet0 E_good rfl rfl rfl (v := V.int .i64 x_703) (.fn rfl) ?_
          refine SafeOps.quiet0 E_good rfl rfl rfl (v := V.ref [44, 0] 0 (rws (fun n => [V.int .i64 n]) x_701).length) (.fn rfl) ?_
          refine SafeOps.quiet0 E_good rfl rfl rfl (v := V.bool x_702) (.fn rfl) ?_
          refine SafeOps.quiet0 E_good rfl rfl rfl (v := V.int .i64 x_703) (.fn rfl) ?_
          refine SafeOps.nil ?_
          repeat (first | refine Safe.seq ?_ | refine Safe.skip ?_ | with_reducible refine thenQ.n ?_ | with_reducible refine blockQ.n ?_)
          refine Safe.region ?_
          refine SafeOps.quiet0 E_good rfl rfl rfl (v := V.bool x_702) (.fn rfl) ?_
          refine SafeOps.nil ?_
          repeat (first | refine Safe.seq ?_ | refine Safe.skip ?_ | with_reducible refine thenQ.n ?_ | with_reducible refine blockQ.n ?_)
          refine ifG h (fun hc705 h => ?_) (fun hc705 h => ?_)
          · skip
            refine Safe.condK rfl hc705 ?_
            repeat (first | refine Safe.seq ?_ | refine Safe.skip ?_ | with_reducible refine thenQ.n ?_ | with_reducible refine blockQ.n ?_)
            refine Safe.region ?_
            refine SafeOps.quiet0 E_good rfl rfl rfl (v := V.int .i64 1) (.fn rfl) ?_
            refine SafeOps.nil ?_
            repeat (first | refine Safe.skip ?_ | with_reducible refine thenQ.n ?_ | with_reducible refine blockQ.n ?_)
            exact Safe.got (HJ688 (x_701, 1, x_703) h) (.ren [44, 0] [7000, 118, 4] (.cov ⟨rfl, rfl, (upT_cons (.refl _) (upT_cons (.refl _) (upT_cons (.refl _) upT_nil))), (upOb_cons rfl (.refl _) upOb_nil), upOut_nil, rfl⟩))
          · skip
            refine Safe.condN rfl hc705 ?_
            repeat (first | refine Safe.skip ?_ | with_reducible refine thenQ.n ?_ | with_reducible refine blockQ.n ?_)
            exact Safe.got (HJ688 (x_701, 0, x_703) h) (.ren [44, 0] [7000, 118, 4] (.cov ⟨rfl, rfl, (upT_cons (.refl _) (upT_cons (.refl _) (upT_cons (.refl _) upT_nil))), (upOb_cons rfl (.refl _) upOb_nil), upOut_nil, rfl⟩))
        · skip
          refine Safe.condN rfl hc700 ?_
          repeat (first | refine Safe.seq ?_ | refine Safe.skip ?_ | with_reducible refine thenQ.n ?_ | with_reducible refine blockQ.n ?_)
          refine Safe.region ?_
          refine SafeOps.quiet0 E_good rfl rfl rfl (v := V.bool (a1_613.Kind == 3)) (.fn rfl) ?_
          refine SafeOps.quiet0 E_good rfl rfl rfl (v := V.bool (a1_613.Kind == 3)) (.fn rfl) ?_
          refine SafeOps.nil ?_
          repeat (first | refine Safe.seq ?_ | refine Safe.skip ?_ | with_reducible refine thenQ.n ?_ | with_reducible refine blockQ.n ?_)
          refine ifG h (fun hc706 h => ?_) (fun hc706 h => ?_)
          · skip
            refine Safe.condK rfl hc706 ?_
            repeat (first | refine Safe.seq ?_ | refine Safe.skip ?_ | with_reducible refine thenQ.n ?_ | with_reducible refine blockQ.n ?_)
            refine Safe.region ?_
            refine SafeOps.quiet0 E_good rfl rfl rfl (v := V.sl 1 (rws (fun n => [V.int .i64 n]) a0_612)) (.fn rfl) ?_
            refine SafeOps.quiet0 E_good rfl rfl rfl (v := V.ptr [3] 0 1) (.fn rfl) ?_
            refine SafeOps.quiet0 E_good rfl rfl rfl (v := V.int .i64 a1_613.At) (.load rfl rfl (.box rfl rfl) rfl) ?_
            refine SafeOps.quiet0 E_good rfl rfl rfl (v := V.ptr [3] 0 2) (.fn rfl) ?_
            refine SafeOps.quiet0 E_good rfl rfl rfl (v := V.int .i64 a1_613.A) (.load rfl rfl (.box rfl rfl) rfl) ?_
            refine bindG h ?_
            rintro ⟨x_707, x_708, x_709⟩ he710 h
            refine SafeOps.quiet E_good rfl rfl rfl (v := V.tup [V.ref [57, 0] 0 (rws (fun n => [V.int .i64 n]) x_707).length, V.int .i64 x_708, V.int .i64 x_709]) (.callP rfl rfl (go_cell_Add_sc a0_612 a1_613.At a1_613.A _ he710) rfl) rfl ?_
            refine SafeOps.quiet0 E_good rfl rfl rfl (v := V.tup [V.ref [57, 0] 0 (rws (fun n => [V.int .i64 n]) x_707).length, V.int .i64 x_708, V.int .i64 x_709]) (.fn rfl) ?_
            refine SafeOps.quiet0 E_good rfl rfl rfl (v := V.ref [57, 0] 0 (rws (fun n => [V.int .i64 n]) x_707).length) (.fn rfl) ?_
            refine SafeOps.quiet0 E_good rfl rfl rfl (v := V.int .i64 x_708) (.fn rfl) ?_
            refine SafeOps.quiet0 E_good rfl rfl rfl (v := V.int .i64 x_709) (.fn rfl) ?_
            refine SafeOps.quiet0 E_good rfl rfl rfl (v := V.ref [57, 0] 0 (rws (fun n => [V.int .i64 n]) x_707).length) (.fn rfl) ?_
            refine SafeOps.quiet0 E_good rfl rfl rfl (v := V.int .i64 x_708) (.fn rfl) ?_
            refine SafeOps.quiet0 E_good rfl rfl rfl (v := V.int .i64 x_709) (.fn rfl) ?_
            refine SafeOps.nil ?_
            repeat (first | refine Safe.skip ?_ | with_reducible refine thenQ.n ?_ | with_reducible refine blockQ.n ?_)
            exact Safe.got (HJ688 (x_707, x_708, x_709) h) (.ren [57, 0] [7000, 118, 4] (.cov ⟨rfl, rfl, (upT_cons (.refl _) (upT_cons (.refl _) (upT_cons (.refl _) upT_nil))), (upOb_cons rfl (.refl _) upOb_nil), upOut_nil, rfl⟩))
          · skip
            refine Safe.condN rfl hc706 ?_
            repeat (first | refine Safe.seq ?_ | refine Safe.skip ?_ | with_reducible refine thenQ.n ?_ | with_reducible refine blockQ.n ?_)
            refine Safe.region ?_
            refine SafeOps.quiet0 E_good rfl rfl rfl (v := V.int .i64 1) (.fn rfl) ?_
            refine SafeOps.nil ?_
            repeat (first | refine Safe.skip ?_ | with_reducible refine thenQ.n ?_ | with_reducible refine blockQ.n ?_)
            exact Safe.got (HJ688 ([], 0, 1) h) (.empty [7000, 118, 4] 1 rfl (.cov ⟨rfl, rfl, (upT_cons (.nilref _) (upT_cons (.refl _) (upT_cons (.refl _) upT_nil))), (upOb_cons rfl (.refl _) upOb_nil), upOut_nil, rfl⟩))

noncomputable def go_ravelref01_New_s1 (a0_722 : Int) : ((List Int) × Int) → Option (((List Int) × Int) ⊕ ((List Int) × Int))
  | (v4_751, v12_752) =>
    if (decide (v12_752 < a0_722)) = true then
      if few (v4_751 ++ [0]).length then
        nextO (v4_751 ++ [0], IntKind.i64.wrap (v12_752 + 1))
      else none
    else
      inrO (
        some (v4_751, 0))

noncomputable def go_ravelref01_New (a0_722 : Int) : Option ((List Int) × Int) :=
  if ((decide (a0_722 < 0)) || (decide (a0_722 > 65536))) = true then
    some ([], 1)
  else
    whileO (go_ravelref01_New_s1 a0_722) ([], 0)

theorem go_ravelref01_New_sc (a0_722 : Int) (r : (List Int) × Int) (h : go_ravelref01_New a0_722 = some r) : SC Try.prog gl 18 [V.int .i64 a0_722] (V.tup [V.own 1 (rws (fun n => [V.int .i64 n]) r.1), V.int .i64 r.2]) := by
  rw [go_ravelref01_New] at h
  refine SC.of E_good Try.func18 rfl (fun _ _ => Try.call18 _ _) rfl ?_
  repeat (first | refine Safe.seq ?_ | refine Safe.skip ?_ | with_reducible refine thenQ.n ?_ | with_reducible refine blockQ.n ?_)
  refine Safe.region ?_
  refine SafeOps.quiet0 E_good rfl rfl rfl (v := V.nils) (.fn rfl) ?_
  refine SafeOps.quiet0 E_good rfl rfl rfl (v := V.int .i64 0) (.fn rfl) ?_
  refine SafeOps.nil ?_
  repeat (first | refine Safe.seq ?_ | refine Safe.skip ?_ | with_reducible refine thenQ.n ?_ | with_reducible refine blockQ.n ?_)
  refine Safe.region ?_
  refine SafeOps.quiet0 E_good rfl rfl rfl (v := V.int .i64 a0_722) (.fn rfl) ?_
  refine SafeOps.quiet0 E_good rfl rfl rfl (v := V.bool (decide (a0_722 < 0))) (.fn rfl) ?_
  refine SafeOps.quiet0 E_good rfl rfl rfl (v := V.bool (decide (a0_722 < 0))) (.fn rfl) ?_
  refine SafeOps.bjoin 3 10 (b := ((decide (a0_722 < 0)) || (decide (a0_722 > 65536)))) (b1 := true) (b0 := decide (a0_722 > 65536)) (fun hc743 K => ?_) (fun hc743 K => ?_) bj_or ?_
  · skip
    refine SafeOps.skip (congrArg (fun b => some (!b)) hc743) rfl rfl ?_
    refine SafeOps.skip (congrArg (fun b => some (!b)) hc743) rfl rfl ?_
    refine SafeOps.quiet0 E_good rfl rfl rfl (v := V.bool true) (.pickK rfl hc743 rfl) ?_
    exact SafeOps.drop' 3 rfl rfl rfl K
  · skip
    refine SafeOps.quiet0 E_good (congrArg (fun b => some (!b)) hc743) rfl rfl (v := V.int .i64 a0_722) (.fn rfl) ?_
    refine SafeOps.quiet0 E_good (congrArg (fun b => some (!b)) hc743) rfl rfl (v := V.bool (decide (a0_722 > 65536))) (.fn rfl) ?_
    refine SafeOps.quiet0 E_good rfl rfl rfl (v := V.bool (decide (a0_722 > 65536))) (.pickK rfl hc743 rfl) ?_
    exact SafeOps.drop' 3 rfl rfl rfl K
  refine SafeOps.nil ?_
  repeat (first | refine Safe.seq ?_ | refine Safe.skip ?_ | with_reducible refine thenQ.n ?_ | with_reducible refine blockQ.n ?_)
  refine ifG h (fun hc744 h => ?_) (fun hc744 h => ?_)
  · skip
    refine Safe.condK rfl hc744 ?_
    repeat (first | refine Safe.seq ?_ | refine Safe.skip ?_ | with_reducible refine thenQ.n ?_ | with_reducible refine blockQ.n ?_)
    refine Safe.region ?_
    refine SafeOps.quiet0 E_good rfl rfl rfl (v := V.nils) (.fn rfl) ?_
    refine SafeOps.quiet0 E_good rfl rfl rfl (v := V.int .i64 1) (.fn rfl) ?_
    refine SafeOps.nil ?_
    repeat (first | refine Safe.seq ?_ | refine Safe.skip ?_ | with_reducible refine thenQ.n ?_ | with_reducible refine blockQ.n ?_)
    refine Safe.ret ?_
    repeat (first | with_reducible refine thenQ.r ?_ | with_reducible refine blockQ.r ?_)
    obtain rfl := Option.some.inj h
    exact retQ.gen (vs := [V.nils, V.int .i64 1]) rfl (.tmp (v := V.nils) rfl (.tmp (v := V.int .i64 1) rfl .nil)) (by exact (.tup (.cons (.nils _) (.cons (.free rfl) .nil)))) (by simp) (.inr rfl)
  · skip
    refine Safe.condN rfl hc744 ?_
    repeat (first | refine Safe.seq ?_ | refine Safe.skip ?_ | with_reducible refine thenQ.n ?_ | with_reducible refine blockQ.n ?_)
    refine Safe.region ?_
    refine SafeOps.quiet0 E_good rfl rfl rfl (v := V.nils) (.fn rfl) ?_
    refine SafeOps.nil ?_
    repeat (first | refine Safe.seq ?_ | refine Safe.skip ?_ | with_reducible refine thenQ.n ?_ | with_reducible refine blockQ.n ?_)
    refine Safe.region ?_
    refine SafeOps.quiet0 E_good rfl rfl rfl (v := V.int .i64 a0_722) (.fn rfl) ?_
    refine SafeOps.quiet0 E_good rfl rfl rfl (v := V.int .i64 0) (.fn rfl) ?_
    refine SafeOps.nil ?_
    repeat (first | refine Safe.seq ?_ | refine Safe.skip ?_ | with_reducible refine thenQ.n ?_ | with_reducible refine blockQ.n ?_)
    refine Safe.block ?_
    repeat (first | refine Safe.seq ?_ | refine Safe.skip ?_ | with_reducible refine thenQ.n ?_ | with_reducible refine blockQ.n ?_)
    refine Safe.loopW (fun ((v4_751, v12_752) : (List Int) × Int) => ⟨Try.f18.ntmps, [(4, V.ref [7000, 118, 4] 0 (rws (fun n => [V.int .i64 n]) v4_751).length), (11, V.int .i64 a0_722), (12, V.int .i64 v12_752)], [([7000, 118, 4], Obj.rows 1 (rws (fun n => [V.int .i64 n]) v4_751) false)], [], []⟩) h (.empty [7000, 118, 4] 1 rfl (.cov ⟨rfl, rfl, (upT_cons (.nilref _) (upT_cons (.refl _) (upT_cons (.refl _) upT_nil))), (upOb_cons rfl (.refl _) upOb_nil), upOut_nil, rfl⟩)) ?_
    rintro ⟨v4_751, v12_752⟩ ohr753 h hr753
    replace h : go_ravelref01_New_s1 a0_722 (v4_751, v12_752) = some ohr753 := h
    rw [go_ravelref01_New_s1] at h
    repeat (first | refine Safe.seq ?_ | refine Safe.skip ?_ | with_reducible refine thenQ.n ?_ | with_reducible refine blockQ.n ?_)
    refine Safe.region ?_
    refine SafeOps.quiet0 E_good rfl rfl rfl (v := V.bool (decide (v12_752 < a0_722))) (.fn rfl) ?_
    refine SafeOps.nil ?_
    repeat (first | refine Safe.seq ?_ | refine Safe.skip ?_ | with_reducible refine thenQ.n ?_ | with_reducible refine blockQ.n ?_)
    refine ifG h (fun hc754 h => ?_) (fun hc754 h => ?_)
    · skip
      refine Safe.condK rfl hc754 ?_
      repeat (first | refine Safe.seq ?_ | refine Safe.skip ?_ | with_reducible refine thenQ.n ?_ | with_reducible refine blockQ.n ?_)
      refine Safe.block ?_
      repeat (first | refine Safe.seq ?_ | refine Safe.skip ?_ | with_reducible refine thenQ.n ?_ | with_reducible refine blockQ.n ?_)
      refine Safe.region ?_
      refine SafeOps.quiet0 E_good rfl rfl rfl (v := V.ref [7000, 118, 4] 0 (rws (fun n => [V.int .i64 n]) v4_751).length) (.fn rfl) ?_
      refine SafeOps.quiet1 E_good rfl rfl rfl (.litM (f := (fun n => [V.int .i64 n])) (xs := [0]) rfl rfl (by decide) rfl rfl rfl rfl rfl) rfl ?_
      refine okG h (fun hb755 h => ?_)
      refine SafeOps.appendM (fun n => [V.int .i64 n]) (xs := v4_751) (ys := [0]) E_good rfl rfl rfl rfl rfl rfl rfl rfl rfl (.own rfl) (.own rfl) (fun _ => rfl) hb755 ?_
      refine SafeOps.quiet0 E_good rfl rfl rfl (v := V.ref [16] 0 (rws (fun n => [V.int .i64 n]) (v4_751 ++ [0])).length) (.fn rfl) ?_
      refine SafeOps.nil ?_
      repeat (first | refine Safe.seq ?_ | refine Safe.skip ?_ | with_reducible refine thenQ.n ?_ | with_reducible refine blockQ.n ?_)
      refine Safe.region ?_
      refine SafeOps.quiet0 E_good rfl rfl rfl (v := V.int .i64 (IntKind.i64.wrap (v12_752 + 1))) (.fn rfl) ?_
      refine SafeOps.quiet0 E_good rfl rfl rfl (v := V.int .i64 (IntKind.i64.wrap (v12_752 + 1))) (.fn rfl) ?_
      refine SafeOps.nil ?_
      repeat (first | refine Safe.seq ?_ | refine Safe.skip ?_ | with_reducible refine thenQ.n ?_ | with_reducible refine blockQ.n ?_)
      exact ⟨_, next_out h, (.ren [16] [7000, 118, 4] (.cov ⟨rfl, rfl, (upT_cons (.refl _) (upT_cons (.refl _) (upT_cons (.refl _) upT_nil))), (upOb_cons rfl (.refl _) upOb_nil), upOut_nil, rfl⟩))⟩
    · skip
      refine Safe.condN rfl hc754 ?_
      repeat (first | refine Safe.seq ?_ | refine Safe.skip ?_ | with_reducible refine thenQ.n ?_ | with_reducible refine blockQ.n ?_)
      refine Safe.exit ?_
      repeat (first | with_reducible refine thenQ.e ?_ | with_reducible refine blockQ.x rfl ?_ | with_reducible refine blockQ.y rfl ?_)
      replace h := inr_out h hr753
      repeat (first | refine Safe.seq ?_ | refine Safe.skip ?_ | with_reducible refine thenQ.n ?_ | with_reducible refine blockQ.n ?_)
      refine Safe.region ?_
      refine SafeOps.quiet0 E_good rfl rfl rfl (v := V.ref [7000, 118, 4] 0 (rws (fun n => [V.int .i64 n]) v4_751).length) (.fn rfl) ?_
      refine SafeOps.quiet0 E_good rfl rfl rfl (v := V.ref [7000, 118, 4] 0 (rws (fun n => [V.int .i64 n]) v4_751).length) (.fn rfl) ?_
      refine SafeOps.quiet0 E_good rfl rfl rfl (v := V.int .i64 0) (.fn rfl) ?_
      refine SafeOps.nil ?_
      repeat (first | refine Safe.seq ?_ | refine Safe.skip ?_ | with_reducible refine thenQ.n ?_ | with_reducible refine blockQ.n ?_)
      refine Safe.ret ?_
      repeat (first | with_reducible refine thenQ.r ?_ | with_reducible refine blockQ.r ?_)
      obtain rfl := Option.some.inj h
      exact retQ.gen (vs := [V.ref [7000, 118, 4] 0 (rws (fun n => [V.int .i64 n]) v4_751).length, V.int .i64 0]) rfl (.tmp (v := V.ref [7000, 118, 4] 0 (rws (fun n => [V.int .i64 n]) v4_751).length) rfl (.tmp (v := V.int .i64 0) rfl .nil)) (by exact (.tup (.cons (.own rfl rfl) (.cons (.free rfl) .nil)))) (by simp) (.inr rfl)

noncomputable def go_ravellaw01_CellDoes_s4 (a0_599 : List Int) (x_817 : Bool) (x_826 : List Int) (b_856 : Bool) : ((List Int) × Int) → Option (((List Int) × Int) ⊕ (Bool))
  | (v11_880, v115_881) =>
    if (decide (v115_881 < (x_826.length : Int))) = true then
      if 0 ≤ v115_881 ∧ v115_881 < (v11_880.length : Int) then
        if 0 ≤ v115_881 ∧ v115_881 < (v11_880.length : Int) then
          nextO (st v11_880 v115_881 (IntKind.i64.wrap ((gt v11_880 v115_881) + 1)), IntKind.i64.wrap (v115_881 + 1))
        else none
      else none
    else
      inrO (
        if (x_817 && b_856) = true then
          (go_ravelref01_Same a0_599 ([] ++ a0_599)).bind fun x_890 =>
          some x_890
        else
          some false)

noncomputable def go_ravellaw01_CellDoes_j2 (a0_599 : List Int) (x_817 : Bool) (x_826 : List Int) (b_856 : Bool) : Option Bool :=
  whileO (go_ravellaw01_CellDoes_s4 a0_599 x_817 x_826 b_856) (x_826, 0)

noncomputable def go_ravellaw01_CellDoes_j1 (a0_599 : List Int) (a1_600 : List Int) (x_817 : Bool) (x_826 : List Int) (x_835 : Int) (x_838 : Int) (b_847 : Bool) : Option Bool :=
  if ((b_847 && (x_835 == x_838)) && ((go_cell_Check a0_599) == (go_ravelref01_Check a0_599))) = true then
    (go_cell_Same a0_599 a1_600).bind fun x_892 =>
    (go_ravelref01_Same a0_599 a1_600).bind fun x_894 =>
    go_ravellaw01_CellDoes_j2 a0_599 x_817 x_826 (x_892 == x_894)
  else
    go_ravellaw01_CellDoes_j2 a0_599 x_817 x_826 false

noncomputable def go_ravellaw01_CellDoes (a0_599 : List Int) (a1_600 : List Int) (a2_601 : api_Mic) (a3_602 : Int) : Option Bool :=
  (go_ravellaw01_live).bind fun x_817 =>
  if (!x_817) = true then
    some false
  else
    if ((((decide ((a0_599.length : Int) > 300)) && (decide ((a0_599.length : Int) ≤ 65536))) || (decide ((a1_600.length : Int) > 300))) || ((decide (a3_602 > 300)) && (decide (a3_602 ≤ 65536)))) = true then
      some x_817
    else
      if few ([] ++ a0_599).length then
        (go_cell_Do a0_599 a2_601).bind fun (x_826, x_827, x_828) =>
        (go_ravelref01_Do a0_599 a2_601).bind fun (x_830, x_831, x_832) =>
        (go_cell_New a3_602).bind fun (x_834, x_835) =>
        (go_ravelref01_New a3_602).bind fun (x_837, x_838) =>
        (go_ravelref01_Same x_826 x_830).bind fun x_840 =>
        if ((x_840 && (x_827 == x_831)) && (x_828 == x_832)) = true then
          (go_ravelref01_Same x_834 x_837).bind fun x_896 =>
          go_ravellaw01_CellDoes_j1 a0_599 a1_600 x_817 x_826 x_835 x_838 x_896
        else
          go_ravellaw01_CellDoes_j1 a0_599 a1_600 x_817 x_826 x_835 x_838 false
      else none

theorem go_ravellaw01_CellDoes_sc (a0_599 : List Int) (a1_600 : List Int) (a2_601 : api_Mic) (a3_602 : Int) (r : Bool) (h : go_ravellaw01_CellDoes a0_599 a1_600 a2_601 a3_602 = some r) : SC Try.prog gl 6 [V.sl 1 (rws (fun n => [V.int .i64 n]) a0_599), V.sl 1 (rws (fun n => [V.int .i64 n]) a1_600), V.agg [V.int .i64 a2_601.Kind, V.int .i64 a2_601.At, V.int .i64 a2_601.A, V.int .i64 a2_601.B], V.int .i64 a3_602] (V.bool r) := by
  rw [go_ravellaw01_CellDoes] at h
  refine SC.of E_good Try.func6 rfl (fun _ _ => Try.call6 _ _) rfl ?_
  repeat (first | refine Safe.seq ?_ | refine Safe.skip ?_ | with_reducible refine thenQ.n ?_ | with_reducible refine blockQ.n ?_)
  refine Safe.region ?_
  refine SafeOps.quiet1 E_good rfl rfl rfl (.box rfl rfl) rfl ?_
  refine SafeOps.quiet0 E_good rfl rfl rfl (v := V.bool false) (.fn rfl) ?_
  refine SafeOps.nil ?_
  repeat (first | refine Safe.seq ?_ | refine Safe.skip ?_ | with_reducible refine thenQ.n ?_ | with_reducible refine blockQ.n ?_)
  refine Safe.region ?_
  refine bindG h ?_
  intro x_817 he818 h
  refine SafeOps.quiet0 E_good rfl rfl rfl (v := V.bool x_817) (.callP rfl rfl (go_ravellaw01_live_sc  _ he818) rfl) ?_
  refine SafeOps.quiet0 E_good rfl rfl rfl (v := V.bool x_817) (.fn rfl) ?_
  refine SafeOps.nil ?_
  repeat (first | refine Safe.seq ?_ | refine Safe.skip ?_ | with_reducible refine thenQ.n ?_ | with_reducible refine blockQ.n ?_)
  refine Safe.region ?_
  refine SafeOps.quiet0 E_good rfl rfl rfl (v := V.bool x_817) (.fn rfl) ?_
  refine SafeOps.quiet0 E_good rfl rfl rfl (v := V.bool (!x_817)) (.fn rfl) ?_
  refine SafeOps.nil ?_
  repeat (first | refine Safe.seq ?_ | refine Safe.skip ?_ | with_reducible refine thenQ.n ?_ | with_reducible refine blockQ.n ?_)
  refine ifG h (fun hc819 h => ?_) (fun hc819 h => ?_)
  · skip
    refine Safe.condK rfl hc819 ?_
    repeat (first | refine Safe.seq ?_ | refine Safe.skip ?_ | with_reducible refine thenQ.n ?_ | with_reducible refine blockQ.n ?_)
    refine Safe.region ?_
    refine SafeOps.quiet0 E_good rfl rfl rfl (v := V.bool false) (.fn rfl) ?_
    refine SafeOps.nil ?_
    repeat (first | refine Safe.seq ?_ | refine Safe.skip ?_ | with_reducible refine thenQ.n ?_ | with_reducible refine blockQ.n ?_)
    refine Safe.ret ?_
    repeat (first | with_reducible refine thenQ.r ?_ | with_reducible refine blockQ.r ?_)
    obtain rfl := Option.some.inj h
    exact retQ.gen (vs := [V.bool false]) rfl (.tmp (v := V.bool false) rfl .nil) (.free rfl) (by simp) (.inr rfl)
  · skip
    refine Safe.condN rfl hc819 ?_
    repeat (first | refine Safe.seq ?_ | refine Safe.skip ?_ | with_reducible refine thenQ.n ?_ | with_reducible refine blockQ.n ?_)
    refine Safe.region ?_
    refine SafeOps.quiet0 E_good rfl rfl rfl (v := V.sl 1 (rws (fun n => [V.int .i64 n]) a0_599)) (.fn rfl) ?_
    refine SafeOps.quiet0 E_good rfl rfl rfl (v := V.int .i64 (a0_599.length : Int)) (.fnE rfl lenE) ?_
    refine SafeOps.quiet0 E_good rfl rfl rfl (v := V.bool (decide ((a0_599.length : Int) > 300))) (.fn rfl) ?_
    refine SafeOps.quiet0 E_good rfl rfl rfl (v := V.bool (decide ((a0_599.length : Int) > 300))) (.fn rfl) ?_
    refine SafeOps.bjoin 4 33 (b := ((decide ((a0_599.length : Int) > 300)) && (decide ((a0_599.length : Int) ≤ 65536)))) (b1 := decide ((a0_599.length : Int) ≤ 65536)) (b0 := false) (fun hc820 K => ?_) (fun hc820 K => ?_) bj_and ?_
    · skip
      refine SafeOps.quiet0 E_good (congrArg some hc820) rfl rfl (v := V.sl 1 (rws (fun n => [V.int .i64 n]) a0_599)) (.fn rfl) ?_
      refine SafeOps.quiet0 E_good (congrArg some hc820) rfl rfl (v := V.int .i64 (a0_599.length : Int)) (.fnE rfl lenE) ?_
      refine SafeOps.quiet0 E_good (congrArg some hc820) rfl rfl (v := V.bool (decide ((a0_599.length : Int) ≤ 65536))) (.fn rfl) ?_
      refine SafeOps.quiet0 E_good rfl rfl rfl (v := V.bool (decide ((a0_599.length : Int) ≤ 65536))) (.pickK rfl hc820 rfl) ?_
      exact SafeOps.drop' 4 rfl rfl rfl K
    · skip
      refine SafeOps.skip (congrArg some hc820) rfl rfl ?_
      refine SafeOps.skip (congrArg some hc820) rfl rfl ?_
      refine SafeOps.skip (congrArg some hc820) rfl rfl ?_
      refine SafeOps.quiet0 E_good rfl rfl rfl (v := V.bool false) (.pickK rfl hc820 rfl) ?_
      exact SafeOps.drop' 4 rfl rfl rfl K
    refine SafeOps.quiet0 E_good rfl rfl rfl (v := V.bool ((decide ((a0_599.length : Int) > 300)) && (decide ((a0_599.length : Int) ≤ 65536)))) (.fn rfl) ?_
    refine SafeOps.bjoin 4 38 (b := (((decide ((a0_599.length : Int) > 300)) && (decide ((a0_599.length : Int) ≤ 65536))) || (decide ((a1_600.length : Int) > 300)))) (b1 := true) (b0 := decide ((a1_600.length : Int) > 300)) (fun hc821 K => ?_) (fun hc821 K => ?_) bj_or ?_
    · skip
      refine SafeOps.skip (congrArg (fun b => some (!b)) hc821) rfl rfl ?_
      refine SafeOps.skip (congrArg (fun b => some (!b)) hc821) rfl rfl ?_
      refine SafeOps.skip (congrArg (fun b => some (!b)) hc821) rfl rfl ?_
      refine SafeOps.quiet0 E_good rfl rfl rfl (v := V.bool true) (.pickK rfl hc821 rfl) ?_
      exact SafeOps.drop' 4 rfl rfl rfl K
    · skip
      refine SafeOps.quiet0 E_good (congrArg (fun b => some (!b)) hc821) rfl rfl (v := V.sl 1 (rws (fun n => [V.int .i64 n]) a1_600)) (.fn rfl) ?_
      refine SafeOps.quiet0 E_good (congrArg (fun b => some (!b)) hc821) rfl rfl (v := V.int .i64 (a1_600.length : Int)) (.fnE rfl lenE) ?_
      refine SafeOps.quiet0 E_good (congrArg (fun b => some (!b)) hc821) rfl rfl (v := V.bool (decide ((a1_600.length : Int) > 300))) (.fn rfl) ?_
      refine SafeOps.quiet0 E_good rfl rfl rfl (v := V.bool (decide ((a1_600.length : Int) > 300))) (.pickK rfl hc821 rfl) ?_
      exact SafeOps.drop' 4 rfl rfl rfl K
    refine SafeOps.quiet0 E_good rfl rfl rfl (v := V.bool (((decide ((a0_599.length : Int) > 300)) && (decide ((a0_599.length : Int) ≤ 65536))) || (decide ((a1_600.length : Int) > 300)))) (.fn rfl) ?_
    refine SafeOps.bjoin 7 46 (b := ((((decide ((a0_599.length : Int) > 300)) && (decide ((a0_599.length : Int) ≤ 65536))) || (decide ((a1_600.length : Int) > 300))) || ((decide (a3_602 > 300)) && (decide (a3_602 ≤ 65536))))) (b1 := true) (b0 := ((decide (a3_602 > 300)) && (decide (a3_602 ≤ 65536)))) (fun hc822 K => ?_) (fun hc822 K => ?_) bj_or ?_
    · skip
      refine SafeOps.skip (congrArg (fun b => some (!b)) hc822) rfl rfl ?_
      refine SafeOps.skip (congrArg (fun b => some (!b)) hc822) rfl rfl ?_
      refine SafeOps.skip (congrArg (fun b => some (!b)) hc822) rfl rfl ?_
      refine SafeOps.skip rfl rfl rfl ?_
      refine SafeOps.skip rfl rfl rfl ?_
      refine SafeOps.skip (congrArg (fun b => some (!b)) hc822) rfl rfl ?_
      refine SafeOps.quiet0 E_good rfl rfl rfl (v := V.bool true) (.pickK rfl hc822 rfl) ?_
      exact SafeOps.drop' 7 rfl rfl rfl K
    · skip
      refine SafeOps.quiet0 E_good (congrArg (fun b => some (!b)) hc822) rfl rfl (v := V.int .i64 a3_602) (.fn rfl) ?_
      refine SafeOps.quiet0 E_good (congrArg (fun b => some (!b)) hc822) rfl rfl (v := V.bool (decide (a3_602 > 300))) (.fn rfl) ?_
      refine SafeOps.quiet0 E_good (congrArg (fun b => some (!b)) hc822) rfl rfl (v := V.bool (decide (a3_602 > 300))) (.fn rfl) ?_
      refine SafeOps.bjoin 3 45 (b := ((decide (a3_602 > 300)) && (decide (a3_602 ≤ 65536)))) (b1 := decide (a3_602 ≤ 65536)) (b0 := false) (fun hc823 K => ?_) (fun hc823 K => ?_) bj_and ?_
      · skip
        refine SafeOps.quiet0 E_good (congrArg some hc823) rfl rfl (v := V.int .i64 a3_602) (.fn rfl) ?_
        refine SafeOps.quiet0 E_good (congrArg some hc823) rfl rfl (v := V.bool (decide (a3_602 ≤ 65536))) (.fn rfl) ?_
        refine SafeOps.quiet0 E_good (congrArg (fun b => some (!b)) hc822) rfl rfl (v := V.bool (decide (a3_602 ≤ 65536))) (.pickK rfl hc823 rfl) ?_
        exact SafeOps.drop' 3 rfl rfl rfl K
      · skip
        refine SafeOps.skip (congrArg some hc823) rfl rfl ?_
        refine SafeOps.skip (congrArg some hc823) rfl rfl ?_
        refine SafeOps.quiet0 E_good (congrArg (fun b => some (!b)) hc822) rfl rfl (v := V.bool false) (.pickK rfl hc823 rfl) ?_
        exact SafeOps.drop' 3 rfl rfl rfl K
      refine SafeOps.quiet0 E_good rfl rfl rfl (v := V.bool ((decide (a3_602 > 300)) && (decide (a3_602 ≤ 65536)))) (.pickK rfl hc822 rfl) ?_
      exact SafeOps.drop' 5 rfl rfl rfl K
    refine SafeOps.nil ?_
    repeat (first | refine Safe.seq ?_ | refine Safe.skip ?_ | with_reducible refine thenQ.n ?_ | with_reducible refine blockQ.n ?_)
    refine ifG h (fun hc824 h => ?_) (fun hc824 h => ?_)
    · skip
      refine Safe.condK rfl hc824 ?_
      repeat (first | refine Safe.seq ?_ | refine Safe.skip ?_ | with_reducible refine thenQ.n ?_ | with_reducible refine blockQ.n ?_)
      refine Safe.region ?_
      refine SafeOps.quiet0 E_good rfl rfl rfl (v := V.bool x_817) (.fn rfl) ?_
      refine SafeOps.quiet0 E_good rfl rfl rfl (v := V.bool x_817) (.fn rfl) ?_
      refine SafeOps.nil ?_
      repeat (first | refine Safe.seq ?_ | refine Safe.skip ?_ | with_reducible refine thenQ.n ?_ | with_reducible refine blockQ.n ?_)
      refine Safe.ret ?_
      repeat (first | with_reducible refine thenQ.r ?_ | with_reducible refine blockQ.r ?_)
      obtain rfl := Option.some.inj h
      exact retQ.gen (vs := [V.bool x_817]) rfl (.tmp (v := V.bool x_817) rfl .nil) (.free rfl) (by simp) (.inr rfl)
    · skip
      refine Safe.condN rfl hc824 ?_
      repeat (first | refine Safe.seq ?_ | refine Safe.skip ?_ | with_reducible refine thenQ.n ?_ | with_reducible refine blockQ.n ?_)
      refine Safe.region ?_
      refine SafeOps.quiet0 E_good rfl rfl rfl (v := V.sl 1 (rws (fun n => [V.int .i64 n]) a0_599)) (.fn rfl) ?_
      refine okG h (fun hb825 h => ?_)
      refine SafeOps.appendM (fun n => [V.int .i64 n]) (xs := []) (ys := a0_599) E_good rfl rfl rfl rfl rfl rfl rfl rfl rfl .nils (.sl _) (fun _ => rfl) hb825 ?_
      refine SafeOps.quiet0 E_good rfl rfl rfl (v := V.ref [49] 0 (rws (fun n => [V.int .i64 n]) ([] ++ a0_599)).length) (.fn rfl) ?_
      refine SafeOps.nil ?_
      repeat (first | refine Safe.seq ?_ | refine Safe.skip ?_ | with_reducible refine thenQ.n ?_ | with_reducible refine blockQ.n ?_)
      refine Safe.region ?_
      refine SafeOps.quiet0 E_good rfl rfl rfl (v := V.sl 1 (rws (fun n => [V.int .i64 n]) a0_599)) (.fn rfl) ?_
      refine SafeOps.quiet0 E_good rfl rfl rfl (v := V.agg [V.int .i64 a2_601.Kind, V.int .i64 a2_601.At, V.int .i64 a2_601.A, V.int .i64 a2_601.B]) (.load rfl rfl (.box rfl rfl) rfl) ?_
      refine bindG h ?_
      rintro ⟨x_826, x_827, x_828⟩ he829 h
      refine SafeOps.quiet E_good rfl rfl rfl (v := V.tup [V.ref [53, 0] 0 (rws (fun n => [V.int .i64 n]) x_826).length, V.int .i64 x_827, V.int .i64 x_828]) (.callP rfl rfl (go_cell_Do_sc a0_599 a2_601 _ he829) rfl) rfl ?_
      refine SafeOps.quiet0 E_good rfl rfl rfl (v := V.tup [V.ref [53, 0] 0 (rws (fun n => [V.int .i64 n]) x_826).length, V.int .i64 x_827, V.int .i64 x_828]) (.fn rfl) ?_
      refine SafeOps.quiet0 E_good rfl rfl rfl (v := V.ref [53, 0] 0 (rws (fun n => [V.int .i64 n]) x_826).length) (.fn rfl) ?_
      refine SafeOps.quiet0 E_good rfl rfl rfl (v := V.int .i64 x_827) (.fn rfl) ?_
      refine SafeOps.quiet0 E_good rfl rfl rfl (v := V.int .i64 x_828) (.fn rfl) ?_
      refine SafeOps.quiet0 E_good rfl rfl rfl (v := V.ref [53, 0] 0 (rws (fun n => [V.int .i64 n]) x_826).length) (.fn rfl) ?_
      refine SafeOps.quiet0 E_good rfl rfl rfl (v := V.int .i64 x_827) (.fn rfl) ?_
      refine SafeOps.quiet0 E_good rfl rfl rfl (v := V.int .i64 x_828) (.fn rfl) ?_
      refine SafeOps.nil ?_
      repeat (first | refine Safe.seq ?_ | refine Safe.skip ?_ | with_reducible refine thenQ.n ?_ | with_reducible refine blockQ.n ?_)
      refine Safe.region ?_
      refine SafeOps.quiet0 E_good rfl rfl rfl (v := V.sl 1 (rws (fun n => [V.int .i64 n]) a0_599)) (.fn rfl) ?_
      refine SafeOps.quiet0 E_good rfl rfl rfl (v := V.agg [V.int .i64 a2_601.Kind, V.int .i64 a2_601.At, V.int .i64 a2_601.A, V.int .i64 a2_601.B]) (.load rfl rfl (.box rfl rfl) rfl) ?_
      refine bindG h ?_
      rintro ⟨x_830, x_831, x_832⟩ he833 h
      refine SafeOps.quiet E_good rfl rfl rfl (v := V.tup [V.ref [60, 0] 0 (rws (fun n => [V.int .i64 n]) x_830).length, V.int .i64 x_831, V.int .i64 x_832]) (.callP rfl rfl (go_ravelref01_Do_sc a0_599 a2_601 _ he833) rfl) rfl ?_
      refine SafeOps.quiet0 E_good rfl rfl rfl (v := V.tup [V.ref [60, 0] 0 (rws (fun n => [V.int .i64 n]) x_830).length, V.int .i64 x_831, V.int .i64 x_832]) (.fn rfl) ?_
      refine SafeOps.quiet0 E_good rfl rfl rfl (v := V.ref [60, 0] 0 (rws (fun n => [V.int .i64 n]) x_830).length) (.fn rfl) ?_
      refine SafeOps.quiet0 E_good rfl rfl rfl (v := V.int .i64 x_831) (.fn rfl) ?_
      refine SafeOps.quiet0 E_good rfl rfl rfl (v := V.int .i64 x_832) (.fn rfl) ?_
      refine SafeOps.quiet0 E_good rfl rfl rfl (v := V.ref [60, 0] 0 (rws (fun n => [V.int .i64 n]) x_830).length) (.fn rfl) ?_
      refine SafeOps.quiet0 E_good rfl rfl rfl (v := V.int .i64 x_831) (.fn rfl) ?_
      refine SafeOps.quiet0 E_good rfl rfl rfl (v := V.int .i64 x_832) (.fn rfl) ?_
      refine SafeOps.nil ?_
      repeat (first | refine Safe.seq ?_ | refine Safe.skip ?_ | with_reducible refine thenQ.n ?_ | with_reducible refine blockQ.n ?_)
      refine Safe.region ?_
      refine SafeOps.quiet0 E_good rfl rfl rfl (v := V.int .i64 a3_602) (.fn rfl) ?_
      refine bindG h ?_
      rintro ⟨x_834, x_835⟩ he836 h
      refine SafeOps.quiet E_good rfl rfl rfl (v := V.tup [V.ref [66, 0] 0 (rws (fun n => [V.int .i64 n]) x_834).length, V.int .i64 x_835]) (.callP rfl rfl (go_cell_New_sc a3_602 _ he836) rfl) rfl ?_
      refine SafeOps.quiet0 E_good rfl rfl rfl (v := V.tup [V.ref [66, 0] 0 (rws (fun n => [V.int .i64 n]) x_834).length, V.int .i64 x_835]) (.fn rfl) ?_
      refine SafeOps.quiet0 E_good rfl rfl rfl (v := V.ref [66, 0] 0 (rws (fun n => [V.int .i64 n]) x_834).length) (.fn rfl) ?_
      refine SafeOps.quiet0 E_good rfl rfl rfl (v := V.int .i64 x_835) (.fn rfl) ?_
      refine SafeOps.quiet0 E_good rfl rfl rfl (v := V.ref [66, 0] 0 (rws (fun n => [V.int .i64 n]) x_834).length) (.fn rfl) ?_
      refine SafeOps.quiet0 E_good rfl rfl rfl (v := V.int .i64 x_835) (.fn rfl) ?_
      refine SafeOps.nil ?_
      repeat (first | refine Safe.seq ?_ | refine Safe.skip ?_ | with_reducible refine thenQ.n ?_ | with_reducible refine blockQ.n ?_)
      refine Safe.region ?_
      refine SafeOps.quiet0 E_good rfl rfl rfl (v := V.int .i64 a3_602) (.fn rfl) ?_
      refine bindG h ?_
      rintro ⟨x_837, x_838⟩ he839 h
      refine SafeOps.quiet E_good rfl rfl rfl (v := V.tup [V.ref [71, 0] 0 (rws (fun n => [V.int .i64 n]) x_837).length, V.int .i64 x_838]) (.callP rfl rfl (go_ravelref01_New_sc a3_602 _ he839) rfl) rfl ?_
      refine SafeOps.quiet0 E_good rfl rfl rfl (v := V.tup [V.ref [71, 0] 0 (rws (fun n => [V.int .i64 n]) x_837).length, V.int .i64 x_838]) (.fn rfl) ?_
      refine SafeOps.quiet0 E_good rfl rfl rfl (v := V.ref [71, 0] 0 (rws (fun n => [V.int .i64 n]) x_837).length) (.fn rfl) ?_
      refine SafeOps.quiet0 E_good rfl rfl rfl (v := V.int .i64 x_838) (.fn rfl) ?_
      refine SafeOps.quiet0 E_good rfl rfl rfl (v := V.ref [71, 0] 0 (rws (fun n => [V.int .i64 n]) x_837).length) (.fn rfl) ?_
      refine SafeOps.quiet0 E_good rfl rfl rfl (v := V.int .i64 x_838) (.fn rfl) ?_
      refine SafeOps.nil ?_
      repeat (first | refine Safe.seq ?_ | refine Safe.skip ?_ | with_reducible refine thenQ.n ?_ | with_reducible refine blockQ.n ?_)
      refine Safe.region ?_
      refine SafeOps.quiet0 E_good rfl rfl rfl (v := V.ref [53, 0] 0 (rws (fun n => [V.int .i64 n]) x_826).length) (.fn rfl) ?_
      refine SafeOps.quiet0 E_good rfl rfl rfl (v := V.ref [60, 0] 0 (rws (fun n => [V.int .i64 n]) x_830).length) (.fn rfl) ?_
      refine bindG h ?_
      intro x_840 he841 h
      refine SafeOps.quiet0 E_good rfl rfl rfl (v := V.bool x_840) (.callS rfl (.cons (.full rfl rfl) (.cons (.full rfl rfl) .nil)) (go_ravelref01_Same_sc x_826 x_830 _ he841) (.plain rfl) rfl) ?_
      refine SafeOps.quiet0 E_good rfl rfl rfl (v := V.bool x_840) (.fn rfl) ?_
      refine SafeOps.bjoin 4 81 (b := (x_840 && (x_827 == x_831))) (b1 := (x_827 == x_831)) (b0 := false) (fun hc842 K => ?_) (fun hc842 K => ?_) bj_and ?_
      · skip
        refine SafeOps.quiet0 E_good (congrArg some hc842) rfl rfl (v := V.int .i64 x_827) (.fn rfl) ?_
        refine SafeOps.quiet0 E_good (congrArg some hc842) rfl rfl (v := V.int .i64 x_831) (.fn rfl) ?_
        refine SafeOps.quiet0 E_good (congrArg some hc842) rfl rfl (v := V.bool (x_827 == x_831)) (.fn rfl) ?_
        refine SafeOps.quiet0 E_good rfl rfl rfl (v := V.bool (x_827 == x_831)) (.pickK rfl hc842 rfl) ?_
        exact SafeOps.drop' 4 rfl rfl rfl K
      · skip
        refine SafeOps.skip (congrArg some hc842) rfl rfl ?_
        refine SafeOps.skip (congrArg some hc842) rfl rfl ?_
        refine SafeOps.skip (congrArg some hc842) rfl rfl ?_
        refine SafeOps.quiet0 E_good rfl rfl rfl (v := V.bool false) (.pickK rfl hc842 rfl) ?_
        exact SafeOps.drop' 4 rfl rfl rfl K
      refine SafeOps.quiet0 E_good rfl rfl rfl (v := V.bool (x_840 && (x_827 == x_831))) (.fn rfl) ?_
      refine SafeOps.bjoin 4 86 (b := ((x_840 && (x_827 == x_831)) && (x_828 == x_832))) (b1 := (x_828 == x_832)) (b0 := false) (fun hc843 K => ?_) (fun hc843 K => ?_) bj_and ?_
      · skip
        refine SafeOps.quiet0 E_good (congrArg some hc843) rfl rfl (v := V.int .i64 x_828) (.fn rfl) ?_
        refine SafeOps.quiet0 E_good (congrArg some hc843) rfl rfl (v := V.int .i64 x_832) (.fn rfl) ?_
        refine SafeOps.quiet0 E_good (congrArg some hc843) rfl rfl (v := V.bool (x_828 == x_832)) (.fn rfl) ?_
        refine SafeOps.quiet0 E_good rfl rfl rfl (v := V.bool (x_828 == x_832)) (.pickK rfl hc843 rfl) ?_
        exact SafeOps.drop' 4 rfl rfl rfl K
      · skip
        refine SafeOps.skip (congrArg some hc843) rfl rfl ?_
        refine SafeOps.skip (congrArg some hc843) rfl rfl ?_
        refine SafeOps.skip (congrArg some hc843) rfl rfl ?_
        refine SafeOps.quiet0 E_good rfl rfl rfl (v := V.bool false) (.pickK rfl hc843 rfl) ?_
        exact SafeOps.drop' 4 rfl rfl rfl K
      refine SafeOps.quiet0 E_good rfl rfl rfl (v := V.bool ((x_840 && (x_827 == x_831)) && (x_828 == x_832))) (.fn rfl) ?_
      refine SafeOps.bsplit 4 91 (fun b_847 => go_ravellaw01_CellDoes_j1 a0_599 a1_600 x_817 x_826 x_835 x_838 b_847 = some r) (fun HJ848 => ?_) (fun b_847 h => ?_)
      · refine ifG h (fun hc844 h => ?_) (fun hc844 h => ?_)
        · skip
          refine SafeOps.quiet0 E_good (congrArg some hc844) rfl rfl (v := V.ref [66, 0] 0 (rws (fun n => [V.int .i64 n]) x_834).length) (.fn rfl) ?_
          refine SafeOps.quiet0 E_good (congrArg some hc844) rfl rfl (v := V.ref [71, 0] 0 (rws (fun n => [V.int .i64 n]) x_837).length) (.fn rfl) ?_
          refine bindG h ?_
          intro x_896 he897 h
          refine SafeOps.quiet0 E_good (congrArg some hc844) rfl rfl (v := V.bool x_896) (.callS rfl (.cons (.full rfl rfl) (.cons (.full rfl rfl) .nil)) (go_ravelref01_Same_sc x_834 x_837 _ he897) (.plain rfl) rfl) ?_
          refine SafeOps.quiet0 E_good rfl rfl rfl (v := V.bool x_896) (.pickK rfl hc844 rfl) ?_
          exact SafeOps.drop' 4 rfl rfl rfl (HJ848 _ h)
        · skip
          refine SafeOps.skip (congrArg some hc844) rfl rfl ?_
          refine SafeOps.skip (congrArg some hc844) rfl rfl ?_
          refine SafeOps.skip (congrArg some hc844) rfl rfl ?_
          refine SafeOps.quiet0 E_good rfl rfl rfl (v := V.bool false) (.pickK rfl hc844 rfl) ?_
          exact SafeOps.drop' 4 rfl rfl rfl (HJ848 _ h)
      · replace h : go_ravellaw01_CellDoes_j1 a0_599 a1_600 x_817 x_826 x_835 x_838 b_847 = some r := h
        rw [go_ravellaw01_CellDoes_j1] at h
        refine SafeOps.quiet0 E_good rfl rfl rfl (v := V.bool b_847) (.fn rfl) ?_
        refine SafeOps.bjoin 4 96 (b := (b_847 && (x_835 == x_838))) (b1 := (x_835 == x_838)) (b0 := false) (fun hc849 K => ?_) (fun hc849 K => ?_) bj_and ?_
        · skip
          refine SafeOps.quiet0 E_good (congrArg some hc849) rfl rfl (v := V.int .i64 x_835) (.fn rfl) ?_
          refine SafeOps.quiet0 E_good (congrArg some hc849) rfl rfl (v := V.int .i64 x_838) (.fn rfl) ?_
          refine SafeOps.quiet0 E_good (congrArg some hc849) rfl rfl (v := V.bool (x_835 == x_838)) (.fn rfl) ?_
          refine SafeOps.quiet0 E_good rfl rfl rfl (v := V.bool (x_835 == x_838)) (.pickK rfl hc849 rfl) ?_
          exact SafeOps.drop' 4 rfl rfl rfl K
        · skip
          refine SafeOps.skip (congrArg some hc849) rfl rfl ?_
          refine SafeOps.skip (congrArg some hc849) rfl rfl ?_
          refine SafeOps.skip (congrArg some hc849) rfl rfl ?_
          refine SafeOps.quiet0 E_good rfl rfl rfl (v := V.bool false) (.pickK rfl hc849 rfl) ?_
          exact SafeOps.drop' 4 rfl rfl rfl K
        refine SafeOps.quiet0 E_good rfl rfl rfl (v := V.bool (b_847 && (x_835 == x_838))) (.fn rfl) ?_
        refine SafeOps.bjoin 6 103 (b := ((b_847 && (x_835 == x_838)) && ((go_cell_Check a0_599) == (go_ravelref01_Check a0_599)))) (b1 := ((go_cell_Check a0_599) == (go_ravelref01_Check a0_599))) (b0 := false) (fun hc850 K => ?_) (fun hc850 K => ?_) bj_and ?_
        · skip
          refine SafeOps.quiet0 E_good (congrArg some hc850) rfl rfl (v := V.sl 1 (rws (fun n => [V.int .i64 n]) a0_599)) (.fn rfl) ?_
          refine SafeOps.quiet0 E_good (congrArg some hc850) rfl rfl (v := V.int .i64 (go_cell_Check a0_599)) (.callP rfl rfl (go_cell_Check_sc a0_599 _ rfl) rfl) ?_
          refine SafeOps.quiet0 E_good (congrArg some hc850) rfl rfl (v := V.sl 1 (rws (fun n => [V.int .i64 n]) a0_599)) (.fn rfl) ?_
          refine SafeOps.quiet0 E_good (congrArg some hc850) rfl rfl (v := V.int .i64 (go_ravelref01_Check a0_599)) (.callP rfl rfl (go_ravelref01_Check_sc a0_599 _ rfl) rfl) ?_
          refine SafeOps.quiet0 E_good (congrArg some hc850) rfl rfl (v := V.bool ((go_cell_Check a0_599) == (go_ravelref01_Check a0_599))) (.fn rfl) ?_
          refine SafeOps.quiet0 E_good rfl rfl rfl (v := V.bool ((go_cell_Check a0_599) == (go_ravelref01_Check a0_599))) (.pickK rfl hc850 rfl) ?_
          exact SafeOps.drop' 6 rfl rfl rfl K
        · skip
          refine SafeOps.skip (congrArg some hc850) rfl rfl ?_
          refine SafeOps.skip (congrArg some hc850) rfl rfl ?_
          refine SafeOps.skip (congrArg some hc850) rfl rfl ?_
          refine SafeOps.skip (congrArg some hc850) rfl rfl ?_
          refine SafeOps.skip (congrArg some hc850) rfl rfl ?_
          refine SafeOps.quiet0 E_good rfl rfl rfl (v := V.bool false) (.pickK rfl hc850 rfl) ?_
          exact SafeOps.drop' 6 rfl rfl rfl K
        refine SafeOps.quiet0 E_good rfl rfl rfl (v := V.bool ((b_847 && (x_835 == x_838)) && ((go_cell_Check a0_599) == (go_ravelref01_Check a0_599)))) (.fn rfl) ?_
        refine SafeOps.bsplit 8 112 (fun b_856 => go_ravellaw01_CellDoes_j2 a0_599 x_817 x_826 b_856 = some r) (fun HJ857 => ?_) (fun b_856 h => ?_)
        · refine ifG h (fun hc851 h => ?_) (fun hc851 h => ?_)
          · skip
            refine SafeOps.quiet0 E_good (congrArg some hc851) rfl rfl (v := V.sl 1 (rws (fun n => [V.int .i64 n]) a0_599)) (.fn rfl) ?_
            refine SafeOps.quiet0 E_good (congrArg some hc851) rfl rfl (v := V.sl 1 (rws (fun n => [V.int .i64 n]) a1_600)) (.fn rfl) ?_
            refine bindG h ?_
            intro x_892 he893 h
            refine SafeOps.quiet0 E_good (congrArg some hc851) rfl rfl (v := V.bool x_892) (.callP rfl rfl (go_cell_Same_sc a0_599 a1_600 _ he893) rfl) ?_
            refine SafeOps.quiet0 E_good (congrArg some hc851) rfl rfl (v := V.sl 1 (rws (fun n => [V.int .i64 n]) a0_599)) (.fn rfl) ?_
            refine SafeOps.quiet0 E_good (congrArg some hc851) rfl rfl (v := V.sl 1 (rws (fun n => [V.int .i64 n]) a1_600)) (.fn rfl) ?_
            refine bindG h ?_
            intro x_894 he895 h
            refine SafeOps.quiet0 E_good (congrArg some hc851) rfl rfl (v := V.bool x_894) (.callP rfl rfl (go_ravelref01_Same_sc a0_599 a1_600 _ he895) rfl) ?_
            refine SafeOps.quiet0 E_good (congrArg some hc851) rfl rfl (v := V.bool (x_892 == x_894)) (.fn rfl) ?_
            refine SafeOps.quiet0 E_good rfl rfl rfl (v := V.bool (x_892 == x_894)) (.pickK rfl hc851 rfl) ?_
            exact SafeOps.drop' 8 rfl rfl rfl (HJ857 _ h)
          · skip
            refine SafeOps.skip (congrArg some hc851) rfl rfl ?_
            refine SafeOps.skip (congrArg some hc851) rfl rfl ?_
            refine SafeOps.skip (congrArg some hc851) rfl rfl ?_
            refine SafeOps.skip (congrArg some hc851) rfl rfl ?_
            refine SafeOps.skip (congrArg some hc851) rfl rfl ?_
            refine SafeOps.skip (congrArg some hc851) rfl rfl ?_
            refine SafeOps.skip (congrArg some hc851) rfl rfl ?_
            refine SafeOps.quiet0 E_good rfl rfl rfl (v := V.bool false) (.pickK rfl hc851 rfl) ?_
            exact SafeOps.drop' 8 rfl rfl rfl (HJ857 _ h)
        · replace h : go_ravellaw01_CellDoes_j2 a0_599 x_817 x_826 b_856 = some r := h
          rw [go_ravellaw01_CellDoes_j2] at h
          refine SafeOps.quiet0 E_good rfl rfl rfl (v := V.bool b_856) (.fn rfl) ?_
          refine SafeOps.nil ?_
          repeat (first | refine Safe.seq ?_ | refine Safe.skip ?_ | with_reducible refine thenQ.n ?_ | with_reducible refine blockQ.n ?_)
          refine Safe.region ?_
          refine SafeOps.quiet0 E_good rfl rfl rfl (v := V.ref [53, 0] 0 (rws (fun n => [V.int .i64 n]) x_826).length) (.fn rfl) ?_
          refine SafeOps.quiet0 E_good rfl rfl rfl (v := V.int .i64 (x_826.length : Int)) (.fnE rfl lenE) ?_
          refine SafeOps.quiet0 E_good rfl rfl rfl (v := V.int .i64 0) (.fn rfl) ?_
          refine SafeOps.nil ?_
          repeat (first | refine Safe.seq ?_ | refine Safe.skip ?_ | with_reducible refine thenQ.n ?_ | with_reducible refine blockQ.n ?_)
          refine Safe.block ?_
          repeat (first | refine Safe.seq ?_ | refine Safe.skip ?_ | with_reducible refine thenQ.n ?_ | with_reducible refine blockQ.n ?_)
          refine Safe.loopW (fun ((v11_880, v115_881) : (List Int) × Int) => ⟨Try.f6.ntmps, [(0, V.sl 1 (rws (fun n => [V.int .i64 n]) a0_599)), (9, V.bool x_817), (10, V.ref [49] 0 (rws (fun n => [V.int .i64 n]) ([] ++ a0_599)).length), (11, V.ref [53, 0] 0 (rws (fun n => [V.int .i64 n]) v11_880).length), (21, V.bool b_856), (114, V.int .i64 (x_826.length : Int)), (115, V.int .i64 v115_881)], [([49], Obj.rows 1 (rws (fun n => [V.int .i64 n]) ([] ++ a0_599)) false), ([53, 0], Obj.rows 1 (rws (fun n => [V.int .i64 n]) v11_880) false)], [], []⟩) h (.cov ⟨rfl, rfl, (upT_cons (.refl _) (upT_cons (.refl _) (upT_cons (.refl _) (upT_cons (.refl _) (upT_cons (.refl _) (upT_cons (.refl _) (upT_cons (.refl _) upT_nil))))))), (upOb_cons rfl (.refl _) (upOb_cons rfl (.refl _) upOb_nil)), upOut_nil, rfl⟩) ?_
          rintro ⟨v11_880, v115_881⟩ ohr882 h hr882
          replace h : go_ravellaw01_CellDoes_s4 a0_599 x_817 x_826 b_856 (v11_880, v115_881) = some ohr882 := h
          rw [go_ravellaw01_CellDoes_s4] at h
          repeat (first | refine Safe.seq ?_ | refine Safe.skip ?_ | with_reducible refine thenQ.n ?_ | with_reducible refine blockQ.n ?_)
          refine Safe.region ?_
          refine SafeOps.quiet0 E_good rfl rfl rfl (v := V.bool (decide (v115_881 < (x_826.length : Int)))) (.fn rfl) ?_
          refine SafeOps.nil ?_
          repeat (first | refine Safe.seq ?_ | refine Safe.skip ?_ | with_reducible refine thenQ.n ?_ | with_reducible refine blockQ.n ?_)
          refine ifG h (fun hc883 h => ?_) (fun hc883 h => ?_)
          · skip
            refine Safe.condK rfl hc883 ?_
            repeat (first | refine Safe.seq ?_ | refine Safe.skip ?_ | with_reducible refine thenQ.n ?_ | with_reducible refine blockQ.n ?_)
            refine Safe.block ?_
            repeat (first | refine Safe.seq ?_ | refine Safe.skip ?_ | with_reducible refine thenQ.n ?_ | with_reducible refine blockQ.n ?_)
            refine Safe.region ?_
            refine SafeOps.quiet0 E_good rfl rfl rfl (v := V.int .i64 v115_881) (.fn rfl) ?_
            refine SafeOps.quiet0 E_good rfl rfl rfl (v := V.int .i64 v115_881) (.fn rfl) ?_
            refine SafeOps.nil ?_
            repeat (first | refine Safe.seq ?_ | refine Safe.skip ?_ | with_reducible refine thenQ.n ?_ | with_reducible refine blockQ.n ?_)
            refine Safe.region ?_
            refine SafeOps.quiet0 E_good rfl rfl rfl (v := V.ref [53, 0] 0 (rws (fun n => [V.int .i64 n]) v11_880).length) (.fn rfl) ?_
            refine SafeOps.quiet0 E_good rfl rfl rfl (v := V.int .i64 v115_881) (.fn rfl) ?_
            refine okG h (fun hb884 h => ?_)
            refine SafeOps.quiet0 E_good rfl rfl rfl (v := V.ptr [53, 0] (0 + Int.toNat v115_881) 0) (.idxRefM (f := (fun n => [V.int .i64 n])) (xs := v11_880) rfl rfl rfl rfl rfl rfl hb884) ?_
            refine SafeOps.quiet0 E_good rfl rfl rfl (v := V.int .i64 (gt v11_880 v115_881)) (.load rfl rfl (.rowsM (f := (fun n => [V.int .i64 n])) (xs := v11_880) hb884 rfl rfl) rfl) ?_
            refine SafeOps.quiet0 E_good rfl rfl rfl (v := V.int .i64 (IntKind.i64.wrap ((gt v11_880 v115_881) + 1))) (.fn rfl) ?_
            refine okG h (fun hb885 h => ?_)
            refine SafeOps.quiet0 E_good rfl rfl rfl (v := V.ptr [53, 0] (0 + Int.toNat v115_881) 0) (.idxRefM (f := (fun n => [V.int .i64 n])) (xs := v11_880) rfl rfl rfl rfl rfl rfl hb885) ?_
            refine SafeOps.store (z := Obj.rows 1 (rws (fun n => [V.int .i64 n]) (st v11_880 v115_881 (IntKind.i64.wrap ((gt v11_880 v115_881) + 1)))) false) E_good rfl rfl rfl rfl rfl rfl rfl (.rowsM (f := (fun n => [V.int .i64 n])) (xs := v11_880) (y := IntKind.i64.wrap ((gt v11_880 v115_881) + 1)) hb885 rfl rfl rfl rfl) ?_
            refine SafeOps.see 11 (u := V.ref [53, 0] 0 (rws (fun n => [V.int .i64 n]) (st v11_880 v115_881 (IntKind.i64.wrap ((gt v11_880 v115_881) + 1)))).length) rfl (.len (by simp [rws, st])) ?_
            refine SafeOps.see 118 (u := V.ref [53, 0] 0 (rws (fun n => [V.int .i64 n]) (st v11_880 v115_881 (IntKind.i64.wrap ((gt v11_880 v115_881) + 1)))).length) rfl (.len (by simp [rws, st])) ?_
            refine SafeOps.nil ?_
            repeat (first | refine Safe.seq ?_ | refine Safe.skip ?_ | with_reducible refine thenQ.n ?_ | with_reducible refine blockQ.n ?_)
            refine Safe.region ?_
            refine SafeOps.quiet0 E_good rfl rfl rfl (v := V.int .i64 (IntKind.i64.wrap (v115_881 + 1))) (.fn rfl) ?_
            refine SafeOps.quiet0 E_good rfl rfl rfl (v := V.int .i64 (IntKind.i64.wrap (v115_881 + 1))) (.fn rfl) ?_
            refine SafeOps.nil ?_
            repeat (first | refine Safe.seq ?_ | refine Safe.skip ?_ | with_reducible refine thenQ.n ?_ | with_reducible refine blockQ.n ?_)
            exact ⟨_, next_out h, (.cov ⟨rfl, rfl, (upT_cons (.refl _) (upT_cons (.refl _) (upT_cons (.refl _) (upT_cons (.refl _) (upT_cons (.refl _) (upT_cons (.refl _) (upT_cons (.refl _) upT_nil))))))), (upOb_cons rfl (.refl _) (upOb_cons rfl (.refl _) upOb_nil)), upOut_nil, rfl⟩)⟩
          · skip
            refine Safe.condN rfl hc883 ?_
            repeat (first | refine Safe.seq ?_ | refine Safe.skip ?_ | with_reducible refine thenQ.n ?_ | with_reducible refine blockQ.n ?_)
            refine Safe.exit ?_
            repeat (first | with_reducible refine thenQ.e ?_ | with_reducible refine blockQ.x rfl ?_ | with_reducible refine blockQ.y rfl ?_)
            replace h := inr_out h hr882
            repeat (first | refine Safe.seq ?_ | refine Safe.skip ?_ | with_reducible refine thenQ.n ?_ | with_reducible refine blockQ.n ?_)
            refine Safe.region ?_
            refine SafeOps.quiet0 E_good rfl rfl rfl (v := V.bool x_817) (.fn rfl) ?_
            refine SafeOps.quiet0 E_good rfl rfl rfl (v := V.bool x_817) (.fn rfl) ?_
            refine SafeOps.bjoin 2 128 (b := (x_817 && b_856)) (b1 := b_856) (b0 := false) (fun hc886 K => ?_) (fun hc886 K => ?_) bj_and ?_
            · skip
              refine SafeOps.quiet0 E_good (congrArg some hc886) rfl rfl (v := V.bool b_856) (.fn rfl) ?_
              refine SafeOps.quiet0 E_good rfl rfl rfl (v := V.bool b_856) (.pickK rfl hc886 rfl) ?_
              exact SafeOps.drop' 2 rfl rfl rfl K
            · skip
              refine SafeOps.skip (congrArg some hc886) rfl rfl ?_
              refine SafeOps.quiet0 E_good rfl rfl rfl (v := V.bool false) (.pickK rfl hc886 rfl) ?_
              exact SafeOps.drop' 2 rfl rfl rfl K
            refine SafeOps.quiet0 E_good rfl rfl rfl (v := V.bool (x_817 && b_856)) (.fn rfl) ?_
            refine ifG h (fun hc887 h => ?_) (fun hc887 h => ?_)
            · skip
              refine SafeOps.quiet0 E_good (congrArg some hc887) rfl rfl (v := V.sl 1 (rws (fun n => [V.int .i64 n]) a0_599)) (.fn rfl) ?_
              refine SafeOps.quiet0 E_good (congrArg some hc887) rfl rfl (v := V.ref [49] 0 (rws (fun n => [V.int .i64 n]) ([] ++ a0_599)).length) (.fn rfl) ?_
              refine bindG h ?_
              intro x_890 he891 h
              refine SafeOps.quiet0 E_good (congrArg some hc887) rfl rfl (v := V.bool x_890) (.callS rfl (.cons (.free rfl) (.cons (.full rfl rfl) .nil)) (go_ravelref01_Same_sc a0_599 ([] ++ a0_599) _ he891) (.plain rfl) rfl) ?_
              refine SafeOps.quiet0 E_good rfl rfl rfl (v := V.bool x_890) (.pickK rfl hc887 rfl) ?_
              refine SafeOps.quiet0 E_good rfl rfl rfl (v := V.bool x_890) (.fn rfl) ?_
              refine SafeOps.nil ?_
              repeat (first | refine Safe.seq ?_ | refine Safe.skip ?_ | with_reducible refine thenQ.n ?_ | with_reducible refine blockQ.n ?_)
              refine Safe.ret ?_
              repeat (first | with_reducible refine thenQ.r ?_ | with_reducible refine blockQ.r ?_)
              obtain rfl := Option.some.inj h
              exact retQ.gen (vs := [V.bool x_890]) rfl (.tmp (v := V.bool x_890) rfl .nil) (.free rfl) (by simp) (.inr rfl)
            · skip
              refine SafeOps.skip (congrArg some hc887) rfl rfl ?_
              refine SafeOps.skip (congrArg some hc887) rfl rfl ?_
              refine SafeOps.skip (congrArg some hc887) rfl rfl ?_
              refine SafeOps.quiet0 E_good rfl rfl rfl (v := V.bool false) (.pickK rfl hc887 rfl) ?_
              refine SafeOps.quiet0 E_good rfl rfl rfl (v := V.bool false) (.fn rfl) ?_
              refine SafeOps.nil ?_
              repeat (first | refine Safe.seq ?_ | refine Safe.skip ?_ | with_reducible refine thenQ.n ?_ | with_reducible refine blockQ.n ?_)
              refine Safe.ret ?_
              repeat (first | with_reducible refine thenQ.r ?_ | with_reducible refine blockQ.r ?_)
              obtain rfl := Option.some.inj h
              exact retQ.gen (vs := [V.bool false]) rfl (.tmp (v := V.bool false) rfl .nil) (.free rfl) (by simp) (.inr rfl)
end Go.Proofs.Ytgbolkdlghenfaa
