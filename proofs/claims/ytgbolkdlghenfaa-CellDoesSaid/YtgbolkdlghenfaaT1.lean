/- Helper lemmas for the claim's theorem: an abstract machine over the model, proved sound; no condition beyond each lemma's own. -/
import Derived.Test.YtgbolkdlghenfaaT0
set_option linter.unusedVariables false
set_option linter.unusedSimpArgs false
set_option linter.unnecessarySimpa false
set_option linter.unusedSectionVars false
namespace Go.Proofs.Ytgbolkdlghenfaa
open Go Go.AM
set_option maxRecDepth 100000
set_option maxHeartbeats 1000000
set_option linter.unusedVariables false
set_option linter.unusedSimpArgs false
variable {gl : List (Nat × List V)}
noncomputable def go_ravellaw01_CellBack (a0_438 : List Int) (a1_439 : Int) (a2_440 : Int) (a3_441 : Int) (a4_442 : Int) : Option Bool :=
  (go_ravellaw01_live).bind fun x_542 =>
  if (!x_542) = true then
    some false
  else
    if (decide ((a0_438.length : Int) > 300)) = true then
      some x_542
    else
      (go_cell_Load a0_438 a1_439).bind fun (x_546, x_547) =>
      (go_cell_Store a0_438 a1_439 a3_441).bind fun (x_549, x_550) =>
      if ((x_547 != 0) || (x_550 != 0)) = true then
        some ((x_542 && (x_547 == x_550)) && ((decide (a1_439 < 0)) || (decide (a1_439 ≥ (a0_438.length : Int)))))
      else
        (go_cell_Load x_549 a1_439).bind fun (x_560, x_561) =>
        (go_cell_Store x_549 a1_439 x_546).bind fun (x_563, x_564) =>
        if (((x_561 != 0) || (x_564 != 0)) || (x_560 != a3_441)) = true then
          some false
        else
          (go_cell_Same x_563 a0_438).bind fun x_571 =>
          if (!x_571) = true then
            some false
          else
            (go_cell_Store x_549 a2_440 a4_442).bind fun (x_574, x_575) =>
            (go_cell_Store a0_438 a2_440 a4_442).bind fun (x_577, x_578) =>
            if ((x_575 != 0) || (x_578 != 0)) = true then
              some (x_542 && (x_575 == x_578))
            else
              (go_cell_Store x_577 a1_439 a3_441).bind fun (x_584, x_585) =>
              if (x_542 && (x_585 == 0)) = true then
                if (a1_439 == a2_440) = true then
                  some true
                else
                  (go_cell_Same x_574 x_584).bind fun x_597 =>
                  some x_597
              else
                some false

theorem go_ravellaw01_CellBack_sc (a0_438 : List Int) (a1_439 : Int) (a2_440 : Int) (a3_441 : Int) (a4_442 : Int) (r : Bool) (h : go_ravellaw01_CellBack a0_438 a1_439 a2_440 a3_441 a4_442 = some r) : SC Try.prog gl 4 [V.sl 1 (rws (fun n => [V.int .i64 n]) a0_438), V.int .i64 a1_439, V.int .i64 a2_440, V.int .i64 a3_441, V.int .i64 a4_442] (V.bool r) := by
  rw [go_ravellaw01_CellBack] at h
  refine SC.of E_good Try.func4 rfl (fun _ _ => Try.call4 _ _) rfl ?_
  repeat (first | refine Safe.seq ?_ | refine Safe.skip ?_ | with_reducible refine thenQ.n ?_ | with_reducible refine blockQ.n ?_)
  refine Safe.region ?_
  refine SafeOps.quiet0 E_good rfl rfl rfl (v := V.bool false) (.fn rfl) ?_
  refine SafeOps.nil ?_
  repeat (first | refine Safe.seq ?_ | refine Safe.skip ?_ | with_reducible refine thenQ.n ?_ | with_reducible refine blockQ.n ?_)
  refine Safe.region ?_
  refine bindG h ?_
  intro x_542 he543 h
  refine SafeOps.quiet0 E_good rfl rfl rfl (v := V.bool x_542) (.callP rfl rfl (go_ravellaw01_live_sc  _ he543) rfl) ?_
  refine SafeOps.quiet0 E_good rfl rfl rfl (v := V.bool x_542) (.fn rfl) ?_
  refine SafeOps.nil ?_
  repeat (first | refine Safe.seq ?_ | refine Safe.skip ?_ | with_reducible refine thenQ.n ?_ | with_reducible refine blockQ.n ?_)
  refine Safe.region ?_
  refine SafeOps.quiet0 E_good rfl rfl rfl (v := V.bool x_542) (.fn rfl) ?_
  refine SafeOps.quiet0 E_good rfl rfl rfl (v := V.bool (!x_542)) (.fn rfl) ?_
  refine SafeOps.nil ?_
  repeat (first | refine Safe.seq ?_ | refine Safe.skip ?_ | with_reducible refine thenQ.n ?_ | with_reducible refine blockQ.n ?_)
  refine ifG h (fun hc544 h => ?_) (fun hc544 h => ?_)
  · skip
    refine Safe.condK rfl hc544 ?_
    repeat (first | refine Safe.seq ?_ | refine Safe.skip ?_ | with_reducible refine thenQ.n ?_ | with_reducible refine blockQ.n ?_)
    refine Safe.region ?_
    refine SafeOps.quiet0 E_good rfl rfl rfl (v := V.bool false) (.fn rfl) ?_
    refine SafeOps.nil ?_
    repeat (first | refine Safe.seq ?_ | refine Safe.skip ?_ | with_reducible refine thenQ.n ?_ | with_reducible refine blockQ.n ?_)
    refine Safe.ret ?_
    repeat (first | with_reducible refine thenQ.r ?_ | with_reducible refine blockQ.r ?_)
    obtain rfl := Option.some.inj h
    exact retQ.gen (vs := [V.bool false]) rfl (.tmp (v := V.bool false) rfl .nil) (.free rfl) (by simp) (.inr rfl)
  · skip
    refine Safe.condN rfl hc544 ?_
    repeat (first | refine Safe.seq ?_ | refine Safe.skip ?_ | with_reducible refine thenQ.n ?_ | with_reducible refine blockQ.n ?_)
    refine Safe.region ?_
    refine SafeOps.quiet0 E_good rfl rfl rfl (v := V.sl 1 (rws (fun n => [V.int .i64 n]) a0_438)) (.fn rfl) ?_
    refine SafeOps.quiet0 E_good rfl rfl rfl (v := V.int .i64 (a0_438.length : Int)) (.fnE rfl lenE) ?_
    refine SafeOps.quiet0 E_good rfl rfl rfl (v := V.bool (decide ((a0_438.length : Int) > 300))) (.fn rfl) ?_
    refine SafeOps.nil ?_
    repeat (first | refine Safe.seq ?_ | refine Safe.skip ?_ | with_reducible refine thenQ.n ?_ | with_reducible refine blockQ.n ?_)
    refine ifG h (fun hc545 h => ?_) (fun hc545 h => ?_)
    · skip
      refine Safe.condK rfl hc545 ?_
      repeat (first | refine Safe.seq ?_ | refine Safe.skip ?_ | with_reducible refine thenQ.n ?_ | with_reducible refine blockQ.n ?_)
      refine Safe.region ?_
      refine SafeOps.quiet0 E_good rfl rfl rfl (v := V.bool x_542) (.fn rfl) ?_
      refine SafeOps.quiet0 E_good rfl rfl rfl (v := V.bool x_542) (.fn rfl) ?_
      refine SafeOps.nil ?_
      repeat (first | refine Safe.seq ?_ | refine Safe.skip ?_ | with_reducible refine thenQ.n ?_ | with_reducible refine blockQ.n ?_)
      refine Safe.ret ?_
      repeat (first | with_reducible refine thenQ.r ?_ | with_reducible refine blockQ.r ?_)
      obtain rfl := Option.some.inj h
      exact retQ.gen (vs := [V.bool x_542]) rfl (.tmp (v := V.bool x_542) rfl .nil) (.free rfl) (by simp) (.inr rfl)
    · skip
      refine Safe.condN rfl hc545 ?_
      repeat (first | refine Safe.seq ?_ | refine Safe.skip ?_ | with_reducible refine thenQ.n ?_ | with_reducible refine blockQ.n ?_)
      refine Safe.region ?_
      refine SafeOps.quiet0 E_good rfl rfl rfl (v := V.sl 1 (rws (fun n => [V.int .i64 n]) a0_438)) (.fn rfl) ?_
      refine SafeOps.quiet0 E_good rfl rfl rfl (v := V.int .i64 a1_439) (.fn rfl) ?_
      refine bindG h ?_
      rintro ⟨x_546, x_547⟩ he548 h
      refine SafeOps.quiet0 E_good rfl rfl rfl (v := V.tup [V.int .i64 x_546, V.int .i64 x_547]) (.callP rfl rfl (go_cell_Load_sc a0_438 a1_439 _ he548) rfl) ?_
      refine SafeOps.quiet0 E_good rfl rfl rfl (v := V.tup [V.int .i64 x_546, V.int .i64 x_547]) (.fn rfl) ?_
      refine SafeOps.quiet0 E_good rfl rfl rfl (v := V.int .i64 x_546) (.fn rfl) ?_
      refine SafeOps.quiet0 E_good rfl rfl rfl (v := V.int .i64 x_547) (.fn rfl) ?_
      refine SafeOps.quiet0 E_good rfl rfl rfl (v := V.int .i64 x_546) (.fn rfl) ?_
      refine SafeOps.quiet0 E_good rfl rfl rfl (v := V.int .i64 x_547) (.fn rfl) ?_
      refine SafeOps.nil ?_
      repeat (first | refine Safe.seq ?_ | refine Safe.skip ?_ | with_reducible refine thenQ.n ?_ | with_reducible refine blockQ.n ?_)
      refine Safe.region ?_
      refine SafeOps.quiet0 E_good rfl rfl rfl (v := V.sl 1 (rws (fun n => [V.int .i64 n]) a0_438)) (.fn rfl) ?_
      refine SafeOps.quiet0 E_good rfl rfl rfl (v := V.int .i64 a1_439) (.fn rfl) ?_
      refine SafeOps.quiet0 E_good rfl rfl rfl (v := V.int .i64 a3_441) (.fn rfl) ?_
      refine bindG h ?_
      rintro ⟨x_549, x_550⟩ he551 h
      refine SafeOps.quiet E_good rfl rfl rfl (v := V.tup [V.ref [43, 0] 0 (rws (fun n => [V.int .i64 n]) x_549).length, V.int .i64 x_550]) (.callP rfl rfl (go_cell_Store_sc a0_438 a1_439 a3_441 _ he551) rfl) rfl ?_
      refine SafeOps.quiet0 E_good rfl rfl rfl (v := V.tup [V.ref [43, 0] 0 (rws (fun n => [V.int .i64 n]) x_549).length, V.int .i64 x_550]) (.fn rfl) ?_
      refine SafeOps.quiet0 E_good rfl rfl rfl (v := V.ref [43, 0] 0 (rws (fun n => [V.int .i64 n]) x_549).length) (.fn rfl) ?_
      refine SafeOps.quiet0 E_good rfl rfl rfl (v := V.int .i64 x_550) (.fn rfl) ?_
      refine SafeOps.quiet0 E_good rfl rfl rfl (v := V.ref [43, 0] 0 (rws (fun n => [V.int .i64 n]) x_549).length) (.fn rfl) ?_
      refine SafeOps.quiet0 E_good rfl rfl rfl (v := V.int .i64 x_550) (.fn rfl) ?_
      refine SafeOps.nil ?_
      repeat (first | refine Safe.seq ?_ | refine Safe.skip ?_ | with_reducible refine thenQ.n ?_ | with_reducible refine blockQ.n ?_)
      refine Safe.region ?_
      refine SafeOps.quiet0 E_good rfl rfl rfl (v := V.int .i64 x_547) (.fn rfl) ?_
      refine SafeOps.quiet0 E_good rfl rfl rfl (v := V.bool (x_547 != 0)) (.fn rfl) ?_
      refine SafeOps.quiet0 E_good rfl rfl rfl (v := V.bool (x_547 != 0)) (.fn rfl) ?_
      refine SafeOps.bjoin 3 51 (b := ((x_547 != 0) || (x_550 != 0))) (b1 := true) (b0 := (x_550 != 0)) (fun hc552 K => ?_) (fun hc552 K => ?_) bj_or ?_
      · skip
        refine SafeOps.skip (congrArg (fun b => some (!b)) hc552) rfl rfl ?_
        refine SafeOps.skip (congrArg (fun b => some (!b)) hc552) rfl rfl ?_
        refine SafeOps.quiet0 E_good rfl rfl rfl (v := V.bool true) (.pickK rfl hc552 rfl) ?_
        exact SafeOps.drop' 3 rfl rfl rfl K
      · skip
        refine SafeOps.quiet0 E_good (congrArg (fun b => some (!b)) hc552) rfl rfl (v := V.int .i64 x_550) (.fn rfl) ?_
        refine SafeOps.quiet0 E_good (congrArg (fun b => some (!b)) hc552) rfl rfl (v := V.bool (x_550 != 0)) (.fn rfl) ?_
        refine SafeOps.quiet0 E_good rfl rfl rfl (v := V.bool (x_550 != 0)) (.pickK rfl hc552 rfl) ?_
        exact SafeOps.drop' 3 rfl rfl rfl K
      refine SafeOps.nil ?_
      repeat (first | refine Safe.seq ?_ | refine Safe.skip ?_ | with_reducible refine thenQ.n ?_ | with_reducible refine blockQ.n ?_)
      refine ifG h (fun hc556 h => ?_) (fun hc556 h => ?_)
      · skip
        refine Safe.condK rfl hc556 ?_
        repeat (first | refine Safe.seq ?_ | refine Safe.skip ?_ | with_reducible refine thenQ.n ?_ | with_reducible refine blockQ.n ?_)
        refine Safe.region ?_
        refine SafeOps.quiet0 E_good rfl rfl rfl (v := V.bool x_542) (.fn rfl) ?_
        refine SafeOps.quiet0 E_good rfl rfl rfl (v := V.bool x_542) (.fn rfl) ?_
        refine SafeOps.bjoin 4 57 (b := (x_542 && (x_547 == x_550))) (b1 := (x_547 == x_550)) (b0 := false) (fun hc557 K => ?_) (fun hc557 K => ?_) bj_and ?_
        · skip
          refine SafeOps.quiet0 E_good (congrArg some hc557) rfl rfl (v := V.int .i64 x_547) (.fn rfl) ?_
          refine SafeOps.quiet0 E_good (congrArg some hc557) rfl rfl (v := V.int .i64 x_550) (.fn rfl) ?_
          refine SafeOps.quiet0 E_good (congrArg some hc557) rfl rfl (v := V.bool (x_547 == x_550)) (.fn rfl) ?_
          refine SafeOps.quiet0 E_good rfl rfl rfl (v := V.bool (x_547 == x_550)) (.pickK rfl hc557 rfl) ?_
          exact SafeOps.drop' 4 rfl rfl rfl K
        · skip
          refine SafeOps.skip (congrArg some hc557) rfl rfl ?_
          refine SafeOps.skip (congrArg some hc557) rfl rfl ?_
          refine SafeOps.skip (congrArg some hc557) rfl rfl ?_
          refine SafeOps.quiet0 E_good rfl rfl rfl (v := V.bool false) (.pickK rfl hc557 rfl) ?_
          exact SafeOps.drop' 4 rfl rfl rfl K
        refine SafeOps.quiet0 E_good rfl rfl rfl (v := V.bool (x_542 && (x_547 == x_550))) (.fn rfl) ?_
        refine SafeOps.bjoin 9 67 (b := ((x_542 && (x_547 == x_550)) && ((decide (a1_439 < 0)) || (decide (a1_439 ≥ (a0_438.length : Int)))))) (b1 := ((decide (a1_439 < 0)) || (decide (a1_439 ≥ (a0_438.length : Int))))) (b0 := false) (fun hc558 K => ?_) (fun hc558 K => ?_) bj_and ?_
        · skip
          refine SafeOps.quiet0 E_good (congrArg some hc558) rfl rfl (v := V.int .i64 a1_439) (.fn rfl) ?_
          refine SafeOps.quiet0 E_good (congrArg some hc558) rfl rfl (v := V.bool (decide (a1_439 < 0))) (.fn rfl) ?_
          refine SafeOps.quiet0 E_good (congrArg some hc558) rfl rfl (v := V.bool (decide (a1_439 < 0))) (.fn rfl) ?_
          refine SafeOps.bjoin 5 66 (b := ((decide (a1_439 < 0)) || (decide (a1_439 ≥ (a0_438.length : Int))))) (b1 := true) (b0 := decide (a1_439 ≥ (a0_438.length : Int))) (fun hc559 K => ?_) (fun hc559 K => ?_) bj_or ?_
          · skip
            refine SafeOps.skip (congrArg (fun b => some (!b)) hc559) rfl rfl ?_
            refine SafeOps.skip (congrArg (fun b => some (!b)) hc559) rfl rfl ?_
            refine SafeOps.skip (congrArg (fun b => some (!b)) hc559) rfl rfl ?_
            refine SafeOps.skip (congrArg (fun b => some (!b)) hc559) rfl rfl ?_
            refine SafeOps.quiet0 E_good (congrArg some hc558) rfl rfl (v := V.bool true) (.pickK rfl hc559 rfl) ?_
            exact SafeOps.drop' 5 rfl rfl rfl K
          · skip
            refine SafeOps.quiet0 E_good (congrArg (fun b => some (!b)) hc559) rfl rfl (v := V.int .i64 a1_439) (.fn rfl) ?_
            refine SafeOps.quiet0 E_good (congrArg (fun b => some (!b)) hc559) rfl rfl (v := V.sl 1 (rws (fun n => [V.int .i64 n]) a0_438)) (.fn rfl) ?_
            refine SafeOps.quiet0 E_good (congrArg (fun b => some (!b)) hc559) rfl rfl (v := V.int .i64 (a0_438.length : Int)) (.fnE rfl lenE) ?_
            refine SafeOps.quiet0 E_good (congrArg (fun b => some (!b)) hc559) rfl rfl (v := V.bool (decide (a1_439 ≥ (a0_438.length : Int)))) (.fn rfl) ?_
            refine SafeOps.quiet0 E_good (congrArg some hc558) rfl rfl (v := V.bool (decide (a1_439 ≥ (a0_438.length : Int)))) (.pickK rfl hc559 rfl) ?_
            exact SafeOps.drop' 5 rfl rfl rfl K
          refine SafeOps.quiet0 E_good rfl rfl rfl (v := V.bool ((decide (a1_439 < 0)) || (decide (a1_439 ≥ (a0_438.length : Int))))) (.pickK rfl hc558 rfl) ?_
          exact SafeOps.drop' 5 rfl rfl rfl K
        · skip
          refine SafeOps.skip (congrArg some hc558) rfl rfl ?_
          refine SafeOps.skip (congrArg some hc558) rfl rfl ?_
          refine SafeOps.skip (congrArg some hc558) rfl rfl ?_
          refine SafeOps.skip rfl rfl rfl ?_
          refine SafeOps.skip rfl rfl rfl ?_
          refine SafeOps.skip rfl rfl rfl ?_
          refine SafeOps.skip rfl rfl rfl ?_
          refine SafeOps.skip (congrArg some hc558) rfl rfl ?_
          refine SafeOps.quiet0 E_good rfl rfl rfl (v := V.bool false) (.pickK rfl hc558 rfl) ?_
          exact SafeOps.drop' 9 rfl rfl rfl K
        refine SafeOps.quiet0 E_good rfl rfl rfl (v := V.bool ((x_542 && (x_547 == x_550)) && ((decide (a1_439 < 0)) || (decide (a1_439 ≥ (a0_438.length : Int)))))) (.fn rfl) ?_
        refine SafeOps.nil ?_
        repeat (first | refine Safe.seq ?_ | refine Safe.skip ?_ | with_reducible refine thenQ.n ?_ | with_reducible refine blockQ.n ?_)
        refine Safe.ret ?_
        repeat (first | with_reducible refine thenQ.r ?_ | with_reducible refine blockQ.r ?_)
        obtain rfl := Option.some.inj h
        exact retQ.gen (vs := [V.bool ((x_542 && (x_547 == x_550)) && ((decide (a1_439 < 0)) || (decide (a1_439 ≥ (a0_438.length : Int)))))]) rfl (.tmp (v := V.bool ((x_542 && (x_547 == x_550)) && ((decide (a1_439 < 0)) || (decide (a1_439 ≥ (a0_438.length : Int)))))) rfl .nil) (.free rfl) (by simp) (.inr rfl)
      · skip
        refine Safe.condN rfl hc556 ?_
        repeat (first | refine Safe.seq ?_ | refine Safe.skip ?_ | with_reducible refine thenQ.n ?_ | with_reducible refine blockQ.n ?_)
        refine Safe.region ?_
        refine SafeOps.quiet0 E_good rfl rfl rfl (v := V.ref [43, 0] 0 (rws (fun n => [V.int .i64 n]) x_549).length) (.fn rfl) ?_
        refine SafeOps.quiet0 E_good rfl rfl rfl (v := V.int .i64 a1_439) (.fn rfl) ?_
        refine bindG h ?_
        rintro ⟨x_560, x_561⟩ he562 h
        refine SafeOps.quiet0 E_good rfl rfl rfl (v := V.tup [V.int .i64 x_560, V.int .i64 x_561]) (.callS rfl (.cons (.full rfl rfl) (.cons (.free rfl) .nil)) (go_cell_Load_sc x_549 a1_439 _ he562) (.tupL (.cons (.plain rfl) (.cons (.plain rfl) .nil))) rfl) ?_
        refine SafeOps.quiet0 E_good rfl rfl rfl (v := V.tup [V.int .i64 x_560, V.int .i64 x_561]) (.fn rfl) ?_
        refine SafeOps.quiet0 E_good rfl rfl rfl (v := V.int .i64 x_560) (.fn rfl) ?_
        refine SafeOps.quiet0 E_good rfl rfl rfl (v := V.int .i64 x_561) (.fn rfl) ?_
        refine SafeOps.quiet0 E_good rfl rfl rfl (v := V.int .i64 x_560) (.fn rfl) ?_
        refine SafeOps.quiet0 E_good rfl rfl rfl (v := V.int .i64 x_561) (.fn rfl) ?_
        refine SafeOps.nil ?_
        repeat (first | refine Safe.seq ?_ | refine Safe.skip ?_ | with_reducible refine thenQ.n ?_ | with_reducible refine blockQ.n ?_)
        refine Safe.region ?_
        refine SafeOps.quiet0 E_good rfl rfl rfl (v := V.ref [43, 0] 0 (rws (fun n => [V.int .i64 n]) x_549).length) (.fn rfl) ?_
        refine SafeOps.quiet0 E_good rfl rfl rfl (v := V.int .i64 a1_439) (.fn rfl) ?_
        refine SafeOps.quiet0 E_good rfl rfl rfl (v := V.int .i64 x_546) (.fn rfl) ?_
        refine bindG h ?_
        rintro ⟨x_563, x_564⟩ he565 h
        refine SafeOps.quiet E_good rfl rfl rfl (v := V.tup [V.ref [78, 0] 0 (rws (fun n => [V.int .i64 n]) x_563).length, V.int .i64 x_564]) (.callS rfl (.cons (.full rfl rfl) (.cons (.free rfl) (.cons (.free rfl) .nil))) (go_cell_Store_sc x_549 a1_439 x_546 _ he565) (.tupL (.cons (.ownM (fun _ => rfl)) (.cons (.plain rfl) .nil))) rfl) rfl ?_
        refine SafeOps.quiet0 E_good rfl rfl rfl (v := V.tup [V.ref [78, 0] 0 (rws (fun n => [V.int .i64 n]) x_563).length, V.int .i64 x_564]) (.fn rfl) ?_
        refine SafeOps.quiet0 E_good rfl rfl rfl (v := V.ref [78, 0] 0 (rws (fun n => [V.int .i64 n]) x_563).length) (.fn rfl) ?_
        refine SafeOps.quiet0 E_good rfl rfl rfl (v := V.int .i64 x_564) (.fn rfl) ?_
        refine SafeOps.quiet0 E_good rfl rfl rfl (v := V.ref [78, 0] 0 (rws (fun n => [V.int .i64 n]) x_563).length) (.fn rfl) ?_
        refine SafeOps.quiet0 E_good rfl rfl rfl (v := V.int .i64 x_564) (.fn rfl) ?_
        refine SafeOps.nil ?_
        repeat (first | refine Safe.seq ?_ | refine Safe.skip ?_ | with_reducible refine thenQ.n ?_ | with_reducible refine blockQ.n ?_)
        refine Safe.region ?_
        refine SafeOps.quiet0 E_good rfl rfl rfl (v := V.int .i64 x_561) (.fn rfl) ?_
        refine SafeOps.quiet0 E_good rfl rfl rfl (v := V.bool (x_561 != 0)) (.fn rfl) ?_
        refine SafeOps.quiet0 E_good rfl rfl rfl (v := V.bool (x_561 != 0)) (.fn rfl) ?_
        refine SafeOps.bjoin 3 86 (b := ((x_561 != 0) || (x_564 != 0))) (b1 := true) (b0 := (x_564 != 0)) (fun hc566 K => ?_) (fun hc566 K => ?_) bj_or ?_
        · skip
          refine SafeOps.skip (congrArg (fun b => some (!b)) hc566) rfl rfl ?_
          refine SafeOps.skip (congrArg (fun b => some (!b)) hc566) rfl rfl ?_
          refine SafeOps.quiet0 E_good rfl rfl rfl (v := V.bool true) (.pickK rfl hc566 rfl) ?_
          exact SafeOps.drop' 3 rfl rfl rfl K
        · skip
          refine SafeOps.quiet0 E_good (congrArg (fun b => some (!b)) hc566) rfl rfl (v := V.int .i64 x_564) (.fn rfl) ?_
          refine SafeOps.quiet0 E_good (congrArg (fun b => some (!b)) hc566) rfl rfl (v := V.bool (x_564 != 0)) (.fn rfl) ?_
          refine SafeOps.quiet0 E_good rfl rfl rfl (v := V.bool (x_564 != 0)) (.pickK rfl hc566 rfl) ?_
          exact SafeOps.drop' 3 rfl rfl rfl K
        refine SafeOps.quiet0 E_good rfl rfl rfl (v := V.bool ((x_561 != 0) || (x_564 != 0))) (.fn rfl) ?_
        refine SafeOps.bjoin 4 91 (b := (((x_561 != 0) || (x_564 != 0)) || (x_560 != a3_441))) (b1 := true) (b0 := (x_560 != a3_441)) (fun hc567 K => ?_) (fun hc567 K => ?_) bj_or ?_
        · skip
          refine SafeOps.skip (congrArg (fun b => some (!b)) hc567) rfl rfl ?_
          refine SafeOps.skip (congrArg (fun b => some (!b)) hc567) rfl rfl ?_
          refine SafeOps.skip (congrArg (fun b => some (!b)) hc567) rfl rfl ?_
          refine SafeOps.quiet0 E_good rfl rfl rfl (v := V.bool true) (.pickK rfl hc567 rfl) ?_
          exact SafeOps.drop' 4 rfl rfl rfl K
        · skip
          refine SafeOps.quiet0 E_good (congrArg (fun b => some (!b)) hc567) rfl rfl (v := V.int .i64 x_560) (.fn rfl) ?_
          refine SafeOps.quiet0 E_good (congrArg (fun b => some (!b)) hc567) rfl rfl (v := V.int .i64 a3_441) (.fn rfl) ?_
          refine SafeOps.quiet0 E_good (congrArg (fun b => some (!b)) hc567) rfl rfl (v := V.bool (x_560 != a3_441)) (.fn rfl) ?_
          refine SafeOps.quiet0 E_good rfl rfl rfl (v := V.bool (x_560 != a3_441)) (.pickK rfl hc567 rfl) ?_
          exact SafeOps.drop' 4 rfl rfl rfl K
        refine SafeOps.quiet0 E_good rfl rfl rfl (v := V.bool (((x_561 != 0) || (x_564 != 0)) || (x_560 != a3_441))) (.fn rfl) ?_
        refine ifG h (fun hc568 h => ?_) (fun hc568 h => ?_)
        · skip
          refine SafeOps.skip (congrArg (fun b => some (!b)) hc568) rfl rfl ?_
          refine SafeOps.skip (congrArg (fun b => some (!b)) hc568) rfl rfl ?_
          refine SafeOps.skip (congrArg (fun b => some (!b)) hc568) rfl rfl ?_
          refine SafeOps.skip (congrArg (fun b => some (!b)) hc568) rfl rfl ?_
          refine SafeOps.quiet0 E_good rfl rfl rfl (v := V.bool true) (.pickK rfl hc568 rfl) ?_
          refine SafeOps.nil ?_
          repeat (first | refine Safe.seq ?_ | refine Safe.skip ?_ | with_reducible refine thenQ.n ?_ | with_reducible refine blockQ.n ?_)
          refine Safe.condK rfl rfl ?_
          repeat (first | refine Safe.seq ?_ | refine Safe.skip ?_ | with_reducible refine thenQ.n ?_ | with_reducible refine blockQ.n ?_)
          refine Safe.region ?_
          refine SafeOps.quiet0 E_good rfl rfl rfl (v := V.bool false) (.fn rfl) ?_
          refine SafeOps.nil ?_
          repeat (first | refine Safe.seq ?_ | refine Safe.skip ?_ | with_reducible refine thenQ.n ?_ | with_reducible refine blockQ.n ?_)
          refine Safe.ret ?_
          repeat (first | with_reducible refine thenQ.r ?_ | with_reducible refine blockQ.r ?_)
          obtain rfl := Option.some.inj h
          exact retQ.gen (vs := [V.bool false]) rfl (.tmp (v := V.bool false) rfl .nil) (.free rfl) (by simp) (.inr rfl)
        · skip
          refine SafeOps.quiet0 E_good (congrArg (fun b => some (!b)) hc568) rfl rfl (v := V.ref [78, 0] 0 (rws (fun n => [V.int .i64 n]) x_563).length) (.fn rfl) ?_
          refine SafeOps.quiet0 E_good (congrArg (fun b => some (!b)) hc568) rfl rfl (v := V.sl 1 (rws (fun n => [V.int .i64 n]) a0_438)) (.fn rfl) ?_
          refine bindG h ?_
          intro x_571 he572 h
          refine SafeOps.quiet0 E_good (congrArg (fun b => some (!b)) hc568) rfl rfl (v := V.bool x_571) (.callS rfl (.cons (.full rfl rfl) (.cons (.free rfl) .nil)) (go_cell_Same_sc x_563 a0_438 _ he572) (.plain rfl) rfl) ?_
          refine SafeOps.quiet0 E_good (congrArg (fun b => some (!b)) hc568) rfl rfl (v := V.bool (!x_571)) (.fn rfl) ?_
          refine SafeOps.quiet0 E_good rfl rfl rfl (v := V.bool (!x_571)) (.pickK rfl hc568 rfl) ?_
          refine SafeOps.nil ?_
          repeat (first | refine Safe.seq ?_ | refine Safe.skip ?_ | with_reducible refine thenQ.n ?_ | with_reducible refine blockQ.n ?_)
          refine ifG h (fun hc573 h => ?_) (fun hc573 h => ?_)
          · skip
            refine Safe.condK rfl hc573 ?_
            repeat (first | refine Safe.seq ?_ | refine Safe.skip ?_ | with_reducible refine thenQ.n ?_ | with_reducible refine blockQ.n ?_)
            refine Safe.region ?_
            refine SafeOps.quiet0 E_good rfl rfl rfl (v := V.bool false) (.fn rfl) ?_
            refine SafeOps.nil ?_
            repeat (first | refine Safe.seq ?_ | refine Safe.skip ?_ | with_reducible refine thenQ.n ?_ | with_reducible refine blockQ.n ?_)
            refine Safe.ret ?_
            repeat (first | with_reducible refine thenQ.r ?_ | with_reducible refine blockQ.r ?_)
            obtain rfl := Option.some.inj h
            exact retQ.gen (vs := [V.bool false]) rfl (.tmp (v := V.bool false) rfl .nil) (.free rfl) (by simp) (.inr rfl)
          · skip
            refine Safe.condN rfl hc573 ?_
            repeat (first | refine Safe.seq ?_ | refine Safe.skip ?_ | with_reducible refine thenQ.n ?_ | with_reducible refine blockQ.n ?_)
            refine Safe.region ?_
            refine SafeOps.quiet0 E_good rfl rfl rfl (v := V.ref [43, 0] 0 (rws (fun n => [V.int .i64 n]) x_549).length) (.fn rfl) ?_
            refine SafeOps.quiet0 E_good rfl rfl rfl (v := V.int .i64 a2_440) (.fn rfl) ?_
            refine SafeOps.quiet0 E_good rfl rfl rfl (v := V.int .i64 a4_442) (.fn rfl) ?_
            refine bindG h ?_
            rintro ⟨x_574, x_575⟩ he576 h
            refine SafeOps.quiet E_good rfl rfl rfl (v := V.tup [V.ref [102, 0] 0 (rws (fun n => [V.int .i64 n]) x_574).length, V.int .i64 x_575]) (.callS rfl (.cons (.full rfl rfl) (.cons (.free rfl) (.cons (.free rfl) .nil))) (go_cell_Store_sc x_549 a2_440 a4_442 _ he576) (.tupL (.cons (.ownM (fun _ => rfl)) (.cons (.plain rfl) .nil))) rfl) rfl ?_
            refine SafeOps.quiet0 E_good rfl rfl rfl (v := V.tup [V.ref [102, 0] 0 (rws (fun n => [V.int .i64 n]) x_574).length, V.int .i64 x_575]) (.fn rfl) ?_
            refine SafeOps.quiet0 E_good rfl rfl rfl (v := V.ref [102, 0] 0 (rws (fun n => [V.int .i64 n]) x_574).length) (.fn rfl) ?_
            refine SafeOps.quiet0 E_good rfl rfl rfl (v := V.int .i64 x_575) (.fn rfl) ?_
            refine SafeOps.quiet0 E_good rfl rfl rfl (v := V.ref [102, 0] 0 (rws (fun n => [V.int .i64 n]) x_574).length) (.fn rfl) ?_
            refine SafeOps.quiet0 E_good rfl rfl rfl (v := V.int .i64 x_575) (.fn rfl) ?_
            refine SafeOps.nil ?_
            repeat (first | refine Safe.seq ?_ | refine Safe.skip ?_ | with_reducible refine thenQ.n ?_ | with_reducible refine blockQ.n ?_)
            refine Safe.region ?_
            refine SafeOps.quiet0 E_good rfl rfl rfl (v := V.sl 1 (rws (fun n => [V.int .i64 n]) a0_438)) (.fn rfl) ?_
            refine SafeOps.quiet0 E_good rfl rfl rfl (v := V.int .i64 a2_440) (.fn rfl) ?_
            refine SafeOps.quiet0 E_good rfl rfl rfl (v := V.int .i64 a4_442) (.fn rfl) ?_
            refine bindG h ?_
            rintro ⟨x_577, x_578⟩ he579 h
            refine SafeOps.quiet E_good rfl rfl rfl (v := V.tup [V.ref [109, 0] 0 (rws (fun n => [V.int .i64 n]) x_577).length, V.int .i64 x_578]) (.callP rfl rfl (go_cell_Store_sc a0_438 a2_440 a4_442 _ he579) rfl) rfl ?_
            refine SafeOps.quiet0 E_good rfl rfl rfl (v := V.tup [V.ref [109, 0] 0 (rws (fun n => [V.int .i64 n]) x_577).length, V.int .i64 x_578]) (.fn rfl) ?_
            refine SafeOps.quiet0 E_good rfl rfl rfl (v := V.ref [109, 0] 0 (rws (fun n => [V.int .i64 n]) x_577).length) (.fn rfl) ?_
            refine SafeOps.quiet0 E_good rfl rfl rfl (v := V.int .i64 x_578) (.fn rfl) ?_
            refine SafeOps.quiet0 E_good rfl rfl rfl (v := V.ref [109, 0] 0 (rws (fun n => [V.int .i64 n]) x_577).length) (.fn rfl) ?_
            refine SafeOps.quiet0 E_good rfl rfl rfl (v := V.int .i64 x_578) (.fn rfl) ?_
            refine SafeOps.nil ?_
            repeat (first | refine Safe.seq ?_ | refine Safe.skip ?_ | with_reducible refine thenQ.n ?_ | with_reducible refine blockQ.n ?_)
            refine Safe.region ?_
            refine SafeOps.quiet0 E_good rfl rfl rfl (v := V.int .i64 x_575) (.fn rfl) ?_
            refine SafeOps.quiet0 E_good rfl rfl rfl (v := V.bool (x_575 != 0)) (.fn rfl) ?_
            refine SafeOps.quiet0 E_good rfl rfl rfl (v := V.bool (x_575 != 0)) (.fn rfl) ?_
            refine SafeOps.bjoin 3 117 (b := ((x_575 != 0) || (x_578 != 0))) (b1 := true) (b0 := (x_578 != 0)) (fun hc580 K => ?_) (fun hc580 K => ?_) bj_or ?_
            · skip
              refine SafeOps.skip (congrArg (fun b => some (!b)) hc580) rfl rfl ?_
              refine SafeOps.skip (congrArg (fun b => some (!b)) hc580) rfl rfl ?_
              refine SafeOps.quiet0 E_good rfl rfl rfl (v := V.bool true) (.pickK rfl hc580 rfl) ?_
              exact SafeOps.drop' 3 rfl rfl rfl K
            · skip
              refine SafeOps.quiet0 E_good (congrArg (fun b => some (!b)) hc580) rfl rfl (v := V.int .i64 x_578) (.fn rfl) ?_
              refine SafeOps.quiet0 E_good (congrArg (fun b => some (!b)) hc580) rfl rfl (v := V.bool (x_578 != 0)) (.fn rfl) ?_
              refine SafeOps.quiet0 E_good rfl rfl rfl (v := V.bool (x_578 != 0)) (.pickK rfl hc580 rfl) ?_
              exact SafeOps.drop' 3 rfl rfl rfl K
            refine SafeOps.nil ?_
            repeat (first | refine Safe.seq ?_ | refine Safe.skip ?_ | with_reducible refine thenQ.n ?_ | with_reducible refine blockQ.n ?_)
            refine ifG h (fun hc582 h => ?_) (fun hc582 h => ?_)
            · skip
              refine Safe.condK rfl hc582 ?_
              repeat (first | refine Safe.seq ?_ | refine Safe.skip ?_ | with_reducible refine thenQ.n ?_ | with_reducible refine blockQ.n ?_)
              refine Safe.region ?_
              refine SafeOps.quiet0 E_good rfl rfl rfl (v := V.bool x_542) (.fn rfl) ?_
              refine SafeOps.quiet0 E_good rfl rfl rfl (v := V.bool x_542) (.fn rfl) ?_
              refine SafeOps.bjoin 4 123 (b := (x_542 && (x_575 == x_578))) (b1 := (x_575 == x_578)) (b0 := false) (fun hc583 K => ?_) (fun hc583 K => ?_) bj_and ?_
              · skip
                refine SafeOps.quiet0 E_good (congrArg some hc583) rfl rfl (v := V.int .i64 x_575) (.fn rfl) ?_
                refine SafeOps.quiet0 E_good (congrArg some hc583) rfl rfl (v := V.int .i64 x_578) (.fn rfl) ?_
                refine SafeOps.quiet0 E_good (congrArg some hc583) rfl rfl (v := V.bool (x_575 == x_578)) (.fn rfl) ?_
                refine SafeOps.quiet0 E_good rfl rfl rfl (v := V.bool (x_575 == x_578)) (.pickK rfl hc583 rfl) ?_
                exact SafeOps.drop' 4 rfl rfl rfl K
              · skip
                refine SafeOps.skip (congrArg some hc583) rfl rfl ?_
                refine SafeOps.skip (congrArg some hc583) rfl rfl ?_
                refine SafeOps.skip (congrArg some hc583) rfl rfl ?_
                refine SafeOps.quiet0 E_good rfl rfl rfl (v := V.bool false) (.pickK rfl hc583 rfl) ?_
                exact SafeOps.drop' 4 rfl rfl rfl K
              refine SafeOps.quiet0 E_good rfl rfl rfl (v := V.bool (x_542 && (x_575 == x_578))) (.fn rfl) ?_
              refine SafeOps.nil ?_
              repeat (first | refine Safe.seq ?_ | refine Safe.skip ?_ | with_reducible refine thenQ.n ?_ | with_reducible refine blockQ.n ?_)
              refine Safe.ret ?_
              repeat (first | with_reducible refine thenQ.r ?_ | with_reducible refine blockQ.r ?_)
              obtain rfl := Option.some.inj h
              exact retQ.gen (vs := [V.bool (x_542 && (x_575 == x_578))]) rfl (.tmp (v := V.bool (x_542 && (x_575 == x_578))) rfl .nil) (.free rfl) (by simp) (.inr rfl)
            · skip
              refine Safe.condN rfl hc582 ?_
              repeat (first | refine Safe.seq ?_ | refine Safe.skip ?_ | with_reducible refine thenQ.n ?_ | with_reducible refine blockQ.n ?_)
              refine Safe.region ?_
              refine SafeOps.quiet0 E_good rfl rfl rfl (v := V.ref [109, 0] 0 (rws (fun n => [V.int .i64 n]) x_577).length) (.fn rfl) ?_
              refine SafeOps.quiet0 E_good rfl rfl rfl (v := V.int .i64 a1_439) (.fn rfl) ?_
              refine SafeOps.quiet0 E_good rfl rfl rfl (v := V.int .i64 a3_441) (.fn rfl) ?_
              refine bindG h ?_
              rintro ⟨x_584, x_585⟩ he586 h
              refine SafeOps.quiet E_good rfl rfl rfl (v := V.tup [V.ref [128, 0] 0 (rws (fun n => [V.int .i64 n]) x_584).length, V.int .i64 x_585]) (.callS rfl (.cons (.full rfl rfl) (.cons (.free rfl) (.cons (.free rfl) .nil))) (go_cell_Store_sc x_577 a1_439 a3_441 _ he586) (.tupL (.cons (.ownM (fun _ => rfl)) (.cons (.plain rfl) .nil))) rfl) rfl ?_
              refine SafeOps.quiet0 E_good rfl rfl rfl (v := V.tup [V.ref [128, 0] 0 (rws (fun n => [V.int .i64 n]) x_584).length, V.int .i64 x_585]) (.fn rfl) ?_
              refine SafeOps.quiet0 E_good rfl rfl rfl (v := V.ref [128, 0] 0 (rws (fun n => [V.int .i64 n]) x_584).length) (.fn rfl) ?_
              refine SafeOps.quiet0 E_good rfl rfl rfl (v := V.int .i64 x_585) (.fn rfl) ?_
              refine SafeOps.quiet0 E_good rfl rfl rfl (v := V.ref [128, 0] 0 (rws (fun n => [V.int .i64 n]) x_584).length) (.fn rfl) ?_
              refine SafeOps.quiet0 E_good rfl rfl rfl (v := V.int .i64 x_585) (.fn rfl) ?_
              refine SafeOps.nil ?_
              repeat (first | refine Safe.seq ?_ | refine Safe.skip ?_ | with_reducible refine thenQ.n ?_ | with_reducible refine blockQ.n ?_)
              refine Safe.region ?_
              refine SafeOps.quiet0 E_good rfl rfl rfl (v := V.bool x_542) (.fn rfl) ?_
              refine SafeOps.quiet0 E_good rfl rfl rfl (v := V.bool x_542) (.fn rfl) ?_
              refine SafeOps.bjoin 3 135 (b := (x_542 && (x_585 == 0))) (b1 := (x_585 == 0)) (b0 := false) (fun hc587 K => ?_) (fun hc587 K => ?_) bj_and ?_
              · skip
                refine SafeOps.quiet0 E_good (congrArg some hc587) rfl rfl (v := V.int .i64 x_585) (.fn rfl) ?_
                refine SafeOps.quiet0 E_good (congrArg some hc587) rfl rfl (v := V.bool (x_585 == 0)) (.fn rfl) ?_
                refine SafeOps.quiet0 E_good rfl rfl rfl (v := V.bool (x_585 == 0)) (.pickK rfl hc587 rfl) ?_
                exact SafeOps.drop' 3 rfl rfl rfl K
              · skip
                refine SafeOps.skip (congrArg some hc587) rfl rfl ?_
                refine SafeOps.skip (congrArg some hc587) rfl rfl ?_
                refine SafeOps.quiet0 E_good rfl rfl rfl (v := V.bool false) (.pickK rfl hc587 rfl) ?_
                exact SafeOps.drop' 3 rfl rfl rfl K
              refine SafeOps.quiet0 E_good rfl rfl rfl (v := V.bool (x_542 && (x_585 == 0))) (.fn rfl) ?_
              refine ifG h (fun hc588 h => ?_) (fun hc588 h => ?_)
              · skip
                refine SafeOps.quiet0 E_good (congrArg some hc588) rfl rfl (v := V.int .i64 a1_439) (.fn rfl) ?_
                refine SafeOps.quiet0 E_good (congrArg some hc588) rfl rfl (v := V.int .i64 a2_440) (.fn rfl) ?_
                refine SafeOps.quiet0 E_good (congrArg some hc588) rfl rfl (v := V.bool (a1_439 == a2_440)) (.fn rfl) ?_
                refine SafeOps.quiet0 E_good (congrArg some hc588) rfl rfl (v := V.bool (a1_439 == a2_440)) (.fn rfl) ?_
                refine ifG h (fun hc594 h => ?_) (fun hc594 h => ?_)
                · skip
                  refine SafeOps.skip (congrArg (fun b => some (!b)) hc594) rfl rfl ?_
                  refine SafeOps.skip (congrArg (fun b => some (!b)) hc594) rfl rfl ?_
                  refine SafeOps.skip (congrArg (fun b => some (!b)) hc594) rfl rfl ?_
                  refine SafeOps.quiet0 E_good (congrArg some hc588) rfl rfl (v := V.bool true) (.pickK rfl hc594 rfl) ?_
                  refine SafeOps.quiet0 E_good rfl rfl rfl (v := V.bool true) (.pickK rfl hc588 rfl) ?_
                  refine SafeOps.quiet0 E_good rfl rfl rfl (v := V.bool true) (.fn rfl) ?_
                  refine SafeOps.nil ?_
                  repeat (first | refine Safe.seq ?_ | refine Safe.skip ?_ | with_reducible refine thenQ.n ?_ | with_reducible refine blockQ.n ?_)
                  refine Safe.ret ?_
                  repeat (first | with_reducible refine thenQ.r ?_ | with_reducible refine blockQ.r ?_)
                  obtain rfl := Option.some.inj h
                  exact retQ.gen (vs := [V.bool true]) rfl (.tmp (v := V.bool true) rfl .nil) (.free rfl) (by simp) (.inr rfl)
                · skip
                  refine SafeOps.quiet0 E_good (congrArg (fun b => some (!b)) hc594) rfl rfl (v := V.ref [102, 0] 0 (rws (fun n => [V.int .i64 n]) x_574).length) (.fn rfl) ?_
                  refine SafeOps.quiet0 E_good (congrArg (fun b => some (!b)) hc594) rfl rfl (v := V.ref [128, 0] 0 (rws (fun n => [V.int .i64 n]) x_584).length) (.fn rfl) ?_
                  refine bindG h ?_
                  intro x_597 he598 h
                  refine SafeOps.quiet0 E_good (congrArg (fun b => some (!b)) hc594) rfl rfl (v := V.bool x_597) (.callS rfl (.cons (.full rfl rfl) (.cons (.full rfl rfl) .nil)) (go_cell_Same_sc x_574 x_584 _ he598) (.plain rfl) rfl) ?_
                  refine SafeOps.quiet0 E_good (congrArg some hc588) rfl rfl (v := V.bool x_597) (.pickK rfl hc594 rfl) ?_
                  refine SafeOps.quiet0 E_good rfl rfl rfl (v := V.bool x_597) (.pickK rfl hc588 rfl) ?_
                  refine SafeOps.quiet0 E_good rfl rfl rfl (v := V.bool x_597) (.fn rfl) ?_
                  refine SafeOps.nil ?_
                  repeat (first | refine Safe.seq ?_ | refine Safe.skip ?_ | with_reducible refine thenQ.n ?_ | with_reducible refine blockQ.n ?_)
                  refine Safe.ret ?_
                  repeat (first | with_reducible refine thenQ.r ?_ | with_reducible refine blockQ.r ?_)
                  obtain rfl := Option.some.inj h
                  exact retQ.gen (vs := [V.bool x_597]) rfl (.tmp (v := V.bool x_597) rfl .nil) (.free rfl) (by simp) (.inr rfl)
              · skip
                refine SafeOps.skip (congrArg some hc588) rfl rfl ?_
                refine SafeOps.skip (congrArg some hc588) rfl rfl ?_
                refine SafeOps.skip (congrArg some hc588) rfl rfl ?_
                refine SafeOps.skip (congrArg some hc588) rfl rfl ?_
                refine SafeOps.skip rfl rfl rfl ?_
                refine SafeOps.skip rfl rfl rfl ?_
                refine SafeOps.skip rfl rfl rfl ?_
                refine SafeOps.skip (congrArg some hc588) rfl rfl ?_
                refine SafeOps.quiet0 E_good rfl rfl rfl (v := V.bool false) (.pickK rfl hc588 rfl) ?_
                refine SafeOps.quiet0 E_good rfl rfl rfl (v := V.bool false) (.fn rfl) ?_
                refine SafeOps.nil ?_
                repeat (first | refine Safe.seq ?_ | refine Safe.skip ?_ | with_reducible refine thenQ.n ?_ | with_reducible refine blockQ.n ?_)
                refine Safe.ret ?_
                repeat (first | with_reducible refine thenQ.r ?_ | with_reducible refine blockQ.r ?_)
                obtain rfl := Option.some.inj h
                exact retQ.gen (vs := [V.bool false]) rfl (.tmp (v := V.bool false) rfl .nil) (.free rfl) (by simp) (.inr rfl)

noncomputable def go_ravellaw01_CellSwap_j1 (a3_602 : Int) (x_644 : Int) (x_648 : Bool) (x_660 : Int) (b_672 : Bool) : Option Bool :=
  if b_672 = true then
    some (x_660 == ((mget (mput (mput [] true a3_602) false x_644) x_648).getD 0))
  else
    some false

noncomputable def go_ravellaw01_CellSwap (a0_599 : List Int) (a1_600 : Int) (a2_601 : Int) (a3_602 : Int) : Option Bool :=
  (go_ravellaw01_live).bind fun x_640 =>
  if (!x_640) = true then
    some false
  else
    if (decide ((a0_599.length : Int) > 300)) = true then
      some x_640
    else
      (go_cell_Load a0_599 a1_600).bind fun (x_644, x_645) =>
      (go_cell_Cas a0_599 a1_600 a2_601 a3_602).bind fun (x_647, x_648, x_649) =>
      if (x_645 != 0) = true then
        some ((x_640 && (x_649 == x_645)) && (!x_648))
      else
        (go_cell_Cas x_647 a1_600 a2_601 a3_602).bind fun (x_656, x_657, x_658) =>
        (go_cell_Load x_656 a1_600).bind fun (x_660, x_661) =>
        if (((((x_640 && (x_649 == 0)) && (x_658 == 0)) && (x_661 == 0)) && (x_648 == (x_644 == a2_601))) && (x_657 == (x_648 && (a2_601 == a3_602)))) = true then
          (go_cell_Same x_647 x_656).bind fun x_675 =>
          go_ravellaw01_CellSwap_j1 a3_602 x_644 x_648 x_660 x_675
        else
          go_ravellaw01_CellSwap_j1 a3_602 x_644 x_648 x_660 false

theorem go_ravellaw01_CellSwap_sc (a0_599 : List Int) (a1_600 : Int) (a2_601 : Int) (a3_602 : Int) (r : Bool) (h : go_ravellaw01_CellSwap a0_599 a1_600 a2_601 a3_602 = some r) : SC Try.prog gl 5 [V.sl 1 (rws (fun n => [V.int .i64 n]) a0_599), V.int .i64 a1_600, V.int .i64 a2_601, V.int .i64 a3_602] (V.bool r) := by
  rw [go_ravellaw01_CellSwap] at h
  refine SC.of E_good Try.func5 rfl (fun _ _ => Try.call5 _ _) rfl ?_
  repeat (first | refine Safe.seq ?_ | refine Safe.skip ?_ | with_reducible refine thenQ.n ?_ | with_reducible refine blockQ.n ?_)
  refine Safe.region ?_
  refine SafeOps.quiet0 E_good rfl rfl rfl (v := V.bool false) (.fn rfl) ?_
  refine SafeOps.nil ?_
  repeat (first | refine Safe.seq ?_ | refine Safe.skip ?_ | with_reducible refine thenQ.n ?_ | with_reducible refine blockQ.n ?_)
  refine Safe.region ?_
  refine bindG h ?_
  intro x_640 he641 h
  refine SafeOps.quiet0 E_good rfl rfl rfl (v := V.bool x_640) (.callP rfl rfl (go_ravellaw01_live_sc  _ he641) rfl) ?_
  refine SafeOps.quiet0 E_good rfl rfl rfl (v := V.bool x_640) (.fn rfl) ?_
  refine SafeOps.nil ?_
  repeat (first | refine Safe.seq ?_ | refine Safe.skip ?_ | with_reducible refine thenQ.n ?_ | with_reducible refine blockQ.n ?_)
  refine Safe.region ?_
  refine SafeOps.quiet0 E_good rfl rfl rfl (v := V.bool x_640) (.fn rfl) ?_
  refine SafeOps.quiet0 E_good rfl rfl rfl (v := V.bool (!x_640)) (.fn rfl) ?_
  refine SafeOps.nil ?_
  repeat (first | refine Safe.seq ?_ | refine Safe.skip ?_ | with_reducible refine thenQ.n ?_ | with_reducible refine blockQ.n ?_)
  refine ifG h (fun hc642 h => ?_) (fun hc642 h => ?_)
  · skip
    refine Safe.condK rfl hc642 ?_
    repeat (first | refine Safe.seq ?_ | refine Safe.skip ?_ | with_reducible refine thenQ.n ?_ | with_reducible refine blockQ.n ?_)
    refine Safe.region ?_
    refine SafeOps.quiet0 E_good rfl rfl rfl (v := V.bool false) (.fn rfl) ?_
    refine SafeOps.nil ?_
    repeat (first | refine Safe.seq ?_ | refine Safe.skip ?_ | with_reducible refine thenQ.n ?_ | with_reducible refine blockQ.n ?_)
    refine Safe.ret ?_
    repeat (first | with_reducible refine thenQ.r ?_ | with_reducible refine blockQ.r ?_)
    obtain rfl := Option.some.inj h
    exact retQ.gen (vs := [V.bool false]) rfl (.tmp (v := V.bool false) rfl .nil) (.free rfl) (by simp) (.inr rfl)
  · skip
    refine Safe.condN rfl hc642 ?_
    repeat (first | refine Safe.seq ?_ | refine Safe.skip ?_ | with_reducible refine thenQ.n ?_ | with_reducible refine blockQ.n ?_)
    refine Safe.region ?_
    refine SafeOps.quiet0 E_good rfl rfl rfl (v := V.sl 1 (rws (fun n => [V.int .i64 n]) a0_599)) (.fn rfl) ?_
    refine SafeOps.quiet0 E_good rfl rfl rfl (v := V.int .i64 (a0_599.length : Int)) (.fnE rfl lenE) ?_
    refine SafeOps.quiet0 E_good rfl rfl rfl (v := V.bool (decide ((a0_599.length : Int) > 300))) (.fn rfl) ?_
    refine SafeOps.nil ?_
    repeat (first | refine Safe.seq ?_ | refine Safe.skip ?_ | with_reducible refine thenQ.n ?_ | with_reducible refine blockQ.n ?_)
    refine ifG h (fun hc643 h => ?_) (fun hc643 h => ?_)
    · skip
      refine Safe.condK rfl hc643 ?_
      repeat (first | refine Safe.seq ?_ | refine Safe.skip ?_ | with_reducible refine thenQ.n ?_ | with_reducible refine blockQ.n ?_)
      refine Safe.region ?_
      refine SafeOps.quiet0 E_good rfl rfl rfl (v := V.bool x_640) (.fn rfl) ?_
      refine SafeOps.quiet0 E_good rfl rfl rfl (v := V.bool x_640) (.fn rfl) ?_
      refine SafeOps.nil ?_
      repeat (first | refine Safe.seq ?_ | refine Safe.skip ?_ | with_reducible refine thenQ.n ?_ | with_reducible refine blockQ.n ?_)
      refine Safe.ret ?_
      repeat (first | with_reducible refine thenQ.r ?_ | with_reducible refine blockQ.r ?_)
      obtain rfl := Option.some.inj h
      exact retQ.gen (vs := [V.bool x_640]) rfl (.tmp (v := V.bool x_640) rfl .nil) (.free rfl) (by simp) (.inr rfl)
    · skip
      refine Safe.condN rfl hc643 ?_
      repeat (first | refine Safe.seq ?_ | refine Safe.skip ?_ | with_reducible refine thenQ.n ?_ | with_reducible refine blockQ.n ?_)
      refine Safe.region ?_
      refine SafeOps.quiet0 E_good rfl rfl rfl (v := V.sl 1 (rws (fun n => [V.int .i64 n]) a0_599)) (.fn rfl) ?_
      refine SafeOps.quiet0 E_good rfl rfl rfl (v := V.int .i64 a1_600) (.fn rfl) ?_
      refine bindG h ?_
      rintro ⟨x_644, x_645⟩ he646 h
      refine SafeOps.quiet0 E_good rfl rfl rfl (v := V.tup [V.int .i64 x_644, V.int .i64 x_645]) (.callP rfl rfl (go_cell_Load_sc a0_599 a1_600 _ he646) rfl) ?_
      refine SafeOps.quiet0 E_good rfl rfl rfl (v := V.tup [V.int .i64 x_644, V.int .i64 x_645]) (.fn rfl) ?_
      refine SafeOps.quiet0 E_good rfl rfl rfl (v := V.int .i64 x_644) (.fn rfl) ?_
      refine SafeOps.quiet0 E_good rfl rfl rfl (v := V.int .i64 x_645) (.fn rfl) ?_
      refine SafeOps.quiet0 E_good rfl rfl rfl (v := V.int .i64 x_644) (.fn rfl) ?_
      refine SafeOps.quiet0 E_good rfl rfl rfl (v := V.int .i64 x_645) (.fn rfl) ?_
      refine SafeOps.nil ?_
      repeat (first | refine Safe.seq ?_ | refine Safe.skip ?_ | with_reducible refine thenQ.n ?_ | with_reducible refine blockQ.n ?_)
      refine Safe.region ?_
      refine SafeOps.quiet0 E_good rfl rfl rfl (v := V.sl 1 (rws (fun n => [V.int .i64 n]) a0_599)) (.fn rfl) ?_
      refine SafeOps.quiet0 E_good rfl rfl rfl (v := V.int .i64 a1_600) (.fn rfl) ?_
      refine SafeOps.quiet0 E_good rfl rfl rfl (v := V.int .i64 a2_601) (.fn rfl) ?_
      refine SafeOps.quiet0 E_good rfl rfl rfl (v := V.int .i64 a3_602) (.fn rfl) ?_
      refine bindG h ?_
      rintro ⟨x_647, x_648, x_649⟩ he650 h
      refine SafeOps.quiet E_good rfl rfl rfl (v := V.tup [V.ref [38, 0] 0 (rws (fun n => [V.int .i64 n]) x_647).length, V.bool x_648, V.int .i64 x_649]) (.callP rfl rfl (go_cell_Cas_sc a0_599 a1_600 a2_601 a3_602 _ he650) rfl) rfl ?_
      refine SafeOps.quiet0 E_good rfl rfl rfl (v := V.tup [V.ref [38, 0] 0 (rws (fun n => [V.int .i64 n]) x_647).length, V.bool x_648, V.int .i64 x_649]) (.fn rfl) ?_
      refine SafeOps.quiet0 E_good rfl rfl rfl (v := V.ref [38, 0] 0 (rws (fun n => [V.int .i64 n]) x_647).length) (.fn rfl) ?_
      refine SafeOps.quiet0 E_good rfl rfl rfl (v := V.bool x_648) (.fn rfl) ?_
      refine SafeOps.quiet0 E_good rfl rfl rfl (v := V.int .i64 x_649) (.fn rfl) ?_
      refine SafeOps.quiet0 E_good rfl rfl rfl (v := V.ref [38, 0] 0 (rws (fun n => [V.int .i64 n]) x_647).length) (.fn rfl) ?_
      refine SafeOps.quiet0 E_good rfl rfl rfl (v := V.bool x_648) (.fn rfl) ?_
      refine SafeOps.quiet0 E_good rfl rfl rfl (v := V.int .i64 x_649) (.fn rfl) ?_
      refine SafeOps.nil ?_
      repeat (first | refine Safe.seq ?_ | refine Safe.skip ?_ | with_reducible refine thenQ.n ?_ | with_reducible refine blockQ.n ?_)
      refine Safe.region ?_
      refine SafeOps.quiet0 E_good rfl rfl rfl (v := V.int .i64 x_645) (.fn rfl) ?_
      refine SafeOps.quiet0 E_good rfl rfl rfl (v := V.bool (x_645 != 0)) (.fn rfl) ?_
      refine SafeOps.nil ?_
      repeat (first | refine Safe.seq ?_ | refine Safe.skip ?_ | with_reducible refine thenQ.n ?_ | with_reducible refine blockQ.n ?_)
      refine ifG h (fun hc653 h => ?_) (fun hc653 h => ?_)
      · skip
        refine Safe.condK rfl hc653 ?_
        repeat (first | refine Safe.seq ?_ | refine Safe.skip ?_ | with_reducible refine thenQ.n ?_ | with_reducible refine blockQ.n ?_)
        refine Safe.region ?_
        refine SafeOps.quiet0 E_good rfl rfl rfl (v := V.bool x_640) (.fn rfl) ?_
        refine SafeOps.quiet0 E_good rfl rfl rfl (v := V.bool x_640) (.fn rfl) ?_
        refine SafeOps.bjoin 4 49 (b := (x_640 && (x_649 == x_645))) (b1 := (x_649 == x_645)) (b0 := false) (fun hc654 K => ?_) (fun hc654 K => ?_) bj_and ?_
        · skip
          refine SafeOps.quiet0 E_good (congrArg some hc654) rfl rfl (v := V.int .i64 x_649) (.fn rfl) ?_
          refine SafeOps.quiet0 E_good (congrArg some hc654) rfl rfl (v := V.int .i64 x_645) (.fn rfl) ?_
          refine SafeOps.quiet0 E_good (congrArg some hc654) rfl rfl (v := V.bool (x_649 == x_645)) (.fn rfl) ?_
          refine SafeOps.quiet0 E_good rfl rfl rfl (v := V.bool (x_649 == x_645)) (.pickK rfl hc654 rfl) ?_
          exact SafeOps.drop' 4 rfl rfl rfl K
        · skip
          refine SafeOps.skip (congrArg some hc654) rfl rfl ?_
          refine SafeOps.skip (congrArg some hc654) rfl rfl ?_
          refine SafeOps.skip (congrArg some hc654) rfl rfl ?_
          refine SafeOps.quiet0 E_good rfl rfl rfl (v := V.bool false) (.pickK rfl hc654 rfl) ?_
          exact SafeOps.drop' 4 rfl rfl rfl K
        refine SafeOps.quiet0 E_good rfl rfl rfl (v := V.bool (x_640 && (x_649 == x_645))) (.fn rfl) ?_
        refine SafeOps.bjoin 3 53 (b := ((x_640 && (x_649 == x_645)) && (!x_648))) (b1 := (!x_648)) (b0 := false) (fun hc655 K => ?_) (fun hc655 K => ?_) bj_and ?_
        · skip
          refine SafeOps.quiet0 E_good (congrArg some hc655) rfl rfl (v := V.bool x_648) (.fn rfl) ?_
          refine SafeOps.quiet0 E_good (congrArg some hc655) rfl rfl (v := V.bool (!x_648)) (.fn rfl) ?_
          refine SafeOps.quiet0 E_good rfl rfl rfl (v := V.bool (!x_648)) (.pickK rfl hc655 rfl) ?_
          exact SafeOps.drop' 3 rfl rfl rfl K
        · skip
          refine SafeOps.skip (congrArg some hc655) rfl rfl ?_
          refine SafeOps.skip (congrArg some hc655) rfl rfl ?_
          refine SafeOps.quiet0 E_good rfl rfl rfl (v := V.bool false) (.pickK rfl hc655 rfl) ?_
          exact SafeOps.drop' 3 rfl rfl rfl K
        refine SafeOps.quiet0 E_good rfl rfl rfl (v := V.bool ((x_640 && (x_649 == x_645)) && (!x_648))) (.fn rfl) ?_
        refine SafeOps.nil ?_
        repeat (first | refine Safe.seq ?_ | refine Safe.skip ?_ | with_reducible refine thenQ.n ?_ | with_reducible refine blockQ.n ?_)
        refine Safe.ret ?_
        repeat (first | with_reducible refine thenQ.r ?_ | with_reducible refine blockQ.r ?_)
        obtain rfl := Option.some.inj h
        exact retQ.gen (vs := [V.bool ((x_640 && (x_649 == x_645)) && (!x_648))]) rfl (.tmp (v := V.bool ((x_640 && (x_649 == x_645)) && (!x_648))) rfl .nil) (.free rfl) (by simp) (.inr rfl)
      · skip
        refine Safe.condN rfl hc653 ?_
        repeat (first | refine Safe.seq ?_ | refine Safe.skip ?_ | with_reducible refine thenQ.n ?_ | with_reducible refine blockQ.n ?_)
        refine Safe.region ?_
        refine SafeOps.quiet0 E_good rfl rfl rfl (v := V.ref [38, 0] 0 (rws (fun n => [V.int .i64 n]) x_647).length) (.fn rfl) ?_
        refine SafeOps.quiet0 E_good rfl rfl rfl (v := V.int .i64 a1_600) (.fn rfl) ?_
        refine SafeOps.quiet0 E_good rfl rfl rfl (v := V.int .i64 a2_601) (.fn rfl) ?_
        refine SafeOps.quiet0 E_good rfl rfl rfl (v := V.int .i64 a3_602) (.fn rfl) ?_
        refine bindG h ?_
        rintro ⟨x_656, x_657, x_658⟩ he659 h
        refine SafeOps.quiet E_good rfl rfl rfl (v := V.tup [V.ref [59, 0] 0 (rws (fun n => [V.int .i64 n]) x_656).length, V.bool x_657, V.int .i64 x_658]) (.callS rfl (.cons (.full rfl rfl) (.cons (.free rfl) (.cons (.free rfl) (.cons (.free rfl) .nil)))) (go_cell_Cas_sc x_647 a1_600 a2_601 a3_602 _ he659) (.tupL (.cons (.ownM (fun _ => rfl)) (.cons (.plain rfl) (.cons (.plain rfl) .nil)))) rfl) rfl ?_
        refine SafeOps.quiet0 E_good rfl rfl rfl (v := V.tup [V.ref [59, 0] 0 (rws (fun n => [V.int .i64 n]) x_656).length, V.bool x_657, V.int .i64 x_658]) (.fn rfl) ?_
        refine SafeOps.quiet0 E_good rfl rfl rfl (v := V.ref [59, 0] 0 (rws (fun n => [V.int .i64 n]) x_656).length) (.fn rfl) ?_
        refine SafeOps.quiet0 E_good rfl rfl rfl (v := V.bool x_657) (.fn rfl) ?_
        refine SafeOps.quiet0 E_good rfl rfl rfl (v := V.int .i64 x_658) (.fn rfl) ?_
        refine SafeOps.quiet0 E_good rfl rfl rfl (v := V.ref [59, 0] 0 (rws (fun n => [V.int .i64 n]) x_656).length) (.fn rfl) ?_
        refine SafeOps.quiet0 E_good rfl rfl rfl (v := V.bool x_657) (.fn rfl) ?_
        refine SafeOps.quiet0 E_good rfl rfl rfl (v := V.int .i64 x_658) (.fn rfl) ?_
        refine SafeOps.nil ?_
        repeat (first | refine Safe.seq ?_ | refine Safe.skip ?_ | with_reducible refine thenQ.n ?_ | with_reducible refine blockQ.n ?_)
        refine Safe.region ?_
        refine SafeOps.quiet0 E_good rfl rfl rfl (v := V.ref [59, 0] 0 (rws (fun n => [V.int .i64 n]) x_656).length) (.fn rfl) ?_
        refine SafeOps.quiet0 E_good rfl rfl rfl (v := V.int .i64 a1_600) (.fn rfl) ?_
        refine bindG h ?_
        rintro ⟨x_660, x_661⟩ he662 h
        refine SafeOps.quiet0 E_good rfl rfl rfl (v := V.tup [V.int .i64 x_660, V.int .i64 x_661]) (.callS rfl (.cons (.full rfl rfl) (.cons (.free rfl) .nil)) (go_cell_Load_sc x_656 a1_600 _ he662) (.tupL (.cons (.plain rfl) (.cons (.plain rfl) .nil))) rfl) ?_
        refine SafeOps.quiet0 E_good rfl rfl rfl (v := V.tup [V.int .i64 x_660, V.int .i64 x_661]) (.fn rfl) ?_
        refine SafeOps.quiet0 E_good rfl rfl rfl (v := V.int .i64 x_660) (.fn rfl) ?_
        refine SafeOps.quiet0 E_good rfl rfl rfl (v := V.int .i64 x_661) (.fn rfl) ?_
        refine SafeOps.quiet0 E_good rfl rfl rfl (v := V.int .i64 x_660) (.fn rfl) ?_
        refine SafeOps.quiet0 E_good rfl rfl rfl (v := V.int .i64 x_661) (.fn rfl) ?_
        refine SafeOps.nil ?_
        repeat (first | refine Safe.seq ?_ | refine Safe.skip ?_ | with_reducible refine thenQ.n ?_ | with_reducible refine blockQ.n ?_)
        refine Safe.region ?_
        refine SafeOps.quiet0 E_good rfl rfl rfl (v := V.bool x_640) (.fn rfl) ?_
        refine SafeOps.quiet0 E_good rfl rfl rfl (v := V.bool x_640) (.fn rfl) ?_
        refine SafeOps.bjoin 3 73 (b := (x_640 && (x_649 == 0))) (b1 := (x_649 == 0)) (b0 := false) (fun hc663 K => ?_) (fun hc663 K => ?_) bj_and ?_
        · skip
          refine SafeOps.quiet0 E_good (congrArg some hc663) rfl rfl (v := V.int .i64 x_649) (.fn rfl) ?_
          refine SafeOps.quiet0 E_good (congrArg some hc663) rfl rfl (v := V.bool (x_649 == 0)) (.fn rfl) ?_
          refine SafeOps.quiet0 E_good rfl rfl rfl (v := V.bool (x_649 == 0)) (.pickK rfl hc663 rfl) ?_
          exact SafeOps.drop' 3 rfl rfl rfl K
        · skip
          refine SafeOps.skip (congrArg some hc663) rfl rfl ?_
          refine SafeOps.skip (congrArg some hc663) rfl rfl ?_
          refine SafeOps.quiet0 E_good rfl rfl rfl (v := V.bool false) (.pickK rfl hc663 rfl) ?_
          exact SafeOps.drop' 3 rfl rfl rfl K
        refine SafeOps.quiet0 E_good rfl rfl rfl (v := V.bool (x_640 && (x_649 == 0))) (.fn rfl) ?_
        refine SafeOps.bjoin 3 77 (b := ((x_640 && (x_649 == 0)) && (x_658 == 0))) (b1 := (x_658 == 0)) (b0 := false) (fun hc664 K => ?_) (fun hc664 K => ?_) bj_and ?_
        · skip
          refine SafeOps.quiet0 E_good (congrArg some hc664) rfl rfl (v := V.int .i64 x_658) (.fn rfl) ?_
          refine SafeOps.quiet0 E_good (congrArg some hc664) rfl rfl (v := V.bool (x_658 == 0)) (.fn rfl) ?_
          refine SafeOps.quiet0 E_good rfl rfl rfl (v := V.bool (x_658 == 0)) (.pickK rfl hc664 rfl) ?_
          exact SafeOps.drop' 3 rfl rfl rfl K
        · skip
          refine SafeOps.skip (congrArg some hc664) rfl rfl ?_
          refine SafeOps.skip (congrArg some hc664) rfl rfl ?_
          refine SafeOps.quiet0 E_good rfl rfl rfl (v := V.bool false) (.pickK rfl hc664 rfl) ?_
          exact SafeOps.drop' 3 rfl rfl rfl K
        refine SafeOps.quiet0 E_good rfl rfl rfl (v := V.bool ((x_640 && (x_649 == 0)) && (x_658 == 0))) (.fn rfl) ?_
        refine SafeOps.bjoin 3 81 (b := (((x_640 && (x_649 == 0)) && (x_658 == 0)) && (x_661 == 0))) (b1 := (x_661 == 0)) (b0 := false) (fun hc665 K => ?_) (fun hc665 K => ?_) bj_and ?_
        · skip
          refine SafeOps.quiet0 E_good (congrArg some hc665) rfl rfl (v := V.int .i64 x_661) (.fn rfl) ?_
          refine SafeOps.quiet0 E_good (congrArg some hc665) rfl rfl (v := V.bool (x_661 == 0)) (.fn rfl) ?_
          refine SafeOps.quiet0 E_good rfl rfl rfl (v := V.bool (x_661 == 0)) (.pickK rfl hc665 rfl) ?_
          exact SafeOps.drop' 3 rfl rfl rfl K
        · skip
          refine SafeOps.skip (congrArg some hc665) rfl rfl ?_
          refine SafeOps.skip (congrArg some hc665) rfl rfl ?_
          refine SafeOps.quiet0 E_good rfl rfl rfl (v := V.bool false) (.pickK rfl hc665 rfl) ?_
          exact SafeOps.drop' 3 rfl rfl rfl K
        refine SafeOps.quiet0 E_good rfl rfl rfl (v := V.bool (((x_640 && (x_649 == 0)) && (x_658 == 0)) && (x_661 == 0))) (.fn rfl) ?_
        refine SafeOps.bjoin 6 88 (b := ((((x_640 && (x_649 == 0)) && (x_658 == 0)) && (x_661 == 0)) && (x_648 == (x_644 == a2_601)))) (b1 := (x_648 == (x_644 == a2_601))) (b0 := false) (fun hc666 K => ?_) (fun hc666 K => ?_) bj_and ?_
        · skip
          refine SafeOps.quiet0 E_good (congrArg some hc666) rfl rfl (v := V.bool x_648) (.fn rfl) ?_
          refine SafeOps.quiet0 E_good (congrArg some hc666) rfl rfl (v := V.int .i64 x_644) (.fn rfl) ?_
          refine SafeOps.quiet0 E_good (congrArg some hc666) rfl rfl (v := V.int .i64 a2_601) (.fn rfl) ?_
          refine SafeOps.quiet0 E_good (congrArg some hc666) rfl rfl (v := V.bool (x_644 == a2_601)) (.fn rfl) ?_
          refine SafeOps.quiet0 E_good (congrArg some hc666) rfl rfl (v := V.bool (x_648 == (x_644 == a2_601))) (.fn rfl) ?_
          refine SafeOps.quiet0 E_good rfl rfl rfl (v := V.bool (x_648 == (x_644 == a2_601))) (.pickK rfl hc666 rfl) ?_
          exact SafeOps.drop' 6 rfl rfl rfl K
        · skip
          refine SafeOps.skip (congrArg some hc666) rfl rfl ?_
          refine SafeOps.skip (congrArg some hc666) rfl rfl ?_
          refine SafeOps.skip (congrArg some hc666) rfl rfl ?_
          refine SafeOps.skip (congrArg some hc666) rfl rfl ?_
          refine SafeOps.skip (congrArg some hc666) rfl rfl ?_
          refine SafeOps.quiet0 E_good rfl rfl rfl (v := V.bool false) (.pickK rfl hc666 rfl) ?_
          exact SafeOps.drop' 6 rfl rfl rfl K
        refine SafeOps.quiet0 E_good rfl rfl rfl (v := V.bool ((((x_640 && (x_649 == 0)) && (x_658 == 0)) && (x_661 == 0)) && (x_648 == (x_644 == a2_601)))) (.fn rfl) ?_
        refine SafeOps.bjoin 9 98 (b := (((((x_640 && (x_649 == 0)) && (x_658 == 0)) && (x_661 == 0)) && (x_648 == (x_644 == a2_601))) && (x_657 == (x_648 && (a2_601 == a3_602))))) (b1 := (x_657 == (x_648 && (a2_601 == a3_602)))) (b0 := false) (fun hc667 K => ?_) (fun hc667 K => ?_) bj_and ?_
        · skip
          refine SafeOps.quiet0 E_good (congrArg some hc667) rfl rfl (v := V.bool x_657) (.fn rfl) ?_
          refine SafeOps.quiet0 E_good (congrArg some hc667) rfl rfl (v := V.bool x_648) (.fn rfl) ?_
          refine SafeOps.quiet0 E_good (congrArg some hc667) rfl rfl (v := V.bool x_648) (.fn rfl) ?_
          refine SafeOps.bjoin 4 96 (b := (x_648 && (a2_601 == a3_602))) (b1 := (a2_601 == a3_602)) (b0 := false) (fun hc668 K => ?_) (fun hc668 K => ?_) bj_and ?_
          · skip
            refine SafeOps.quiet0 E_good (congrArg some hc668) rfl rfl (v := V.int .i64 a2_601) (.fn rfl) ?_
            refine SafeOps.quiet0 E_good (congrArg some hc668) rfl rfl (v := V.int .i64 a3_602) (.fn rfl) ?_
            refine SafeOps.quiet0 E_good (congrArg some hc668) rfl rfl (v := V.bool (a2_601 == a3_602)) (.fn rfl) ?_
            refine SafeOps.quiet0 E_good (congrArg some hc667) rfl rfl (v := V.bool (a2_601 == a3_602)) (.pickK rfl hc668 rfl) ?_
            exact SafeOps.drop' 4 rfl rfl rfl K
          · skip
            refine SafeOps.skip (congrArg some hc668) rfl rfl ?_
            refine SafeOps.skip (congrArg some hc668) rfl rfl ?_
            refine SafeOps.skip (congrArg some hc668) rfl rfl ?_
            refine SafeOps.quiet0 E_good (congrArg some hc667) rfl rfl (v := V.bool false) (.pickK rfl hc668 rfl) ?_
            exact SafeOps.drop' 4 rfl rfl rfl K
          refine SafeOps.quiet0 E_good (congrArg some hc667) rfl rfl (v := V.bool (x_657 == (x_648 && (a2_601 == a3_602)))) (.fn rfl) ?_
          refine SafeOps.quiet0 E_good rfl rfl rfl (v := V.bool (x_657 == (x_648 && (a2_601 == a3_602)))) (.pickK rfl hc667 rfl) ?_
          exact SafeOps.drop' 6 rfl rfl rfl K
        · skip
          refine SafeOps.skip (congrArg some hc667) rfl rfl ?_
          refine SafeOps.skip (congrArg some hc667) rfl rfl ?_
          refine SafeOps.skip (congrArg some hc667) rfl rfl ?_
          refine SafeOps.skip rfl rfl rfl ?_
          refine SafeOps.skip rfl rfl rfl ?_
          refine SafeOps.skip rfl rfl rfl ?_
          refine SafeOps.skip (congrArg some hc667) rfl rfl ?_
          refine SafeOps.skip (congrArg some hc667) rfl rfl ?_
          refine SafeOps.quiet0 E_good rfl rfl rfl (v := V.bool false) (.pickK rfl hc667 rfl) ?_
          exact SafeOps.drop' 9 rfl rfl rfl K
        refine SafeOps.quiet0 E_good rfl rfl rfl (v := V.bool (((((x_640 && (x_649 == 0)) && (x_658 == 0)) && (x_661 == 0)) && (x_648 == (x_644 == a2_601))) && (x_657 == (x_648 && (a2_601 == a3_602))))) (.fn rfl) ?_
        refine SafeOps.bsplit 4 103 (fun b_672 => go_ravellaw01_CellSwap_j1 a3_602 x_644 x_648 x_660 b_672 = some r) (fun HJ673 => ?_) (fun b_672 h => ?_)
        · refine ifG h (fun hc669 h => ?_) (fun hc669 h => ?_)
          · skip
            refine SafeOps.quiet0 E_good (congrArg some hc669) rfl rfl (v := V.ref [38, 0] 0 (rws (fun n => [V.int .i64 n]) x_647).length) (.fn rfl) ?_
            refine SafeOps.quiet0 E_good (congrArg some hc669) rfl rfl (v := V.ref [59, 0] 0 (rws (fun n => [V.int .i64 n]) x_656).length) (.fn rfl) ?_
            refine bindG h ?_
            intro x_675 he676 h
            refine SafeOps.quiet0 E_good (congrArg some hc669) rfl rfl (v := V.bool x_675) (.callS rfl (.cons (.full rfl rfl) (.cons (.full rfl rfl) .nil)) (go_cell_Same_sc x_647 x_656 _ he676) (.plain rfl) rfl) ?_
            refine SafeOps.quiet0 E_good rfl rfl rfl (v := V.bool x_675) (.pickK rfl hc669 rfl) ?_
            exact SafeOps.drop' 4 rfl rfl rfl (HJ673 _ h)
          · skip
            refine SafeOps.skip (congrArg some hc669) rfl rfl ?_
            refine SafeOps.skip (congrArg some hc669) rfl rfl ?_
            refine SafeOps.skip (congrArg some hc669) rfl rfl ?_
            refine SafeOps.quiet0 E_good rfl rfl rfl (v := V.bool false) (.pickK rfl hc669 rfl) ?_
            exact SafeOps.drop' 4 rfl rfl rfl (HJ673 _ h)
        · replace h : go_ravellaw01_CellSwap_j1 a3_602 x_644 x_648 x_660 b_672 = some r := h
          rw [go_ravellaw01_CellSwap_j1] at h
          refine SafeOps.quiet0 E_good rfl rfl rfl (v := V.bool b_672) (.fn rfl) ?_
          refine ifG h (fun hc674 h => ?_) (fun hc674 h => ?_)
          · skip
            refine SafeOps.quiet0 E_good (congrArg some hc674) rfl rfl (v := V.int .i64 x_660) (.fn rfl) ?_
            refine SafeOps.quiet1 E_good (congrArg some hc674) rfl rfl (.mkMapM (fun b : Bool => V.bool b) (fun n : Int => V.int .i64 n)) rfl ?_
            refine SafeOps.quiet0 E_good (congrArg some hc674) rfl rfl (v := V.int .i64 a3_602) (.fn rfl) ?_
            refine SafeOps.mputM (fun b : Bool => V.bool b) (fun n : Int => V.int .i64 n) [] true a3_602 E_good keyB (congrArg some hc674) (.inr rfl) rfl rfl rfl rfl rfl rfl rfl rfl rfl ?_
            refine SafeOps.quiet0 E_good (congrArg some hc674) rfl rfl (v := V.int .i64 x_644) (.fn rfl) ?_
            refine SafeOps.mputM (fun b : Bool => V.bool b) (fun n : Int => V.int .i64 n) (mput [] true a3_602) false x_644 E_good keyB (congrArg some hc674) (.inr rfl) rfl rfl rfl rfl rfl rfl rfl rfl rfl ?_
            refine SafeOps.quiet0 E_good (congrArg some hc674) rfl rfl (v := V.mapr [106]) (.fn rfl) ?_
            refine SafeOps.quiet0 E_good (congrArg some hc674) rfl rfl (v := V.bool x_648) (.fn rfl) ?_
            refine SafeOps.quiet0 E_good (congrArg some hc674) rfl rfl (v := V.int .i64 ((mget (mput (mput [] true a3_602) false x_644) x_648).getD 0)) (.lookM (fv := (fun n : Int => V.int .i64 n)) (m := mput (mput [] true a3_602) false x_644) (kk := x_648) (z0 := 0) keyB rfl rfl rfl rfl rfl rfl rfl rfl rfl rfl) ?_
            refine SafeOps.quiet0 E_good (congrArg some hc674) rfl rfl (v := V.bool (x_660 == ((mget (mput (mput [] true a3_602) false x_644) x_648).getD 0))) (.fn rfl) ?_
            refine SafeOps.quiet0 E_good rfl rfl rfl (v := V.bool (x_660 == ((mget (mput (mput [] true a3_602) false x_644) x_648).getD 0))) (.pickK rfl hc674 rfl) ?_
            refine SafeOps.quiet0 E_good rfl rfl rfl (v := V.bool (x_660 == ((mget (mput (mput [] true a3_602) false x_644) x_648).getD 0))) (.fn rfl) ?_
            refine SafeOps.nil ?_
            repeat (first | refine Safe.seq ?_ | refine Safe.skip ?_ | with_reducible refine thenQ.n ?_ | with_reducible refine blockQ.n ?_)
            refine Safe.ret ?_
            repeat (first | with_reducible refine thenQ.r ?_ | with_reducible refine blockQ.r ?_)
            obtain rfl := Option.some.inj h
            exact retQ.gen (vs := [V.bool (x_660 == ((mget (mput (mput [] true a3_602) false x_644) x_648).getD 0))]) rfl (.tmp (v := V.bool (x_660 == ((mget (mput (mput [] true a3_602) false x_644) x_648).getD 0))) rfl .nil) (.free rfl) (by simp) (.inr rfl)
          · skip
            refine SafeOps.skip (congrArg some hc674) rfl rfl ?_
            refine SafeOps.skip (congrArg some hc674) rfl rfl ?_
            refine SafeOps.skip (congrArg some hc674) rfl rfl ?_
            refine SafeOps.skip0 (congrArg some hc674) rfl ?_
            refine SafeOps.skip (congrArg some hc674) rfl rfl ?_
            refine SafeOps.skip0 (congrArg some hc674) rfl ?_
            refine SafeOps.skip (congrArg some hc674) rfl rfl ?_
            refine SafeOps.skip (congrArg some hc674) rfl rfl ?_
            refine SafeOps.skip (congrArg some hc674) rfl rfl ?_
            refine SafeOps.skip (congrArg some hc674) rfl rfl ?_
            refine SafeOps.quiet0 E_good rfl rfl rfl (v := V.bool false) (.pickK rfl hc674 rfl) ?_
            refine SafeOps.quiet0 E_good rfl rfl rfl (v := V.bool false) (.fn rfl) ?_
            refine SafeOps.nil ?_
            repeat (first | refine Safe.seq ?_ | refine Safe.skip ?_ | with_reducible refine thenQ.n ?_ | with_reducible refine blockQ.n ?_)
            refine Safe.ret ?_
            repeat (first | with_reducible refine thenQ.r ?_ | with_reducible refine blockQ.r ?_)
            obtain rfl := Option.some.inj h
            exact retQ.gen (vs := [V.bool false]) rfl (.tmp (v := V.bool false) rfl .nil) (.free rfl) (by simp) (.inr rfl)

noncomputable def go_cell_Do_j1 (v4_763 : List Int) (v5_764 : Int) (v6_765 : Int) : Option ((List Int) × Int × Int) :=
  some (v4_763, v5_764, v6_765)

noncomputable def go_cell_Do (a0_690 : List Int) (a1_691 : api_Mic) : Option ((List Int) × Int × Int) :=
  if (a1_691.Kind == 0) = true then
    (go_cell_Load a0_690 a1_691.At).bind fun (x_768, x_769) =>
    if (x_769 == 0) = true then
      (go_slices_Clone_api_Mem_int64 a0_690).bind fun x_772 =>
      go_cell_Do_j1 x_772 x_768 x_769
    else
      go_cell_Do_j1 [] x_768 x_769
  else
    if (a1_691.Kind == 1) = true then
      (go_cell_Store a0_690 a1_691.At a1_691.A).bind fun (x_775, x_776) =>
      go_cell_Do_j1 x_775 0 x_776
    else
      if (a1_691.Kind == 2) = true then
        (go_cell_Cas a0_690 a1_691.At a1_691.A a1_691.B).bind fun (x_779, x_780, x_781) =>
        if x_780 = true then
          go_cell_Do_j1 x_779 1 x_781
        else
          go_cell_Do_j1 x_779 0 x_781
      else
        if (a1_691.Kind == 3) = true then
          (go_cell_Add a0_690 a1_691.At a1_691.A).bind fun (x_785, x_786, x_787) =>
          go_cell_Do_j1 x_785 x_786 x_787
        else
          go_cell_Do_j1 [] 0 1

theorem go_cell_Do_sc (a0_690 : List Int) (a1_691 : api_Mic) (r : (List Int) × Int × Int) (h : go_cell_Do a0_690 a1_691 = some r) : SC Try.prog gl 16 [V.sl 1 (rws (fun n => [V.int .i64 n]) a0_690), V.agg [V.int .i64 a1_691.Kind, V.int .i64 a1_691.At, V.int .i64 a1_691.A, V.int .i64 a1_691.B]] (V.tup [V.own 1 (rws (fun n => [V.int .i64 n]) r.1), V.int .i64 r.2.1, V.int .i64 r.2.2]) := by
  rw [go_cell_Do] at h
  refine SC.of E_good Try.func16 rfl (fun _ _ => Try.call16 _ _) rfl ?_
  repeat (first | refine Safe.seq ?_ | refine Safe.skip ?_ | with_reducible refine thenQ.n ?_ | with_reducible refine blockQ.n ?_)
  refine Safe.region ?_
  refine SafeOps.quiet1 E_good rfl rfl rfl (.box rfl rfl) rfl ?_
  refine SafeOps.quiet0 E_good rfl rfl rfl (v := V.nils) (.fn rfl) ?_
  refine SafeOps.quiet0 E_good rfl rfl rfl (v := V.int .i64 0) (.fn rfl) ?_
  refine SafeOps.quiet0 E_good rfl rfl rfl (v := V.int .i64 0) (.fn rfl) ?_
  refine SafeOps.nil ?_
  repeat (first | refine Safe.seq ?_ | refine Safe.skip ?_ | with_reducible refine thenQ.n ?_ | with_reducible refine blockQ.n ?_)
  refine Safe.region ?_
  refine SafeOps.quiet0 E_good rfl rfl rfl (v := V.ptr [3] 0 0) (.fn rfl) ?_
  refine SafeOps.quiet0 E_good rfl rfl rfl (v := V.int .i64 a1_691.Kind) (.load rfl rfl (.box rfl rfl) rfl) ?_
  refine SafeOps.nil ?_
  repeat (first | refine Safe.seq ?_ | refine Safe.skip ?_ | with_reducible refine thenQ.n ?_ | with_reducible refine blockQ.n ?_)
  refine Safe.joinT (fun ((v4_763, v5_764, v6_765) : (List Int) × Int × Int) => go_cell_Do_j1 v4_763 v5_764 v6_765 = some r) (fun ((v4_763, v5_764, v6_765) : (List Int) × Int × Int) => ⟨Try.f16.ntmps, [(4, V.ref [7000, 118, 4] 0 (rws (fun n => [V.int .i64 n]) v4_763).length), (5, V.int .i64 v5_764), (6, V.int .i64 v6_765)], [([7000, 118, 4], Obj.rows 1 (rws (fun n => [V.int .i64 n]) v4_763) false)], [], []⟩) ?_ (fun HJ766 => ?_)
  · rintro ⟨v4_763, v5_764, v6_765⟩ h
    replace h : go_cell_Do_j1 v4_763 v5_764 v6_765 = some r := h
    rw [go_cell_Do_j1] at h
    repeat (first | refine Safe.seq ?_ | refine Safe.skip ?_ | with_reducible refine thenQ.n ?_ | with_reducible refine blockQ.n ?_)
    refine Safe.region ?_
    refine SafeOps.quiet0 E_good rfl rfl rfl (v := V.ref [7000, 118, 4] 0 (rws (fun n => [V.int .i64 n]) v4_763).length) (.fn rfl) ?_
    refine SafeOps.quiet0 E_good rfl rfl rfl (v := V.int .i64 v5_764) (.fn rfl) ?_
    refine SafeOps.quiet0 E_good rfl rfl rfl (v := V.int .i64 v6_765) (.fn rfl) ?_
    refine SafeOps.quiet0 E_good rfl rfl rfl (v := V.ref [7000, 118, 4] 0 (rws (fun n => [V.int .i64 n]) v4_763).length) (.fn rfl) ?_
    refine SafeOps.quiet0 E_good rfl rfl rfl (v := V.int .i64 v5_764) (.fn rfl) ?_
    refine SafeOps.quiet0 E_good rfl rfl rfl (v := V.int .i64 v6_765) (.fn rfl) ?_
    refine SafeOps.nil ?_
    repeat (first | refine Safe.seq ?_ | refine Safe.skip ?_ | with_reducible refine thenQ.n ?_ | with_reducible refine blockQ.n ?_)
    refine Safe.ret ?_
    repeat (first | with_reducible refine thenQ.r ?_ | with_reducible refine blockQ.r ?_)
    obtain rfl := Option.some.inj h
    exact retQ.gen (vs := [V.ref [7000, 118, 4] 0 (rws (fun n => [V.int .i64 n]) v4_763).length, V.int .i64 v5_764, V.int .i64 v6_765]) rfl (.tmp (v := V.ref [7000, 118, 4] 0 (rws (fun n => [V.int .i64 n]) v4_763).length) rfl (.tmp (v := V.int .i64 v5_764) rfl (.tmp (v := V.int .i64 v6_765) rfl .nil))) (by exact (.tup (.cons (.own rfl rfl) (.cons (.free rfl) (.cons (.free rfl) .nil))))) (by simp) (.inr rfl)
  · skip
    refine Safe.block ?_
    repeat (first | refine Safe.seq ?_ | refine Safe.skip ?_ | with_reducible refine thenQ.n ?_ | with_reducible refine blockQ.n ?_)
    refine Safe.region ?_
    refine SafeOps.quiet0 E_good rfl rfl rfl (v := V.bool (a1_691.Kind == 0)) (.fn rfl) ?_
    refine SafeOps.quiet0 E_good rfl rfl rfl (v := V.bool (a1_691.Kind == 0)) (.fn rfl) ?_
    refine SafeOps.nil ?_
    repeat (first | refine Safe.seq ?_ | refine Safe.skip ?_ | with_reducible refine thenQ.n ?_ | with_reducible refine blockQ.n ?_)
    refine ifG h (fun hc767 h => ?_) (fun hc767 h => ?_)
    · skip
      refine Safe.condK rfl hc767 ?_
      repeat (first | refine Safe.seq ?_ | refine Safe.skip ?_ | with_reducible refine thenQ.n ?_ | with_reducible refine blockQ.n ?_)
      refine Safe.region ?_
      refine SafeOps.quiet0 E_good rfl rfl rfl (v := V.sl 1 (rws (fun n => [V.int .i64 n]) a0_690)) (.fn rfl) ?_
      refine SafeOps.quiet0 E_good rfl rfl rfl (v := V.ptr [3] 0 1) (.fn rfl) ?_
      refine SafeOps.quiet0 E_good rfl rfl rfl (v := V.int .i64 a1_691.At) (.load rfl rfl (.box rfl rfl) rfl) ?_
      refine bindG h ?_
      rintro ⟨x_768, x_769⟩ he770 h
      refine SafeOps.quiet0 E_good rfl rfl rfl (v := V.tup [V.int .i64 x_768, V.int .i64 x_769]) (.callP rfl rfl (go_cell_Load_sc a0_690 a1_691.At _ he770) rfl) ?_
      refine SafeOps.quiet0 E_good rfl rfl rfl (v := V.tup [V.int .i64 x_768, V.int .i64 x_769]) (.fn rfl) ?_
      refine SafeOps.quiet0 E_good rfl rfl rfl (v := V.int .i64 x_768) (.fn rfl) ?_
      refine SafeOps.quiet0 E_good rfl rfl rfl (v := V.int .i64 x_769) (.fn rfl) ?_
      refine SafeOps.quiet0 E_good rfl rfl rfl (v := V.int .i64 x_768) (.fn rfl) ?_
      refine SafeOps.quiet0 E_good rfl rfl rfl (v := V.int .i64 x_769) (.fn rfl) ?_
      refine SafeOps.nil ?_
      repeat (first | refine Safe.seq ?_ | refine Safe.skip ?_ | with_reducible refine thenQ.n ?_ | with_reducible refine blockQ.n ?_)
      refine Safe.region ?_
      refine SafeOps.quiet0 E_good rfl rfl rfl (v := V.int .i64 x_769) (.fn rfl) ?_
      refine SafeOps.quiet0 E_good rfl rfl rfl (v := V.bool (x_769 == 0)) (.fn rfl) ?_
      refine SafeOps.nil ?_
      repeat (first | refine Safe.seq ?_ | refine Safe.skip ?_ | with_reducible refine thenQ.n ?_ | with_reducible refine blockQ.n ?_)
      refine ifG h (fun hc771 h => ?_) (fun hc771 h => ?_)
      · skip
        refine Safe.condK rfl hc771 ?_
        repeat (first | refine Safe.seq ?_ | refine Safe.skip ?_ | with_reducible refine thenQ.n ?_ | with_reducible refine blockQ.n ?_)
        refine Safe.region ?_
        refine SafeOps.quiet0 E_good rfl rfl rfl (v := V.sl 1 (rws (fun n => [V.int .i64 n]) a0_690)) (.fn rfl) ?_
        refine bindG h ?_
        intro x_772 he773 h
        refine SafeOps.quiet E_good rfl rfl rfl (v := V.ref [22, 0] 0 (rws (fun n => [V.int .i64 n]) x_772).length) (.callP rfl rfl (go_slices_Clone_api_Mem_int64_sc a0_690 _ he773) rfl) rfl ?_
        refine SafeOps.quiet0 E_good rfl rfl rfl (v := V.ref [22, 0] 0 (rws (fun n => [V.int .i64 n]) x_772).length) (.fn rfl) ?_
        refine SafeOps.nil ?_
        repeat (first | refine Safe.skip ?_ | with_reducible refine thenQ.n ?_ | with_reducible refine blockQ.n ?_)
        exact Safe.got (HJ766 (x_772, x_768, x_769) h) (.ren [22, 0] [7000, 118, 4] (.cov ⟨rfl, rfl, (upT_cons (.refl _) (upT_cons (.refl _) (upT_cons (.refl _) upT_nil))), (upOb_cons rfl (.refl _) upOb_nil), upOut_nil, rfl⟩))
      · skip
        refine Safe.condN rfl hc771 ?_
        repeat (first | refine Safe.skip ?_ | with_reducible refine thenQ.n ?_ | with_reducible refine blockQ.n ?_)
        exact Safe.got (HJ766 ([], x_768, x_769) h) (.empty [7000, 118, 4] 1 rfl (.cov ⟨rfl, rfl, (upT_cons (.nilref _) (upT_cons (.refl _) (upT_cons (.refl _) upT_nil))), (upOb_cons rfl (.refl _) upOb_nil), upOut_nil, rfl⟩))
    · skip
      refine Safe.condN rfl hc767 ?_
      repeat (first | refine Safe.seq ?_ | refine Safe.skip ?_ | with_reducible refine thenQ.n ?_ | with_reducible refine blockQ.n ?_)
      refine Safe.region ?_
      refine SafeOps.quiet0 E_good rfl rfl rfl (v := V.bool (a1_691.Kind == 1)) (.fn rfl) ?_
      refine SafeOps.quiet0 E_good rfl rfl rfl (v := V.bool (a1_691.Kind == 1)) (.fn rfl) ?_
      refine SafeOps.nil ?_
      repeat (first | refine Safe.seq ?_ | refine Safe.skip ?_ | with_reducible refine thenQ.n ?_ | with_reducible refine blockQ.n ?_)
      refine ifG h (fun hc774 h => ?_) (fun hc774 h => ?_)
      · skip
        refine Safe.condK rfl hc774 ?_
        repeat (first | refine Safe.seq ?_ | refine Safe.skip ?_ | with_reducible refine thenQ.n ?_ | with_reducible refine blockQ.n ?_)
        refine Safe.region ?_
        refine SafeOps.quiet0 E_good rfl rfl rfl (v := V.sl 1 (rws (fun n => [V.int .i64 n]) a0_690)) (.fn rfl) ?_
        refine SafeOps.quiet0 E_good rfl rfl rfl (v := V.ptr [3] 0 1) (.fn rfl) ?_
        refine SafeOps.quiet0 E_good rfl rfl rfl (v := V.int .i64 a1_691.At) (.load rfl rfl (.box rfl rfl) rfl) ?_
        refine SafeOps.quiet0 E_good rfl rfl rfl (v := V.ptr [3] 0 2) (.fn rfl) ?_
        refine SafeOps.quiet0 E_good rfl rfl rfl (v := V.int .i64 a1_691.A) (.load rfl rfl (.box rfl rfl) rfl) ?_
        refine bindG h ?_
        rintro ⟨x_775, x_776⟩ he777 h
        refine SafeOps.quiet E_good rfl rfl rfl (v := V.tup [V.ref [31, 0] 0 (rws (fun n => [V.int .i64 n]) x_775).length, V.int .i64 x_776]) (.callP rfl rfl (go_cell_Store_sc a0_690 a1_691.At a1_691.A _ he777) rfl) rfl ?_
        refine SafeOps.quiet0 E_good rfl rfl rfl (v := V.tup [V.ref [31, 0] 0 (rws (fun n => [V.int .i64 n]) x_775).length, V.int .i64 x_776]) (.fn rfl) ?_
        refine SafeOps.quiet0 E_good rfl rfl rfl (v := V.ref [31, 0] 0 (rws (fun n => [V.int .i64 n]) x_775).length) (.fn rfl) ?_
        refine SafeOps.quiet0 E_good rfl rfl rfl (v := V.int .i64 x_776) (.fn rfl) ?_
        refine SafeOps.quiet0 E_good rfl rfl rfl (v := V.ref [31, 0] 0 (rws (fun n => [V.int .i64 n]) x_775).length) (.fn rfl) ?_
        refine SafeOps.quiet0 E_good rfl rfl rfl (v := V.int .i64 x_776) (.fn rfl) ?_
        refine SafeOps.nil ?_
        repeat (first | refine Safe.skip ?_ | with_reducible refine thenQ.n ?_ | with_reducible refine blockQ.n ?_)
        exact Safe.got (HJ766 (x_775, 0, x_776) h) (.ren [31, 0] [7000, 118, 4] (.cov ⟨rfl, rfl, (upT_cons (.refl _) (upT_cons (.refl _) (upT_cons (.refl _) upT_nil))), (upOb_cons rfl (.refl _) upOb_nil), upOut_nil, rfl⟩))
      · skip
        refine Safe.condN rfl hc774 ?_
        repeat (first | refine Safe.seq ?_ | refine Safe.skip ?_ | with_reducible refine thenQ.n ?_ | with_reducible refine blockQ.n ?_)
        refine Safe.region ?_
        refine SafeOps.quiet0 E_good rfl rfl rfl (v := V.bool (a1_691.Kind == 2)) (.fn rfl) ?_
        refine SafeOps.quiet0 E_good rfl rfl rfl (v := V.bool (a1_691.Kind == 2)) (.fn rfl) ?_
        refine SafeOps.nil ?_
        repeat (first | refine Safe.seq ?_ | refine Safe.skip ?_ | with_reducible refine thenQ.n ?_ | with_reducible refine blockQ.n ?_)
        refine ifG h (fun hc778 h => ?_) (fun hc778 h => ?_)
        · skip
          refine Safe.condK rfl hc778 ?_
          repeat (first | refine Safe.seq ?_ | refine Safe.skip ?_ | with_reducible refine thenQ.n ?_ | with_reducible refine blockQ.n ?_)
          refine Safe.region ?_
          refine SafeOps.quiet0 E_good rfl rfl rfl (v := V.bool false) (.fn rfl) ?_
          refine SafeOps.nil ?_
          repeat (first | refine Safe.seq ?_ | refine Safe.skip ?_ | with_reducible refine thenQ.n ?_ | with_reducible refine blockQ.n ?_)
          refine Safe.region ?_
          refine SafeOps.quiet0 E_good rfl rfl rfl (v := V.sl 1 (rws (fun n => [V.int .i64 n]) a0_690)) (.fn rfl) ?_
          refine SafeOps.quiet0 E_good rfl rfl rfl (v := V.ptr [3] 0 1) (.fn rfl) ?_
          refine SafeOps.quiet0 E_good rfl rfl rfl (v := V.int .i64 a1_691.At) (.load rfl rfl (.box rfl rfl) rfl) ?_
          refine SafeOps.quiet0 E_good rfl rfl rfl (v := V.ptr [3] 0 2) (.fn rfl) ?_
          refine SafeOps.quiet0 E_good rfl rfl rfl (v := V.int .i64 a1_691.A) (.load rfl rfl (.box rfl rfl) rfl) ?_
          refine SafeOps.quiet0 E_good rfl rfl rfl (v := V.ptr [3] 0 3) (.fn rfl) ?_
          refine SafeOps.quiet0 E_good rfl rfl rfl (v := V.int .i64 a1_691.B) (.load rfl rfl (.box rfl rfl) rfl) ?_
          refine bindG h ?_
          rintro ⟨x_779, x_780, x_781⟩ he782 h
          refine SafeOps.quiet E_good rfl rfl rfl (v := V.tup [V.ref [44, 0] 0 (rws (fun n => [V.int .i64 n]) x_779).length, V.bool x_780, V.int .i64 x_781]) (.callP rfl rfl (go_cell_Cas_sc a0_690 a1_691.At a1_691.A a1_691.B _ he782) rfl) rfl ?_
          refine SafeOps.quiet0 E_good rfl rfl rfl (v := V.tup [V.ref [44, 0] 0 (rws (fun n => [V.int .i64 n]) x_779).length, V.bool x_780, V.int .i64 x_781]) (.fn rfl) ?_
          refine SafeOps.quiet0 E_good rfl rfl rfl (v := V.ref [44, 0] 0 (rws (fun n => [V.int .i64 n]) x_779).length) (.fn rfl) ?_
          refine SafeOps.quiet0 E_good rfl rfl rfl (v := V.bool x_780) (.fn rfl) ?_
          refine SafeOps.quiet0 E_good rfl rfl rfl (v := V.int .i64 x_781) (.fn rfl) ?_
          refine SafeOps.quiet0 E_good rfl rfl rfl (v := V.ref [44, 0] 0 (rws (fun n => [V.int .i64 n]) x_779).length) (.fn rfl) ?_
          refine SafeOps.quiet0 E_good rfl rfl rfl (v := V.bool x_780) (.fn rfl) ?_
          refine SafeOps.quiet0 E_good rfl rfl rfl (v := V.int .i64 x_781) (.fn rfl) ?_
          refine SafeOps.nil ?_
          repeat (first | refine Safe.seq ?_ | refine Safe.skip ?_ | with_reducible refine thenQ.n ?_ | with_reducible refine blockQ.n ?_)
          refine Safe.region ?_
          refine SafeOps.quiet0 E_good rfl rfl rfl (v := V.bool x_780) (.fn rfl) ?_
          refine SafeOps.nil ?_
          repeat (first | refine Safe.seq ?_ | refine Safe.skip ?_ | with_reducible refine thenQ.n ?_ | with_reducible refine blockQ.n ?_)
          refine ifG h (fun hc783 h => ?_) (fun hc783 h => ?_)
          · skip
            refine Safe.condK rfl hc783 ?_
            repeat (first | refine Safe.seq ?_ | refine Safe.skip ?_ | with_reducible refine thenQ.n ?_ | with_reducible refine blockQ.n ?_)
            refine Safe.region ?_
            refine SafeOps.quiet0 E_good rfl rfl rfl (v := V.int .i64 1) (.fn rfl) ?_
            refine SafeOps.nil ?_
            repeat (first | refine Safe.skip ?_ | with_reducible refine thenQ.n ?_ | with_reducible refine blockQ.n ?_)
            exact Safe.got (HJ766 (x_779, 1, x_781) h) (.ren [44, 0] [7000, 118, 4] (.cov ⟨rfl, rfl, (upT_cons (.refl _) (upT_cons (.refl _) (upT_cons (.refl _) upT_nil))), (upOb_cons rfl (.refl _) upOb_nil), upOut_nil, rfl⟩))
          · skip
            refine Safe.condN rfl hc783 ?_
            repeat (first | refine Safe.skip ?_ | with_reducible refine thenQ.n ?_ | with_reducible refine blockQ.n ?_)
            exact Safe.got (HJ766 (x_779, 0, x_781) h) (.ren [44, 0] [7000, 118, 4] (.cov ⟨rfl, rfl, (upT_cons (.refl _) (upT_cons (.refl _) (upT_cons (.refl _) upT_nil))), (upOb_cons rfl (.refl _) upOb_nil), upOut_nil, rfl⟩))
        · skip
          refine Safe.condN rfl hc778 ?_
          repeat (first | refine Safe.seq ?_ | refine Safe.skip ?_ | with_reducible refine thenQ.n ?_ | with_reducible refine blockQ.n ?_)
          refine Safe.region ?_
          refine SafeOps.quiet0 E_good rfl rfl rfl (v := V.bool (a1_691.Kind == 3)) (.fn rfl) ?_
          refine SafeOps.quiet0 E_good rfl rfl rfl (v := V.bool (a1_691.Kind == 3)) (.fn rfl) ?_
          refine SafeOps.nil ?_
          repeat (first | refine Safe.seq ?_ | refine Safe.skip ?_ | with_reducible refine thenQ.n ?_ | with_reducible refine blockQ.n ?_)
          refine ifG h (fun hc784 h => ?_) (fun hc784 h => ?_)
          · skip
            refine Safe.condK rfl hc784 ?_
            repeat (first | refine Safe.seq ?_ | refine Safe.skip ?_ | with_reducible refine thenQ.n ?_ | with_reducible refine blockQ.n ?_)
            refine Safe.region ?_
            refine SafeOps.quiet0 E_good rfl rfl rfl (v := V.sl 1 (rws (fun n => [V.int .i64 n]) a0_690)) (.fn rfl) ?_
            refine SafeOps.quiet0 E_good rfl rfl rfl (v := V.ptr [3] 0 1) (.fn rfl) ?_
            refine SafeOps.quiet0 E_good rfl rfl rfl (v := V.int .i64 a1_691.At) (.load rfl rfl (.box rfl rfl) rfl) ?_
            refine SafeOps.quiet0 E_good rfl rfl rfl (v := V.ptr [3] 0 2) (.fn rfl) ?_
            refine SafeOps.quiet0 E_good rfl rfl rfl (v := V.int .i64 a1_691.A) (.load rfl rfl (.box rfl rfl) rfl) ?_
            refine bindG h ?_
            rintro ⟨x_785, x_786, x_787⟩ he788 h
            refine SafeOps.quiet E_good rfl rfl rfl (v := V.tup [V.ref [57, 0] 0 (rws (fun n => [V.int .i64 n]) x_785).length, V.int .i64 x_786, V.int .i64 x_787]) (.callP rfl rfl (go_cell_Add_sc a0_690 a1_691.At a1_691.A _ he788) rfl) rfl ?_
            refine SafeOps.quiet0 E_good rfl rfl rfl (v := V.tup [V.ref [57, 0] 0 (rws (fun n => [V.int .i64 n]) x_785).length, V.int .i64 x_786, V.int .i64 x_787]) (.fn rfl) ?_
            refine SafeOps.quiet0 E_good rfl rfl rfl (v := V.ref [57, 0] 0 (rws (fun n => [V.int .i64 n]) x_785).length) (.fn rfl) ?_
            refine SafeOps.quiet0 E_good rfl rfl rfl (v := V.int .i64 x_786) (.fn rfl) ?_
            refine SafeOps.quiet0 E_good rfl rfl rfl (v := V.int .i64 x_787) (.fn rfl) ?_
            refine SafeOps.quiet0 E_good rfl rfl rfl (v := V.ref [57, 0] 0 (rws (fun n => [V.int .i64 n]) x_785).length) (.fn rfl) ?_
            refine SafeOps.quiet0 E_good rfl rfl rfl (v := V.int .i64 x_786) (.fn rfl) ?_
            refine SafeOps.quiet0 E_good rfl rfl rfl (v := V.int .i64 x_787) (.fn rfl) ?_
            refine SafeOps.nil ?_
            repeat (first | refine Safe.skip ?_ | with_reducible refine thenQ.n ?_ | with_reducible refine blockQ.n ?_)
            exact Safe.got (HJ766 (x_785, x_786, x_787) h) (.ren [57, 0] [7000, 118, 4] (.cov ⟨rfl, rfl, (upT_cons (.refl _) (upT_cons (.refl _) (upT_cons (.refl _) upT_nil))), (upOb_cons rfl (.refl _) upOb_nil), upOut_nil, rfl⟩))
          · skip
            refine Safe.condN rfl hc784 ?_
            repeat (first | refine Safe.seq ?_ | refine Safe.skip ?_ | with_reducible refine thenQ.n ?_ | with_reducible refine blockQ.n ?_)
            refine Safe.region ?_
            refine SafeOps.quiet0 E_good rfl rfl rfl (v := V.int .i64 1) (.fn rfl) ?_
            refine SafeOps.nil ?_
            repeat (first | refine Safe.skip ?_ | with_reducible refine thenQ.n ?_ | with_reducible refine blockQ.n ?_)
            exact Safe.got (HJ766 ([], 0, 1) h) (.empty [7000, 118, 4] 1 rfl (.cov ⟨rfl, rfl, (upT_cons (.nilref _) (upT_cons (.refl _) (upT_cons (.refl _) upT_nil))), (upOb_cons rfl (.refl _) upOb_nil), upOut_nil, rfl⟩))

noncomputable def go_ravelref01_New_s1 (a0_800 : Int) : ((List Int) × Int) → Option (((List Int) × Int) ⊕ ((List Int) × Int))
  | (v4_829, v12_830) =>
    if (decide (v12_830 < a0_800)) = true then
      if few (v4_829 ++ [0]).length then
        nextO (v4_829 ++ [0], IntKind.i64.wrap (v12_830 + 1))
      else none
    else
      inrO (
        some (v4_829, 0))

noncomputable def go_ravelref01_New (a0_800 : Int) : Option ((List Int) × Int) :=
  if ((decide (a0_800 < 0)) || (decide (a0_800 > 65536))) = true then
    some ([], 1)
  else
    whileO (go_ravelref01_New_s1 a0_800) ([], 0)

theorem go_ravelref01_New_sc (a0_800 : Int) (r : (List Int) × Int) (h : go_ravelref01_New a0_800 = some r) : SC Try.prog gl 18 [V.int .i64 a0_800] (V.tup [V.own 1 (rws (fun n => [V.int .i64 n]) r.1), V.int .i64 r.2]) := by
  rw [go_ravelref01_New] at h
  refine SC.of E_good Try.func18 rfl (fun _ _ => Try.call18 _ _) rfl ?_
  repeat (first | refine Safe.seq ?_ | refine Safe.skip ?_ | with_reducible refine thenQ.n ?_ | with_reducible refine blockQ.n ?_)
  refine Safe.region ?_
  refine SafeOps.quiet0 E_good rfl rfl rfl (v := V.nils) (.fn rfl) ?_
  refine SafeOps.quiet0 E_good rfl rfl rfl (v := V.int .i64 0) (.fn rfl) ?_
  refine SafeOps.nil ?_
  repeat (first | refine Safe.seq ?_ | refine Safe.skip ?_ | with_reducible refine thenQ.n ?_ | with_reducible refine blockQ.n ?_)
  refine Safe.region ?_
  refine SafeOps.quiet0 E_good rfl rfl rfl (v := V.int .i64 a0_800) (.fn rfl) ?_
  refine SafeOps.quiet0 E_good rfl rfl rfl (v := V.bool (decide (a0_800 < 0))) (.fn rfl) ?_
  refine SafeOps.quiet0 E_good rfl rfl rfl (v := V.bool (decide (a0_800 < 0))) (.fn rfl) ?_
  refine SafeOps.bjoin 3 10 (b := ((decide (a0_800 < 0)) || (decide (a0_800 > 65536)))) (b1 := true) (b0 := decide (a0_800 > 65536)) (fun hc821 K => ?_) (fun hc821 K => ?_) bj_or ?_
  · skip
    refine SafeOps.skip (congrArg (fun b => some (!b)) hc821) rfl rfl ?_
    refine SafeOps.skip (congrArg (fun b => some (!b)) hc821) rfl rfl ?_
    refine SafeOps.quiet0 E_good rfl rfl rfl (v := V.bool true) (.pickK rfl hc821 rfl) ?_
    exact SafeOps.drop' 3 rfl rfl rfl K
  · skip
    refine SafeOps.quiet0 E_good (congrArg (fun b => some (!b)) hc821) rfl rfl (v := V.int .i64 a0_800) (.fn rfl) ?_
    refine SafeOps.quiet0 E_good (congrArg (fun b => some (!b)) hc821) rfl rfl (v := V.bool (decide (a0_800 > 65536))) (.fn rfl) ?_
    refine SafeOps.quiet0 E_good rfl rfl rfl (v := V.bool (decide (a0_800 > 65536))) (.pickK rfl hc821 rfl) ?_
    exact SafeOps.drop' 3 rfl rfl rfl K
  refine SafeOps.nil ?_
  repeat (first | refine Safe.seq ?_ | refine Safe.skip ?_ | with_reducible refine thenQ.n ?_ | with_reducible refine blockQ.n ?_)
  refine ifG h (fun hc822 h => ?_) (fun hc822 h => ?_)
  · skip
    refine Safe.condK rfl hc822 ?_
    repeat (first | refine Safe.seq ?_ | refine Safe.skip ?_ | with_reducible refine thenQ.n ?_ | with_reducible refine blockQ.n ?_)
    refine Safe.region ?_
    refine SafeOps.quiet0 E_good rfl rfl rfl (v := V.nils) (.fn rfl) ?_
    refine SafeOps.quiet0 E_good rfl rfl rfl (v := V.int .i64 1) (.fn rfl) ?_
    refine SafeOps.nil ?_
    repeat (first | refine Safe.seq ?_ | refine Safe.skip ?_ | with_reducible refine thenQ.n ?_ | with_reducible refine blockQ.n ?_)
    refine Safe.ret ?_
    repeat (first | with_reducible refine thenQ.r ?_ | with_reducible refine blockQ.r ?_)
    obtain rfl := Option.some.inj h
    exact retQ.gen (vs := [V.nils, V.int .i64 1]) rfl (.tmp (v := V.nils) rfl (.tmp (v := V.int .i64 1) rfl .nil)) (by exact (.tup (.cons (.nils _) (.cons (.free rfl) .nil)))) (by simp) (.inr rfl)
  · skip
    refine Safe.condN rfl hc822 ?_
    repeat (first | refine Safe.seq ?_ | refine Safe.skip ?_ | with_reducible refine thenQ.n ?_ | with_reducible refine blockQ.n ?_)
    refine Safe.region ?_
    refine SafeOps.quiet0 E_good rfl rfl rfl (v := V.nils) (.fn rfl) ?_
    refine SafeOps.nil ?_
    repeat (first | refine Safe.seq ?_ | refine Safe.skip ?_ | with_reducible refine thenQ.n ?_ | with_reducible refine blockQ.n ?_)
    refine Safe.region ?_
    refine SafeOps.quiet0 E_good rfl rfl rfl (v := V.int .i64 a0_800) (.fn rfl) ?_
    refine SafeOps.quiet0 E_good rfl rfl rfl (v := V.int .i64 0) (.fn rfl) ?_
    refine SafeOps.nil ?_
    repeat (first | refine Safe.seq ?_ | refine Safe.skip ?_ | with_reducible refine thenQ.n ?_ | with_reducible refine blockQ.n ?_)
    refine Safe.block ?_
    repeat (first | refine Safe.seq ?_ | refine Safe.skip ?_ | with_reducible refine thenQ.n ?_ | with_reducible refine blockQ.n ?_)
    refine Safe.loopW (fun ((v4_829, v12_830) : (List Int) × Int) => ⟨Try.f18.ntmps, [(4, V.ref [7000, 118, 4] 0 (rws (fun n => [V.int .i64 n]) v4_829).length), (11, V.int .i64 a0_800), (12, V.int .i64 v12_830)], [([7000, 118, 4], Obj.rows 1 (rws (fun n => [V.int .i64 n]) v4_829) false)], [], []⟩) h (.empty [7000, 118, 4] 1 rfl (.cov ⟨rfl, rfl, (upT_cons (.nilref _) (upT_cons (.refl _) (upT_cons (.refl _) upT_nil))), (upOb_cons rfl (.refl _) upOb_nil), upOut_nil, rfl⟩)) ?_
    rintro ⟨v4_829, v12_830⟩ ohr831 h hr831
    replace h : go_ravelref01_New_s1 a0_800 (v4_829, v12_830) = some ohr831 := h
    rw [go_ravelref01_New_s1] at h
    repeat (first | refine Safe.seq ?_ | refine Safe.skip ?_ | with_reducible refine thenQ.n ?_ | with_reducible refine blockQ.n ?_)
    refine Safe.region ?_
    refine SafeOps.quiet0 E_good rfl rfl rfl (v := V.bool (decide (v12_830 < a0_800))) (.fn rfl) ?_
    refine SafeOps.nil ?_
    repeat (first | refine Safe.seq ?_ | refine Safe.skip ?_ | with_reducible refine thenQ.n ?_ | with_reducible refine blockQ.n ?_)
    refine ifG h (fun hc832 h => ?_) (fun hc832 h => ?_)
    · skip
      refine Safe.condK rfl hc832 ?_
      repeat (first | refine Safe.seq ?_ | refine Safe.skip ?_ | with_reducible refine thenQ.n ?_ | with_reducible refine blockQ.n ?_)
      refine Safe.block ?_
      repeat (first | refine Safe.seq ?_ | refine Safe.skip ?_ | with_reducible refine thenQ.n ?_ | with_reducible refine blockQ.n ?_)
      refine Safe.region ?_
      refine SafeOps.quiet0 E_good rfl rfl rfl (v := V.ref [7000, 118, 4] 0 (rws (fun n => [V.int .i64 n]) v4_829).length) (.fn rfl) ?_
      refine SafeOps.quiet1 E_good rfl rfl rfl (.litM (f := (fun n => [V.int .i64 n])) (xs := [0]) rfl rfl (by decide) rfl rfl rfl rfl rfl) rfl ?_
      refine okG h (fun hb833 h => ?_)
      refine SafeOps.appendM (fun n => [V.int .i64 n]) (xs := v4_829) (ys := [0]) E_good rfl rfl rfl rfl rfl rfl rfl rfl rfl (.own rfl) (.own rfl) (fun _ => rfl) hb833 ?_
      refine SafeOps.quiet0 E_good rfl rfl rfl (v := V.ref [16] 0 (rws (fun n => [V.int .i64 n]) (v4_829 ++ [0])).length) (.fn rfl) ?_
      refine SafeOps.nil ?_
      repeat (first | refine Safe.seq ?_ | refine Safe.skip ?_ | with_reducible refine thenQ.n ?_ | with_reducible refine blockQ.n ?_)
      refine Safe.region ?_
      refine SafeOps.quiet0 E_good rfl rfl rfl (v := V.int .i64 (IntKind.i64.wrap (v12_830 + 1))) (.fn rfl) ?_
      refine SafeOps.quiet0 E_good rfl rfl rfl (v := V.int .i64 (IntKind.i64.wrap (v12_830 + 1))) (.fn rfl) ?_
      refine SafeOps.nil ?_
      repeat (first | refine Safe.seq ?_ | refine Safe.skip ?_ | with_reducible refine thenQ.n ?_ | with_reducible refine blockQ.n ?_)
      exact ⟨_, next_out h, (.ren [16] [7000, 118, 4] (.cov ⟨rfl, rfl, (upT_cons (.refl _) (upT_cons (.refl _) (upT_cons (.refl _) upT_nil))), (upOb_cons rfl (.refl _) upOb_nil), upOut_nil, rfl⟩))⟩
    · skip
      refine Safe.condN rfl hc832 ?_
      repeat (first | refine Safe.seq ?_ | refine Safe.skip ?_ | with_reducible refine thenQ.n ?_ | with_reducible refine blockQ.n ?_)
      refine Safe.exit ?_
      repeat (first | with_reducible refine thenQ.e ?_ | with_reducible refine blockQ.x rfl ?_ | with_reducible refine blockQ.y rfl ?_)
      replace h := inr_out h hr831
      repeat (first | refine Safe.seq ?_ | refine Safe.skip ?_ | with_reducible refine thenQ.n ?_ | with_reducible refine blockQ.n ?_)
      refine Safe.region ?_
      refine SafeOps.quiet0 E_good rfl rfl rfl (v := V.ref [7000, 118, 4] 0 (rws (fun n => [V.int .i64 n]) v4_829).length) (.fn rfl) ?_
      refine SafeOps.quiet0 E_good rfl rfl rfl (v := V.ref [7000, 118, 4] 0 (rws (fun n => [V.int .i64 n]) v4_829).length) (.fn rfl) ?_
      refine SafeOps.quiet0 E_good rfl rfl rfl (v := V.int .i64 0) (.fn rfl) ?_
      refine SafeOps.nil ?_
      repeat (first | refine Safe.seq ?_ | refine Safe.skip ?_ | with_reducible refine thenQ.n ?_ | with_reducible refine blockQ.n ?_)
      refine Safe.ret ?_
      repeat (first | with_reducible refine thenQ.r ?_ | with_reducible refine blockQ.r ?_)
      obtain rfl := Option.some.inj h
      exact retQ.gen (vs := [V.ref [7000, 118, 4] 0 (rws (fun n => [V.int .i64 n]) v4_829).length, V.int .i64 0]) rfl (.tmp (v := V.ref [7000, 118, 4] 0 (rws (fun n => [V.int .i64 n]) v4_829).length) rfl (.tmp (v := V.int .i64 0) rfl .nil)) (by exact (.tup (.cons (.own rfl rfl) (.cons (.free rfl) .nil)))) (by simp) (.inr rfl)

noncomputable def go_ravellaw01_CellDoes_s4 (a0_677 : List Int) (x_895 : Bool) (x_904 : List Int) (b_934 : Bool) : ((List Int) × Int) → Option (((List Int) × Int) ⊕ (Bool))
  | (v11_958, v115_959) =>
    if (decide (v115_959 < (x_904.length : Int))) = true then
      if 0 ≤ v115_959 ∧ v115_959 < (v11_958.length : Int) then
        if 0 ≤ v115_959 ∧ v115_959 < (v11_958.length : Int) then
          nextO (st v11_958 v115_959 (IntKind.i64.wrap ((gt v11_958 v115_959) + 1)), IntKind.i64.wrap (v115_959 + 1))
        else none
      else none
    else
      inrO (
        if (x_895 && b_934) = true then
          (go_ravelref01_Same a0_677 ([] ++ a0_677)).bind fun x_968 =>
          some x_968
        else
          some false)

noncomputable def go_ravellaw01_CellDoes_j2 (a0_677 : List Int) (x_895 : Bool) (x_904 : List Int) (b_934 : Bool) : Option Bool :=
  whileO (go_ravellaw01_CellDoes_s4 a0_677 x_895 x_904 b_934) (x_904, 0)

noncomputable def go_ravellaw01_CellDoes_j1 (a0_677 : List Int) (a1_678 : List Int) (x_895 : Bool) (x_904 : List Int) (x_913 : Int) (x_916 : Int) (b_925 : Bool) : Option Bool :=
  if ((b_925 && (x_913 == x_916)) && ((go_cell_Check a0_677) == (go_ravelref01_Check a0_677))) = true then
    (go_cell_Same a0_677 a1_678).bind fun x_970 =>
    (go_ravelref01_Same a0_677 a1_678).bind fun x_972 =>
    go_ravellaw01_CellDoes_j2 a0_677 x_895 x_904 (x_970 == x_972)
  else
    go_ravellaw01_CellDoes_j2 a0_677 x_895 x_904 false

noncomputable def go_ravellaw01_CellDoes (a0_677 : List Int) (a1_678 : List Int) (a2_679 : api_Mic) (a3_680 : Int) : Option Bool :=
  (go_ravellaw01_live).bind fun x_895 =>
  if (!x_895) = true then
    some false
  else
    if ((((decide ((a0_677.length : Int) > 300)) && (decide ((a0_677.length : Int) ≤ 65536))) || (decide ((a1_678.length : Int) > 300))) || ((decide (a3_680 > 300)) && (decide (a3_680 ≤ 65536)))) = true then
      some x_895
    else
      if fewB 8 ([] ++ a0_677).length then
        (go_cell_Do a0_677 a2_679).bind fun (x_904, x_905, x_906) =>
        (go_ravelref01_Do a0_677 a2_679).bind fun (x_908, x_909, x_910) =>
        (go_cell_New a3_680).bind fun (x_912, x_913) =>
        (go_ravelref01_New a3_680).bind fun (x_915, x_916) =>
        (go_ravelref01_Same x_904 x_908).bind fun x_918 =>
        if ((x_918 && (x_905 == x_909)) && (x_906 == x_910)) = true then
          (go_ravelref01_Same x_912 x_915).bind fun x_974 =>
          go_ravellaw01_CellDoes_j1 a0_677 a1_678 x_895 x_904 x_913 x_916 x_974
        else
          go_ravellaw01_CellDoes_j1 a0_677 a1_678 x_895 x_904 x_913 x_916 false
      else none

theorem go_ravellaw01_CellDoes_sc (a0_677 : List Int) (a1_678 : List Int) (a2_679 : api_Mic) (a3_680 : Int) (r : Bool) (h : go_ravellaw01_CellDoes a0_677 a1_678 a2_679 a3_680 = some r) : SC Try.prog gl 6 [V.sl 1 (rws (fun n => [V.int .i64 n]) a0_677), V.sl 1 (rws (fun n => [V.int .i64 n]) a1_678), V.agg [V.int .i64 a2_679.Kind, V.int .i64 a2_679.At, V.int .i64 a2_679.A, V.int .i64 a2_679.B], V.int .i64 a3_680] (V.bool r) := by
  rw [go_ravellaw01_CellDoes] at h
  refine SC.of E_good Try.func6 rfl (fun _ _ => Try.call6 _ _) rfl ?_
  repeat (first | refine Safe.seq ?_ | refine Safe.skip ?_ | with_reducible refine thenQ.n ?_ | with_reducible refine blockQ.n ?_)
  refine Safe.region ?_
  refine SafeOps.quiet1 E_good rfl rfl rfl (.box rfl rfl) rfl ?_
  refine SafeOps.quiet0 E_good rfl rfl rfl (v := V.bool false) (.fn rfl) ?_
  refine SafeOps.nil ?_
  repeat (first | refine Safe.seq ?_ | refine Safe.skip ?_ | with_reducible refine thenQ.n ?_ | with_reducible refine blockQ.n ?_)
  refine Safe.region ?_
  refine bindG h ?_
  intro x_895 he896 h
  refine SafeOps.quiet0 E_good rfl rfl rfl (v := V.bool x_895) (.callP rfl rfl (go_ravellaw01_live_sc  _ he896) rfl) ?_
  refine SafeOps.quiet0 E_good rfl rfl rfl (v := V.bool x_895) (.fn rfl) ?_
  refine SafeOps.nil ?_
  repeat (first | refine Safe.seq ?_ | refine Safe.skip ?_ | with_reducible refine thenQ.n ?_ | with_reducible refine blockQ.n ?_)
  refine Safe.region ?_
  refine SafeOps.quiet0 E_good rfl rfl rfl (v := V.bool x_895) (.fn rfl) ?_
  refine SafeOps.quiet0 E_good rfl rfl rfl (v := V.bool (!x_895)) (.fn rfl) ?_
  refine SafeOps.nil ?_
  repeat (first | refine Safe.seq ?_ | refine Safe.skip ?_ | with_reducible refine thenQ.n ?_ | with_reducible refine blockQ.n ?_)
  refine ifG h (fun hc897 h => ?_) (fun hc897 h => ?_)
  · skip
    refine Safe.condK rfl hc897 ?_
    repeat (first | refine Safe.seq ?_ | refine Safe.skip ?_ | with_reducible refine thenQ.n ?_ | with_reducible refine blockQ.n ?_)
    refine Safe.region ?_
    refine SafeOps.quiet0 E_good rfl rfl rfl (v := V.bool false) (.fn rfl) ?_
    refine SafeOps.nil ?_
    repeat (first | refine Safe.seq ?_ | refine Safe.skip ?_ | with_reducible refine thenQ.n ?_ | with_reducible refine blockQ.n ?_)
    refine Safe.ret ?_
    repeat (first | with_reducible refine thenQ.r ?_ | with_reducible refine blockQ.r ?_)
    obtain rfl := Option.some.inj h
    exact retQ.gen (vs := [V.bool false]) rfl (.tmp (v := V.bool false) rfl .nil) (.free rfl) (by simp) (.inr rfl)
  · skip
    refine Safe.condN rfl hc897 ?_
    repeat (first | refine Safe.seq ?_ | refine Safe.skip ?_ | with_reducible refine thenQ.n ?_ | with_reducible refine blockQ.n ?_)
    refine Safe.region ?_
    refine SafeOps.quiet0 E_good rfl rfl rfl (v := V.sl 1 (rws (fun n => [V.int .i64 n]) a0_677)) (.fn rfl) ?_
    refine SafeOps.quiet0 E_good rfl rfl rfl (v := V.int .i64 (a0_677.length : Int)) (.fnE rfl lenE) ?_
    refine SafeOps.quiet0 E_good rfl rfl rfl (v := V.bool (decide ((a0_677.length : Int) > 300))) (.fn rfl) ?_
    refine SafeOps.quiet0 E_good rfl rfl rfl (v := V.bool (decide ((a0_677.length : Int) > 300))) (.fn rfl) ?_
    refine SafeOps.bjoin 4 33 (b := ((decide ((a0_677.length : Int) > 300)) && (decide ((a0_677.length : Int) ≤ 65536)))) (b1 := decide ((a0_677.length : Int) ≤ 65536)) (b0 := false) (fun hc898 K => ?_) (fun hc898 K => ?_) bj_and ?_
    · skip
      refine SafeOps.quiet0 E_good (congrArg some hc898) rfl rfl (v := V.sl 1 (rws (fun n => [V.int .i64 n]) a0_677)) (.fn rfl) ?_
      refine SafeOps.quiet0 E_good (congrArg some hc898) rfl rfl (v := V.int .i64 (a0_677.length : Int)) (.fnE rfl lenE) ?_
      refine SafeOps.quiet0 E_good (congrArg some hc898) rfl rfl (v := V.bool (decide ((a0_677.length : Int) ≤ 65536))) (.fn rfl) ?_
      refine SafeOps.quiet0 E_good rfl rfl rfl (v := V.bool (decide ((a0_677.length : Int) ≤ 65536))) (.pickK rfl hc898 rfl) ?_
      exact SafeOps.drop' 4 rfl rfl rfl K
    · skip
      refine SafeOps.skip (congrArg some hc898) rfl rfl ?_
      refine SafeOps.skip (congrArg some hc898) rfl rfl ?_
      refine SafeOps.skip (congrArg some hc898) rfl rfl ?_
      refine SafeOps.quiet0 E_good rfl rfl rfl (v := V.bool false) (.pickK rfl hc898 rfl) ?_
      exact SafeOps.drop' 4 rfl rfl rfl K
    refine SafeOps.quiet0 E_good rfl rfl rfl (v := V.bool ((decide ((a0_677.length : Int) > 300)) && (decide ((a0_677.length : Int) ≤ 65536)))) (.fn rfl) ?_
    refine SafeOps.bjoin 4 38 (b := (((decide ((a0_677.length : Int) > 300)) && (decide ((a0_677.length : Int) ≤ 65536))) || (decide ((a1_678.length : Int) > 300)))) (b1 := true) (b0 := decide ((a1_678.length : Int) > 300)) (fun hc899 K => ?_) (fun hc899 K => ?_) bj_or ?_
    · skip
      refine SafeOps.skip (congrArg (fun b => some (!b)) hc899) rfl rfl ?_
      refine SafeOps.skip (congrArg (fun b => some (!b)) hc899) rfl rfl ?_
      refine SafeOps.skip (congrArg (fun b => some (!b)) hc899) rfl rfl ?_
      refine SafeOps.quiet0 E_good rfl rfl rfl (v := V.bool true) (.pickK rfl hc899 rfl) ?_
      exact SafeOps.drop' 4 rfl rfl rfl K
    · skip
      refine SafeOps.quiet0 E_good (congrArg (fun b => some (!b)) hc899) rfl rfl (v := V.sl 1 (rws (fun n => [V.int .i64 n]) a1_678)) (.fn rfl) ?_
      refine SafeOps.quiet0 E_good (congrArg (fun b => some (!b)) hc899) rfl rfl (v := V.int .i64 (a1_678.length : Int)) (.fnE rfl lenE) ?_
      refine SafeOps.quiet0 E_good (congrArg (fun b => some (!b)) hc899) rfl rfl (v := V.bool (decide ((a1_678.length : Int) > 300))) (.fn rfl) ?_
      refine SafeOps.quiet0 E_good rfl rfl rfl (v := V.bool (decide ((a1_678.length : Int) > 300))) (.pickK rfl hc899 rfl) ?_
      exact SafeOps.drop' 4 rfl rfl rfl K
    refine SafeOps.quiet0 E_good rfl rfl rfl (v := V.bool (((decide ((a0_677.length : Int) > 300)) && (decide ((a0_677.length : Int) ≤ 65536))) || (decide ((a1_678.length : Int) > 300)))) (.fn rfl) ?_
    refine SafeOps.bjoin 7 46 (b := ((((decide ((a0_677.length : Int) > 300)) && (decide ((a0_677.length : Int) ≤ 65536))) || (decide ((a1_678.length : Int) > 300))) || ((decide (a3_680 > 300)) && (decide (a3_680 ≤ 65536))))) (b1 := true) (b0 := ((decide (a3_680 > 300)) && (decide (a3_680 ≤ 65536)))) (fun hc900 K => ?_) (fun hc900 K => ?_) bj_or ?_
    · skip
      refine SafeOps.skip (congrArg (fun b => some (!b)) hc900) rfl rfl ?_
      refine SafeOps.skip (congrArg (fun b => some (!b)) hc900) rfl rfl ?_
      refine SafeOps.skip (congrArg (fun b => some (!b)) hc900) rfl rfl ?_
      refine SafeOps.skip rfl rfl rfl ?_
      refine SafeOps.skip rfl rfl rfl ?_
      refine SafeOps.skip (congrArg (fun b => some (!b)) hc900) rfl rfl ?_
      refine SafeOps.quiet0 E_good rfl rfl rfl (v := V.bool true) (.pickK rfl hc900 rfl) ?_
      exact SafeOps.drop' 7 rfl rfl rfl K
    · skip
      refine SafeOps.quiet0 E_good (congrArg (fun b => some (!b)) hc900) rfl rfl (v := V.int .i64 a3_680) (.fn rfl) ?_
      refine SafeOps.quiet0 E_good (congrArg (fun b => some (!b)) hc900) rfl rfl (v := V.bool (decide (a3_680 > 300))) (.fn rfl) ?_
      refine SafeOps.quiet0 E_good (congrArg (fun b => some (!b)) hc900) rfl rfl (v := V.bool (decide (a3_680 > 300))) (.fn rfl) ?_
      refine SafeOps.bjoin 3 45 (b := ((decide (a3_680 > 300)) && (decide (a3_680 ≤ 65536)))) (b1 := decide (a3_680 ≤ 65536)) (b0 := false) (fun hc901 K => ?_) (fun hc901 K => ?_) bj_and ?_
      · skip
        refine SafeOps.quiet0 E_good (congrArg some hc901) rfl rfl (v := V.int .i64 a3_680) (.fn rfl) ?_
        refine SafeOps.quiet0 E_good (congrArg some hc901) rfl rfl (v := V.bool (decide (a3_680 ≤ 65536))) (.fn rfl) ?_
        refine SafeOps.quiet0 E_good (congrArg (fun b => some (!b)) hc900) rfl rfl (v := V.bool (decide (a3_680 ≤ 65536))) (.pickK rfl hc901 rfl) ?_
        exact SafeOps.drop' 3 rfl rfl rfl K
      · skip
        refine SafeOps.skip (congrArg some hc901) rfl rfl ?_
        refine SafeOps.skip (congrArg some hc901) rfl rfl ?_
        refine SafeOps.quiet0 E_good (congrArg (fun b => some (!b)) hc900) rfl rfl (v := V.bool false) (.pickK rfl hc901 rfl) ?_
        exact SafeOps.drop' 3 rfl rfl rfl K
      refine SafeOps.quiet0 E_good rfl rfl rfl (v := V.bool ((decide (a3_680 > 300)) && (decide (a3_680 ≤ 65536)))) (.pickK rfl hc900 rfl) ?_
      exact SafeOps.drop' 5 rfl rfl rfl K
    refine SafeOps.nil ?_
    repeat (first | refine Safe.seq ?_ | refine Safe.skip ?_ | with_reducible refine thenQ.n ?_ | with_reducible refine blockQ.n ?_)
    refine ifG h (fun hc902 h => ?_) (fun hc902 h => ?_)
    · skip
      refine Safe.condK rfl hc902 ?_
      repeat (first | refine Safe.seq ?_ | refine Safe.skip ?_ | with_reducible refine thenQ.n ?_ | with_reducible refine blockQ.n ?_)
      refine Safe.region ?_
      refine SafeOps.quiet0 E_good rfl rfl rfl (v := V.bool x_895) (.fn rfl) ?_
      refine SafeOps.quiet0 E_good rfl rfl rfl (v := V.bool x_895) (.fn rfl) ?_
      refine SafeOps.nil ?_
      repeat (first | refine Safe.seq ?_ | refine Safe.skip ?_ | with_reducible refine thenQ.n ?_ | with_reducible refine blockQ.n ?_)
      refine Safe.ret ?_
      repeat (first | with_reducible refine thenQ.r ?_ | with_reducible refine blockQ.r ?_)
      obtain rfl := Option.some.inj h
      exact retQ.gen (vs := [V.bool x_895]) rfl (.tmp (v := V.bool x_895) rfl .nil) (.free rfl) (by simp) (.inr rfl)
    · skip
      refine Safe.condN rfl hc902 ?_
      repeat (first | refine Safe.seq ?_ | refine Safe.skip ?_ | with_reducible refine thenQ.n ?_ | with_reducible refine blockQ.n ?_)
      refine Safe.region ?_
      refine SafeOps.quiet0 E_good rfl rfl rfl (v := V.sl 1 (rws (fun n => [V.int .i64 n]) a0_677)) (.fn rfl) ?_
      refine okG h (fun hb903 h => ?_)
      refine SafeOps.appendB (fun n => [V.int .i64 n]) (xs := []) (ys := a0_677) E_good rfl rfl rfl rfl rfl rfl rfl rfl .nils (.sl _) (fun _ => rfl) hb903 ?_
      refine SafeOps.quiet0 E_good rfl rfl rfl (v := V.ref [49] 0 (rws (fun n => [V.int .i64 n]) ([] ++ a0_677)).length) (.fn rfl) ?_
      refine SafeOps.nil ?_
      repeat (first | refine Safe.seq ?_ | refine Safe.skip ?_ | with_reducible refine thenQ.n ?_ | with_reducible refine blockQ.n ?_)
      refine Safe.region ?_
      refine SafeOps.quiet0 E_good rfl rfl rfl (v := V.sl 1 (rws (fun n => [V.int .i64 n]) a0_677)) (.fn rfl) ?_
      refine SafeOps.quiet0 E_good rfl rfl rfl (v := V.agg [V.int .i64 a2_679.Kind, V.int .i64 a2_679.At, V.int .i64 a2_679.A, V.int .i64 a2_679.B]) (.load rfl rfl (.box rfl rfl) rfl) ?_
      refine bindG h ?_
      rintro ⟨x_904, x_905, x_906⟩ he907 h
      refine SafeOps.quiet E_good rfl rfl rfl (v := V.tup [V.ref [53, 0] 0 (rws (fun n => [V.int .i64 n]) x_904).length, V.int .i64 x_905, V.int .i64 x_906]) (.callP rfl rfl (go_cell_Do_sc a0_677 a2_679 _ he907) rfl) rfl ?_
      refine SafeOps.quiet0 E_good rfl rfl rfl (v := V.tup [V.ref [53, 0] 0 (rws (fun n => [V.int .i64 n]) x_904).length, V.int .i64 x_905, V.int .i64 x_906]) (.fn rfl) ?_
      refine SafeOps.quiet0 E_good rfl rfl rfl (v := V.ref [53, 0] 0 (rws (fun n => [V.int .i64 n]) x_904).length) (.fn rfl) ?_
      refine SafeOps.quiet0 E_good rfl rfl rfl (v := V.int .i64 x_905) (.fn rfl) ?_
      refine SafeOps.quiet0 E_good rfl rfl rfl (v := V.int .i64 x_906) (.fn rfl) ?_
      refine SafeOps.quiet0 E_good rfl rfl rfl (v := V.ref [53, 0] 0 (rws (fun n => [V.int .i64 n]) x_904).length) (.fn rfl) ?_
      refine SafeOps.quiet0 E_good rfl rfl rfl (v := V.int .i64 x_905) (.fn rfl) ?_
      refine SafeOps.quiet0 E_good rfl rfl rfl (v := V.int .i64 x_906) (.fn rfl) ?_
      refine SafeOps.nil ?_
      repeat (first | refine Safe.seq ?_ | refine Safe.skip ?_ | with_reducible refine thenQ.n ?_ | with_reducible refine blockQ.n ?_)
      refine Safe.region ?_
      refine SafeOps.quiet0 E_good rfl rfl rfl (v := V.sl 1 (rws (fun n => [V.int .i64 n]) a0_677)) (.fn rfl) ?_
      refine SafeOps.quiet0 E_good rfl rfl rfl (v := V.agg [V.int .i64 a2_679.Kind, V.int .i64 a2_679.At, V.int .i64 a2_679.A, V.int .i64 a2_679.B]) (.load rfl rfl (.box rfl rfl) rfl) ?_
      refine bindG h ?_
      rintro ⟨x_908, x_909, x_910⟩ he911 h
      refine SafeOps.quiet E_good rfl rfl rfl (v := V.tup [V.ref [60, 0] 0 (rws (fun n => [V.int .i64 n]) x_908).length, V.int .i64 x_909, V.int .i64 x_910]) (.callP rfl rfl (go_ravelref01_Do_sc a0_677 a2_679 _ he911) rfl) rfl ?_
      refine SafeOps.quiet0 E_good rfl rfl rfl (v := V.tup [V.ref [60, 0] 0 (rws (fun n => [V.int .i64 n]) x_908).length, V.int .i64 x_909, V.int .i64 x_910]) (.fn rfl) ?_
      refine SafeOps.quiet0 E_good rfl rfl rfl (v := V.ref [60, 0] 0 (rws (fun n => [V.int .i64 n]) x_908).length) (.fn rfl) ?_
      refine SafeOps.quiet0 E_good rfl rfl rfl (v := V.int .i64 x_909) (.fn rfl) ?_
      refine SafeOps.quiet0 E_good rfl rfl rfl (v := V.int .i64 x_910) (.fn rfl) ?_
      refine SafeOps.quiet0 E_good rfl rfl rfl (v := V.ref [60, 0] 0 (rws (fun n => [V.int .i64 n]) x_908).length) (.fn rfl) ?_
      refine SafeOps.quiet0 E_good rfl rfl rfl (v := V.int .i64 x_909) (.fn rfl) ?_
      refine SafeOps.quiet0 E_good rfl rfl rfl (v := V.int .i64 x_910) (.fn rfl) ?_
      refine SafeOps.nil ?_
      repeat (first | refine Safe.seq ?_ | refine Safe.skip ?_ | with_reducible refine thenQ.n ?_ | with_reducible refine blockQ.n ?_)
      refine Safe.region ?_
      refine SafeOps.quiet0 E_good rfl rfl rfl (v := V.int .i64 a3_680) (.fn rfl) ?_
      refine bindG h ?_
      rintro ⟨x_912, x_913⟩ he914 h
      refine SafeOps.quiet E_good rfl rfl rfl (v := V.tup [V.ref [66, 0] 0 (rws (fun n => [V.int .i64 n]) x_912).length, V.int .i64 x_913]) (.callP rfl rfl (go_cell_New_sc a3_680 _ he914) rfl) rfl ?_
      refine SafeOps.quiet0 E_good rfl rfl rfl (v := V.tup [V.ref [66, 0] 0 (rws (fun n => [V.int .i64 n]) x_912).length, V.int .i64 x_913]) (.fn rfl) ?_
      refine SafeOps.quiet0 E_good rfl rfl rfl (v := V.ref [66, 0] 0 (rws (fun n => [V.int .i64 n]) x_912).length) (.fn rfl) ?_
      refine SafeOps.quiet0 E_good rfl rfl rfl (v := V.int .i64 x_913) (.fn rfl) ?_
      refine SafeOps.quiet0 E_good rfl rfl rfl (v := V.ref [66, 0] 0 (rws (fun n => [V.int .i64 n]) x_912).length) (.fn rfl) ?_
      refine SafeOps.quiet0 E_good rfl rfl rfl (v := V.int .i64 x_913) (.fn rfl) ?_
      refine SafeOps.nil ?_
      repeat (first | refine Safe.seq ?_ | refine Safe.skip ?_ | with_reducible refine thenQ.n ?_ | with_reducible refine blockQ.n ?_)
      refine Safe.region ?_
      refine SafeOps.quiet0 E_good rfl rfl rfl (v := V.int .i64 a3_680) (.fn rfl) ?_
      refine bindG h ?_
      rintro ⟨x_915, x_916⟩ he917 h
      refine SafeOps.quiet E_good rfl rfl rfl (v := V.tup [V.ref [71, 0] 0 (rws (fun n => [V.int .i64 n]) x_915).length, V.int .i64 x_916]) (.callP rfl rfl (go_ravelref01_New_sc a3_680 _ he917) rfl) rfl ?_
      refine SafeOps.quiet0 E_good rfl rfl rfl (v := V.tup [V.ref [71, 0] 0 (rws (fun n => [V.int .i64 n]) x_915).length, V.int .i64 x_916]) (.fn rfl) ?_
      refine SafeOps.quiet0 E_good rfl rfl rfl (v := V.ref [71, 0] 0 (rws (fun n => [V.int .i64 n]) x_915).length) (.fn rfl) ?_
      refine SafeOps.quiet0 E_good rfl rfl rfl (v := V.int .i64 x_916) (.fn rfl) ?_
      refine SafeOps.quiet0 E_good rfl rfl rfl (v := V.ref [71, 0] 0 (rws (fun n => [V.int .i64 n]) x_915).length) (.fn rfl) ?_
      refine SafeOps.quiet0 E_good rfl rfl rfl (v := V.int .i64 x_916) (.fn rfl) ?_
      refine SafeOps.nil ?_
      repeat (first | refine Safe.seq ?_ | refine Safe.skip ?_ | with_reducible refine thenQ.n ?_ | with_reducible refine blockQ.n ?_)
      refine Safe.region ?_
      refine SafeOps.quiet0 E_good rfl rfl rfl (v := V.ref [53, 0] 0 (rws (fun n => [V.int .i64 n]) x_904).length) (.fn rfl) ?_
      refine SafeOps.quiet0 E_good rfl rfl rfl (v := V.ref [60, 0] 0 (rws (fun n => [V.int .i64 n]) x_908).length) (.fn rfl) ?_
      refine bindG h ?_
      intro x_918 he919 h
      refine SafeOps.quiet0 E_good rfl rfl rfl (v := V.bool x_918) (.callS rfl (.cons (.full rfl rfl) (.cons (.full rfl rfl) .nil)) (go_ravelref01_Same_sc x_904 x_908 _ he919) (.plain rfl) rfl) ?_
      refine SafeOps.quiet0 E_good rfl rfl rfl (v := V.bool x_918) (.fn rfl) ?_
      refine SafeOps.bjoin 4 81 (b := (x_918 && (x_905 == x_909))) (b1 := (x_905 == x_909)) (b0 := false) (fun hc920 K => ?_) (fun hc920 K => ?_) bj_and ?_
      · skip
        refine SafeOps.quiet0 E_good (congrArg some hc920) rfl rfl (v := V.int .i64 x_905) (.fn rfl) ?_
        refine SafeOps.quiet0 E_good (congrArg some hc920) rfl rfl (v := V.int .i64 x_909) (.fn rfl) ?_
        refine SafeOps.quiet0 E_good (congrArg some hc920) rfl rfl (v := V.bool (x_905 == x_909)) (.fn rfl) ?_
        refine SafeOps.quiet0 E_good rfl rfl rfl (v := V.bool (x_905 == x_909)) (.pickK rfl hc920 rfl) ?_
        exact SafeOps.drop' 4 rfl rfl rfl K
      · skip
        refine SafeOps.skip (congrArg some hc920) rfl rfl ?_
        refine SafeOps.skip (congrArg some hc920) rfl rfl ?_
        refine SafeOps.skip (congrArg some hc920) rfl rfl ?_
        refine SafeOps.quiet0 E_good rfl rfl rfl (v := V.bool false) (.pickK rfl hc920 rfl) ?_
        exact SafeOps.drop' 4 rfl rfl rfl K
      refine SafeOps.quiet0 E_good rfl rfl rfl (v := V.bool (x_918 && (x_905 == x_909))) (.fn rfl) ?_
      refine SafeOps.bjoin 4 86 (b := ((x_918 && (x_905 == x_909)) && (x_906 == x_910))) (b1 := (x_906 == x_910)) (b0 := false) (fun hc921 K => ?_) (fun hc921 K => ?_) bj_and ?_
      · skip
        refine SafeOps.quiet0 E_good (congrArg some hc921) rfl rfl (v := V.int .i64 x_906) (.fn rfl) ?_
        refine SafeOps.quiet0 E_good (congrArg some hc921) rfl rfl (v := V.int .i64 x_910) (.fn rfl) ?_
        refine SafeOps.quiet0 E_good (congrArg some hc921) rfl rfl (v := V.bool (x_906 == x_910)) (.fn rfl) ?_
        refine SafeOps.quiet0 E_good rfl rfl rfl (v := V.bool (x_906 == x_910)) (.pickK rfl hc921 rfl) ?_
        exact SafeOps.drop' 4 rfl rfl rfl K
      · skip
        refine SafeOps.skip (congrArg some hc921) rfl rfl ?_
        refine SafeOps.skip (congrArg some hc921) rfl rfl ?_
        refine SafeOps.skip (congrArg some hc921) rfl rfl ?_
        refine SafeOps.quiet0 E_good rfl rfl rfl (v := V.bool false) (.pickK rfl hc921 rfl) ?_
        exact SafeOps.drop' 4 rfl rfl rfl K
      refine SafeOps.quiet0 E_good rfl rfl rfl (v := V.bool ((x_918 && (x_905 == x_909)) && (x_906 == x_910))) (.fn rfl) ?_
      refine SafeOps.bsplit 4 91 (fun b_925 => go_ravellaw01_CellDoes_j1 a0_677 a1_678 x_895 x_904 x_913 x_916 b_925 = some r) (fun HJ926 => ?_) (fun b_925 h => ?_)
      · refine ifG h (fun hc922 h => ?_) (fun hc922 h => ?_)
        · skip
          refine SafeOps.quiet0 E_good (congrArg some hc922) rfl rfl (v := V.ref [66, 0] 0 (rws (fun n => [V.int .i64 n]) x_912).length) (.fn rfl) ?_
          refine SafeOps.quiet0 E_good (congrArg some hc922) rfl rfl (v := V.ref [71, 0] 0 (rws (fun n => [V.int .i64 n]) x_915).length) (.fn rfl) ?_
          refine bindG h ?_
          intro x_974 he975 h
          refine SafeOps.quiet0 E_good (congrArg some hc922) rfl rfl (v := V.bool x_974) (.callS rfl (.cons (.full rfl rfl) (.cons (.full rfl rfl) .nil)) (go_ravelref01_Same_sc x_912 x_915 _ he975) (.plain rfl) rfl) ?_
          refine SafeOps.quiet0 E_good rfl rfl rfl (v := V.bool x_974) (.pickK rfl hc922 rfl) ?_
          exact SafeOps.drop' 4 rfl rfl rfl (HJ926 _ h)
        · skip
          refine SafeOps.skip (congrArg some hc922) rfl rfl ?_
          refine SafeOps.skip (congrArg some hc922) rfl rfl ?_
          refine SafeOps.skip (congrArg some hc922) rfl rfl ?_
          refine SafeOps.quiet0 E_good rfl rfl rfl (v := V.bool false) (.pickK rfl hc922 rfl) ?_
          exact SafeOps.drop' 4 rfl rfl rfl (HJ926 _ h)
      · replace h : go_ravellaw01_CellDoes_j1 a0_677 a1_678 x_895 x_904 x_913 x_916 b_925 = some r := h
        rw [go_ravellaw01_CellDoes_j1] at h
        refine SafeOps.quiet0 E_good rfl rfl rfl (v := V.bool b_925) (.fn rfl) ?_
        refine SafeOps.bjoin 4 96 (b := (b_925 && (x_913 == x_916))) (b1 := (x_913 == x_916)) (b0 := false) (fun hc927 K => ?_) (fun hc927 K => ?_) bj_and ?_
        · skip
          refine SafeOps.quiet0 E_good (congrArg some hc927) rfl rfl (v := V.int .i64 x_913) (.fn rfl) ?_
          refine SafeOps.quiet0 E_good (congrArg some hc927) rfl rfl (v := V.int .i64 x_916) (.fn rfl) ?_
          refine SafeOps.quiet0 E_good (congrArg some hc927) rfl rfl (v := V.bool (x_913 == x_916)) (.fn rfl) ?_
          refine SafeOps.quiet0 E_good rfl rfl rfl (v := V.bool (x_913 == x_916)) (.pickK rfl hc927 rfl) ?_
          exact SafeOps.drop' 4 rfl rfl rfl K
        · skip
          refine SafeOps.skip (congrArg some hc927) rfl rfl ?_
          refine SafeOps.skip (congrArg some hc927) rfl rfl ?_
          refine SafeOps.skip (congrArg some hc927) rfl rfl ?_
          refine SafeOps.quiet0 E_good rfl rfl rfl (v := V.bool false) (.pickK rfl hc927 rfl) ?_
          exact SafeOps.drop' 4 rfl rfl rfl K
        refine SafeOps.quiet0 E_good rfl rfl rfl (v := V.bool (b_925 && (x_913 == x_916))) (.fn rfl) ?_
        refine SafeOps.bjoin 6 103 (b := ((b_925 && (x_913 == x_916)) && ((go_cell_Check a0_677) == (go_ravelref01_Check a0_677)))) (b1 := ((go_cell_Check a0_677) == (go_ravelref01_Check a0_677))) (b0 := false) (fun hc928 K => ?_) (fun hc928 K => ?_) bj_and ?_
        · skip
          refine SafeOps.quiet0 E_good (congrArg some hc928) rfl rfl (v := V.sl 1 (rws (fun n => [V.int .i64 n]) a0_677)) (.fn rfl) ?_
          refine SafeOps.quiet0 E_good (congrArg some hc928) rfl rfl (v := V.int .i64 (go_cell_Check a0_677)) (.callP rfl rfl (go_cell_Check_sc a0_677 _ rfl) rfl) ?_
          refine SafeOps.quiet0 E_good (congrArg some hc928) rfl rfl (v := V.sl 1 (rws (fun n => [V.int .i64 n]) a0_677)) (.fn rfl) ?_
          refine SafeOps.quiet0 E_good (congrArg some hc928) rfl rfl (v := V.int .i64 (go_ravelref01_Check a0_677)) (.callP rfl rfl (go_ravelref01_Check_sc a0_677 _ rfl) rfl) ?_
          refine SafeOps.quiet0 E_good (congrArg some hc928) rfl rfl (v := V.bool ((go_cell_Check a0_677) == (go_ravelref01_Check a0_677))) (.fn rfl) ?_
          refine SafeOps.quiet0 E_good rfl rfl rfl (v := V.bool ((go_cell_Check a0_677) == (go_ravelref01_Check a0_677))) (.pickK rfl hc928 rfl) ?_
          exact SafeOps.drop' 6 rfl rfl rfl K
        · skip
          refine SafeOps.skip (congrArg some hc928) rfl rfl ?_
          refine SafeOps.skip (congrArg some hc928) rfl rfl ?_
          refine SafeOps.skip (congrArg some hc928) rfl rfl ?_
          refine SafeOps.skip (congrArg some hc928) rfl rfl ?_
          refine SafeOps.skip (congrArg some hc928) rfl rfl ?_
          refine SafeOps.quiet0 E_good rfl rfl rfl (v := V.bool false) (.pickK rfl hc928 rfl) ?_
          exact SafeOps.drop' 6 rfl rfl rfl K
        refine SafeOps.quiet0 E_good rfl rfl rfl (v := V.bool ((b_925 && (x_913 == x_916)) && ((go_cell_Check a0_677) == (go_ravelref01_Check a0_677)))) (.fn rfl) ?_
        refine SafeOps.bsplit 8 112 (fun b_934 => go_ravellaw01_CellDoes_j2 a0_677 x_895 x_904 b_934 = some r) (fun HJ935 => ?_) (fun b_934 h => ?_)
        · refine ifG h (fun hc929 h => ?_) (fun hc929 h => ?_)
          · skip
            refine SafeOps.quiet0 E_good (congrArg some hc929) rfl rfl (v := V.sl 1 (rws (fun n => [V.int .i64 n]) a0_677)) (.fn rfl) ?_
            refine SafeOps.quiet0 E_good (congrArg some hc929) rfl rfl (v := V.sl 1 (rws (fun n => [V.int .i64 n]) a1_678)) (.fn rfl) ?_
            refine bindG h ?_
            intro x_970 he971 h
            refine SafeOps.quiet0 E_good (congrArg some hc929) rfl rfl (v := V.bool x_970) (.callP rfl rfl (go_cell_Same_sc a0_677 a1_678 _ he971) rfl) ?_
            refine SafeOps.quiet0 E_good (congrArg some hc929) rfl rfl (v := V.sl 1 (rws (fun n => [V.int .i64 n]) a0_677)) (.fn rfl) ?_
            refine SafeOps.quiet0 E_good (congrArg some hc929) rfl rfl (v := V.sl 1 (rws (fun n => [V.int .i64 n]) a1_678)) (.fn rfl) ?_
            refine bindG h ?_
            intro x_972 he973 h
            refine SafeOps.quiet0 E_good (congrArg some hc929) rfl rfl (v := V.bool x_972) (.callP rfl rfl (go_ravelref01_Same_sc a0_677 a1_678 _ he973) rfl) ?_
            refine SafeOps.quiet0 E_good (congrArg some hc929) rfl rfl (v := V.bool (x_970 == x_972)) (.fn rfl) ?_
            refine SafeOps.quiet0 E_good rfl rfl rfl (v := V.bool (x_970 == x_972)) (.pickK rfl hc929 rfl) ?_
            exact SafeOps.drop' 8 rfl rfl rfl (HJ935 _ h)
          · skip
            refine SafeOps.skip (congrArg some hc929) rfl rfl ?_
            refine SafeOps.skip (congrArg some hc929) rfl rfl ?_
            refine SafeOps.skip (congrArg some hc929) rfl rfl ?_
            refine SafeOps.skip (congrArg some hc929) rfl rfl ?_
            refine SafeOps.skip (congrArg some hc929) rfl rfl ?_
            refine SafeOps.skip (congrArg some hc929) rfl rfl ?_
            refine SafeOps.skip (congrArg some hc929) rfl rfl ?_
            refine SafeOps.quiet0 E_good rfl rfl rfl (v := V.bool false) (.pickK rfl hc929 rfl) ?_
            exact SafeOps.drop' 8 rfl rfl rfl (HJ935 _ h)
        · replace h : go_ravellaw01_CellDoes_j2 a0_677 x_895 x_904 b_934 = some r := h
          rw [go_ravellaw01_CellDoes_j2] at h
          refine SafeOps.quiet0 E_good rfl rfl rfl (v := V.bool b_934) (.fn rfl) ?_
          refine SafeOps.nil ?_
          repeat (first | refine Safe.seq ?_ | refine Safe.skip ?_ | with_reducible refine thenQ.n ?_ | with_reducible refine blockQ.n ?_)
          refine Safe.region ?_
          refine SafeOps.quiet0 E_good rfl rfl rfl (v := V.ref [53, 0] 0 (rws (fun n => [V.int .i64 n]) x_904).length) (.fn rfl) ?_
          refine SafeOps.quiet0 E_good rfl rfl rfl (v := V.int .i64 (x_904.length : Int)) (.fnE rfl lenE) ?_
          refine SafeOps.quiet0 E_good rfl rfl rfl (v := V.int .i64 0) (.fn rfl) ?_
          refine SafeOps.nil ?_
          repeat (first | refine Safe.seq ?_ | refine Safe.skip ?_ | with_reducible refine thenQ.n ?_ | with_reducible refine blockQ.n ?_)
          refine Safe.block ?_
          repeat (first | refine Safe.seq ?_ | refine Safe.skip ?_ | with_reducible refine thenQ.n ?_ | with_reducible refine blockQ.n ?_)
          refine Safe.loopW (fun ((v11_958, v115_959) : (List Int) × Int) => ⟨Try.f6.ntmps, [(0, V.sl 1 (rws (fun n => [V.int .i64 n]) a0_677)), (9, V.bool x_895), (10, V.ref [49] 0 (rws (fun n => [V.int .i64 n]) ([] ++ a0_677)).length), (11, V.ref [53, 0] 0 (rws (fun n => [V.int .i64 n]) v11_958).length), (21, V.bool b_934), (114, V.int .i64 (x_904.length : Int)), (115, V.int .i64 v115_959)], [([49], Obj.rows 1 (rws (fun n => [V.int .i64 n]) ([] ++ a0_677)) false), ([53, 0], Obj.rows 1 (rws (fun n => [V.int .i64 n]) v11_958) false)], [], []⟩) h (.cov ⟨rfl, rfl, (upT_cons (.refl _) (upT_cons (.refl _) (upT_cons (.refl _) (upT_cons (.refl _) (upT_cons (.refl _) (upT_cons (.refl _) (upT_cons (.refl _) upT_nil))))))), (upOb_cons rfl (.refl _) (upOb_cons rfl (.refl _) upOb_nil)), upOut_nil, rfl⟩) ?_
          rintro ⟨v11_958, v115_959⟩ ohr960 h hr960
          replace h : go_ravellaw01_CellDoes_s4 a0_677 x_895 x_904 b_934 (v11_958, v115_959) = some ohr960 := h
          rw [go_ravellaw01_CellDoes_s4] at h
          repeat (first | refine Safe.seq ?_ | refine Safe.skip ?_ | with_reducible refine thenQ.n ?_ | with_reducible refine blockQ.n ?_)
          refine Safe.region ?_
          refine SafeOps.quiet0 E_good rfl rfl rfl (v := V.bool (decide (v115_959 < (x_904.length : Int)))) (.fn rfl) ?_
          refine SafeOps.nil ?_
          repeat (first | refine Safe.seq ?_ | refine Safe.skip ?_ | with_reducible refine thenQ.n ?_ | with_reducible refine blockQ.n ?_)
          refine ifG h (fun hc961 h => ?_) (fun hc961 h => ?_)
          · skip
            refine Safe.condK rfl hc961 ?_
            repeat (first | refine Safe.seq ?_ | refine Safe.skip ?_ | with_reducible refine thenQ.n ?_ | with_reducible refine blockQ.n ?_)
            refine Safe.block ?_
            repeat (first | refine Safe.seq ?_ | refine Safe.skip ?_ | with_reducible refine thenQ.n ?_ | with_reducible refine blockQ.n ?_)
            refine Safe.region ?_
            refine SafeOps.quiet0 E_good rfl rfl rfl (v := V.int .i64 v115_959) (.fn rfl) ?_
            refine SafeOps.quiet0 E_good rfl rfl rfl (v := V.int .i64 v115_959) (.fn rfl) ?_
            refine SafeOps.nil ?_
            repeat (first | refine Safe.seq ?_ | refine Safe.skip ?_ | with_reducible refine thenQ.n ?_ | with_reducible refine blockQ.n ?_)
            refine Safe.region ?_
            refine SafeOps.quiet0 E_good rfl rfl rfl (v := V.ref [53, 0] 0 (rws (fun n => [V.int .i64 n]) v11_958).length) (.fn rfl) ?_
            refine SafeOps.quiet0 E_good rfl rfl rfl (v := V.int .i64 v115_959) (.fn rfl) ?_
            refine okG h (fun hb962 h => ?_)
            refine SafeOps.quiet0 E_good rfl rfl rfl (v := V.ptr [53, 0] (0 + Int.toNat v115_959) 0) (.idxRefM (f := (fun n => [V.int .i64 n])) (xs := v11_958) rfl rfl rfl rfl rfl rfl hb962) ?_
            refine SafeOps.quiet0 E_good rfl rfl rfl (v := V.int .i64 (gt v11_958 v115_959)) (.load rfl rfl (.rowsM (f := (fun n => [V.int .i64 n])) (xs := v11_958) hb962 rfl rfl) rfl) ?_
            refine SafeOps.quiet0 E_good rfl rfl rfl (v := V.int .i64 (IntKind.i64.wrap ((gt v11_958 v115_959) + 1))) (.fn rfl) ?_
            refine okG h (fun hb963 h => ?_)
            refine SafeOps.quiet0 E_good rfl rfl rfl (v := V.ptr [53, 0] (0 + Int.toNat v115_959) 0) (.idxRefM (f := (fun n => [V.int .i64 n])) (xs := v11_958) rfl rfl rfl rfl rfl rfl hb963) ?_
            refine SafeOps.store (z := Obj.rows 1 (rws (fun n => [V.int .i64 n]) (st v11_958 v115_959 (IntKind.i64.wrap ((gt v11_958 v115_959) + 1)))) false) E_good rfl rfl rfl rfl rfl rfl rfl (.rowsM (f := (fun n => [V.int .i64 n])) (xs := v11_958) (y := IntKind.i64.wrap ((gt v11_958 v115_959) + 1)) hb963 rfl rfl rfl rfl) ?_
            refine SafeOps.see 11 (u := V.ref [53, 0] 0 (rws (fun n => [V.int .i64 n]) (st v11_958 v115_959 (IntKind.i64.wrap ((gt v11_958 v115_959) + 1)))).length) rfl (.len (by simp [rws, st])) ?_
            refine SafeOps.see 118 (u := V.ref [53, 0] 0 (rws (fun n => [V.int .i64 n]) (st v11_958 v115_959 (IntKind.i64.wrap ((gt v11_958 v115_959) + 1)))).length) rfl (.len (by simp [rws, st])) ?_
            refine SafeOps.nil ?_
            repeat (first | refine Safe.seq ?_ | refine Safe.skip ?_ | with_reducible refine thenQ.n ?_ | with_reducible refine blockQ.n ?_)
            refine Safe.region ?_
            refine SafeOps.quiet0 E_good rfl rfl rfl (v := V.int .i64 (IntKind.i64.wrap (v115_959 + 1))) (.fn rfl) ?_
            refine SafeOps.quiet0 E_good rfl rfl rfl (v := V.int .i64 (IntKind.i64.wrap (v115_959 + 1))) (.fn rfl) ?_
            refine SafeOps.nil ?_
            repeat (first | refine Safe.seq ?_ | refine Safe.skip ?_ | with_reducible refine thenQ.n ?_ | with_reducible refine blockQ.n ?_)
            exact ⟨_, next_out h, (.cov ⟨rfl, rfl, (upT_cons (.refl _) (upT_cons (.refl _) (upT_cons (.refl _) (upT_cons (.refl _) (upT_cons (.refl _) (upT_cons (.refl _) (upT_cons (.refl _) upT_nil))))))), (upOb_cons rfl (.refl _) (upOb_cons rfl (.refl _) upOb_nil)), upOut_nil, rfl⟩)⟩
          · skip
            refine Safe.condN rfl hc961 ?_
            repeat (first | refine Safe.seq ?_ | refine Safe.skip ?_ | with_reducible refine thenQ.n ?_ | with_reducible refine blockQ.n ?_)
            refine Safe.exit ?_
            repeat (first | with_reducible refine thenQ.e ?_ | with_reducible refine blockQ.x rfl ?_ | with_reducible refine blockQ.y rfl ?_)
            replace h := inr_out h hr960
            repeat (first | refine Safe.seq ?_ | refine Safe.skip ?_ | with_reducible refine thenQ.n ?_ | with_reducible refine blockQ.n ?_)
            refine Safe.region ?_
            refine SafeOps.quiet0 E_good rfl rfl rfl (v := V.bool x_895) (.fn rfl) ?_
            refine SafeOps.quiet0 E_good rfl rfl rfl (v := V.bool x_895) (.fn rfl) ?_
            refine SafeOps.bjoin 2 128 (b := (x_895 && b_934)) (b1 := b_934) (b0 := false) (fun hc964 K => ?_) (fun hc964 K => ?_) bj_and ?_
            · skip
              refine SafeOps.quiet0 E_good (congrArg some hc964) rfl rfl (v := V.bool b_934) (.fn rfl) ?_
              refine SafeOps.quiet0 E_good rfl rfl rfl (v := V.bool b_934) (.pickK rfl hc964 rfl) ?_
              exact SafeOps.drop' 2 rfl rfl rfl K
            · skip
              refine SafeOps.skip (congrArg some hc964) rfl rfl ?_
              refine SafeOps.quiet0 E_good rfl rfl rfl (v := V.bool false) (.pickK rfl hc964 rfl) ?_
              exact SafeOps.drop' 2 rfl rfl rfl K
            refine SafeOps.quiet0 E_good rfl rfl rfl (v := V.bool (x_895 && b_934)) (.fn rfl) ?_
            refine ifG h (fun hc965 h => ?_) (fun hc965 h => ?_)
            · skip
              refine SafeOps.quiet0 E_good (congrArg some hc965) rfl rfl (v := V.sl 1 (rws (fun n => [V.int .i64 n]) a0_677)) (.fn rfl) ?_
              refine SafeOps.quiet0 E_good (congrArg some hc965) rfl rfl (v := V.ref [49] 0 (rws (fun n => [V.int .i64 n]) ([] ++ a0_677)).length) (.fn rfl) ?_
              refine bindG h ?_
              intro x_968 he969 h
              refine SafeOps.quiet0 E_good (congrArg some hc965) rfl rfl (v := V.bool x_968) (.callS rfl (.cons (.free rfl) (.cons (.full rfl rfl) .nil)) (go_ravelref01_Same_sc a0_677 ([] ++ a0_677) _ he969) (.plain rfl) rfl) ?_
              refine SafeOps.quiet0 E_good rfl rfl rfl (v := V.bool x_968) (.pickK rfl hc965 rfl) ?_
              refine SafeOps.quiet0 E_good rfl rfl rfl (v := V.bool x_968) (.fn rfl) ?_
              refine SafeOps.nil ?_
              repeat (first | refine Safe.seq ?_ | refine Safe.skip ?_ | with_reducible refine thenQ.n ?_ | with_reducible refine blockQ.n ?_)
              refine Safe.ret ?_
              repeat (first | with_reducible refine thenQ.r ?_ | with_reducible refine blockQ.r ?_)
              obtain rfl := Option.some.inj h
              exact retQ.gen (vs := [V.bool x_968]) rfl (.tmp (v := V.bool x_968) rfl .nil) (.free rfl) (by simp) (.inr rfl)
            · skip
              refine SafeOps.skip (congrArg some hc965) rfl rfl ?_
              refine SafeOps.skip (congrArg some hc965) rfl rfl ?_
              refine SafeOps.skip (congrArg some hc965) rfl rfl ?_
              refine SafeOps.quiet0 E_good rfl rfl rfl (v := V.bool false) (.pickK rfl hc965 rfl) ?_
              refine SafeOps.quiet0 E_good rfl rfl rfl (v := V.bool false) (.fn rfl) ?_
              refine SafeOps.nil ?_
              repeat (first | refine Safe.seq ?_ | refine Safe.skip ?_ | with_reducible refine thenQ.n ?_ | with_reducible refine blockQ.n ?_)
              refine Safe.ret ?_
              repeat (first | with_reducible refine thenQ.r ?_ | with_reducible refine blockQ.r ?_)
              obtain rfl := Option.some.inj h
              exact retQ.gen (vs := [V.bool false]) rfl (.tmp (v := V.bool false) rfl .nil) (.free rfl) (by simp) (.inr rfl)

noncomputable def go_cell_All_s2 (a1_984 : List api_Mic) : ((List Int) × (List Int) × Int) → Option (((List Int) × (List Int) × Int) ⊕ ((List Int) × (List Int) × Int))
  | (v8_1108, v9_1109, v26_1110) =>
    if (decide (v26_1110 < (a1_984.length : Int))) = true then
      if 0 ≤ v26_1110 ∧ v26_1110 < (a1_984.length : Int) then
        (go_cell_Do v8_1108 (gt a1_984 v26_1110)).bind fun (x_1114, x_1115, x_1116) =>
        if (x_1116 != 0) = true then
          inrO (
            some ([], [], x_1116))
        else
          if few (v9_1109 ++ [x_1115]).length then
            nextO (x_1114, v9_1109 ++ [x_1115], IntKind.i64.wrap (v26_1110 + 1))
          else none
      else none
    else
      inrO (
        some (v8_1108, v9_1109, 0))

noncomputable def go_cell_All (a0_983 : List Int) (a1_984 : List api_Mic) : Option ((List Int) × (List Int) × Int) :=
  if ((go_cell_Check a0_983) != 0) = true then
    some ([], [], go_cell_Check a0_983)
  else
    (go_slices_Clone_api_Mem_int64 a0_983).bind fun x_1055 =>
    if 0 ≤ (0 : Int) ∧ (0 : Int) ≤ (a1_984.length : Int) ∧ (a1_984.length : Int) ≤ 549755813888 then
      whileO (go_cell_All_s2 a1_984) (x_1055, List.replicate (Int.toNat 0) (0 : Int), 0)
    else none

theorem go_cell_All_sc (a0_983 : List Int) (a1_984 : List api_Mic) (r : (List Int) × (List Int) × Int) (h : go_cell_All a0_983 a1_984 = some r) : SC Try.prog gl 21 [V.sl 1 (rws (fun n => [V.int .i64 n]) a0_983), V.sl 4 (rws api_Mic.cells a1_984)] (V.tup [V.own 1 (rws (fun n => [V.int .i64 n]) r.1), V.own 1 (rws (fun n => [V.int .i64 n]) r.2.1), V.int .i64 r.2.2]) := by
  rw [go_cell_All] at h
  refine SC.of E_good Try.func21 rfl (fun _ _ => Try.call21 _ _) rfl ?_
  repeat (first | refine Safe.seq ?_ | refine Safe.skip ?_ | with_reducible refine thenQ.n ?_ | with_reducible refine blockQ.n ?_)
  refine Safe.region ?_
  refine SafeOps.quiet0 E_good rfl rfl rfl (v := V.nils) (.fn rfl) ?_
  refine SafeOps.quiet0 E_good rfl rfl rfl (v := V.nils) (.fn rfl) ?_
  refine SafeOps.quiet0 E_good rfl rfl rfl (v := V.int .i64 0) (.fn rfl) ?_
  refine SafeOps.nil ?_
  repeat (first | refine Safe.seq ?_ | refine Safe.skip ?_ | with_reducible refine thenQ.n ?_ | with_reducible refine blockQ.n ?_)
  refine Safe.region ?_
  refine SafeOps.quiet0 E_good rfl rfl rfl (v := V.sl 1 (rws (fun n => [V.int .i64 n]) a0_983)) (.fn rfl) ?_
  refine SafeOps.quiet0 E_good rfl rfl rfl (v := V.int .i64 (go_cell_Check a0_983)) (.callP rfl rfl (go_cell_Check_sc a0_983 _ rfl) rfl) ?_
  refine SafeOps.quiet0 E_good rfl rfl rfl (v := V.int .i64 (go_cell_Check a0_983)) (.fn rfl) ?_
  refine SafeOps.nil ?_
  repeat (first | refine Safe.seq ?_ | refine Safe.skip ?_ | with_reducible refine thenQ.n ?_ | with_reducible refine blockQ.n ?_)
  refine Safe.region ?_
  refine SafeOps.quiet0 E_good rfl rfl rfl (v := V.int .i64 (go_cell_Check a0_983)) (.fn rfl) ?_
  refine SafeOps.quiet0 E_good rfl rfl rfl (v := V.bool ((go_cell_Check a0_983) != 0)) (.fn rfl) ?_
  refine SafeOps.nil ?_
  repeat (first | refine Safe.seq ?_ | refine Safe.skip ?_ | with_reducible refine thenQ.n ?_ | with_reducible refine blockQ.n ?_)
  refine ifG h (fun hc1054 h => ?_) (fun hc1054 h => ?_)
  · skip
    refine Safe.condK rfl hc1054 ?_
    repeat (first | refine Safe.seq ?_ | refine Safe.skip ?_ | with_reducible refine thenQ.n ?_ | with_reducible refine blockQ.n ?_)
    refine Safe.region ?_
    refine SafeOps.quiet0 E_good rfl rfl rfl (v := V.int .i64 (go_cell_Check a0_983)) (.fn rfl) ?_
    refine SafeOps.quiet0 E_good rfl rfl rfl (v := V.nils) (.fn rfl) ?_
    refine SafeOps.quiet0 E_good rfl rfl rfl (v := V.nils) (.fn rfl) ?_
    refine SafeOps.quiet0 E_good rfl rfl rfl (v := V.int .i64 (go_cell_Check a0_983)) (.fn rfl) ?_
    refine SafeOps.nil ?_
    repeat (first | refine Safe.seq ?_ | refine Safe.skip ?_ | with_reducible refine thenQ.n ?_ | with_reducible refine blockQ.n ?_)
    refine Safe.ret ?_
    repeat (first | with_reducible refine thenQ.r ?_ | with_reducible refine blockQ.r ?_)
    obtain rfl := Option.some.inj h
    exact retQ.gen (vs := [V.nils, V.nils, V.int .i64 (go_cell_Check a0_983)]) rfl (.tmp (v := V.nils) rfl (.tmp (v := V.nils) rfl (.tmp (v := V.int .i64 (go_cell_Check a0_983)) rfl .nil))) (by exact (.tup (.cons (.nils _) (.cons (.nils _) (.cons (.free rfl) .nil))))) (by simp) (.inr rfl)
  · skip
    refine Safe.condN rfl hc1054 ?_
    repeat (first | refine Safe.seq ?_ | refine Safe.skip ?_ | with_reducible refine thenQ.n ?_ | with_reducible refine blockQ.n ?_)
    refine Safe.regionD (n := 7) [] [] E_good mixed rfl ?_
    refine DAny.take (i := 0) rfl (by kernel_rfl) [] (by kernel_rfl) (by kernel_rfl) (by kernel_rfl) rfl rfl rfl (v := V.sl 1 (rws (fun n => [V.int .i64 n]) a0_983)) (fun _ hz => (.fn rfl)) ?_
    refine DAny.take (i := 2) rfl (by kernel_rfl) [] (by kernel_rfl) (by kernel_rfl) (by kernel_rfl) rfl rfl rfl (v := V.sl 4 (rws api_Mic.cells a1_984)) (fun _ hz => (.fn rfl)) ?_
    refine DAny.take (i := 3) rfl (by kernel_rfl) [] (by kernel_rfl) (by kernel_rfl) (by kernel_rfl) rfl rfl rfl (v := V.int .i64 (a1_984.length : Int)) (fun _ hz => (.fnE rfl lenE)) ?_
    refine bindG h ?_
    intro x_1055 he1056 h
    skip
    refine okG h (fun hb1057 h => ?_)
    skip
    refine DAny.pairK (i := 1) (j := 4) (k := 5) rfl rfl rfl (.inl (by kernel_rfl)) (by kernel_rfl) (by kernel_rfl) (by kernel_rfl) (by decide) (by decide) (by kernel_rfl) [] (by kernel_rfl) (by kernel_rfl) (by kernel_rfl) rfl rfl rfl rfl rfl rfl rfl rfl rfl (.callP rfl rfl (go_slices_Clone_api_Mem_int64_sc a0_983 _ he1056) rfl) (.makeM (f := (fun n => [V.int .i64 n])) (d := (0 : Int)) rfl rfl rfl rfl hb1057 rfl rfl rfl) (fun _ => (.fn rfl)) rfl rfl rfl rfl (by kernel_rfl) (by kernel_rfl) (by kernel_rfl) (by kernel_rfl) (by decide) (by decide) ?_
    refine DAny.take (i := 6) rfl (by kernel_rfl) [] (by kernel_rfl) (by kernel_rfl) (by kernel_rfl) rfl rfl rfl (v := V.ref [23] 0 (rws (fun n => [V.int .i64 n]) (List.replicate (Int.toNat 0) (0 : Int))).length) (fun _ hz => (.fn rfl)) ?_
    refine DAny.nil (by kernel_rfl) ?_
    repeat (first | refine Safe.seq ?_ | refine Safe.skip ?_ | with_reducible refine thenQ.n ?_ | with_reducible refine blockQ.n ?_)
    refine Safe.region ?_
    refine SafeOps.quiet0 E_good rfl rfl rfl (v := V.sl 4 (rws api_Mic.cells a1_984)) (.fn rfl) ?_
    refine SafeOps.quiet0 E_good rfl rfl rfl (v := V.int .i64 (a1_984.length : Int)) (.fnE rfl lenE) ?_
    refine SafeOps.quiet0 E_good rfl rfl rfl (v := V.int .i64 0) (.fn rfl) ?_
    refine SafeOps.nil ?_
    repeat (first | refine Safe.seq ?_ | refine Safe.skip ?_ | with_reducible refine thenQ.n ?_ | with_reducible refine blockQ.n ?_)
    refine Safe.block ?_
    repeat (first | refine Safe.seq ?_ | refine Safe.skip ?_ | with_reducible refine thenQ.n ?_ | with_reducible refine blockQ.n ?_)
    refine Safe.loopW (fun ((v8_1108, v9_1109, v26_1110) : (List Int) × (List Int) × Int) => ⟨Try.f21.ntmps, [(1, V.sl 4 (rws api_Mic.cells a1_984)), (8, V.ref [7000, 118, 8] 0 (rws (fun n => [V.int .i64 n]) v8_1108).length), (9, V.ref [7000, 118, 9] 0 (rws (fun n => [V.int .i64 n]) v9_1109).length), (25, V.int .i64 (a1_984.length : Int)), (26, V.int .i64 v26_1110)], [([7000, 118, 8], Obj.rows 1 (rws (fun n => [V.int .i64 n]) v8_1108) false), ([7000, 118, 9], Obj.rows 1 (rws (fun n => [V.int .i64 n]) v9_1109) false)], [], []⟩) h (.ren [20, 0] [7000, 118, 8] (.ren [23] [7000, 118, 9] (.cov ⟨rfl, rfl, (upT_cons (.refl _) (upT_cons (.refl _) (upT_cons (.refl _) (upT_cons (.refl _) (upT_cons (.refl _) upT_nil))))), (upOb_cons rfl (.refl _) (upOb_cons rfl (.refl _) upOb_nil)), upOut_nil, rfl⟩))) ?_
    rintro ⟨v8_1108, v9_1109, v26_1110⟩ ohr1111 h hr1111
    replace h : go_cell_All_s2 a1_984 (v8_1108, v9_1109, v26_1110) = some ohr1111 := h
    rw [go_cell_All_s2] at h
    repeat (first | refine Safe.seq ?_ | refine Safe.skip ?_ | with_reducible refine thenQ.n ?_ | with_reducible refine blockQ.n ?_)
    refine Safe.region ?_
    refine SafeOps.quiet0 E_good rfl rfl rfl (v := V.bool (decide (v26_1110 < (a1_984.length : Int)))) (.fn rfl) ?_
    refine SafeOps.nil ?_
    repeat (first | refine Safe.seq ?_ | refine Safe.skip ?_ | with_reducible refine thenQ.n ?_ | with_reducible refine blockQ.n ?_)
    refine ifG h (fun hc1112 h => ?_) (fun hc1112 h => ?_)
    · skip
      refine Safe.condK rfl hc1112 ?_
      repeat (first | refine Safe.seq ?_ | refine Safe.skip ?_ | with_reducible refine thenQ.n ?_ | with_reducible refine blockQ.n ?_)
      refine Safe.block ?_
      repeat (first | refine Safe.seq ?_ | refine Safe.skip ?_ | with_reducible refine thenQ.n ?_ | with_reducible refine blockQ.n ?_)
      refine Safe.region ?_
      refine SafeOps.quiet0 E_good rfl rfl rfl (v := V.int .i64 v26_1110) (.fn rfl) ?_
      refine SafeOps.quiet0 E_good rfl rfl rfl (v := V.int .i64 v26_1110) (.fn rfl) ?_
      refine SafeOps.nil ?_
      repeat (first | refine Safe.seq ?_ | refine Safe.skip ?_ | with_reducible refine thenQ.n ?_ | with_reducible refine blockQ.n ?_)
      refine Safe.region ?_
      refine SafeOps.quiet0 E_good rfl rfl rfl (v := V.ref [7000, 118, 8] 0 (rws (fun n => [V.int .i64 n]) v8_1108).length) (.fn rfl) ?_
      refine SafeOps.quiet0 E_good rfl rfl rfl (v := V.sl 4 (rws api_Mic.cells a1_984)) (.fn rfl) ?_
      refine SafeOps.quiet0 E_good rfl rfl rfl (v := V.int .i64 v26_1110) (.fn rfl) ?_
      refine okG h (fun hb1113 h => ?_)
      refine SafeOps.quiet0 E_good rfl rfl rfl (v := V.spt 4 (rws api_Mic.cells a1_984) (Int.toNat v26_1110) 0) (.idxSlM (f := api_Mic.cells) rfl rfl rfl rfl rfl hb1113) ?_
      refine SafeOps.quiet0 E_good rfl rfl rfl (v := V.agg [V.int .i64 ((gt a1_984 v26_1110).Kind), V.int .i64 ((gt a1_984 v26_1110).At), V.int .i64 ((gt a1_984 v26_1110).A), V.int .i64 ((gt a1_984 v26_1110).B)]) (.load rfl rfl (.sptM (f := api_Mic.cells) hb1113 rfl) rfl) ?_
      refine bindG h ?_
      rintro ⟨x_1114, x_1115, x_1116⟩ he1117 h
      refine SafeOps.quiet E_good rfl rfl rfl (v := V.tup [V.ref [35, 0] 0 (rws (fun n => [V.int .i64 n]) x_1114).length, V.int .i64 x_1115, V.int .i64 x_1116]) (.callS rfl (.cons (.full rfl rfl) (.cons (.free rfl) .nil)) (go_cell_Do_sc v8_1108 (gt a1_984 v26_1110) _ he1117) (.tupL (.cons (.ownM (fun _ => rfl)) (.cons (.plain rfl) (.cons (.plain rfl) .nil)))) rfl) rfl ?_
      refine SafeOps.quiet0 E_good rfl rfl rfl (v := V.tup [V.ref [35, 0] 0 (rws (fun n => [V.int .i64 n]) x_1114).length, V.int .i64 x_1115, V.int .i64 x_1116]) (.fn rfl) ?_
      refine SafeOps.quiet0 E_good rfl rfl rfl (v := V.ref [35, 0] 0 (rws (fun n => [V.int .i64 n]) x_1114).length) (.fn rfl) ?_
      refine SafeOps.quiet0 E_good rfl rfl rfl (v := V.int .i64 x_1115) (.fn rfl) ?_
      refine SafeOps.quiet0 E_good rfl rfl rfl (v := V.int .i64 x_1116) (.fn rfl) ?_
      refine SafeOps.quiet0 E_good rfl rfl rfl (v := V.ref [35, 0] 0 (rws (fun n => [V.int .i64 n]) x_1114).length) (.fn rfl) ?_
      refine SafeOps.quiet0 E_good rfl rfl rfl (v := V.int .i64 x_1115) (.fn rfl) ?_
      refine SafeOps.quiet0 E_good rfl rfl rfl (v := V.int .i64 x_1116) (.fn rfl) ?_
      refine SafeOps.nil ?_
      repeat (first | refine Safe.seq ?_ | refine Safe.skip ?_ | with_reducible refine thenQ.n ?_ | with_reducible refine blockQ.n ?_)
      refine Safe.region ?_
      refine SafeOps.quiet0 E_good rfl rfl rfl (v := V.int .i64 x_1116) (.fn rfl) ?_
      refine SafeOps.quiet0 E_good rfl rfl rfl (v := V.bool (x_1116 != 0)) (.fn rfl) ?_
      refine SafeOps.nil ?_
      repeat (first | refine Safe.seq ?_ | refine Safe.skip ?_ | with_reducible refine thenQ.n ?_ | with_reducible refine blockQ.n ?_)
      refine ifG h (fun hc1118 h => ?_) (fun hc1118 h => ?_)
      · skip
        refine Safe.condK rfl hc1118 ?_
        repeat (first | refine Safe.seq ?_ | refine Safe.skip ?_ | with_reducible refine thenQ.n ?_ | with_reducible refine blockQ.n ?_)
        refine Safe.region ?_
        refine SafeOps.quiet0 E_good rfl rfl rfl (v := V.int .i64 x_1116) (.fn rfl) ?_
        refine SafeOps.quiet0 E_good rfl rfl rfl (v := V.nils) (.fn rfl) ?_
        refine SafeOps.quiet0 E_good rfl rfl rfl (v := V.nils) (.fn rfl) ?_
        refine SafeOps.quiet0 E_good rfl rfl rfl (v := V.int .i64 x_1116) (.fn rfl) ?_
        refine SafeOps.nil ?_
        repeat (first | refine Safe.seq ?_ | refine Safe.skip ?_ | with_reducible refine thenQ.n ?_ | with_reducible refine blockQ.n ?_)
        refine Safe.ret ?_
        repeat (first | with_reducible refine thenQ.r ?_ | with_reducible refine blockQ.r ?_)
        replace h := inr_out h hr1111
        obtain rfl := Option.some.inj h
        exact retQ.gen (vs := [V.nils, V.nils, V.int .i64 x_1116]) rfl (.tmp (v := V.nils) rfl (.tmp (v := V.nils) rfl (.tmp (v := V.int .i64 x_1116) rfl .nil))) (by exact (.tup (.cons (.nils _) (.cons (.nils _) (.cons (.free rfl) .nil))))) (by simp) (.inr rfl)
      · skip
        refine Safe.condN rfl hc1118 ?_
        repeat (first | refine Safe.seq ?_ | refine Safe.skip ?_ | with_reducible refine thenQ.n ?_ | with_reducible refine blockQ.n ?_)
        refine Safe.region ?_
        refine SafeOps.quiet0 E_good rfl rfl rfl (v := V.ref [35, 0] 0 (rws (fun n => [V.int .i64 n]) x_1114).length) (.fn rfl) ?_
        refine SafeOps.quiet0 E_good rfl rfl rfl (v := V.ref [7000, 118, 9] 0 (rws (fun n => [V.int .i64 n]) v9_1109).length) (.fn rfl) ?_
        refine SafeOps.quiet0 E_good rfl rfl rfl (v := V.int .i64 x_1115) (.fn rfl) ?_
        refine SafeOps.quiet1 E_good rfl rfl rfl (.litM (f := (fun n => [V.int .i64 n])) (xs := [x_1115]) rfl rfl (by decide) rfl rfl rfl rfl rfl) rfl ?_
        refine okG h (fun hb1119 h => ?_)
        refine SafeOps.appendM (fun n => [V.int .i64 n]) (xs := v9_1109) (ys := [x_1115]) E_good rfl rfl rfl rfl rfl rfl rfl rfl rfl (.own rfl) (.own rfl) (fun _ => rfl) hb1119 ?_
        refine SafeOps.quiet0 E_good rfl rfl rfl (v := V.ref [35, 0] 0 (rws (fun n => [V.int .i64 n]) x_1114).length) (.fn rfl) ?_
        refine SafeOps.quiet0 E_good rfl rfl rfl (v := V.ref [46] 0 (rws (fun n => [V.int .i64 n]) (v9_1109 ++ [x_1115])).length) (.fn rfl) ?_
        refine SafeOps.nil ?_
        repeat (first | refine Safe.seq ?_ | refine Safe.skip ?_ | with_reducible refine thenQ.n ?_ | with_reducible refine blockQ.n ?_)
        refine Safe.region ?_
        refine SafeOps.quiet0 E_good rfl rfl rfl (v := V.int .i64 (IntKind.i64.wrap (v26_1110 + 1))) (.fn rfl) ?_
        refine SafeOps.quiet0 E_good rfl rfl rfl (v := V.int .i64 (IntKind.i64.wrap (v26_1110 + 1))) (.fn rfl) ?_
        refine SafeOps.nil ?_
        repeat (first | refine Safe.seq ?_ | refine Safe.skip ?_ | with_reducible refine thenQ.n ?_ | with_reducible refine blockQ.n ?_)
        exact ⟨_, next_out h, (.ren [35, 0] [7000, 118, 8] (.ren [46] [7000, 118, 9] (.cov ⟨rfl, rfl, (upT_cons (.refl _) (upT_cons (.refl _) (upT_cons (.refl _) (upT_cons (.refl _) (upT_cons (.refl _) upT_nil))))), (upOb_cons rfl (.refl _) (upOb_cons rfl (.refl _) upOb_nil)), upOut_nil, rfl⟩)))⟩
    · skip
      refine Safe.condN rfl hc1112 ?_
      repeat (first | refine Safe.seq ?_ | refine Safe.skip ?_ | with_reducible refine thenQ.n ?_ | with_reducible refine blockQ.n ?_)
      refine Safe.exit ?_
      repeat (first | with_reducible refine thenQ.e ?_ | with_reducible refine blockQ.x rfl ?_ | with_reducible refine blockQ.y rfl ?_)
      replace h := inr_out h hr1111
      repeat (first | refine Safe.seq ?_ | refine Safe.skip ?_ | with_reducible refine thenQ.n ?_ | with_reducible refine blockQ.n ?_)
      refine Safe.region ?_
      refine SafeOps.quiet0 E_good rfl rfl rfl (v := V.ref [7000, 118, 8] 0 (rws (fun n => [V.int .i64 n]) v8_1108).length) (.fn rfl) ?_
      refine SafeOps.quiet0 E_good rfl rfl rfl (v := V.ref [7000, 118, 9] 0 (rws (fun n => [V.int .i64 n]) v9_1109).length) (.fn rfl) ?_
      refine SafeOps.quiet0 E_good rfl rfl rfl (v := V.ref [7000, 118, 8] 0 (rws (fun n => [V.int .i64 n]) v8_1108).length) (.fn rfl) ?_
      refine SafeOps.quiet0 E_good rfl rfl rfl (v := V.ref [7000, 118, 9] 0 (rws (fun n => [V.int .i64 n]) v9_1109).length) (.fn rfl) ?_
      refine SafeOps.quiet0 E_good rfl rfl rfl (v := V.int .i64 0) (.fn rfl) ?_
      refine SafeOps.nil ?_
      repeat (first | refine Safe.seq ?_ | refine Safe.skip ?_ | with_reducible refine thenQ.n ?_ | with_reducible refine blockQ.n ?_)
      refine Safe.ret ?_
      repeat (first | with_reducible refine thenQ.r ?_ | with_reducible refine blockQ.r ?_)
      obtain rfl := Option.some.inj h
      exact retQ.gen (vs := [V.ref [7000, 118, 8] 0 (rws (fun n => [V.int .i64 n]) v8_1108).length, V.ref [7000, 118, 9] 0 (rws (fun n => [V.int .i64 n]) v9_1109).length, V.int .i64 0]) rfl (.tmp (v := V.ref [7000, 118, 8] 0 (rws (fun n => [V.int .i64 n]) v8_1108).length) rfl (.tmp (v := V.ref [7000, 118, 9] 0 (rws (fun n => [V.int .i64 n]) v9_1109).length) rfl (.tmp (v := V.int .i64 0) rfl .nil))) (by exact (.tup (.cons (.own rfl rfl) (.cons (.own rfl rfl) (.cons (.free rfl) .nil))))) (by simp) (.inr rfl)

noncomputable def go_ravelref01_All_s2 (a1_1125 : List api_Mic) : ((List Int) × (List Int) × Int) → Option (((List Int) × (List Int) × Int) ⊕ ((List Int) × (List Int) × Int))
  | (v0_1244, v7_1245, v20_1246) =>
    if (decide (v20_1246 < (a1_1125.length : Int))) = true then
      if 0 ≤ v20_1246 ∧ v20_1246 < (a1_1125.length : Int) then
        (go_ravelref01_Do v0_1244 (gt a1_1125 v20_1246)).bind fun (x_1250, x_1251, x_1252) =>
        if (x_1252 != 0) = true then
          inrO (
            some ([], [], x_1252))
        else
          if few (v7_1245 ++ [x_1251]).length then
            nextO (x_1250, v7_1245 ++ [x_1251], IntKind.i64.wrap (v20_1246 + 1))
          else none
      else none
    else
      inrO (
        some (v0_1244, v7_1245, 0))

noncomputable def go_ravelref01_All (a0_1124 : List Int) (a1_1125 : List api_Mic) : Option ((List Int) × (List Int) × Int) :=
  if ((go_ravelref01_Check a0_1124) != 0) = true then
    some ([], [], 1)
  else
    if few ([] ++ a0_1124).length then
      whileO (go_ravelref01_All_s2 a1_1125) ([] ++ a0_1124, [], 0)
    else none

theorem go_ravelref01_All_sc (a0_1124 : List Int) (a1_1125 : List api_Mic) (r : (List Int) × (List Int) × Int) (h : go_ravelref01_All a0_1124 a1_1125 = some r) : SC Try.prog gl 22 [V.sl 1 (rws (fun n => [V.int .i64 n]) a0_1124), V.sl 4 (rws api_Mic.cells a1_1125)] (V.tup [V.own 1 (rws (fun n => [V.int .i64 n]) r.1), V.own 1 (rws (fun n => [V.int .i64 n]) r.2.1), V.int .i64 r.2.2]) := by
  rw [go_ravelref01_All] at h
  refine SC.of E_good Try.func22 rfl (fun _ _ => Try.call22 _ _) rfl ?_
  repeat (first | refine Safe.seq ?_ | refine Safe.skip ?_ | with_reducible refine thenQ.n ?_ | with_reducible refine blockQ.n ?_)
  refine Safe.region ?_
  refine SafeOps.quiet0 E_good rfl rfl rfl (v := V.nils) (.fn rfl) ?_
  refine SafeOps.quiet0 E_good rfl rfl rfl (v := V.nils) (.fn rfl) ?_
  refine SafeOps.quiet0 E_good rfl rfl rfl (v := V.int .i64 0) (.fn rfl) ?_
  refine SafeOps.nil ?_
  repeat (first | refine Safe.seq ?_ | refine Safe.skip ?_ | with_reducible refine thenQ.n ?_ | with_reducible refine blockQ.n ?_)
  refine Safe.region ?_
  refine SafeOps.quiet0 E_good rfl rfl rfl (v := V.sl 1 (rws (fun n => [V.int .i64 n]) a0_1124)) (.fn rfl) ?_
  refine SafeOps.quiet0 E_good rfl rfl rfl (v := V.int .i64 (go_ravelref01_Check a0_1124)) (.callP rfl rfl (go_ravelref01_Check_sc a0_1124 _ rfl) rfl) ?_
  refine SafeOps.quiet0 E_good rfl rfl rfl (v := V.bool ((go_ravelref01_Check a0_1124) != 0)) (.fn rfl) ?_
  refine SafeOps.nil ?_
  repeat (first | refine Safe.seq ?_ | refine Safe.skip ?_ | with_reducible refine thenQ.n ?_ | with_reducible refine blockQ.n ?_)
  refine ifG h (fun hc1192 h => ?_) (fun hc1192 h => ?_)
  · skip
    refine Safe.condK rfl hc1192 ?_
    repeat (first | refine Safe.seq ?_ | refine Safe.skip ?_ | with_reducible refine thenQ.n ?_ | with_reducible refine blockQ.n ?_)
    refine Safe.region ?_
    refine SafeOps.quiet0 E_good rfl rfl rfl (v := V.nils) (.fn rfl) ?_
    refine SafeOps.quiet0 E_good rfl rfl rfl (v := V.nils) (.fn rfl) ?_
    refine SafeOps.quiet0 E_good rfl rfl rfl (v := V.int .i64 1) (.fn rfl) ?_
    refine SafeOps.nil ?_
    repeat (first | refine Safe.seq ?_ | refine Safe.skip ?_ | with_reducible refine thenQ.n ?_ | with_reducible refine blockQ.n ?_)
    refine Safe.ret ?_
    repeat (first | with_reducible refine thenQ.r ?_ | with_reducible refine blockQ.r ?_)
    obtain rfl := Option.some.inj h
    exact retQ.gen (vs := [V.nils, V.nils, V.int .i64 1]) rfl (.tmp (v := V.nils) rfl (.tmp (v := V.nils) rfl (.tmp (v := V.int .i64 1) rfl .nil))) (by exact (.tup (.cons (.nils _) (.cons (.nils _) (.cons (.free rfl) .nil))))) (by simp) (.inr rfl)
  · skip
    refine Safe.condN rfl hc1192 ?_
    repeat (first | refine Safe.seq ?_ | refine Safe.skip ?_ | with_reducible refine thenQ.n ?_ | with_reducible refine blockQ.n ?_)
    refine Safe.region ?_
    refine SafeOps.quiet0 E_good rfl rfl rfl (v := V.sl 1 (rws (fun n => [V.int .i64 n]) a0_1124)) (.fn rfl) ?_
    refine okG h (fun hb1193 h => ?_)
    refine SafeOps.appendM (fun n => [V.int .i64 n]) (xs := []) (ys := a0_1124) E_good rfl rfl rfl rfl rfl rfl rfl rfl rfl .nils (.sl _) (fun _ => rfl) hb1193 ?_
    refine SafeOps.quiet0 E_good rfl rfl rfl (v := V.ref [17] 0 (rws (fun n => [V.int .i64 n]) ([] ++ a0_1124)).length) (.fn rfl) ?_
    refine SafeOps.nil ?_
    repeat (first | refine Safe.seq ?_ | refine Safe.skip ?_ | with_reducible refine thenQ.n ?_ | with_reducible refine blockQ.n ?_)
    refine Safe.region ?_
    refine SafeOps.quiet0 E_good rfl rfl rfl (v := V.nils) (.fn rfl) ?_
    refine SafeOps.nil ?_
    repeat (first | refine Safe.seq ?_ | refine Safe.skip ?_ | with_reducible refine thenQ.n ?_ | with_reducible refine blockQ.n ?_)
    refine Safe.region ?_
    refine SafeOps.quiet0 E_good rfl rfl rfl (v := V.sl 4 (rws api_Mic.cells a1_1125)) (.fn rfl) ?_
    refine SafeOps.quiet0 E_good rfl rfl rfl (v := V.int .i64 (a1_1125.length : Int)) (.fnE rfl lenE) ?_
    refine SafeOps.quiet0 E_good rfl rfl rfl (v := V.int .i64 0) (.fn rfl) ?_
    refine SafeOps.nil ?_
    repeat (first | refine Safe.seq ?_ | refine Safe.skip ?_ | with_reducible refine thenQ.n ?_ | with_reducible refine blockQ.n ?_)
    refine Safe.block ?_
    repeat (first | refine Safe.seq ?_ | refine Safe.skip ?_ | with_reducible refine thenQ.n ?_ | with_reducible refine blockQ.n ?_)
    refine Safe.loopW (fun ((v0_1244, v7_1245, v20_1246) : (List Int) × (List Int) × Int) => ⟨Try.f22.ntmps, [(0, V.ref [7000, 118, 0] 0 (rws (fun n => [V.int .i64 n]) v0_1244).length), (7, V.ref [7000, 118, 7] 0 (rws (fun n => [V.int .i64 n]) v7_1245).length), (18, V.sl 4 (rws api_Mic.cells a1_1125)), (19, V.int .i64 (a1_1125.length : Int)), (20, V.int .i64 v20_1246)], [([7000, 118, 0], Obj.rows 1 (rws (fun n => [V.int .i64 n]) v0_1244) false), ([7000, 118, 7], Obj.rows 1 (rws (fun n => [V.int .i64 n]) v7_1245) false)], [], []⟩) h (.ren [17] [7000, 118, 0] (.empty [7000, 118, 7] 1 rfl (.cov ⟨rfl, rfl, (upT_cons (.refl _) (upT_cons (.nilref _) (upT_cons (.refl _) (upT_cons (.refl _) (upT_cons (.refl _) upT_nil))))), (upOb_cons rfl (.refl _) (upOb_cons rfl (.refl _) upOb_nil)), upOut_nil, rfl⟩))) ?_
    rintro ⟨v0_1244, v7_1245, v20_1246⟩ ohr1247 h hr1247
    replace h : go_ravelref01_All_s2 a1_1125 (v0_1244, v7_1245, v20_1246) = some ohr1247 := h
    rw [go_ravelref01_All_s2] at h
    repeat (first | refine Safe.seq ?_ | refine Safe.skip ?_ | with_reducible refine thenQ.n ?_ | with_reducible refine blockQ.n ?_)
    refine Safe.region ?_
    refine SafeOps.quiet0 E_good rfl rfl rfl (v := V.bool (decide (v20_1246 < (a1_1125.length : Int)))) (.fn rfl) ?_
    refine SafeOps.nil ?_
    repeat (first | refine Safe.seq ?_ | refine Safe.skip ?_ | with_reducible refine thenQ.n ?_ | with_reducible refine blockQ.n ?_)
    refine ifG h (fun hc1248 h => ?_) (fun hc1248 h => ?_)
    · skip
      refine Safe.condK rfl hc1248 ?_
      repeat (first | refine Safe.seq ?_ | refine Safe.skip ?_ | with_reducible refine thenQ.n ?_ | with_reducible refine blockQ.n ?_)
      refine Safe.block ?_
      repeat (first | refine Safe.seq ?_ | refine Safe.skip ?_ | with_reducible refine thenQ.n ?_ | with_reducible refine blockQ.n ?_)
      refine Safe.region ?_
      refine okG h (fun hb1249 h => ?_)
      refine SafeOps.quiet0 E_good rfl rfl rfl (v := V.spt 4 (rws api_Mic.cells a1_1125) (Int.toNat v20_1246) 0) (.idxSlM (f := api_Mic.cells) rfl rfl rfl rfl rfl hb1249) ?_
      refine SafeOps.quiet0 E_good rfl rfl rfl (v := V.agg [V.int .i64 ((gt a1_1125 v20_1246).Kind), V.int .i64 ((gt a1_1125 v20_1246).At), V.int .i64 ((gt a1_1125 v20_1246).A), V.int .i64 ((gt a1_1125 v20_1246).B)]) (.load rfl rfl (.sptM (f := api_Mic.cells) hb1249 rfl) rfl) ?_
      refine SafeOps.quiet1 E_good rfl rfl rfl (.alloc rfl rfl) rfl ?_
      refine SafeOps.store (z := Obj.box [V.int .i64 ((gt a1_1125 v20_1246).Kind), V.int .i64 ((gt a1_1125 v20_1246).At), V.int .i64 ((gt a1_1125 v20_1246).A), V.int .i64 ((gt a1_1125 v20_1246).B)]) E_good rfl rfl rfl rfl rfl rfl rfl (.boxM (c := 4) rfl rfl (Nat.le_of_ble_eq_true rfl) rfl) ?_
      refine SafeOps.nil ?_
      repeat (first | refine Safe.seq ?_ | refine Safe.skip ?_ | with_reducible refine thenQ.n ?_ | with_reducible refine blockQ.n ?_)
      refine Safe.region ?_
      refine SafeOps.quiet0 E_good rfl rfl rfl (v := V.ref [7000, 118, 0] 0 (rws (fun n => [V.int .i64 n]) v0_1244).length) (.fn rfl) ?_
      refine SafeOps.quiet0 E_good rfl rfl rfl (v := V.agg [V.int .i64 ((gt a1_1125 v20_1246).Kind), V.int .i64 ((gt a1_1125 v20_1246).At), V.int .i64 ((gt a1_1125 v20_1246).A), V.int .i64 ((gt a1_1125 v20_1246).B)]) (.load rfl rfl (.box rfl rfl) rfl) ?_
      refine bindG h ?_
      rintro ⟨x_1250, x_1251, x_1252⟩ he1253 h
      refine SafeOps.quiet E_good rfl rfl rfl (v := V.tup [V.ref [27, 0] 0 (rws (fun n => [V.int .i64 n]) x_1250).length, V.int .i64 x_1251, V.int .i64 x_1252]) (.callS rfl (.cons (.full rfl rfl) (.cons (.free rfl) .nil)) (go_ravelref01_Do_sc v0_1244 (gt a1_1125 v20_1246) _ he1253) (.tupL (.cons (.ownM (fun _ => rfl)) (.cons (.plain rfl) (.cons (.plain rfl) .nil)))) rfl) rfl ?_
      refine SafeOps.quiet0 E_good rfl rfl rfl (v := V.tup [V.ref [27, 0] 0 (rws (fun n => [V.int .i64 n]) x_1250).length, V.int .i64 x_1251, V.int .i64 x_1252]) (.fn rfl) ?_
      refine SafeOps.quiet0 E_good rfl rfl rfl (v := V.ref [27, 0] 0 (rws (fun n => [V.int .i64 n]) x_1250).length) (.fn rfl) ?_
      refine SafeOps.quiet0 E_good rfl rfl rfl (v := V.int .i64 x_1251) (.fn rfl) ?_
      refine SafeOps.quiet0 E_good rfl rfl rfl (v := V.int .i64 x_1252) (.fn rfl) ?_
      refine SafeOps.quiet0 E_good rfl rfl rfl (v := V.ref [27, 0] 0 (rws (fun n => [V.int .i64 n]) x_1250).length) (.fn rfl) ?_
      refine SafeOps.quiet0 E_good rfl rfl rfl (v := V.int .i64 x_1251) (.fn rfl) ?_
      refine SafeOps.quiet0 E_good rfl rfl rfl (v := V.int .i64 x_1252) (.fn rfl) ?_
      refine SafeOps.nil ?_
      repeat (first | refine Safe.seq ?_ | refine Safe.skip ?_ | with_reducible refine thenQ.n ?_ | with_reducible refine blockQ.n ?_)
      refine Safe.region ?_
      refine SafeOps.quiet0 E_good rfl rfl rfl (v := V.int .i64 x_1252) (.fn rfl) ?_
      refine SafeOps.quiet0 E_good rfl rfl rfl (v := V.bool (x_1252 != 0)) (.fn rfl) ?_
      refine SafeOps.nil ?_
      repeat (first | refine Safe.seq ?_ | refine Safe.skip ?_ | with_reducible refine thenQ.n ?_ | with_reducible refine blockQ.n ?_)
      refine ifG h (fun hc1254 h => ?_) (fun hc1254 h => ?_)
      · skip
        refine Safe.condK rfl hc1254 ?_
        repeat (first | refine Safe.seq ?_ | refine Safe.skip ?_ | with_reducible refine thenQ.n ?_ | with_reducible refine blockQ.n ?_)
        refine Safe.region ?_
        refine SafeOps.quiet0 E_good rfl rfl rfl (v := V.int .i64 x_1252) (.fn rfl) ?_
        refine SafeOps.quiet0 E_good rfl rfl rfl (v := V.nils) (.fn rfl) ?_
        refine SafeOps.quiet0 E_good rfl rfl rfl (v := V.nils) (.fn rfl) ?_
        refine SafeOps.quiet0 E_good rfl rfl rfl (v := V.int .i64 x_1252) (.fn rfl) ?_
        refine SafeOps.nil ?_
        repeat (first | refine Safe.seq ?_ | refine Safe.skip ?_ | with_reducible refine thenQ.n ?_ | with_reducible refine blockQ.n ?_)
        refine Safe.ret ?_
        repeat (first | with_reducible refine thenQ.r ?_ | with_reducible refine blockQ.r ?_)
        replace h := inr_out h hr1247
        obtain rfl := Option.some.inj h
        exact retQ.gen (vs := [V.nils, V.nils, V.int .i64 x_1252]) rfl (.tmp (v := V.nils) rfl (.tmp (v := V.nils) rfl (.tmp (v := V.int .i64 x_1252) rfl .nil))) (by exact (.tup (.cons (.nils _) (.cons (.nils _) (.cons (.free rfl) .nil))))) (by simp) (.inr rfl)
      · skip
        refine Safe.condN rfl hc1254 ?_
        repeat (first | refine Safe.seq ?_ | refine Safe.skip ?_ | with_reducible refine thenQ.n ?_ | with_reducible refine blockQ.n ?_)
        refine Safe.region ?_
        refine SafeOps.quiet0 E_good rfl rfl rfl (v := V.ref [27, 0] 0 (rws (fun n => [V.int .i64 n]) x_1250).length) (.fn rfl) ?_
        refine SafeOps.quiet0 E_good rfl rfl rfl (v := V.ref [27, 0] 0 (rws (fun n => [V.int .i64 n]) x_1250).length) (.fn rfl) ?_
        refine SafeOps.nil ?_
        repeat (first | refine Safe.seq ?_ | refine Safe.skip ?_ | with_reducible refine thenQ.n ?_ | with_reducible refine blockQ.n ?_)
        refine Safe.region ?_
        refine SafeOps.quiet0 E_good rfl rfl rfl (v := V.ref [7000, 118, 7] 0 (rws (fun n => [V.int .i64 n]) v7_1245).length) (.fn rfl) ?_
        refine SafeOps.quiet0 E_good rfl rfl rfl (v := V.int .i64 x_1251) (.fn rfl) ?_
        refine SafeOps.quiet1 E_good rfl rfl rfl (.litM (f := (fun n => [V.int .i64 n])) (xs := [x_1251]) rfl rfl (by decide) rfl rfl rfl rfl rfl) rfl ?_
        refine okG h (fun hb1255 h => ?_)
        refine SafeOps.appendM (fun n => [V.int .i64 n]) (xs := v7_1245) (ys := [x_1251]) E_good rfl rfl rfl rfl rfl rfl rfl rfl rfl (.own rfl) (.own rfl) (fun _ => rfl) hb1255 ?_
        refine SafeOps.quiet0 E_good rfl rfl rfl (v := V.ref [38] 0 (rws (fun n => [V.int .i64 n]) (v7_1245 ++ [x_1251])).length) (.fn rfl) ?_
        refine SafeOps.nil ?_
        repeat (first | refine Safe.seq ?_ | refine Safe.skip ?_ | with_reducible refine thenQ.n ?_ | with_reducible refine blockQ.n ?_)
        refine Safe.region ?_
        refine SafeOps.quiet0 E_good rfl rfl rfl (v := V.int .i64 (IntKind.i64.wrap (v20_1246 + 1))) (.fn rfl) ?_
        refine SafeOps.quiet0 E_good rfl rfl rfl (v := V.int .i64 (IntKind.i64.wrap (v20_1246 + 1))) (.fn rfl) ?_
        refine SafeOps.nil ?_
        repeat (first | refine Safe.seq ?_ | refine Safe.skip ?_ | with_reducible refine thenQ.n ?_ | with_reducible refine blockQ.n ?_)
        exact ⟨_, next_out h, (.ren [27, 0] [7000, 118, 0] (.ren [38] [7000, 118, 7] (.cov ⟨rfl, rfl, (upT_cons (.refl _) (upT_cons (.refl _) (upT_cons (.refl _) (upT_cons (.refl _) (upT_cons (.refl _) upT_nil))))), (upOb_cons rfl (.refl _) (upOb_cons rfl (.refl _) upOb_nil)), upOut_nil, rfl⟩)))⟩
    · skip
      refine Safe.condN rfl hc1248 ?_
      repeat (first | refine Safe.seq ?_ | refine Safe.skip ?_ | with_reducible refine thenQ.n ?_ | with_reducible refine blockQ.n ?_)
      refine Safe.exit ?_
      repeat (first | with_reducible refine thenQ.e ?_ | with_reducible refine blockQ.x rfl ?_ | with_reducible refine blockQ.y rfl ?_)
      replace h := inr_out h hr1247
      repeat (first | refine Safe.seq ?_ | refine Safe.skip ?_ | with_reducible refine thenQ.n ?_ | with_reducible refine blockQ.n ?_)
      refine Safe.region ?_
      refine SafeOps.quiet0 E_good rfl rfl rfl (v := V.ref [7000, 118, 0] 0 (rws (fun n => [V.int .i64 n]) v0_1244).length) (.fn rfl) ?_
      refine SafeOps.quiet0 E_good rfl rfl rfl (v := V.ref [7000, 118, 7] 0 (rws (fun n => [V.int .i64 n]) v7_1245).length) (.fn rfl) ?_
      refine SafeOps.quiet0 E_good rfl rfl rfl (v := V.ref [7000, 118, 0] 0 (rws (fun n => [V.int .i64 n]) v0_1244).length) (.fn rfl) ?_
      refine SafeOps.quiet0 E_good rfl rfl rfl (v := V.ref [7000, 118, 7] 0 (rws (fun n => [V.int .i64 n]) v7_1245).length) (.fn rfl) ?_
      refine SafeOps.quiet0 E_good rfl rfl rfl (v := V.int .i64 0) (.fn rfl) ?_
      refine SafeOps.nil ?_
      repeat (first | refine Safe.seq ?_ | refine Safe.skip ?_ | with_reducible refine thenQ.n ?_ | with_reducible refine blockQ.n ?_)
      refine Safe.ret ?_
      repeat (first | with_reducible refine thenQ.r ?_ | with_reducible refine blockQ.r ?_)
      obtain rfl := Option.some.inj h
      exact retQ.gen (vs := [V.ref [7000, 118, 0] 0 (rws (fun n => [V.int .i64 n]) v0_1244).length, V.ref [7000, 118, 7] 0 (rws (fun n => [V.int .i64 n]) v7_1245).length, V.int .i64 0]) rfl (.tmp (v := V.ref [7000, 118, 0] 0 (rws (fun n => [V.int .i64 n]) v0_1244).length) rfl (.tmp (v := V.ref [7000, 118, 7] 0 (rws (fun n => [V.int .i64 n]) v7_1245).length) rfl (.tmp (v := V.int .i64 0) rfl .nil))) (by exact (.tup (.cons (.own rfl rfl) (.cons (.own rfl rfl) (.cons (.free rfl) .nil))))) (by simp) (.inr rfl)

noncomputable def go_ravellaw01_CellRuns_j2 (x_1282 : Int) (x_1286 : Int) (b_1296 : Bool) : Option Bool :=
  some (b_1296 && (x_1282 == x_1286))

noncomputable def go_ravellaw01_CellRuns_j1 (x_1281 : List Int) (x_1282 : Int) (x_1285 : List Int) (x_1286 : Int) (b_1291 : Bool) : Option Bool :=
  if b_1291 = true then
    (go_ravelref01_Same x_1281 x_1285).bind fun x_1299 =>
    go_ravellaw01_CellRuns_j2 x_1282 x_1286 x_1299
  else
    go_ravellaw01_CellRuns_j2 x_1282 x_1286 false

noncomputable def go_ravellaw01_CellRuns (a0_976 : List Int) (a1_977 : List api_Mic) : Option Bool :=
  (go_ravellaw01_live).bind fun x_1275 =>
  if (!x_1275) = true then
    some false
  else
    if ((decide ((a0_976.length : Int) > 300)) || (decide ((a1_977.length : Int) > 200))) = true then
      some x_1275
    else
      (go_cell_All a0_976 a1_977).bind fun (x_1280, x_1281, x_1282) =>
      (go_ravelref01_All a0_976 a1_977).bind fun (x_1284, x_1285, x_1286) =>
      if x_1275 = true then
        (go_ravelref01_Same x_1280 x_1284).bind fun x_1301 =>
        go_ravellaw01_CellRuns_j1 x_1281 x_1282 x_1285 x_1286 x_1301
      else
        go_ravellaw01_CellRuns_j1 x_1281 x_1282 x_1285 x_1286 false

theorem go_ravellaw01_CellRuns_sc (a0_976 : List Int) (a1_977 : List api_Mic) (r : Bool) (h : go_ravellaw01_CellRuns a0_976 a1_977 = some r) : SC Try.prog gl 7 [V.sl 1 (rws (fun n => [V.int .i64 n]) a0_976), V.sl 4 (rws api_Mic.cells a1_977)] (V.bool r) := by
  rw [go_ravellaw01_CellRuns] at h
  refine SC.of E_good Try.func7 rfl (fun _ _ => Try.call7 _ _) rfl ?_
  repeat (first | refine Safe.seq ?_ | refine Safe.skip ?_ | with_reducible refine thenQ.n ?_ | with_reducible refine blockQ.n ?_)
  refine Safe.region ?_
  refine SafeOps.quiet0 E_good rfl rfl rfl (v := V.bool false) (.fn rfl) ?_
  refine SafeOps.nil ?_
  repeat (first | refine Safe.seq ?_ | refine Safe.skip ?_ | with_reducible refine thenQ.n ?_ | with_reducible refine blockQ.n ?_)
  refine Safe.region ?_
  refine bindG h ?_
  intro x_1275 he1276 h
  refine SafeOps.quiet0 E_good rfl rfl rfl (v := V.bool x_1275) (.callP rfl rfl (go_ravellaw01_live_sc  _ he1276) rfl) ?_
  refine SafeOps.quiet0 E_good rfl rfl rfl (v := V.bool x_1275) (.fn rfl) ?_
  refine SafeOps.nil ?_
  repeat (first | refine Safe.seq ?_ | refine Safe.skip ?_ | with_reducible refine thenQ.n ?_ | with_reducible refine blockQ.n ?_)
  refine Safe.region ?_
  refine SafeOps.quiet0 E_good rfl rfl rfl (v := V.bool x_1275) (.fn rfl) ?_
  refine SafeOps.quiet0 E_good rfl rfl rfl (v := V.bool (!x_1275)) (.fn rfl) ?_
  refine SafeOps.nil ?_
  repeat (first | refine Safe.seq ?_ | refine Safe.skip ?_ | with_reducible refine thenQ.n ?_ | with_reducible refine blockQ.n ?_)
  refine ifG h (fun hc1277 h => ?_) (fun hc1277 h => ?_)
  · skip
    refine Safe.condK rfl hc1277 ?_
    repeat (first | refine Safe.seq ?_ | refine Safe.skip ?_ | with_reducible refine thenQ.n ?_ | with_reducible refine blockQ.n ?_)
    refine Safe.region ?_
    refine SafeOps.quiet0 E_good rfl rfl rfl (v := V.bool false) (.fn rfl) ?_
    refine SafeOps.nil ?_
    repeat (first | refine Safe.seq ?_ | refine Safe.skip ?_ | with_reducible refine thenQ.n ?_ | with_reducible refine blockQ.n ?_)
    refine Safe.ret ?_
    repeat (first | with_reducible refine thenQ.r ?_ | with_reducible refine blockQ.r ?_)
    obtain rfl := Option.some.inj h
    exact retQ.gen (vs := [V.bool false]) rfl (.tmp (v := V.bool false) rfl .nil) (.free rfl) (by simp) (.inr rfl)
  · skip
    refine Safe.condN rfl hc1277 ?_
    repeat (first | refine Safe.seq ?_ | refine Safe.skip ?_ | with_reducible refine thenQ.n ?_ | with_reducible refine blockQ.n ?_)
    refine Safe.region ?_
    refine SafeOps.quiet0 E_good rfl rfl rfl (v := V.sl 1 (rws (fun n => [V.int .i64 n]) a0_976)) (.fn rfl) ?_
    refine SafeOps.quiet0 E_good rfl rfl rfl (v := V.int .i64 (a0_976.length : Int)) (.fnE rfl lenE) ?_
    refine SafeOps.quiet0 E_good rfl rfl rfl (v := V.bool (decide ((a0_976.length : Int) > 300))) (.fn rfl) ?_
    refine SafeOps.quiet0 E_good rfl rfl rfl (v := V.bool (decide ((a0_976.length : Int) > 300))) (.fn rfl) ?_
    refine SafeOps.bjoin 4 22 (b := ((decide ((a0_976.length : Int) > 300)) || (decide ((a1_977.length : Int) > 200)))) (b1 := true) (b0 := decide ((a1_977.length : Int) > 200)) (fun hc1278 K => ?_) (fun hc1278 K => ?_) bj_or ?_
    · skip
      refine SafeOps.skip (congrArg (fun b => some (!b)) hc1278) rfl rfl ?_
      refine SafeOps.skip (congrArg (fun b => some (!b)) hc1278) rfl rfl ?_
      refine SafeOps.skip (congrArg (fun b => some (!b)) hc1278) rfl rfl ?_
      refine SafeOps.quiet0 E_good rfl rfl rfl (v := V.bool true) (.pickK rfl hc1278 rfl) ?_
      exact SafeOps.drop' 4 rfl rfl rfl K
    · skip
      refine SafeOps.quiet0 E_good (congrArg (fun b => some (!b)) hc1278) rfl rfl (v := V.sl 4 (rws api_Mic.cells a1_977)) (.fn rfl) ?_
      refine SafeOps.quiet0 E_good (congrArg (fun b => some (!b)) hc1278) rfl rfl (v := V.int .i64 (a1_977.length : Int)) (.fnE rfl lenE) ?_
      refine SafeOps.quiet0 E_good (congrArg (fun b => some (!b)) hc1278) rfl rfl (v := V.bool (decide ((a1_977.length : Int) > 200))) (.fn rfl) ?_
      refine SafeOps.quiet0 E_good rfl rfl rfl (v := V.bool (decide ((a1_977.length : Int) > 200))) (.pickK rfl hc1278 rfl) ?_
      exact SafeOps.drop' 4 rfl rfl rfl K
    refine SafeOps.nil ?_
    repeat (first | refine Safe.seq ?_ | refine Safe.skip ?_ | with_reducible refine thenQ.n ?_ | with_reducible refine blockQ.n ?_)
    refine ifG h (fun hc1279 h => ?_) (fun hc1279 h => ?_)
    · skip
      refine Safe.condK rfl hc1279 ?_
      repeat (first | refine Safe.seq ?_ | refine Safe.skip ?_ | with_reducible refine thenQ.n ?_ | with_reducible refine blockQ.n ?_)
      refine Safe.region ?_
      refine SafeOps.quiet0 E_good rfl rfl rfl (v := V.bool x_1275) (.fn rfl) ?_
      refine SafeOps.quiet0 E_good rfl rfl rfl (v := V.bool x_1275) (.fn rfl) ?_
      refine SafeOps.nil ?_
      repeat (first | refine Safe.seq ?_ | refine Safe.skip ?_ | with_reducible refine thenQ.n ?_ | with_reducible refine blockQ.n ?_)
      refine Safe.ret ?_
      repeat (first | with_reducible refine thenQ.r ?_ | with_reducible refine blockQ.r ?_)
      obtain rfl := Option.some.inj h
      exact retQ.gen (vs := [V.bool x_1275]) rfl (.tmp (v := V.bool x_1275) rfl .nil) (.free rfl) (by simp) (.inr rfl)
    · skip
      refine Safe.condN rfl hc1279 ?_
      repeat (first | refine Safe.seq ?_ | refine Safe.skip ?_ | with_reducible refine thenQ.n ?_ | with_reducible refine blockQ.n ?_)
      refine Safe.region ?_
      refine SafeOps.quiet0 E_good rfl rfl rfl (v := V.sl 1 (rws (fun n => [V.int .i64 n]) a0_976)) (.fn rfl) ?_
      refine SafeOps.quiet0 E_good rfl rfl rfl (v := V.sl 4 (rws api_Mic.cells a1_977)) (.fn rfl) ?_
      refine bindG h ?_
      rintro ⟨x_1280, x_1281, x_1282⟩ he1283 h
      refine SafeOps.quiet E_good rfl rfl rfl (v := V.tup [V.ref [27, 0] 0 (rws (fun n => [V.int .i64 n]) x_1280).length, V.ref [27, 1] 0 (rws (fun n => [V.int .i64 n]) x_1281).length, V.int .i64 x_1282]) (.callP rfl rfl (go_cell_All_sc a0_976 a1_977 _ he1283) rfl) rfl ?_
      refine SafeOps.quiet0 E_good rfl rfl rfl (v := V.tup [V.ref [27, 0] 0 (rws (fun n => [V.int .i64 n]) x_1280).length, V.ref [27, 1] 0 (rws (fun n => [V.int .i64 n]) x_1281).length, V.int .i64 x_1282]) (.fn rfl) ?_
      refine SafeOps.quiet0 E_good rfl rfl rfl (v := V.ref [27, 0] 0 (rws (fun n => [V.int .i64 n]) x_1280).length) (.fn rfl) ?_
      refine SafeOps.quiet0 E_good rfl rfl rfl (v := V.ref [27, 1] 0 (rws (fun n => [V.int .i64 n]) x_1281).length) (.fn rfl) ?_
      refine SafeOps.quiet0 E_good rfl rfl rfl (v := V.int .i64 x_1282) (.fn rfl) ?_
      refine SafeOps.quiet0 E_good rfl rfl rfl (v := V.ref [27, 0] 0 (rws (fun n => [V.int .i64 n]) x_1280).length) (.fn rfl) ?_
      refine SafeOps.quiet0 E_good rfl rfl rfl (v := V.ref [27, 1] 0 (rws (fun n => [V.int .i64 n]) x_1281).length) (.fn rfl) ?_
      refine SafeOps.quiet0 E_good rfl rfl rfl (v := V.int .i64 x_1282) (.fn rfl) ?_
      refine SafeOps.nil ?_
      repeat (first | refine Safe.seq ?_ | refine Safe.skip ?_ | with_reducible refine thenQ.n ?_ | with_reducible refine blockQ.n ?_)
      refine Safe.region ?_
      refine SafeOps.quiet0 E_good rfl rfl rfl (v := V.sl 1 (rws (fun n => [V.int .i64 n]) a0_976)) (.fn rfl) ?_
      refine SafeOps.quiet0 E_good rfl rfl rfl (v := V.sl 4 (rws api_Mic.cells a1_977)) (.fn rfl) ?_
      refine bindG h ?_
      rintro ⟨x_1284, x_1285, x_1286⟩ he1287 h
      refine SafeOps.quiet E_good rfl rfl rfl (v := V.tup [V.ref [34, 0] 0 (rws (fun n => [V.int .i64 n]) x_1284).length, V.ref [34, 1] 0 (rws (fun n => [V.int .i64 n]) x_1285).length, V.int .i64 x_1286]) (.callP rfl rfl (go_ravelref01_All_sc a0_976 a1_977 _ he1287) rfl) rfl ?_
      refine SafeOps.quiet0 E_good rfl rfl rfl (v := V.tup [V.ref [34, 0] 0 (rws (fun n => [V.int .i64 n]) x_1284).length, V.ref [34, 1] 0 (rws (fun n => [V.int .i64 n]) x_1285).length, V.int .i64 x_1286]) (.fn rfl) ?_
      refine SafeOps.quiet0 E_good rfl rfl rfl (v := V.ref [34, 0] 0 (rws (fun n => [V.int .i64 n]) x_1284).length) (.fn rfl) ?_
      refine SafeOps.quiet0 E_good rfl rfl rfl (v := V.ref [34, 1] 0 (rws (fun n => [V.int .i64 n]) x_1285).length) (.fn rfl) ?_
      refine SafeOps.quiet0 E_good rfl rfl rfl (v := V.int .i64 x_1286) (.fn rfl) ?_
      refine SafeOps.quiet0 E_good rfl rfl rfl (v := V.ref [34, 0] 0 (rws (fun n => [V.int .i64 n]) x_1284).length) (.fn rfl) ?_
      refine SafeOps.quiet0 E_good rfl rfl rfl (v := V.ref [34, 1] 0 (rws (fun n => [V.int .i64 n]) x_1285).length) (.fn rfl) ?_
      refine SafeOps.quiet0 E_good rfl rfl rfl (v := V.int .i64 x_1286) (.fn rfl) ?_
      refine SafeOps.nil ?_
      repeat (first | refine Safe.seq ?_ | refine Safe.skip ?_ | with_reducible refine thenQ.n ?_ | with_reducible refine blockQ.n ?_)
      refine Safe.region ?_
      refine SafeOps.quiet0 E_good rfl rfl rfl (v := V.bool x_1275) (.fn rfl) ?_
      refine SafeOps.quiet0 E_good rfl rfl rfl (v := V.bool x_1275) (.fn rfl) ?_
      refine SafeOps.bsplit 4 43 (fun b_1291 => go_ravellaw01_CellRuns_j1 x_1281 x_1282 x_1285 x_1286 b_1291 = some r) (fun HJ1292 => ?_) (fun b_1291 h => ?_)
      · refine ifG h (fun hc1288 h => ?_) (fun hc1288 h => ?_)
        · skip
          refine SafeOps.quiet0 E_good (congrArg some hc1288) rfl rfl (v := V.ref [27, 0] 0 (rws (fun n => [V.int .i64 n]) x_1280).length) (.fn rfl) ?_
          refine SafeOps.quiet0 E_good (congrArg some hc1288) rfl rfl (v := V.ref [34, 0] 0 (rws (fun n => [V.int .i64 n]) x_1284).length) (.fn rfl) ?_
          refine bindG h ?_
          intro x_1301 he1302 h
          refine SafeOps.quiet0 E_good (congrArg some hc1288) rfl rfl (v := V.bool x_1301) (.callS rfl (.cons (.full rfl rfl) (.cons (.full rfl rfl) .nil)) (go_ravelref01_Same_sc x_1280 x_1284 _ he1302) (.plain rfl) rfl) ?_
          refine SafeOps.quiet0 E_good rfl rfl rfl (v := V.bool x_1301) (.pickK rfl hc1288 rfl) ?_
          exact SafeOps.drop' 4 rfl rfl rfl (HJ1292 _ h)
        · skip
          refine SafeOps.skip (congrArg some hc1288) rfl rfl ?_
          refine SafeOps.skip (congrArg some hc1288) rfl rfl ?_
          refine SafeOps.skip (congrArg some hc1288) rfl rfl ?_
          refine SafeOps.quiet0 E_good rfl rfl rfl (v := V.bool false) (.pickK rfl hc1288 rfl) ?_
          exact SafeOps.drop' 4 rfl rfl rfl (HJ1292 _ h)
      · replace h : go_ravellaw01_CellRuns_j1 x_1281 x_1282 x_1285 x_1286 b_1291 = some r := h
        rw [go_ravellaw01_CellRuns_j1] at h
        refine SafeOps.quiet0 E_good rfl rfl rfl (v := V.bool b_1291) (.fn rfl) ?_
        refine SafeOps.bsplit 4 48 (fun b_1296 => go_ravellaw01_CellRuns_j2 x_1282 x_1286 b_1296 = some r) (fun HJ1297 => ?_) (fun b_1296 h => ?_)
        · refine ifG h (fun hc1293 h => ?_) (fun hc1293 h => ?_)
          · skip
            refine SafeOps.quiet0 E_good (congrArg some hc1293) rfl rfl (v := V.ref [27, 1] 0 (rws (fun n => [V.int .i64 n]) x_1281).length) (.fn rfl) ?_
            refine SafeOps.quiet0 E_good (congrArg some hc1293) rfl rfl (v := V.ref [34, 1] 0 (rws (fun n => [V.int .i64 n]) x_1285).length) (.fn rfl) ?_
            refine bindG h ?_
            intro x_1299 he1300 h
            refine SafeOps.quiet0 E_good (congrArg some hc1293) rfl rfl (v := V.bool x_1299) (.callS rfl (.cons (.full rfl rfl) (.cons (.full rfl rfl) .nil)) (go_ravelref01_Same_sc x_1281 x_1285 _ he1300) (.plain rfl) rfl) ?_
            refine SafeOps.quiet0 E_good rfl rfl rfl (v := V.bool x_1299) (.pickK rfl hc1293 rfl) ?_
            exact SafeOps.drop' 4 rfl rfl rfl (HJ1297 _ h)
          · skip
            refine SafeOps.skip (congrArg some hc1293) rfl rfl ?_
            refine SafeOps.skip (congrArg some hc1293) rfl rfl ?_
            refine SafeOps.skip (congrArg some hc1293) rfl rfl ?_
            refine SafeOps.quiet0 E_good rfl rfl rfl (v := V.bool false) (.pickK rfl hc1293 rfl) ?_
            exact SafeOps.drop' 4 rfl rfl rfl (HJ1297 _ h)
        · replace h : go_ravellaw01_CellRuns_j2 x_1282 x_1286 b_1296 = some r := h
          rw [go_ravellaw01_CellRuns_j2] at h
          refine SafeOps.quiet0 E_good rfl rfl rfl (v := V.bool b_1296) (.fn rfl) ?_
          refine SafeOps.bjoin 4 53 (b := (b_1296 && (x_1282 == x_1286))) (b1 := (x_1282 == x_1286)) (b0 := false) (fun hc1298 K => ?_) (fun hc1298 K => ?_) bj_and ?_
          · skip
            refine SafeOps.quiet0 E_good (congrArg some hc1298) rfl rfl (v := V.int .i64 x_1282) (.fn rfl) ?_
            refine SafeOps.quiet0 E_good (congrArg some hc1298) rfl rfl (v := V.int .i64 x_1286) (.fn rfl) ?_
            refine SafeOps.quiet0 E_good (congrArg some hc1298) rfl rfl (v := V.bool (x_1282 == x_1286)) (.fn rfl) ?_
            refine SafeOps.quiet0 E_good rfl rfl rfl (v := V.bool (x_1282 == x_1286)) (.pickK rfl hc1298 rfl) ?_
            exact SafeOps.drop' 4 rfl rfl rfl K
          · skip
            refine SafeOps.skip (congrArg some hc1298) rfl rfl ?_
            refine SafeOps.skip (congrArg some hc1298) rfl rfl ?_
            refine SafeOps.skip (congrArg some hc1298) rfl rfl ?_
            refine SafeOps.quiet0 E_good rfl rfl rfl (v := V.bool false) (.pickK rfl hc1298 rfl) ?_
            exact SafeOps.drop' 4 rfl rfl rfl K
          refine SafeOps.quiet0 E_good rfl rfl rfl (v := V.bool (b_1296 && (x_1282 == x_1286))) (.fn rfl) ?_
          refine SafeOps.nil ?_
          repeat (first | refine Safe.seq ?_ | refine Safe.skip ?_ | with_reducible refine thenQ.n ?_ | with_reducible refine blockQ.n ?_)
          refine Safe.ret ?_
          repeat (first | with_reducible refine thenQ.r ?_ | with_reducible refine blockQ.r ?_)
          obtain rfl := Option.some.inj h
          exact retQ.gen (vs := [V.bool (b_1296 && (x_1282 == x_1286))]) rfl (.tmp (v := V.bool (b_1296 && (x_1282 == x_1286))) rfl .nil) (.free rfl) (by simp) (.inr rfl)
end Go.Proofs.Ytgbolkdlghenfaa
