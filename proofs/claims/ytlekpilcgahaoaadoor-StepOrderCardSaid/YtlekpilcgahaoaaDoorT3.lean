/- Helper lemmas for the claim's theorem: an abstract machine over the model, proved sound; no condition beyond each lemma's own. -/
import Derived.Test.YtlekpilcgahaoaaDoorT2
set_option linter.unusedVariables false
set_option linter.unusedSimpArgs false
set_option linter.unnecessarySimpa false
set_option linter.unusedSectionVars false
namespace Go.Proofs.YtlekpilcgahaoaaDoor
open Go Go.AM
set_option maxRecDepth 100000
set_option maxHeartbeats 1000000
set_option linter.unusedVariables false
set_option linter.unusedSimpArgs false
noncomputable def go_ravellaw13_StepOrder_s2 (a0_15061 : Int) (a1_15062 : List api_Instr) (x_15274 : Bool) (x_15282 : Int) : (Int × Int × Int × Int × Int × Int × Int × Int × Int × Int × Int × Int × Int × Int) → Option ((Int × Int × Int × Int × Int × Int × Int × Int × Int × Int × Int × Int × Int × Int) ⊕ (Bool))
  | (v10_15442, v11_15443, v59_15444, v60_15445, v61_15446, v62_15447, v63_15448, v64_15449, v65_15450, v66_15451, v67_15452, v68_15453, v69_15454, v610_15455) =>
    if (decide (v59_15444 < x_15282)) = true then
      if (decide (v10_15442 ≥ (a1_15062.length : Int))) = true then
        inrO (
          some false)
      else
        (go_step_Left (api_Task.mk v60_15445 v61_15446 v62_15447 v63_15448 v64_15449 (A4_Int.mk v65_15450 v66_15451 v67_15452 v68_15453) v69_15454 v610_15455) a1_15062).bind fun (x_15459, x_15460) =>
        (go_step_Do (api_Task.mk v60_15445 v61_15446 v62_15447 v63_15448 v64_15449 (A4_Int.mk v65_15450 v66_15451 v67_15452 v68_15453) v69_15454 v610_15455) a1_15062).bind fun (x_15462, x_15463, x_15464) =>
        if 0 ≤ v10_15442 ∧ v10_15442 < (a1_15062.length : Int) then
          if ((((((x_15460 != 0) || (x_15459 != (IntKind.i64.wrap (x_15282 - v59_15444)))) || (x_15464 != 0)) || (v63_15448 != v10_15442)) || (v64_15449 != v11_15443)) || (x_15462.Ran != (IntKind.i64.wrap (v610_15455 + 1)))) = true then
            inrO (
              some false)
          else
            if (((gt a1_15062 v10_15442).Op) == 1) = true then
              if (!(api_Effect.beq x_15463 api_Effect.zero)) = true then
                inrO (
                  some false)
              else
                if ((IntKind.i64.wrap (v11_15443 + 1)) == ((gt a1_15062 v10_15442).A)) = true then
                  nextO (IntKind.i64.wrap (v10_15442 + 1), 0, IntKind.i64.wrap (v59_15444 + 1), x_15462.Id, x_15462.Tenant, x_15462.Prog, x_15462.Pc, x_15462.Unit, x_15462.Keeps.a0, x_15462.Keeps.a1, x_15462.Keeps.a2, x_15462.Keeps.a3, x_15462.State, x_15462.Ran)
                else
                  nextO (v10_15442, IntKind.i64.wrap (v11_15443 + 1), IntKind.i64.wrap (v59_15444 + 1), x_15462.Id, x_15462.Tenant, x_15462.Prog, x_15462.Pc, x_15462.Unit, x_15462.Keeps.a0, x_15462.Keeps.a1, x_15462.Keeps.a2, x_15462.Keeps.a3, x_15462.State, x_15462.Ran)
            else
              if (!(api_Effect.beq x_15463 (api_Effect.mk ((gt a1_15062 v10_15442).Op) ((gt a1_15062 v10_15442).A) ((gt a1_15062 v10_15442).B)))) = true then
                inrO (
                  some false)
              else
                nextO (IntKind.i64.wrap (v10_15442 + 1), v11_15443, IntKind.i64.wrap (v59_15444 + 1), x_15462.Id, x_15462.Tenant, x_15462.Prog, x_15462.Pc, x_15462.Unit, x_15462.Keeps.a0, x_15462.Keeps.a1, x_15462.Keeps.a2, x_15462.Keeps.a3, x_15462.State, x_15462.Ran)
        else none
    else
      inrO (
        (go_step_Left (api_Task.mk v60_15445 v61_15446 v62_15447 v63_15448 v64_15449 (A4_Int.mk v65_15450 v66_15451 v67_15452 v68_15453) v69_15454 v610_15455) a1_15062).bind fun (x_15477, x_15478) =>
        some (((((x_15274 && (x_15478 == 0)) && (x_15477 == 0)) && (v63_15448 == v10_15442)) && (v610_15455 == x_15282)) && (v60_15445 == a0_15061)))

noncomputable def go_ravellaw13_StepOrder (a0_15061 : Int) (a1_15062 : List api_Instr) : Option Bool :=
  (go_ravellaw13_live).bind fun x_15274 =>
  if (!x_15274) = true then
    some false
  else
    if ((decide ((a1_15062.length : Int) > 40)) || (decide (a0_15061 < 0))) = true then
      some x_15274
    else
      (go_ravellaw13_fresh a0_15061).bind fun (x_15279, x_15280) =>
      (go_code_Units a1_15062).bind fun (x_15282, x_15283) =>
      if ((!x_15280) || (x_15283 != 0)) = true then
        if (x_15274 && x_15280) = true then
          (go_code_Check a1_15062).bind fun x_15297 =>
          some (x_15297 == x_15283)
        else
          some false
      else
        whileO (go_ravellaw13_StepOrder_s2 a0_15061 a1_15062 x_15274 x_15282) (0, 0, 0, x_15279.Id, x_15279.Tenant, x_15279.Prog, x_15279.Pc, x_15279.Unit, x_15279.Keeps.a0, x_15279.Keeps.a1, x_15279.Keeps.a2, x_15279.Keeps.a3, x_15279.State, x_15279.Ran)

theorem go_ravellaw13_StepOrder_sc (a0_15061 : Int) (a1_15062 : List api_Instr) (r : Bool) (h : go_ravellaw13_StepOrder a0_15061 a1_15062 = some r) : SC Tryd.prog gl 6 [V.int .i64 a0_15061, V.sl 3 (rws api_Instr.cells a1_15062)] (V.bool r) := by
  rw [go_ravellaw13_StepOrder] at h
  refine SC.of E_good Tryd.func6 rfl (fun _ _ => Tryd.call6 _ _) rfl ?_
  repeat (first | refine Safe.seq ?_ | refine Safe.skip ?_ | with_reducible refine thenQ.n ?_ | with_reducible refine blockQ.n ?_)
  refine Safe.region ?_
  refine SafeOps.quiet0 E_good rfl rfl rfl (v := V.bool false) (.fn rfl) ?_
  refine SafeOps.nil ?_
  repeat (first | refine Safe.seq ?_ | refine Safe.skip ?_ | with_reducible refine thenQ.n ?_ | with_reducible refine blockQ.n ?_)
  refine Safe.region ?_
  refine bindG h ?_
  intro x_15274 he15275 h
  refine SafeOps.quiet0 E_good rfl rfl rfl (v := V.bool x_15274) (.callP rfl rfl (go_ravellaw13_live_sc  _ he15275) rfl) ?_
  refine SafeOps.quiet0 E_good rfl rfl rfl (v := V.bool x_15274) (.fn rfl) ?_
  refine SafeOps.nil ?_
  repeat (first | refine Safe.seq ?_ | refine Safe.skip ?_ | with_reducible refine thenQ.n ?_ | with_reducible refine blockQ.n ?_)
  refine Safe.region ?_
  refine SafeOps.quiet0 E_good rfl rfl rfl (v := V.bool x_15274) (.fn rfl) ?_
  refine SafeOps.quiet0 E_good rfl rfl rfl (v := V.bool (!x_15274)) (.fn rfl) ?_
  refine SafeOps.nil ?_
  repeat (first | refine Safe.seq ?_ | refine Safe.skip ?_ | with_reducible refine thenQ.n ?_ | with_reducible refine blockQ.n ?_)
  refine ifG h (fun hc15276 h => ?_) (fun hc15276 h => ?_)
  · skip
    refine Safe.condK rfl hc15276 ?_
    repeat (first | refine Safe.seq ?_ | refine Safe.skip ?_ | with_reducible refine thenQ.n ?_ | with_reducible refine blockQ.n ?_)
    refine Safe.region ?_
    refine SafeOps.quiet0 E_good rfl rfl rfl (v := V.bool false) (.fn rfl) ?_
    refine SafeOps.nil ?_
    repeat (first | refine Safe.seq ?_ | refine Safe.skip ?_ | with_reducible refine thenQ.n ?_ | with_reducible refine blockQ.n ?_)
    refine Safe.ret ?_
    repeat (first | with_reducible refine thenQ.r ?_ | with_reducible refine blockQ.r ?_)
    obtain rfl := Option.some.inj h
    exact retQ.gen (vs := [V.bool false]) rfl (.tmp (v := V.bool false) rfl .nil) (.free rfl) (by simp) (.inr rfl)
  · skip
    refine Safe.condN rfl hc15276 ?_
    repeat (first | refine Safe.seq ?_ | refine Safe.skip ?_ | with_reducible refine thenQ.n ?_ | with_reducible refine blockQ.n ?_)
    refine Safe.region ?_
    refine SafeOps.quiet0 E_good rfl rfl rfl (v := V.sl 3 (rws api_Instr.cells a1_15062)) (.fn rfl) ?_
    refine SafeOps.quiet0 E_good rfl rfl rfl (v := V.int .i64 (a1_15062.length : Int)) (.fnE rfl lenE) ?_
    refine SafeOps.quiet0 E_good rfl rfl rfl (v := V.bool (decide ((a1_15062.length : Int) > 40))) (.fn rfl) ?_
    refine SafeOps.quiet0 E_good rfl rfl rfl (v := V.bool (decide ((a1_15062.length : Int) > 40))) (.fn rfl) ?_
    refine SafeOps.bjoin 3 30 (b := ((decide ((a1_15062.length : Int) > 40)) || (decide (a0_15061 < 0)))) (b1 := true) (b0 := decide (a0_15061 < 0)) (fun hc15277 K => ?_) (fun hc15277 K => ?_) bj_or ?_
    · skip
      refine SafeOps.skip (congrArg (fun b => some (!b)) hc15277) rfl rfl ?_
      refine SafeOps.skip (congrArg (fun b => some (!b)) hc15277) rfl rfl ?_
      refine SafeOps.quiet0 E_good rfl rfl rfl (v := V.bool true) (.pickK rfl hc15277 rfl) ?_
      exact SafeOps.drop' 3 rfl rfl rfl K
    · skip
      refine SafeOps.quiet0 E_good (congrArg (fun b => some (!b)) hc15277) rfl rfl (v := V.int .i64 a0_15061) (.fn rfl) ?_
      refine SafeOps.quiet0 E_good (congrArg (fun b => some (!b)) hc15277) rfl rfl (v := V.bool (decide (a0_15061 < 0))) (.fn rfl) ?_
      refine SafeOps.quiet0 E_good rfl rfl rfl (v := V.bool (decide (a0_15061 < 0))) (.pickK rfl hc15277 rfl) ?_
      exact SafeOps.drop' 3 rfl rfl rfl K
    refine SafeOps.nil ?_
    repeat (first | refine Safe.seq ?_ | refine Safe.skip ?_ | with_reducible refine thenQ.n ?_ | with_reducible refine blockQ.n ?_)
    refine ifG h (fun hc15278 h => ?_) (fun hc15278 h => ?_)
    · skip
      refine Safe.condK rfl hc15278 ?_
      repeat (first | refine Safe.seq ?_ | refine Safe.skip ?_ | with_reducible refine thenQ.n ?_ | with_reducible refine blockQ.n ?_)
      refine Safe.region ?_
      refine SafeOps.quiet0 E_good rfl rfl rfl (v := V.bool x_15274) (.fn rfl) ?_
      refine SafeOps.quiet0 E_good rfl rfl rfl (v := V.bool x_15274) (.fn rfl) ?_
      refine SafeOps.nil ?_
      repeat (first | refine Safe.seq ?_ | refine Safe.skip ?_ | with_reducible refine thenQ.n ?_ | with_reducible refine blockQ.n ?_)
      refine Safe.ret ?_
      repeat (first | with_reducible refine thenQ.r ?_ | with_reducible refine blockQ.r ?_)
      obtain rfl := Option.some.inj h
      exact retQ.gen (vs := [V.bool x_15274]) rfl (.tmp (v := V.bool x_15274) rfl .nil) (.free rfl) (by simp) (.inr rfl)
    · skip
      refine Safe.condN rfl hc15278 ?_
      repeat (first | refine Safe.seq ?_ | refine Safe.skip ?_ | with_reducible refine thenQ.n ?_ | with_reducible refine blockQ.n ?_)
      refine Safe.region ?_
      refine SafeOps.quiet0 E_good rfl rfl rfl (v := V.int .i64 a0_15061) (.fn rfl) ?_
      refine bindG h ?_
      rintro ⟨x_15279, x_15280⟩ he15281 h
      refine SafeOps.quiet0 E_good rfl rfl rfl (v := V.tup [V.agg [V.int .i64 x_15279.Id, V.int .i64 x_15279.Tenant, V.int .i64 x_15279.Prog, V.int .i64 x_15279.Pc, V.int .i64 x_15279.Unit, V.int .i64 x_15279.Keeps.a0, V.int .i64 x_15279.Keeps.a1, V.int .i64 x_15279.Keeps.a2, V.int .i64 x_15279.Keeps.a3, V.int .i64 x_15279.State, V.int .i64 x_15279.Ran], V.bool x_15280]) (.callP rfl rfl (go_ravellaw13_fresh_sc a0_15061 _ he15281) rfl) ?_
      refine SafeOps.quiet0 E_good rfl rfl rfl (v := V.tup [V.agg [V.int .i64 x_15279.Id, V.int .i64 x_15279.Tenant, V.int .i64 x_15279.Prog, V.int .i64 x_15279.Pc, V.int .i64 x_15279.Unit, V.int .i64 x_15279.Keeps.a0, V.int .i64 x_15279.Keeps.a1, V.int .i64 x_15279.Keeps.a2, V.int .i64 x_15279.Keeps.a3, V.int .i64 x_15279.State, V.int .i64 x_15279.Ran], V.bool x_15280]) (.fn rfl) ?_
      refine SafeOps.quiet0 E_good rfl rfl rfl (v := V.agg [V.int .i64 x_15279.Id, V.int .i64 x_15279.Tenant, V.int .i64 x_15279.Prog, V.int .i64 x_15279.Pc, V.int .i64 x_15279.Unit, V.int .i64 x_15279.Keeps.a0, V.int .i64 x_15279.Keeps.a1, V.int .i64 x_15279.Keeps.a2, V.int .i64 x_15279.Keeps.a3, V.int .i64 x_15279.State, V.int .i64 x_15279.Ran]) (.fn rfl) ?_
      refine SafeOps.quiet0 E_good rfl rfl rfl (v := V.bool x_15280) (.fn rfl) ?_
      refine SafeOps.quiet1 E_good rfl rfl rfl (.alloc rfl rfl) rfl ?_
      refine SafeOps.store (z := Obj.box [V.int .i64 x_15279.Id, V.int .i64 x_15279.Tenant, V.int .i64 x_15279.Prog, V.int .i64 x_15279.Pc, V.int .i64 x_15279.Unit, V.int .i64 x_15279.Keeps.a0, V.int .i64 x_15279.Keeps.a1, V.int .i64 x_15279.Keeps.a2, V.int .i64 x_15279.Keeps.a3, V.int .i64 x_15279.State, V.int .i64 x_15279.Ran]) E_good rfl rfl rfl rfl rfl rfl rfl (.boxM (c := 11) rfl rfl (Nat.le_of_ble_eq_true rfl) rfl) ?_
      refine SafeOps.quiet0 E_good rfl rfl rfl (v := V.bool x_15280) (.fn rfl) ?_
      refine SafeOps.nil ?_
      repeat (first | refine Safe.seq ?_ | refine Safe.skip ?_ | with_reducible refine thenQ.n ?_ | with_reducible refine blockQ.n ?_)
      refine Safe.region ?_
      refine SafeOps.quiet0 E_good rfl rfl rfl (v := V.sl 3 (rws api_Instr.cells a1_15062)) (.fn rfl) ?_
      refine bindG h ?_
      rintro ⟨x_15282, x_15283⟩ he15284 h
      refine SafeOps.quiet0 E_good rfl rfl rfl (v := V.tup [V.int .i64 x_15282, V.int .i64 x_15283]) (.callP rfl rfl (go_code_Units_sc a1_15062 _ he15284) rfl) ?_
      refine SafeOps.quiet0 E_good rfl rfl rfl (v := V.tup [V.int .i64 x_15282, V.int .i64 x_15283]) (.fn rfl) ?_
      refine SafeOps.quiet0 E_good rfl rfl rfl (v := V.int .i64 x_15282) (.fn rfl) ?_
      refine SafeOps.quiet0 E_good rfl rfl rfl (v := V.int .i64 x_15283) (.fn rfl) ?_
      refine SafeOps.quiet0 E_good rfl rfl rfl (v := V.int .i64 x_15282) (.fn rfl) ?_
      refine SafeOps.quiet0 E_good rfl rfl rfl (v := V.int .i64 x_15283) (.fn rfl) ?_
      refine SafeOps.nil ?_
      repeat (first | refine Safe.seq ?_ | refine Safe.skip ?_ | with_reducible refine thenQ.n ?_ | with_reducible refine blockQ.n ?_)
      refine Safe.region ?_
      refine SafeOps.quiet0 E_good rfl rfl rfl (v := V.bool x_15280) (.fn rfl) ?_
      refine SafeOps.quiet0 E_good rfl rfl rfl (v := V.bool (!x_15280)) (.fn rfl) ?_
      refine SafeOps.quiet0 E_good rfl rfl rfl (v := V.bool (!x_15280)) (.fn rfl) ?_
      refine SafeOps.bjoin 3 47 (b := ((!x_15280) || (x_15283 != 0))) (b1 := true) (b0 := (x_15283 != 0)) (fun hc15285 K => ?_) (fun hc15285 K => ?_) bj_or ?_
      · skip
        refine SafeOps.skip (congrArg (fun b => some (!b)) hc15285) rfl rfl ?_
        refine SafeOps.skip (congrArg (fun b => some (!b)) hc15285) rfl rfl ?_
        refine SafeOps.quiet0 E_good rfl rfl rfl (v := V.bool true) (.pickK rfl hc15285 rfl) ?_
        exact SafeOps.drop' 3 rfl rfl rfl K
      · skip
        refine SafeOps.quiet0 E_good (congrArg (fun b => some (!b)) hc15285) rfl rfl (v := V.int .i64 x_15283) (.fn rfl) ?_
        refine SafeOps.quiet0 E_good (congrArg (fun b => some (!b)) hc15285) rfl rfl (v := V.bool (x_15283 != 0)) (.fn rfl) ?_
        refine SafeOps.quiet0 E_good rfl rfl rfl (v := V.bool (x_15283 != 0)) (.pickK rfl hc15285 rfl) ?_
        exact SafeOps.drop' 3 rfl rfl rfl K
      refine SafeOps.nil ?_
      repeat (first | refine Safe.seq ?_ | refine Safe.skip ?_ | with_reducible refine thenQ.n ?_ | with_reducible refine blockQ.n ?_)
      refine ifG h (fun hc15292 h => ?_) (fun hc15292 h => ?_)
      · skip
        refine Safe.condK rfl hc15292 ?_
        repeat (first | refine Safe.seq ?_ | refine Safe.skip ?_ | with_reducible refine thenQ.n ?_ | with_reducible refine blockQ.n ?_)
        refine Safe.region ?_
        refine SafeOps.quiet0 E_good rfl rfl rfl (v := V.bool x_15274) (.fn rfl) ?_
        refine SafeOps.quiet0 E_good rfl rfl rfl (v := V.bool x_15274) (.fn rfl) ?_
        refine SafeOps.bjoin 2 51 (b := (x_15274 && x_15280)) (b1 := x_15280) (b0 := false) (fun hc15293 K => ?_) (fun hc15293 K => ?_) bj_and ?_
        · skip
          refine SafeOps.quiet0 E_good (congrArg some hc15293) rfl rfl (v := V.bool x_15280) (.fn rfl) ?_
          refine SafeOps.quiet0 E_good rfl rfl rfl (v := V.bool x_15280) (.pickK rfl hc15293 rfl) ?_
          exact SafeOps.drop' 2 rfl rfl rfl K
        · skip
          refine SafeOps.skip (congrArg some hc15293) rfl rfl ?_
          refine SafeOps.quiet0 E_good rfl rfl rfl (v := V.bool false) (.pickK rfl hc15293 rfl) ?_
          exact SafeOps.drop' 2 rfl rfl rfl K
        refine SafeOps.quiet0 E_good rfl rfl rfl (v := V.bool (x_15274 && x_15280)) (.fn rfl) ?_
        refine ifG h (fun hc15294 h => ?_) (fun hc15294 h => ?_)
        · skip
          refine SafeOps.quiet0 E_good (congrArg some hc15294) rfl rfl (v := V.sl 3 (rws api_Instr.cells a1_15062)) (.fn rfl) ?_
          refine bindG h ?_
          intro x_15297 he15298 h
          refine SafeOps.quiet0 E_good (congrArg some hc15294) rfl rfl (v := V.int .i64 x_15297) (.callP rfl rfl (go_code_Check_sc a1_15062 _ he15298) rfl) ?_
          refine SafeOps.quiet0 E_good (congrArg some hc15294) rfl rfl (v := V.int .i64 x_15283) (.fn rfl) ?_
          refine SafeOps.quiet0 E_good (congrArg some hc15294) rfl rfl (v := V.bool (x_15297 == x_15283)) (.fn rfl) ?_
          refine SafeOps.quiet0 E_good rfl rfl rfl (v := V.bool (x_15297 == x_15283)) (.pickK rfl hc15294 rfl) ?_
          refine SafeOps.quiet0 E_good rfl rfl rfl (v := V.bool (x_15297 == x_15283)) (.fn rfl) ?_
          refine SafeOps.nil ?_
          repeat (first | refine Safe.seq ?_ | refine Safe.skip ?_ | with_reducible refine thenQ.n ?_ | with_reducible refine blockQ.n ?_)
          refine Safe.ret ?_
          repeat (first | with_reducible refine thenQ.r ?_ | with_reducible refine blockQ.r ?_)
          obtain rfl := Option.some.inj h
          exact retQ.gen (vs := [V.bool (x_15297 == x_15283)]) rfl (.tmp (v := V.bool (x_15297 == x_15283)) rfl .nil) (.free rfl) (by simp) (.inr rfl)
        · skip
          refine SafeOps.skip (congrArg some hc15294) rfl rfl ?_
          refine SafeOps.skip (congrArg some hc15294) rfl rfl ?_
          refine SafeOps.skip (congrArg some hc15294) rfl rfl ?_
          refine SafeOps.skip (congrArg some hc15294) rfl rfl ?_
          refine SafeOps.quiet0 E_good rfl rfl rfl (v := V.bool false) (.pickK rfl hc15294 rfl) ?_
          refine SafeOps.quiet0 E_good rfl rfl rfl (v := V.bool false) (.fn rfl) ?_
          refine SafeOps.nil ?_
          repeat (first | refine Safe.seq ?_ | refine Safe.skip ?_ | with_reducible refine thenQ.n ?_ | with_reducible refine blockQ.n ?_)
          refine Safe.ret ?_
          repeat (first | with_reducible refine thenQ.r ?_ | with_reducible refine blockQ.r ?_)
          obtain rfl := Option.some.inj h
          exact retQ.gen (vs := [V.bool false]) rfl (.tmp (v := V.bool false) rfl .nil) (.free rfl) (by simp) (.inr rfl)
      · skip
        refine Safe.condN rfl hc15292 ?_
        repeat (first | refine Safe.seq ?_ | refine Safe.skip ?_ | with_reducible refine thenQ.n ?_ | with_reducible refine blockQ.n ?_)
        refine Safe.region ?_
        refine SafeOps.quiet0 E_good rfl rfl rfl (v := V.int .i64 0) (.fn rfl) ?_
        refine SafeOps.nil ?_
        repeat (first | refine Safe.seq ?_ | refine Safe.skip ?_ | with_reducible refine thenQ.n ?_ | with_reducible refine blockQ.n ?_)
        refine Safe.region ?_
        refine SafeOps.quiet0 E_good rfl rfl rfl (v := V.int .i64 0) (.fn rfl) ?_
        refine SafeOps.nil ?_
        repeat (first | refine Safe.seq ?_ | refine Safe.skip ?_ | with_reducible refine thenQ.n ?_ | with_reducible refine blockQ.n ?_)
        refine Safe.region ?_
        refine SafeOps.quiet0 E_good rfl rfl rfl (v := V.int .i64 x_15282) (.fn rfl) ?_
        refine SafeOps.quiet0 E_good rfl rfl rfl (v := V.int .i64 0) (.fn rfl) ?_
        refine SafeOps.nil ?_
        repeat (first | refine Safe.seq ?_ | refine Safe.skip ?_ | with_reducible refine thenQ.n ?_ | with_reducible refine blockQ.n ?_)
        refine Safe.block ?_
        repeat (first | refine Safe.seq ?_ | refine Safe.skip ?_ | with_reducible refine thenQ.n ?_ | with_reducible refine blockQ.n ?_)
        refine Safe.loopW (fun ((v10_15442, v11_15443, v59_15444, v60_15445, v61_15446, v62_15447, v63_15448, v64_15449, v65_15450, v66_15451, v67_15452, v68_15453, v69_15454, v610_15455) : Int × Int × Int × Int × Int × Int × Int × Int × Int × Int × Int × Int × Int × Int) => ⟨Tryd.f6.ntmps, [(0, V.int .i64 a0_15061), (1, V.sl 3 (rws api_Instr.cells a1_15062)), (5, V.bool x_15274), (6, V.ptr [6] 0 0), (8, V.int .i64 x_15282), (10, V.int .i64 v10_15442), (11, V.int .i64 v11_15443), (58, V.int .i64 x_15282), (59, V.int .i64 v59_15444)], [([6], Obj.box [V.int .i64 v60_15445, V.int .i64 v61_15446, V.int .i64 v62_15447, V.int .i64 v63_15448, V.int .i64 v64_15449, V.int .i64 v65_15450, V.int .i64 v66_15451, V.int .i64 v67_15452, V.int .i64 v68_15453, V.int .i64 v69_15454, V.int .i64 v610_15455])], [], []⟩) h (.cov ⟨rfl, rfl, (upT_cons (.refl _) (upT_cons (.refl _) (upT_cons (.refl _) (upT_cons (.refl _) (upT_cons (.refl _) (upT_cons (.refl _) (upT_cons (.refl _) (upT_cons (.refl _) (upT_cons (.refl _) upT_nil))))))))), (upOb_cons rfl (.refl _) upOb_nil), upOut_nil, rfl⟩) ?_
        rintro ⟨v10_15442, v11_15443, v59_15444, v60_15445, v61_15446, v62_15447, v63_15448, v64_15449, v65_15450, v66_15451, v67_15452, v68_15453, v69_15454, v610_15455⟩ ohr15456 h hr15456
        replace h : go_ravellaw13_StepOrder_s2 a0_15061 a1_15062 x_15274 x_15282 (v10_15442, v11_15443, v59_15444, v60_15445, v61_15446, v62_15447, v63_15448, v64_15449, v65_15450, v66_15451, v67_15452, v68_15453, v69_15454, v610_15455) = some ohr15456 := h
        rw [go_ravellaw13_StepOrder_s2] at h
        repeat (first | refine Safe.seq ?_ | refine Safe.skip ?_ | with_reducible refine thenQ.n ?_ | with_reducible refine blockQ.n ?_)
        refine Safe.region ?_
        refine SafeOps.quiet0 E_good rfl rfl rfl (v := V.bool (decide (v59_15444 < x_15282))) (.fn rfl) ?_
        refine SafeOps.nil ?_
        repeat (first | refine Safe.seq ?_ | refine Safe.skip ?_ | with_reducible refine thenQ.n ?_ | with_reducible refine blockQ.n ?_)
        refine ifG h (fun hc15457 h => ?_) (fun hc15457 h => ?_)
        · skip
          refine Safe.condK rfl hc15457 ?_
          repeat (first | refine Safe.seq ?_ | refine Safe.skip ?_ | with_reducible refine thenQ.n ?_ | with_reducible refine blockQ.n ?_)
          refine Safe.block ?_
          repeat (first | refine Safe.seq ?_ | refine Safe.skip ?_ | with_reducible refine thenQ.n ?_ | with_reducible refine blockQ.n ?_)
          refine Safe.region ?_
          refine SafeOps.quiet0 E_good rfl rfl rfl (v := V.int .i64 v59_15444) (.fn rfl) ?_
          refine SafeOps.quiet0 E_good rfl rfl rfl (v := V.int .i64 v59_15444) (.fn rfl) ?_
          refine SafeOps.nil ?_
          repeat (first | refine Safe.seq ?_ | refine Safe.skip ?_ | with_reducible refine thenQ.n ?_ | with_reducible refine blockQ.n ?_)
          refine Safe.region ?_
          refine SafeOps.quiet0 E_good rfl rfl rfl (v := V.int .i64 v10_15442) (.fn rfl) ?_
          refine SafeOps.quiet0 E_good rfl rfl rfl (v := V.sl 3 (rws api_Instr.cells a1_15062)) (.fn rfl) ?_
          refine SafeOps.quiet0 E_good rfl rfl rfl (v := V.int .i64 (a1_15062.length : Int)) (.fnE rfl lenE) ?_
          refine SafeOps.quiet0 E_good rfl rfl rfl (v := V.bool (decide (v10_15442 ≥ (a1_15062.length : Int)))) (.fn rfl) ?_
          refine SafeOps.nil ?_
          repeat (first | refine Safe.seq ?_ | refine Safe.skip ?_ | with_reducible refine thenQ.n ?_ | with_reducible refine blockQ.n ?_)
          refine ifG h (fun hc15458 h => ?_) (fun hc15458 h => ?_)
          · skip
            refine Safe.condK rfl hc15458 ?_
            repeat (first | refine Safe.seq ?_ | refine Safe.skip ?_ | with_reducible refine thenQ.n ?_ | with_reducible refine blockQ.n ?_)
            refine Safe.region ?_
            refine SafeOps.quiet0 E_good rfl rfl rfl (v := V.bool false) (.fn rfl) ?_
            refine SafeOps.nil ?_
            repeat (first | refine Safe.seq ?_ | refine Safe.skip ?_ | with_reducible refine thenQ.n ?_ | with_reducible refine blockQ.n ?_)
            refine Safe.ret ?_
            repeat (first | with_reducible refine thenQ.r ?_ | with_reducible refine blockQ.r ?_)
            replace h := inr_out h hr15456
            obtain rfl := Option.some.inj h
            exact retQ.gen (vs := [V.bool false]) rfl (.tmp (v := V.bool false) rfl .nil) (.free rfl) (by simp) (.inr rfl)
          · skip
            refine Safe.condN rfl hc15458 ?_
            repeat (first | refine Safe.seq ?_ | refine Safe.skip ?_ | with_reducible refine thenQ.n ?_ | with_reducible refine blockQ.n ?_)
            refine Safe.region ?_
            refine SafeOps.quiet0 E_good rfl rfl rfl (v := V.agg [V.int .i64 v60_15445, V.int .i64 v61_15446, V.int .i64 v62_15447, V.int .i64 v63_15448, V.int .i64 v64_15449, V.int .i64 v65_15450, V.int .i64 v66_15451, V.int .i64 v67_15452, V.int .i64 v68_15453, V.int .i64 v69_15454, V.int .i64 v610_15455]) (.load rfl rfl (.box rfl rfl) rfl) ?_
            refine SafeOps.quiet0 E_good rfl rfl rfl (v := V.sl 3 (rws api_Instr.cells a1_15062)) (.fn rfl) ?_
            refine bindG h ?_
            rintro ⟨x_15459, x_15460⟩ he15461 h
            refine SafeOps.quiet0 E_good rfl rfl rfl (v := V.tup [V.int .i64 x_15459, V.int .i64 x_15460]) (.callP rfl rfl (go_step_Left_sc (api_Task.mk v60_15445 v61_15446 v62_15447 v63_15448 v64_15449 (A4_Int.mk v65_15450 v66_15451 v67_15452 v68_15453) v69_15454 v610_15455) a1_15062 _ he15461) rfl) ?_
            refine SafeOps.quiet0 E_good rfl rfl rfl (v := V.tup [V.int .i64 x_15459, V.int .i64 x_15460]) (.fn rfl) ?_
            refine SafeOps.quiet0 E_good rfl rfl rfl (v := V.int .i64 x_15459) (.fn rfl) ?_
            refine SafeOps.quiet0 E_good rfl rfl rfl (v := V.int .i64 x_15460) (.fn rfl) ?_
            refine SafeOps.quiet0 E_good rfl rfl rfl (v := V.int .i64 x_15459) (.fn rfl) ?_
            refine SafeOps.quiet0 E_good rfl rfl rfl (v := V.int .i64 x_15460) (.fn rfl) ?_
            refine SafeOps.nil ?_
            repeat (first | refine Safe.seq ?_ | refine Safe.skip ?_ | with_reducible refine thenQ.n ?_ | with_reducible refine blockQ.n ?_)
            refine Safe.region ?_
            refine SafeOps.quiet0 E_good rfl rfl rfl (v := V.agg [V.int .i64 v60_15445, V.int .i64 v61_15446, V.int .i64 v62_15447, V.int .i64 v63_15448, V.int .i64 v64_15449, V.int .i64 v65_15450, V.int .i64 v66_15451, V.int .i64 v67_15452, V.int .i64 v68_15453, V.int .i64 v69_15454, V.int .i64 v610_15455]) (.load rfl rfl (.box rfl rfl) rfl) ?_
            refine SafeOps.quiet0 E_good rfl rfl rfl (v := V.sl 3 (rws api_Instr.cells a1_15062)) (.fn rfl) ?_
            refine bindG h ?_
            rintro ⟨x_15462, x_15463, x_15464⟩ he15465 h
            refine SafeOps.quiet0 E_good rfl rfl rfl (v := V.tup [V.agg [V.int .i64 x_15462.Id, V.int .i64 x_15462.Tenant, V.int .i64 x_15462.Prog, V.int .i64 x_15462.Pc, V.int .i64 x_15462.Unit, V.int .i64 x_15462.Keeps.a0, V.int .i64 x_15462.Keeps.a1, V.int .i64 x_15462.Keeps.a2, V.int .i64 x_15462.Keeps.a3, V.int .i64 x_15462.State, V.int .i64 x_15462.Ran], V.agg [V.int .i64 x_15463.Kind, V.int .i64 x_15463.A, V.int .i64 x_15463.B], V.int .i64 x_15464]) (.callP rfl rfl (go_step_Do_sc (api_Task.mk v60_15445 v61_15446 v62_15447 v63_15448 v64_15449 (A4_Int.mk v65_15450 v66_15451 v67_15452 v68_15453) v69_15454 v610_15455) a1_15062 _ he15465) rfl) ?_
            refine SafeOps.quiet0 E_good rfl rfl rfl (v := V.tup [V.agg [V.int .i64 x_15462.Id, V.int .i64 x_15462.Tenant, V.int .i64 x_15462.Prog, V.int .i64 x_15462.Pc, V.int .i64 x_15462.Unit, V.int .i64 x_15462.Keeps.a0, V.int .i64 x_15462.Keeps.a1, V.int .i64 x_15462.Keeps.a2, V.int .i64 x_15462.Keeps.a3, V.int .i64 x_15462.State, V.int .i64 x_15462.Ran], V.agg [V.int .i64 x_15463.Kind, V.int .i64 x_15463.A, V.int .i64 x_15463.B], V.int .i64 x_15464]) (.fn rfl) ?_
            refine SafeOps.quiet0 E_good rfl rfl rfl (v := V.agg [V.int .i64 x_15462.Id, V.int .i64 x_15462.Tenant, V.int .i64 x_15462.Prog, V.int .i64 x_15462.Pc, V.int .i64 x_15462.Unit, V.int .i64 x_15462.Keeps.a0, V.int .i64 x_15462.Keeps.a1, V.int .i64 x_15462.Keeps.a2, V.int .i64 x_15462.Keeps.a3, V.int .i64 x_15462.State, V.int .i64 x_15462.Ran]) (.fn rfl) ?_
            refine SafeOps.quiet0 E_good rfl rfl rfl (v := V.agg [V.int .i64 x_15463.Kind, V.int .i64 x_15463.A, V.int .i64 x_15463.B]) (.fn rfl) ?_
            refine SafeOps.quiet0 E_good rfl rfl rfl (v := V.int .i64 x_15464) (.fn rfl) ?_
            refine SafeOps.quiet1 E_good rfl rfl rfl (.alloc rfl rfl) rfl ?_
            refine SafeOps.quiet1 E_good rfl rfl rfl (.alloc rfl rfl) rfl ?_
            refine SafeOps.store (z := Obj.box [V.int .i64 x_15462.Id, V.int .i64 x_15462.Tenant, V.int .i64 x_15462.Prog, V.int .i64 x_15462.Pc, V.int .i64 x_15462.Unit, V.int .i64 x_15462.Keeps.a0, V.int .i64 x_15462.Keeps.a1, V.int .i64 x_15462.Keeps.a2, V.int .i64 x_15462.Keeps.a3, V.int .i64 x_15462.State, V.int .i64 x_15462.Ran]) E_good rfl rfl rfl rfl rfl rfl rfl (.boxM (c := 11) rfl rfl (Nat.le_of_ble_eq_true rfl) rfl) ?_
            refine SafeOps.store (z := Obj.box [V.int .i64 x_15463.Kind, V.int .i64 x_15463.A, V.int .i64 x_15463.B]) E_good rfl rfl rfl rfl rfl rfl rfl (.boxM (c := 3) rfl rfl (Nat.le_of_ble_eq_true rfl) rfl) ?_
            refine SafeOps.quiet0 E_good rfl rfl rfl (v := V.int .i64 x_15464) (.fn rfl) ?_
            refine SafeOps.nil ?_
            repeat (first | refine Safe.seq ?_ | refine Safe.skip ?_ | with_reducible refine thenQ.n ?_ | with_reducible refine blockQ.n ?_)
            refine Safe.region ?_
            refine SafeOps.quiet0 E_good rfl rfl rfl (v := V.sl 3 (rws api_Instr.cells a1_15062)) (.fn rfl) ?_
            refine SafeOps.quiet0 E_good rfl rfl rfl (v := V.int .i64 v10_15442) (.fn rfl) ?_
            refine okG h (fun hb15466 h => ?_)
            refine SafeOps.quiet0 E_good rfl rfl rfl (v := V.spt 3 (rws api_Instr.cells a1_15062) (Int.toNat v10_15442) 0) (.idxSlM (f := api_Instr.cells) rfl rfl rfl rfl rfl hb15466) ?_
            refine SafeOps.quiet0 E_good rfl rfl rfl (v := V.agg [V.int .i64 ((gt a1_15062 v10_15442).Op), V.int .i64 ((gt a1_15062 v10_15442).A), V.int .i64 ((gt a1_15062 v10_15442).B)]) (.load rfl rfl (.sptM (f := api_Instr.cells) hb15466 rfl) rfl) ?_
            refine SafeOps.quiet1 E_good rfl rfl rfl (.alloc rfl rfl) rfl ?_
            refine SafeOps.store (z := Obj.box [V.int .i64 ((gt a1_15062 v10_15442).Op), V.int .i64 ((gt a1_15062 v10_15442).A), V.int .i64 ((gt a1_15062 v10_15442).B)]) E_good rfl rfl rfl rfl rfl rfl rfl (.boxM (c := 3) rfl rfl (Nat.le_of_ble_eq_true rfl) rfl) ?_
            refine SafeOps.nil ?_
            repeat (first | refine Safe.seq ?_ | refine Safe.skip ?_ | with_reducible refine thenQ.n ?_ | with_reducible refine blockQ.n ?_)
            refine Safe.region ?_
            refine SafeOps.quiet0 E_good rfl rfl rfl (v := V.int .i64 x_15460) (.fn rfl) ?_
            refine SafeOps.quiet0 E_good rfl rfl rfl (v := V.bool (x_15460 != 0)) (.fn rfl) ?_
            refine SafeOps.quiet0 E_good rfl rfl rfl (v := V.bool (x_15460 != 0)) (.fn rfl) ?_
            refine SafeOps.bjoin 6 91 (b := ((x_15460 != 0) || (x_15459 != (IntKind.i64.wrap (x_15282 - v59_15444))))) (b1 := true) (b0 := (x_15459 != (IntKind.i64.wrap (x_15282 - v59_15444)))) (fun hc15467 K => ?_) (fun hc15467 K => ?_) bj_or ?_
            · skip
              refine SafeOps.skip (congrArg (fun b => some (!b)) hc15467) rfl rfl ?_
              refine SafeOps.skip (congrArg (fun b => some (!b)) hc15467) rfl rfl ?_
              refine SafeOps.skip (congrArg (fun b => some (!b)) hc15467) rfl rfl ?_
              refine SafeOps.skip (congrArg (fun b => some (!b)) hc15467) rfl rfl ?_
              refine SafeOps.skip (congrArg (fun b => some (!b)) hc15467) rfl rfl ?_
              refine SafeOps.quiet0 E_good rfl rfl rfl (v := V.bool true) (.pickK rfl hc15467 rfl) ?_
              exact SafeOps.drop' 6 rfl rfl rfl K
            · skip
              refine SafeOps.quiet0 E_good (congrArg (fun b => some (!b)) hc15467) rfl rfl (v := V.int .i64 x_15459) (.fn rfl) ?_
              refine SafeOps.quiet0 E_good (congrArg (fun b => some (!b)) hc15467) rfl rfl (v := V.int .i64 x_15282) (.fn rfl) ?_
              refine SafeOps.quiet0 E_good (congrArg (fun b => some (!b)) hc15467) rfl rfl (v := V.int .i64 v59_15444) (.fn rfl) ?_
              refine SafeOps.quiet0 E_good (congrArg (fun b => some (!b)) hc15467) rfl rfl (v := V.int .i64 (IntKind.i64.wrap (x_15282 - v59_15444))) (.fn rfl) ?_
              refine SafeOps.quiet0 E_good (congrArg (fun b => some (!b)) hc15467) rfl rfl (v := V.bool (x_15459 != (IntKind.i64.wrap (x_15282 - v59_15444)))) (.fn rfl) ?_
              refine SafeOps.quiet0 E_good rfl rfl rfl (v := V.bool (x_15459 != (IntKind.i64.wrap (x_15282 - v59_15444)))) (.pickK rfl hc15467 rfl) ?_
              exact SafeOps.drop' 6 rfl rfl rfl K
            refine SafeOps.quiet0 E_good rfl rfl rfl (v := V.bool ((x_15460 != 0) || (x_15459 != (IntKind.i64.wrap (x_15282 - v59_15444))))) (.fn rfl) ?_
            refine SafeOps.bjoin 3 95 (b := (((x_15460 != 0) || (x_15459 != (IntKind.i64.wrap (x_15282 - v59_15444)))) || (x_15464 != 0))) (b1 := true) (b0 := (x_15464 != 0)) (fun hc15468 K => ?_) (fun hc15468 K => ?_) bj_or ?_
            · skip
              refine SafeOps.skip (congrArg (fun b => some (!b)) hc15468) rfl rfl ?_
              refine SafeOps.skip (congrArg (fun b => some (!b)) hc15468) rfl rfl ?_
              refine SafeOps.quiet0 E_good rfl rfl rfl (v := V.bool true) (.pickK rfl hc15468 rfl) ?_
              exact SafeOps.drop' 3 rfl rfl rfl K
            · skip
              refine SafeOps.quiet0 E_good (congrArg (fun b => some (!b)) hc15468) rfl rfl (v := V.int .i64 x_15464) (.fn rfl) ?_
              refine SafeOps.quiet0 E_good (congrArg (fun b => some (!b)) hc15468) rfl rfl (v := V.bool (x_15464 != 0)) (.fn rfl) ?_
              refine SafeOps.quiet0 E_good rfl rfl rfl (v := V.bool (x_15464 != 0)) (.pickK rfl hc15468 rfl) ?_
              exact SafeOps.drop' 3 rfl rfl rfl K
            refine SafeOps.quiet0 E_good rfl rfl rfl (v := V.bool (((x_15460 != 0) || (x_15459 != (IntKind.i64.wrap (x_15282 - v59_15444)))) || (x_15464 != 0))) (.fn rfl) ?_
            refine SafeOps.bjoin 5 101 (b := ((((x_15460 != 0) || (x_15459 != (IntKind.i64.wrap (x_15282 - v59_15444)))) || (x_15464 != 0)) || (v63_15448 != v10_15442))) (b1 := true) (b0 := (v63_15448 != v10_15442)) (fun hc15469 K => ?_) (fun hc15469 K => ?_) bj_or ?_
            · skip
              refine SafeOps.skip (congrArg (fun b => some (!b)) hc15469) rfl rfl ?_
              refine SafeOps.skip (congrArg (fun b => some (!b)) hc15469) rfl rfl ?_
              refine SafeOps.skip (congrArg (fun b => some (!b)) hc15469) rfl rfl ?_
              refine SafeOps.skip (congrArg (fun b => some (!b)) hc15469) rfl rfl ?_
              refine SafeOps.quiet0 E_good rfl rfl rfl (v := V.bool true) (.pickK rfl hc15469 rfl) ?_
              exact SafeOps.drop' 5 rfl rfl rfl K
            · skip
              refine SafeOps.quiet0 E_good (congrArg (fun b => some (!b)) hc15469) rfl rfl (v := V.ptr [6] 0 3) (.fn rfl) ?_
              refine SafeOps.quiet0 E_good (congrArg (fun b => some (!b)) hc15469) rfl rfl (v := V.int .i64 v63_15448) (.load rfl rfl (.box rfl rfl) rfl) ?_
              refine SafeOps.quiet0 E_good (congrArg (fun b => some (!b)) hc15469) rfl rfl (v := V.int .i64 v10_15442) (.fn rfl) ?_
              refine SafeOps.quiet0 E_good (congrArg (fun b => some (!b)) hc15469) rfl rfl (v := V.bool (v63_15448 != v10_15442)) (.fn rfl) ?_
              refine SafeOps.quiet0 E_good rfl rfl rfl (v := V.bool (v63_15448 != v10_15442)) (.pickK rfl hc15469 rfl) ?_
              exact SafeOps.drop' 5 rfl rfl rfl K
            refine SafeOps.quiet0 E_good rfl rfl rfl (v := V.bool ((((x_15460 != 0) || (x_15459 != (IntKind.i64.wrap (x_15282 - v59_15444)))) || (x_15464 != 0)) || (v63_15448 != v10_15442))) (.fn rfl) ?_
            refine SafeOps.bjoin 5 107 (b := (((((x_15460 != 0) || (x_15459 != (IntKind.i64.wrap (x_15282 - v59_15444)))) || (x_15464 != 0)) || (v63_15448 != v10_15442)) || (v64_15449 != v11_15443))) (b1 := true) (b0 := (v64_15449 != v11_15443)) (fun hc15470 K => ?_) (fun hc15470 K => ?_) bj_or ?_
            · skip
              refine SafeOps.skip (congrArg (fun b => some (!b)) hc15470) rfl rfl ?_
              refine SafeOps.skip (congrArg (fun b => some (!b)) hc15470) rfl rfl ?_
              refine SafeOps.skip (congrArg (fun b => some (!b)) hc15470) rfl rfl ?_
              refine SafeOps.skip (congrArg (fun b => some (!b)) hc15470) rfl rfl ?_
              refine SafeOps.quiet0 E_good rfl rfl rfl (v := V.bool true) (.pickK rfl hc15470 rfl) ?_
              exact SafeOps.drop' 5 rfl rfl rfl K
            · skip
              refine SafeOps.quiet0 E_good (congrArg (fun b => some (!b)) hc15470) rfl rfl (v := V.ptr [6] 0 4) (.fn rfl) ?_
              refine SafeOps.quiet0 E_good (congrArg (fun b => some (!b)) hc15470) rfl rfl (v := V.int .i64 v64_15449) (.load rfl rfl (.box rfl rfl) rfl) ?_
              refine SafeOps.quiet0 E_good (congrArg (fun b => some (!b)) hc15470) rfl rfl (v := V.int .i64 v11_15443) (.fn rfl) ?_
              refine SafeOps.quiet0 E_good (congrArg (fun b => some (!b)) hc15470) rfl rfl (v := V.bool (v64_15449 != v11_15443)) (.fn rfl) ?_
              refine SafeOps.quiet0 E_good rfl rfl rfl (v := V.bool (v64_15449 != v11_15443)) (.pickK rfl hc15470 rfl) ?_
              exact SafeOps.drop' 5 rfl rfl rfl K
            refine SafeOps.quiet0 E_good rfl rfl rfl (v := V.bool (((((x_15460 != 0) || (x_15459 != (IntKind.i64.wrap (x_15282 - v59_15444)))) || (x_15464 != 0)) || (v63_15448 != v10_15442)) || (v64_15449 != v11_15443))) (.fn rfl) ?_
            refine SafeOps.bjoin 7 115 (b := ((((((x_15460 != 0) || (x_15459 != (IntKind.i64.wrap (x_15282 - v59_15444)))) || (x_15464 != 0)) || (v63_15448 != v10_15442)) || (v64_15449 != v11_15443)) || (x_15462.Ran != (IntKind.i64.wrap (v610_15455 + 1))))) (b1 := true) (b0 := (x_15462.Ran != (IntKind.i64.wrap (v610_15455 + 1)))) (fun hc15471 K => ?_) (fun hc15471 K => ?_) bj_or ?_
            · skip
              refine SafeOps.skip (congrArg (fun b => some (!b)) hc15471) rfl rfl ?_
              refine SafeOps.skip (congrArg (fun b => some (!b)) hc15471) rfl rfl ?_
              refine SafeOps.skip (congrArg (fun b => some (!b)) hc15471) rfl rfl ?_
              refine SafeOps.skip (congrArg (fun b => some (!b)) hc15471) rfl rfl ?_
              refine SafeOps.skip (congrArg (fun b => some (!b)) hc15471) rfl rfl ?_
              refine SafeOps.skip (congrArg (fun b => some (!b)) hc15471) rfl rfl ?_
              refine SafeOps.quiet0 E_good rfl rfl rfl (v := V.bool true) (.pickK rfl hc15471 rfl) ?_
              exact SafeOps.drop' 7 rfl rfl rfl K
            · skip
              refine SafeOps.quiet0 E_good (congrArg (fun b => some (!b)) hc15471) rfl rfl (v := V.ptr [15] 0 10) (.fn rfl) ?_
              refine SafeOps.quiet0 E_good (congrArg (fun b => some (!b)) hc15471) rfl rfl (v := V.int .i64 x_15462.Ran) (.load rfl rfl (.box rfl rfl) rfl) ?_
              refine SafeOps.quiet0 E_good (congrArg (fun b => some (!b)) hc15471) rfl rfl (v := V.ptr [6] 0 10) (.fn rfl) ?_
              refine SafeOps.quiet0 E_good (congrArg (fun b => some (!b)) hc15471) rfl rfl (v := V.int .i64 v610_15455) (.load rfl rfl (.box rfl rfl) rfl) ?_
              refine SafeOps.quiet0 E_good (congrArg (fun b => some (!b)) hc15471) rfl rfl (v := V.int .i64 (IntKind.i64.wrap (v610_15455 + 1))) (.fn rfl) ?_
              refine SafeOps.quiet0 E_good (congrArg (fun b => some (!b)) hc15471) rfl rfl (v := V.bool (x_15462.Ran != (IntKind.i64.wrap (v610_15455 + 1)))) (.fn rfl) ?_
              refine SafeOps.quiet0 E_good rfl rfl rfl (v := V.bool (x_15462.Ran != (IntKind.i64.wrap (v610_15455 + 1)))) (.pickK rfl hc15471 rfl) ?_
              exact SafeOps.drop' 7 rfl rfl rfl K
            refine SafeOps.nil ?_
            repeat (first | refine Safe.seq ?_ | refine Safe.skip ?_ | with_reducible refine thenQ.n ?_ | with_reducible refine blockQ.n ?_)
            refine ifG h (fun hc15472 h => ?_) (fun hc15472 h => ?_)
            · skip
              refine Safe.condK rfl hc15472 ?_
              repeat (first | refine Safe.seq ?_ | refine Safe.skip ?_ | with_reducible refine thenQ.n ?_ | with_reducible refine blockQ.n ?_)
              refine Safe.region ?_
              refine SafeOps.quiet0 E_good rfl rfl rfl (v := V.bool false) (.fn rfl) ?_
              refine SafeOps.nil ?_
              repeat (first | refine Safe.seq ?_ | refine Safe.skip ?_ | with_reducible refine thenQ.n ?_ | with_reducible refine blockQ.n ?_)
              refine Safe.ret ?_
              repeat (first | with_reducible refine thenQ.r ?_ | with_reducible refine blockQ.r ?_)
              replace h := inr_out h hr15456
              obtain rfl := Option.some.inj h
              exact retQ.gen (vs := [V.bool false]) rfl (.tmp (v := V.bool false) rfl .nil) (.free rfl) (by simp) (.inr rfl)
            · skip
              refine Safe.condN rfl hc15472 ?_
              repeat (first | refine Safe.seq ?_ | refine Safe.skip ?_ | with_reducible refine thenQ.n ?_ | with_reducible refine blockQ.n ?_)
              refine Safe.block ?_
              repeat (first | refine Safe.seq ?_ | refine Safe.skip ?_ | with_reducible refine thenQ.n ?_ | with_reducible refine blockQ.n ?_)
              refine Safe.region ?_
              refine SafeOps.quiet0 E_good rfl rfl rfl (v := V.ptr [18] 0 0) (.fn rfl) ?_
              refine SafeOps.quiet0 E_good rfl rfl rfl (v := V.int .i64 ((gt a1_15062 v10_15442).Op)) (.load rfl rfl (.box rfl rfl) rfl) ?_
              refine SafeOps.quiet0 E_good rfl rfl rfl (v := V.bool (((gt a1_15062 v10_15442).Op) == 1)) (.fn rfl) ?_
              refine SafeOps.quiet0 E_good rfl rfl rfl (v := V.bool (((gt a1_15062 v10_15442).Op) == 1)) (.fn rfl) ?_
              refine SafeOps.nil ?_
              repeat (first | refine Safe.seq ?_ | refine Safe.skip ?_ | with_reducible refine thenQ.n ?_ | with_reducible refine blockQ.n ?_)
              refine ifG h (fun hc15473 h => ?_) (fun hc15473 h => ?_)
              · skip
                refine Safe.condK rfl hc15473 ?_
                repeat (first | refine Safe.seq ?_ | refine Safe.skip ?_ | with_reducible refine thenQ.n ?_ | with_reducible refine blockQ.n ?_)
                refine Safe.region ?_
                refine SafeOps.quiet0 E_good rfl rfl rfl (v := V.agg [V.int .i64 x_15463.Kind, V.int .i64 x_15463.A, V.int .i64 x_15463.B]) (.load rfl rfl (.box rfl rfl) rfl) ?_
                refine SafeOps.quiet0 E_good rfl rfl rfl (v := V.agg [V.int .i64 0, V.int .i64 0, V.int .i64 0]) (.fn rfl) ?_
                refine SafeOps.quiet0 E_good rfl rfl rfl (v := V.bool (!(api_Effect.beq x_15463 api_Effect.zero))) (.neA rfl rfl rfl rfl okT33 rfl) ?_
                refine SafeOps.nil ?_
                repeat (first | refine Safe.seq ?_ | refine Safe.skip ?_ | with_reducible refine thenQ.n ?_ | with_reducible refine blockQ.n ?_)
                refine ifG h (fun hc15474 h => ?_) (fun hc15474 h => ?_)
                · skip
                  refine Safe.condK rfl hc15474 ?_
                  repeat (first | refine Safe.seq ?_ | refine Safe.skip ?_ | with_reducible refine thenQ.n ?_ | with_reducible refine blockQ.n ?_)
                  refine Safe.region ?_
                  refine SafeOps.quiet0 E_good rfl rfl rfl (v := V.bool false) (.fn rfl) ?_
                  refine SafeOps.nil ?_
                  repeat (first | refine Safe.seq ?_ | refine Safe.skip ?_ | with_reducible refine thenQ.n ?_ | with_reducible refine blockQ.n ?_)
                  refine Safe.ret ?_
                  repeat (first | with_reducible refine thenQ.r ?_ | with_reducible refine blockQ.r ?_)
                  replace h := inr_out h hr15456
                  obtain rfl := Option.some.inj h
                  exact retQ.gen (vs := [V.bool false]) rfl (.tmp (v := V.bool false) rfl .nil) (.free rfl) (by simp) (.inr rfl)
                · skip
                  refine Safe.condN rfl hc15474 ?_
                  repeat (first | refine Safe.seq ?_ | refine Safe.skip ?_ | with_reducible refine thenQ.n ?_ | with_reducible refine blockQ.n ?_)
                  refine Safe.region ?_
                  refine SafeOps.quiet0 E_good rfl rfl rfl (v := V.int .i64 v11_15443) (.fn rfl) ?_
                  refine SafeOps.quiet0 E_good rfl rfl rfl (v := V.int .i64 (IntKind.i64.wrap (v11_15443 + 1))) (.fn rfl) ?_
                  refine SafeOps.quiet0 E_good rfl rfl rfl (v := V.int .i64 (IntKind.i64.wrap (v11_15443 + 1))) (.fn rfl) ?_
                  refine SafeOps.nil ?_
                  repeat (first | refine Safe.seq ?_ | refine Safe.skip ?_ | with_reducible refine thenQ.n ?_ | with_reducible refine blockQ.n ?_)
                  refine Safe.region ?_
                  refine SafeOps.quiet0 E_good rfl rfl rfl (v := V.int .i64 (IntKind.i64.wrap (v11_15443 + 1))) (.fn rfl) ?_
                  refine SafeOps.quiet0 E_good rfl rfl rfl (v := V.ptr [18] 0 1) (.fn rfl) ?_
                  refine SafeOps.quiet0 E_good rfl rfl rfl (v := V.int .i64 ((gt a1_15062 v10_15442).A)) (.load rfl rfl (.box rfl rfl) rfl) ?_
                  refine SafeOps.quiet0 E_good rfl rfl rfl (v := V.bool ((IntKind.i64.wrap (v11_15443 + 1)) == ((gt a1_15062 v10_15442).A))) (.fn rfl) ?_
                  refine SafeOps.nil ?_
                  repeat (first | refine Safe.seq ?_ | refine Safe.skip ?_ | with_reducible refine thenQ.n ?_ | with_reducible refine blockQ.n ?_)
                  refine ifG h (fun hc15475 h => ?_) (fun hc15475 h => ?_)
                  · skip
                    refine Safe.condK rfl hc15475 ?_
                    repeat (first | refine Safe.seq ?_ | refine Safe.skip ?_ | with_reducible refine thenQ.n ?_ | with_reducible refine blockQ.n ?_)
                    refine Safe.region ?_
                    refine SafeOps.quiet0 E_good rfl rfl rfl (v := V.int .i64 0) (.fn rfl) ?_
                    refine SafeOps.nil ?_
                    repeat (first | refine Safe.seq ?_ | refine Safe.skip ?_ | with_reducible refine thenQ.n ?_ | with_reducible refine blockQ.n ?_)
                    refine Safe.region ?_
                    refine SafeOps.quiet0 E_good rfl rfl rfl (v := V.int .i64 v10_15442) (.fn rfl) ?_
                    refine SafeOps.quiet0 E_good rfl rfl rfl (v := V.int .i64 (IntKind.i64.wrap (v10_15442 + 1))) (.fn rfl) ?_
                    refine SafeOps.quiet0 E_good rfl rfl rfl (v := V.int .i64 (IntKind.i64.wrap (v10_15442 + 1))) (.fn rfl) ?_
                    refine SafeOps.nil ?_
                    repeat (first | refine Safe.seq ?_ | refine Safe.skip ?_ | with_reducible refine thenQ.n ?_ | with_reducible refine blockQ.n ?_)
                    refine Safe.region ?_
                    refine SafeOps.quiet0 E_good rfl rfl rfl (v := V.agg [V.int .i64 x_15462.Id, V.int .i64 x_15462.Tenant, V.int .i64 x_15462.Prog, V.int .i64 x_15462.Pc, V.int .i64 x_15462.Unit, V.int .i64 x_15462.Keeps.a0, V.int .i64 x_15462.Keeps.a1, V.int .i64 x_15462.Keeps.a2, V.int .i64 x_15462.Keeps.a3, V.int .i64 x_15462.State, V.int .i64 x_15462.Ran]) (.load rfl rfl (.box rfl rfl) rfl) ?_
                    refine SafeOps.store (z := Obj.box [V.int .i64 x_15462.Id, V.int .i64 x_15462.Tenant, V.int .i64 x_15462.Prog, V.int .i64 x_15462.Pc, V.int .i64 x_15462.Unit, V.int .i64 x_15462.Keeps.a0, V.int .i64 x_15462.Keeps.a1, V.int .i64 x_15462.Keeps.a2, V.int .i64 x_15462.Keeps.a3, V.int .i64 x_15462.State, V.int .i64 x_15462.Ran]) E_good rfl rfl rfl rfl rfl rfl rfl (.boxM (c := 11) rfl rfl (Nat.le_of_ble_eq_true rfl) rfl) ?_
                    refine SafeOps.nil ?_
                    repeat (first | refine Safe.seq ?_ | refine Safe.skip ?_ | with_reducible refine thenQ.n ?_ | with_reducible refine blockQ.n ?_)
                    refine Safe.region ?_
                    refine SafeOps.quiet0 E_good rfl rfl rfl (v := V.int .i64 (IntKind.i64.wrap (v59_15444 + 1))) (.fn rfl) ?_
                    refine SafeOps.quiet0 E_good rfl rfl rfl (v := V.int .i64 (IntKind.i64.wrap (v59_15444 + 1))) (.fn rfl) ?_
                    refine SafeOps.nil ?_
                    repeat (first | refine Safe.seq ?_ | refine Safe.skip ?_ | with_reducible refine thenQ.n ?_ | with_reducible refine blockQ.n ?_)
                    exact ⟨_, next_out h, (.cov ⟨rfl, rfl, (upT_cons (.refl _) (upT_cons (.refl _) (upT_cons (.refl _) (upT_cons (.refl _) (upT_cons (.refl _) (upT_cons (.refl _) (upT_cons (.refl _) (upT_cons (.refl _) (upT_cons (.refl _) upT_nil))))))))), (upOb_cons rfl (.refl _) upOb_nil), upOut_nil, rfl⟩)⟩
                  · skip
                    refine Safe.condN rfl hc15475 ?_
                    repeat (first | refine Safe.seq ?_ | refine Safe.skip ?_ | with_reducible refine thenQ.n ?_ | with_reducible refine blockQ.n ?_)
                    refine Safe.region ?_
                    refine SafeOps.quiet0 E_good rfl rfl rfl (v := V.agg [V.int .i64 x_15462.Id, V.int .i64 x_15462.Tenant, V.int .i64 x_15462.Prog, V.int .i64 x_15462.Pc, V.int .i64 x_15462.Unit, V.int .i64 x_15462.Keeps.a0, V.int .i64 x_15462.Keeps.a1, V.int .i64 x_15462.Keeps.a2, V.int .i64 x_15462.Keeps.a3, V.int .i64 x_15462.State, V.int .i64 x_15462.Ran]) (.load rfl rfl (.box rfl rfl) rfl) ?_
                    refine SafeOps.store (z := Obj.box [V.int .i64 x_15462.Id, V.int .i64 x_15462.Tenant, V.int .i64 x_15462.Prog, V.int .i64 x_15462.Pc, V.int .i64 x_15462.Unit, V.int .i64 x_15462.Keeps.a0, V.int .i64 x_15462.Keeps.a1, V.int .i64 x_15462.Keeps.a2, V.int .i64 x_15462.Keeps.a3, V.int .i64 x_15462.State, V.int .i64 x_15462.Ran]) E_good rfl rfl rfl rfl rfl rfl rfl (.boxM (c := 11) rfl rfl (Nat.le_of_ble_eq_true rfl) rfl) ?_
                    refine SafeOps.nil ?_
                    repeat (first | refine Safe.seq ?_ | refine Safe.skip ?_ | with_reducible refine thenQ.n ?_ | with_reducible refine blockQ.n ?_)
                    refine Safe.region ?_
                    refine SafeOps.quiet0 E_good rfl rfl rfl (v := V.int .i64 (IntKind.i64.wrap (v59_15444 + 1))) (.fn rfl) ?_
                    refine SafeOps.quiet0 E_good rfl rfl rfl (v := V.int .i64 (IntKind.i64.wrap (v59_15444 + 1))) (.fn rfl) ?_
                    refine SafeOps.nil ?_
                    repeat (first | refine Safe.seq ?_ | refine Safe.skip ?_ | with_reducible refine thenQ.n ?_ | with_reducible refine blockQ.n ?_)
                    exact ⟨_, next_out h, (.cov ⟨rfl, rfl, (upT_cons (.refl _) (upT_cons (.refl _) (upT_cons (.refl _) (upT_cons (.refl _) (upT_cons (.refl _) (upT_cons (.refl _) (upT_cons (.refl _) (upT_cons (.refl _) (upT_cons (.refl _) upT_nil))))))))), (upOb_cons rfl (.refl _) upOb_nil), upOut_nil, rfl⟩)⟩
              · skip
                refine Safe.condN rfl hc15473 ?_
                repeat (first | refine Safe.seq ?_ | refine Safe.skip ?_ | with_reducible refine thenQ.n ?_ | with_reducible refine blockQ.n ?_)
                refine Safe.region ?_
                refine SafeOps.quiet0 E_good rfl rfl rfl (v := V.agg [V.int .i64 x_15463.Kind, V.int .i64 x_15463.A, V.int .i64 x_15463.B]) (.load rfl rfl (.box rfl rfl) rfl) ?_
                refine SafeOps.quiet0 E_good rfl rfl rfl (v := V.ptr [18] 0 0) (.fn rfl) ?_
                refine SafeOps.quiet0 E_good rfl rfl rfl (v := V.int .i64 ((gt a1_15062 v10_15442).Op)) (.load rfl rfl (.box rfl rfl) rfl) ?_
                refine SafeOps.quiet0 E_good rfl rfl rfl (v := V.ptr [18] 0 1) (.fn rfl) ?_
                refine SafeOps.quiet0 E_good rfl rfl rfl (v := V.int .i64 ((gt a1_15062 v10_15442).A)) (.load rfl rfl (.box rfl rfl) rfl) ?_
                refine SafeOps.quiet0 E_good rfl rfl rfl (v := V.ptr [18] 0 2) (.fn rfl) ?_
                refine SafeOps.quiet0 E_good rfl rfl rfl (v := V.int .i64 ((gt a1_15062 v10_15442).B)) (.load rfl rfl (.box rfl rfl) rfl) ?_
                refine SafeOps.quiet0 E_good rfl rfl rfl (v := V.agg [V.int .i64 ((gt a1_15062 v10_15442).Op), V.int .i64 ((gt a1_15062 v10_15442).A), V.int .i64 ((gt a1_15062 v10_15442).B)]) (.fn rfl) ?_
                refine SafeOps.quiet0 E_good rfl rfl rfl (v := V.bool (!(api_Effect.beq x_15463 (api_Effect.mk ((gt a1_15062 v10_15442).Op) ((gt a1_15062 v10_15442).A) ((gt a1_15062 v10_15442).B))))) (.neA rfl rfl rfl rfl okT33 rfl) ?_
                refine SafeOps.quiet0 E_good rfl rfl rfl (v := V.bool (!(api_Effect.beq x_15463 (api_Effect.mk ((gt a1_15062 v10_15442).Op) ((gt a1_15062 v10_15442).A) ((gt a1_15062 v10_15442).B))))) (.fn rfl) ?_
                refine SafeOps.nil ?_
                repeat (first | refine Safe.seq ?_ | refine Safe.skip ?_ | with_reducible refine thenQ.n ?_ | with_reducible refine blockQ.n ?_)
                refine ifG h (fun hc15476 h => ?_) (fun hc15476 h => ?_)
                · skip
                  refine Safe.condK rfl hc15476 ?_
                  repeat (first | refine Safe.seq ?_ | refine Safe.skip ?_ | with_reducible refine thenQ.n ?_ | with_reducible refine blockQ.n ?_)
                  refine Safe.region ?_
                  refine SafeOps.quiet0 E_good rfl rfl rfl (v := V.bool false) (.fn rfl) ?_
                  refine SafeOps.nil ?_
                  repeat (first | refine Safe.seq ?_ | refine Safe.skip ?_ | with_reducible refine thenQ.n ?_ | with_reducible refine blockQ.n ?_)
                  refine Safe.ret ?_
                  repeat (first | with_reducible refine thenQ.r ?_ | with_reducible refine blockQ.r ?_)
                  replace h := inr_out h hr15456
                  obtain rfl := Option.some.inj h
                  exact retQ.gen (vs := [V.bool false]) rfl (.tmp (v := V.bool false) rfl .nil) (.free rfl) (by simp) (.inr rfl)
                · skip
                  refine Safe.condN rfl hc15476 ?_
                  repeat (first | refine Safe.seq ?_ | refine Safe.skip ?_ | with_reducible refine thenQ.n ?_ | with_reducible refine blockQ.n ?_)
                  refine Safe.region ?_
                  refine SafeOps.quiet0 E_good rfl rfl rfl (v := V.int .i64 v10_15442) (.fn rfl) ?_
                  refine SafeOps.quiet0 E_good rfl rfl rfl (v := V.int .i64 (IntKind.i64.wrap (v10_15442 + 1))) (.fn rfl) ?_
                  refine SafeOps.quiet0 E_good rfl rfl rfl (v := V.int .i64 (IntKind.i64.wrap (v10_15442 + 1))) (.fn rfl) ?_
                  refine SafeOps.nil ?_
                  repeat (first | refine Safe.seq ?_ | refine Safe.skip ?_ | with_reducible refine thenQ.n ?_ | with_reducible refine blockQ.n ?_)
                  refine Safe.region ?_
                  refine SafeOps.quiet0 E_good rfl rfl rfl (v := V.agg [V.int .i64 x_15462.Id, V.int .i64 x_15462.Tenant, V.int .i64 x_15462.Prog, V.int .i64 x_15462.Pc, V.int .i64 x_15462.Unit, V.int .i64 x_15462.Keeps.a0, V.int .i64 x_15462.Keeps.a1, V.int .i64 x_15462.Keeps.a2, V.int .i64 x_15462.Keeps.a3, V.int .i64 x_15462.State, V.int .i64 x_15462.Ran]) (.load rfl rfl (.box rfl rfl) rfl) ?_
                  refine SafeOps.store (z := Obj.box [V.int .i64 x_15462.Id, V.int .i64 x_15462.Tenant, V.int .i64 x_15462.Prog, V.int .i64 x_15462.Pc, V.int .i64 x_15462.Unit, V.int .i64 x_15462.Keeps.a0, V.int .i64 x_15462.Keeps.a1, V.int .i64 x_15462.Keeps.a2, V.int .i64 x_15462.Keeps.a3, V.int .i64 x_15462.State, V.int .i64 x_15462.Ran]) E_good rfl rfl rfl rfl rfl rfl rfl (.boxM (c := 11) rfl rfl (Nat.le_of_ble_eq_true rfl) rfl) ?_
                  refine SafeOps.nil ?_
                  repeat (first | refine Safe.seq ?_ | refine Safe.skip ?_ | with_reducible refine thenQ.n ?_ | with_reducible refine blockQ.n ?_)
                  refine Safe.region ?_
                  refine SafeOps.quiet0 E_good rfl rfl rfl (v := V.int .i64 (IntKind.i64.wrap (v59_15444 + 1))) (.fn rfl) ?_
                  refine SafeOps.quiet0 E_good rfl rfl rfl (v := V.int .i64 (IntKind.i64.wrap (v59_15444 + 1))) (.fn rfl) ?_
                  refine SafeOps.nil ?_
                  repeat (first | refine Safe.seq ?_ | refine Safe.skip ?_ | with_reducible refine thenQ.n ?_ | with_reducible refine blockQ.n ?_)
                  exact ⟨_, next_out h, (.cov ⟨rfl, rfl, (upT_cons (.refl _) (upT_cons (.refl _) (upT_cons (.refl _) (upT_cons (.refl _) (upT_cons (.refl _) (upT_cons (.refl _) (upT_cons (.refl _) (upT_cons (.refl _) (upT_cons (.refl _) upT_nil))))))))), (upOb_cons rfl (.refl _) upOb_nil), upOut_nil, rfl⟩)⟩
        · skip
          refine Safe.condN rfl hc15457 ?_
          repeat (first | refine Safe.seq ?_ | refine Safe.skip ?_ | with_reducible refine thenQ.n ?_ | with_reducible refine blockQ.n ?_)
          refine Safe.exit ?_
          repeat (first | with_reducible refine thenQ.e ?_ | with_reducible refine blockQ.x rfl ?_ | with_reducible refine blockQ.y rfl ?_)
          replace h := inr_out h hr15456
          repeat (first | refine Safe.seq ?_ | refine Safe.skip ?_ | with_reducible refine thenQ.n ?_ | with_reducible refine blockQ.n ?_)
          refine Safe.region ?_
          refine SafeOps.quiet0 E_good rfl rfl rfl (v := V.agg [V.int .i64 v60_15445, V.int .i64 v61_15446, V.int .i64 v62_15447, V.int .i64 v63_15448, V.int .i64 v64_15449, V.int .i64 v65_15450, V.int .i64 v66_15451, V.int .i64 v67_15452, V.int .i64 v68_15453, V.int .i64 v69_15454, V.int .i64 v610_15455]) (.load rfl rfl (.box rfl rfl) rfl) ?_
          refine SafeOps.quiet0 E_good rfl rfl rfl (v := V.sl 3 (rws api_Instr.cells a1_15062)) (.fn rfl) ?_
          refine bindG h ?_
          rintro ⟨x_15477, x_15478⟩ he15479 h
          refine SafeOps.quiet0 E_good rfl rfl rfl (v := V.tup [V.int .i64 x_15477, V.int .i64 x_15478]) (.callP rfl rfl (go_step_Left_sc (api_Task.mk v60_15445 v61_15446 v62_15447 v63_15448 v64_15449 (A4_Int.mk v65_15450 v66_15451 v67_15452 v68_15453) v69_15454 v610_15455) a1_15062 _ he15479) rfl) ?_
          refine SafeOps.quiet0 E_good rfl rfl rfl (v := V.tup [V.int .i64 x_15477, V.int .i64 x_15478]) (.fn rfl) ?_
          refine SafeOps.quiet0 E_good rfl rfl rfl (v := V.int .i64 x_15477) (.fn rfl) ?_
          refine SafeOps.quiet0 E_good rfl rfl rfl (v := V.int .i64 x_15478) (.fn rfl) ?_
          refine SafeOps.quiet0 E_good rfl rfl rfl (v := V.int .i64 x_15477) (.fn rfl) ?_
          refine SafeOps.quiet0 E_good rfl rfl rfl (v := V.int .i64 x_15478) (.fn rfl) ?_
          refine SafeOps.nil ?_
          repeat (first | refine Safe.seq ?_ | refine Safe.skip ?_ | with_reducible refine thenQ.n ?_ | with_reducible refine blockQ.n ?_)
          refine Safe.region ?_
          refine SafeOps.quiet0 E_good rfl rfl rfl (v := V.bool x_15274) (.fn rfl) ?_
          refine SafeOps.quiet0 E_good rfl rfl rfl (v := V.bool x_15274) (.fn rfl) ?_
          refine SafeOps.bjoin 3 155 (b := (x_15274 && (x_15478 == 0))) (b1 := (x_15478 == 0)) (b0 := false) (fun hc15480 K => ?_) (fun hc15480 K => ?_) bj_and ?_
          · skip
            refine SafeOps.quiet0 E_good (congrArg some hc15480) rfl rfl (v := V.int .i64 x_15478) (.fn rfl) ?_
            refine SafeOps.quiet0 E_good (congrArg some hc15480) rfl rfl (v := V.bool (x_15478 == 0)) (.fn rfl) ?_
            refine SafeOps.quiet0 E_good rfl rfl rfl (v := V.bool (x_15478 == 0)) (.pickK rfl hc15480 rfl) ?_
            exact SafeOps.drop' 3 rfl rfl rfl K
          · skip
            refine SafeOps.skip (congrArg some hc15480) rfl rfl ?_
            refine SafeOps.skip (congrArg some hc15480) rfl rfl ?_
            refine SafeOps.quiet0 E_good rfl rfl rfl (v := V.bool false) (.pickK rfl hc15480 rfl) ?_
            exact SafeOps.drop' 3 rfl rfl rfl K
          refine SafeOps.quiet0 E_good rfl rfl rfl (v := V.bool (x_15274 && (x_15478 == 0))) (.fn rfl) ?_
          refine SafeOps.bjoin 3 159 (b := ((x_15274 && (x_15478 == 0)) && (x_15477 == 0))) (b1 := (x_15477 == 0)) (b0 := false) (fun hc15481 K => ?_) (fun hc15481 K => ?_) bj_and ?_
          · skip
            refine SafeOps.quiet0 E_good (congrArg some hc15481) rfl rfl (v := V.int .i64 x_15477) (.fn rfl) ?_
            refine SafeOps.quiet0 E_good (congrArg some hc15481) rfl rfl (v := V.bool (x_15477 == 0)) (.fn rfl) ?_
            refine SafeOps.quiet0 E_good rfl rfl rfl (v := V.bool (x_15477 == 0)) (.pickK rfl hc15481 rfl) ?_
            exact SafeOps.drop' 3 rfl rfl rfl K
          · skip
            refine SafeOps.skip (congrArg some hc15481) rfl rfl ?_
            refine SafeOps.skip (congrArg some hc15481) rfl rfl ?_
            refine SafeOps.quiet0 E_good rfl rfl rfl (v := V.bool false) (.pickK rfl hc15481 rfl) ?_
            exact SafeOps.drop' 3 rfl rfl rfl K
          refine SafeOps.quiet0 E_good rfl rfl rfl (v := V.bool ((x_15274 && (x_15478 == 0)) && (x_15477 == 0))) (.fn rfl) ?_
          refine SafeOps.bjoin 5 165 (b := (((x_15274 && (x_15478 == 0)) && (x_15477 == 0)) && (v63_15448 == v10_15442))) (b1 := (v63_15448 == v10_15442)) (b0 := false) (fun hc15482 K => ?_) (fun hc15482 K => ?_) bj_and ?_
          · skip
            refine SafeOps.quiet0 E_good (congrArg some hc15482) rfl rfl (v := V.ptr [6] 0 3) (.fn rfl) ?_
            refine SafeOps.quiet0 E_good (congrArg some hc15482) rfl rfl (v := V.int .i64 v63_15448) (.load rfl rfl (.box rfl rfl) rfl) ?_
            refine SafeOps.quiet0 E_good (congrArg some hc15482) rfl rfl (v := V.int .i64 v10_15442) (.fn rfl) ?_
            refine SafeOps.quiet0 E_good (congrArg some hc15482) rfl rfl (v := V.bool (v63_15448 == v10_15442)) (.fn rfl) ?_
            refine SafeOps.quiet0 E_good rfl rfl rfl (v := V.bool (v63_15448 == v10_15442)) (.pickK rfl hc15482 rfl) ?_
            exact SafeOps.drop' 5 rfl rfl rfl K
          · skip
            refine SafeOps.skip (congrArg some hc15482) rfl rfl ?_
            refine SafeOps.skip (congrArg some hc15482) rfl rfl ?_
            refine SafeOps.skip (congrArg some hc15482) rfl rfl ?_
            refine SafeOps.skip (congrArg some hc15482) rfl rfl ?_
            refine SafeOps.quiet0 E_good rfl rfl rfl (v := V.bool false) (.pickK rfl hc15482 rfl) ?_
            exact SafeOps.drop' 5 rfl rfl rfl K
          refine SafeOps.quiet0 E_good rfl rfl rfl (v := V.bool (((x_15274 && (x_15478 == 0)) && (x_15477 == 0)) && (v63_15448 == v10_15442))) (.fn rfl) ?_
          refine SafeOps.bjoin 5 171 (b := ((((x_15274 && (x_15478 == 0)) && (x_15477 == 0)) && (v63_15448 == v10_15442)) && (v610_15455 == x_15282))) (b1 := (v610_15455 == x_15282)) (b0 := false) (fun hc15483 K => ?_) (fun hc15483 K => ?_) bj_and ?_
          · skip
            refine SafeOps.quiet0 E_good (congrArg some hc15483) rfl rfl (v := V.ptr [6] 0 10) (.fn rfl) ?_
            refine SafeOps.quiet0 E_good (congrArg some hc15483) rfl rfl (v := V.int .i64 v610_15455) (.load rfl rfl (.box rfl rfl) rfl) ?_
            refine SafeOps.quiet0 E_good (congrArg some hc15483) rfl rfl (v := V.int .i64 x_15282) (.fn rfl) ?_
            refine SafeOps.quiet0 E_good (congrArg some hc15483) rfl rfl (v := V.bool (v610_15455 == x_15282)) (.fn rfl) ?_
            refine SafeOps.quiet0 E_good rfl rfl rfl (v := V.bool (v610_15455 == x_15282)) (.pickK rfl hc15483 rfl) ?_
            exact SafeOps.drop' 5 rfl rfl rfl K
          · skip
            refine SafeOps.skip (congrArg some hc15483) rfl rfl ?_
            refine SafeOps.skip (congrArg some hc15483) rfl rfl ?_
            refine SafeOps.skip (congrArg some hc15483) rfl rfl ?_
            refine SafeOps.skip (congrArg some hc15483) rfl rfl ?_
            refine SafeOps.quiet0 E_good rfl rfl rfl (v := V.bool false) (.pickK rfl hc15483 rfl) ?_
            exact SafeOps.drop' 5 rfl rfl rfl K
          refine SafeOps.quiet0 E_good rfl rfl rfl (v := V.bool ((((x_15274 && (x_15478 == 0)) && (x_15477 == 0)) && (v63_15448 == v10_15442)) && (v610_15455 == x_15282))) (.fn rfl) ?_
          refine SafeOps.bjoin 5 177 (b := (((((x_15274 && (x_15478 == 0)) && (x_15477 == 0)) && (v63_15448 == v10_15442)) && (v610_15455 == x_15282)) && (v60_15445 == a0_15061))) (b1 := (v60_15445 == a0_15061)) (b0 := false) (fun hc15484 K => ?_) (fun hc15484 K => ?_) bj_and ?_
          · skip
            refine SafeOps.quiet0 E_good (congrArg some hc15484) rfl rfl (v := V.ptr [6] 0 0) (.fn rfl) ?_
            refine SafeOps.quiet0 E_good (congrArg some hc15484) rfl rfl (v := V.int .i64 v60_15445) (.load rfl rfl (.box rfl rfl) rfl) ?_
            refine SafeOps.quiet0 E_good (congrArg some hc15484) rfl rfl (v := V.int .i64 a0_15061) (.fn rfl) ?_
            refine SafeOps.quiet0 E_good (congrArg some hc15484) rfl rfl (v := V.bool (v60_15445 == a0_15061)) (.fn rfl) ?_
            refine SafeOps.quiet0 E_good rfl rfl rfl (v := V.bool (v60_15445 == a0_15061)) (.pickK rfl hc15484 rfl) ?_
            exact SafeOps.drop' 5 rfl rfl rfl K
          · skip
            refine SafeOps.skip (congrArg some hc15484) rfl rfl ?_
            refine SafeOps.skip (congrArg some hc15484) rfl rfl ?_
            refine SafeOps.skip (congrArg some hc15484) rfl rfl ?_
            refine SafeOps.skip (congrArg some hc15484) rfl rfl ?_
            refine SafeOps.quiet0 E_good rfl rfl rfl (v := V.bool false) (.pickK rfl hc15484 rfl) ?_
            exact SafeOps.drop' 5 rfl rfl rfl K
          refine SafeOps.quiet0 E_good rfl rfl rfl (v := V.bool (((((x_15274 && (x_15478 == 0)) && (x_15477 == 0)) && (v63_15448 == v10_15442)) && (v610_15455 == x_15282)) && (v60_15445 == a0_15061))) (.fn rfl) ?_
          refine SafeOps.nil ?_
          repeat (first | refine Safe.seq ?_ | refine Safe.skip ?_ | with_reducible refine thenQ.n ?_ | with_reducible refine blockQ.n ?_)
          refine Safe.ret ?_
          repeat (first | with_reducible refine thenQ.r ?_ | with_reducible refine blockQ.r ?_)
          obtain rfl := Option.some.inj h
          exact retQ.gen (vs := [V.bool (((((x_15274 && (x_15478 == 0)) && (x_15477 == 0)) && (v63_15448 == v10_15442)) && (v610_15455 == x_15282)) && (v60_15445 == a0_15061))]) rfl (.tmp (v := V.bool (((((x_15274 && (x_15478 == 0)) && (x_15477 == 0)) && (v63_15448 == v10_15442)) && (v610_15455 == x_15282)) && (v60_15445 == a0_15061))) rfl .nil) (.free rfl) (by simp) (.inr rfl)

noncomputable def go_ravellaw13_StepEnds (a0_15485 : api_Task) (a1_15486 : List api_Instr) : Option Bool :=
  (go_ravellaw13_live).bind fun x_15531 =>
  if (!x_15531) = true then
    some false
  else
    if (decide ((a1_15486.length : Int) > 200)) = true then
      some x_15531
    else
      (go_step_Do a0_15485 a1_15486).bind fun (x_15535, x_15536, x_15537) =>
      (go_step_Next a0_15485 a1_15486).bind fun (x_15539, x_15540) =>
      if (x_15540 != 0) = true then
        some (x_15531 && (x_15537 == x_15540))
      else
        if (a0_15485.State != 2) = true then
          some ((x_15531 && (x_15537 == 9)) && (api_Task.beq x_15535 api_Task.zero))
        else
          if (a0_15485.Ran == 1099511627776) = true then
            some (x_15531 && (x_15537 == 4))
          else
            (go_step_Left a0_15485 a1_15486).bind fun (x_15553, x_15554) =>
            (go_step_Left x_15535 a1_15486).bind fun (x_15556, x_15557) =>
            if (((((x_15537 != 0) || (x_15554 != 0)) || (x_15557 != 0)) || (decide (x_15553 < 0))) || (x_15556 != (if 0 > (IntKind.i64.wrap (x_15553 - 1)) then 0 else IntKind.i64.wrap (x_15553 - 1)))) = true then
              some false
            else
              if (a0_15485.Pc == (a1_15486.length : Int)) = true then
                some (((x_15531 && (api_Effect.beq x_15536 (api_Effect.mk 9 0 0))) && (x_15535.Pc == a0_15485.Pc)) && (x_15553 == 0))
              else
                some ((((x_15531 && (decide (x_15535.Pc ≥ a0_15485.Pc))) && (decide (x_15535.Pc ≤ (IntKind.i64.wrap (a0_15485.Pc + 1))))) && (x_15535.State == a0_15485.State)) && (x_15535.Id == a0_15485.Id))

theorem go_ravellaw13_StepEnds_sc (a0_15485 : api_Task) (a1_15486 : List api_Instr) (r : Bool) (h : go_ravellaw13_StepEnds a0_15485 a1_15486 = some r) : SC Tryd.prog gl 7 [V.agg [V.int .i64 a0_15485.Id, V.int .i64 a0_15485.Tenant, V.int .i64 a0_15485.Prog, V.int .i64 a0_15485.Pc, V.int .i64 a0_15485.Unit, V.int .i64 a0_15485.Keeps.a0, V.int .i64 a0_15485.Keeps.a1, V.int .i64 a0_15485.Keeps.a2, V.int .i64 a0_15485.Keeps.a3, V.int .i64 a0_15485.State, V.int .i64 a0_15485.Ran], V.sl 3 (rws api_Instr.cells a1_15486)] (V.bool r) := by
  rw [go_ravellaw13_StepEnds] at h
  refine SC.of E_good Tryd.func7 rfl (fun _ _ => Tryd.call7 _ _) rfl ?_
  repeat (first | refine Safe.seq ?_ | refine Safe.skip ?_ | with_reducible refine thenQ.n ?_ | with_reducible refine blockQ.n ?_)
  refine Safe.region ?_
  refine SafeOps.quiet1 E_good rfl rfl rfl (.box rfl rfl) rfl ?_
  refine SafeOps.quiet0 E_good rfl rfl rfl (v := V.bool false) (.fn rfl) ?_
  refine SafeOps.nil ?_
  repeat (first | refine Safe.seq ?_ | refine Safe.skip ?_ | with_reducible refine thenQ.n ?_ | with_reducible refine blockQ.n ?_)
  refine Safe.region ?_
  refine bindG h ?_
  intro x_15531 he15532 h
  refine SafeOps.quiet0 E_good rfl rfl rfl (v := V.bool x_15531) (.callP rfl rfl (go_ravellaw13_live_sc  _ he15532) rfl) ?_
  refine SafeOps.quiet0 E_good rfl rfl rfl (v := V.bool x_15531) (.fn rfl) ?_
  refine SafeOps.nil ?_
  repeat (first | refine Safe.seq ?_ | refine Safe.skip ?_ | with_reducible refine thenQ.n ?_ | with_reducible refine blockQ.n ?_)
  refine Safe.region ?_
  refine SafeOps.quiet0 E_good rfl rfl rfl (v := V.bool x_15531) (.fn rfl) ?_
  refine SafeOps.quiet0 E_good rfl rfl rfl (v := V.bool (!x_15531)) (.fn rfl) ?_
  refine SafeOps.nil ?_
  repeat (first | refine Safe.seq ?_ | refine Safe.skip ?_ | with_reducible refine thenQ.n ?_ | with_reducible refine blockQ.n ?_)
  refine ifG h (fun hc15533 h => ?_) (fun hc15533 h => ?_)
  · skip
    refine Safe.condK rfl hc15533 ?_
    repeat (first | refine Safe.seq ?_ | refine Safe.skip ?_ | with_reducible refine thenQ.n ?_ | with_reducible refine blockQ.n ?_)
    refine Safe.region ?_
    refine SafeOps.quiet0 E_good rfl rfl rfl (v := V.bool false) (.fn rfl) ?_
    refine SafeOps.nil ?_
    repeat (first | refine Safe.seq ?_ | refine Safe.skip ?_ | with_reducible refine thenQ.n ?_ | with_reducible refine blockQ.n ?_)
    refine Safe.ret ?_
    repeat (first | with_reducible refine thenQ.r ?_ | with_reducible refine blockQ.r ?_)
    obtain rfl := Option.some.inj h
    exact retQ.gen (vs := [V.bool false]) rfl (.tmp (v := V.bool false) rfl .nil) (.free rfl) (by simp) (.inr rfl)
  · skip
    refine Safe.condN rfl hc15533 ?_
    repeat (first | refine Safe.seq ?_ | refine Safe.skip ?_ | with_reducible refine thenQ.n ?_ | with_reducible refine blockQ.n ?_)
    refine Safe.region ?_
    refine SafeOps.quiet0 E_good rfl rfl rfl (v := V.sl 3 (rws api_Instr.cells a1_15486)) (.fn rfl) ?_
    refine SafeOps.quiet0 E_good rfl rfl rfl (v := V.int .i64 (a1_15486.length : Int)) (.fnE rfl lenE) ?_
    refine SafeOps.quiet0 E_good rfl rfl rfl (v := V.bool (decide ((a1_15486.length : Int) > 200))) (.fn rfl) ?_
    refine SafeOps.nil ?_
    repeat (first | refine Safe.seq ?_ | refine Safe.skip ?_ | with_reducible refine thenQ.n ?_ | with_reducible refine blockQ.n ?_)
    refine ifG h (fun hc15534 h => ?_) (fun hc15534 h => ?_)
    · skip
      refine Safe.condK rfl hc15534 ?_
      repeat (first | refine Safe.seq ?_ | refine Safe.skip ?_ | with_reducible refine thenQ.n ?_ | with_reducible refine blockQ.n ?_)
      refine Safe.region ?_
      refine SafeOps.quiet0 E_good rfl rfl rfl (v := V.bool x_15531) (.fn rfl) ?_
      refine SafeOps.quiet0 E_good rfl rfl rfl (v := V.bool x_15531) (.fn rfl) ?_
      refine SafeOps.nil ?_
      repeat (first | refine Safe.seq ?_ | refine Safe.skip ?_ | with_reducible refine thenQ.n ?_ | with_reducible refine blockQ.n ?_)
      refine Safe.ret ?_
      repeat (first | with_reducible refine thenQ.r ?_ | with_reducible refine blockQ.r ?_)
      obtain rfl := Option.some.inj h
      exact retQ.gen (vs := [V.bool x_15531]) rfl (.tmp (v := V.bool x_15531) rfl .nil) (.free rfl) (by simp) (.inr rfl)
    · skip
      refine Safe.condN rfl hc15534 ?_
      repeat (first | refine Safe.seq ?_ | refine Safe.skip ?_ | with_reducible refine thenQ.n ?_ | with_reducible refine blockQ.n ?_)
      refine Safe.region ?_
      refine SafeOps.quiet0 E_good rfl rfl rfl (v := V.agg [V.int .i64 a0_15485.Id, V.int .i64 a0_15485.Tenant, V.int .i64 a0_15485.Prog, V.int .i64 a0_15485.Pc, V.int .i64 a0_15485.Unit, V.int .i64 a0_15485.Keeps.a0, V.int .i64 a0_15485.Keeps.a1, V.int .i64 a0_15485.Keeps.a2, V.int .i64 a0_15485.Keeps.a3, V.int .i64 a0_15485.State, V.int .i64 a0_15485.Ran]) (.load rfl rfl (.box rfl rfl) rfl) ?_
      refine SafeOps.quiet0 E_good rfl rfl rfl (v := V.sl 3 (rws api_Instr.cells a1_15486)) (.fn rfl) ?_
      refine bindG h ?_
      rintro ⟨x_15535, x_15536, x_15537⟩ he15538 h
      refine SafeOps.quiet0 E_good rfl rfl rfl (v := V.tup [V.agg [V.int .i64 x_15535.Id, V.int .i64 x_15535.Tenant, V.int .i64 x_15535.Prog, V.int .i64 x_15535.Pc, V.int .i64 x_15535.Unit, V.int .i64 x_15535.Keeps.a0, V.int .i64 x_15535.Keeps.a1, V.int .i64 x_15535.Keeps.a2, V.int .i64 x_15535.Keeps.a3, V.int .i64 x_15535.State, V.int .i64 x_15535.Ran], V.agg [V.int .i64 x_15536.Kind, V.int .i64 x_15536.A, V.int .i64 x_15536.B], V.int .i64 x_15537]) (.callP rfl rfl (go_step_Do_sc a0_15485 a1_15486 _ he15538) rfl) ?_
      refine SafeOps.quiet0 E_good rfl rfl rfl (v := V.tup [V.agg [V.int .i64 x_15535.Id, V.int .i64 x_15535.Tenant, V.int .i64 x_15535.Prog, V.int .i64 x_15535.Pc, V.int .i64 x_15535.Unit, V.int .i64 x_15535.Keeps.a0, V.int .i64 x_15535.Keeps.a1, V.int .i64 x_15535.Keeps.a2, V.int .i64 x_15535.Keeps.a3, V.int .i64 x_15535.State, V.int .i64 x_15535.Ran], V.agg [V.int .i64 x_15536.Kind, V.int .i64 x_15536.A, V.int .i64 x_15536.B], V.int .i64 x_15537]) (.fn rfl) ?_
      refine SafeOps.quiet0 E_good rfl rfl rfl (v := V.agg [V.int .i64 x_15535.Id, V.int .i64 x_15535.Tenant, V.int .i64 x_15535.Prog, V.int .i64 x_15535.Pc, V.int .i64 x_15535.Unit, V.int .i64 x_15535.Keeps.a0, V.int .i64 x_15535.Keeps.a1, V.int .i64 x_15535.Keeps.a2, V.int .i64 x_15535.Keeps.a3, V.int .i64 x_15535.State, V.int .i64 x_15535.Ran]) (.fn rfl) ?_
      refine SafeOps.quiet0 E_good rfl rfl rfl (v := V.agg [V.int .i64 x_15536.Kind, V.int .i64 x_15536.A, V.int .i64 x_15536.B]) (.fn rfl) ?_
      refine SafeOps.quiet0 E_good rfl rfl rfl (v := V.int .i64 x_15537) (.fn rfl) ?_
      refine SafeOps.quiet1 E_good rfl rfl rfl (.alloc rfl rfl) rfl ?_
      refine SafeOps.quiet1 E_good rfl rfl rfl (.alloc rfl rfl) rfl ?_
      refine SafeOps.store (z := Obj.box [V.int .i64 x_15535.Id, V.int .i64 x_15535.Tenant, V.int .i64 x_15535.Prog, V.int .i64 x_15535.Pc, V.int .i64 x_15535.Unit, V.int .i64 x_15535.Keeps.a0, V.int .i64 x_15535.Keeps.a1, V.int .i64 x_15535.Keeps.a2, V.int .i64 x_15535.Keeps.a3, V.int .i64 x_15535.State, V.int .i64 x_15535.Ran]) E_good rfl rfl rfl rfl rfl rfl rfl (.boxM (c := 11) rfl rfl (Nat.le_of_ble_eq_true rfl) rfl) ?_
      refine SafeOps.store (z := Obj.box [V.int .i64 x_15536.Kind, V.int .i64 x_15536.A, V.int .i64 x_15536.B]) E_good rfl rfl rfl rfl rfl rfl rfl (.boxM (c := 3) rfl rfl (Nat.le_of_ble_eq_true rfl) rfl) ?_
      refine SafeOps.quiet0 E_good rfl rfl rfl (v := V.int .i64 x_15537) (.fn rfl) ?_
      refine SafeOps.nil ?_
      repeat (first | refine Safe.seq ?_ | refine Safe.skip ?_ | with_reducible refine thenQ.n ?_ | with_reducible refine blockQ.n ?_)
      refine Safe.region ?_
      refine SafeOps.quiet0 E_good rfl rfl rfl (v := V.agg [V.int .i64 a0_15485.Id, V.int .i64 a0_15485.Tenant, V.int .i64 a0_15485.Prog, V.int .i64 a0_15485.Pc, V.int .i64 a0_15485.Unit, V.int .i64 a0_15485.Keeps.a0, V.int .i64 a0_15485.Keeps.a1, V.int .i64 a0_15485.Keeps.a2, V.int .i64 a0_15485.Keeps.a3, V.int .i64 a0_15485.State, V.int .i64 a0_15485.Ran]) (.load rfl rfl (.box rfl rfl) rfl) ?_
      refine SafeOps.quiet0 E_good rfl rfl rfl (v := V.sl 3 (rws api_Instr.cells a1_15486)) (.fn rfl) ?_
      refine bindG h ?_
      rintro ⟨x_15539, x_15540⟩ he15541 h
      refine SafeOps.quiet0 E_good rfl rfl rfl (v := V.tup [V.agg [V.int .i64 x_15539.Op, V.int .i64 x_15539.A, V.int .i64 x_15539.B], V.int .i64 x_15540]) (.callP rfl rfl (go_step_Next_sc a0_15485 a1_15486 _ he15541) rfl) ?_
      refine SafeOps.quiet0 E_good rfl rfl rfl (v := V.tup [V.agg [V.int .i64 x_15539.Op, V.int .i64 x_15539.A, V.int .i64 x_15539.B], V.int .i64 x_15540]) (.fn rfl) ?_
      refine SafeOps.quiet0 E_good rfl rfl rfl (v := V.agg [V.int .i64 x_15539.Op, V.int .i64 x_15539.A, V.int .i64 x_15539.B]) (.fn rfl) ?_
      refine SafeOps.quiet0 E_good rfl rfl rfl (v := V.int .i64 x_15540) (.fn rfl) ?_
      refine SafeOps.quiet1 E_good rfl rfl rfl (.alloc rfl rfl) rfl ?_
      refine SafeOps.store (z := Obj.box [V.int .i64 x_15539.Op, V.int .i64 x_15539.A, V.int .i64 x_15539.B]) E_good rfl rfl rfl rfl rfl rfl rfl (.boxM (c := 3) rfl rfl (Nat.le_of_ble_eq_true rfl) rfl) ?_
      refine SafeOps.quiet0 E_good rfl rfl rfl (v := V.int .i64 x_15540) (.fn rfl) ?_
      refine SafeOps.nil ?_
      repeat (first | refine Safe.seq ?_ | refine Safe.skip ?_ | with_reducible refine thenQ.n ?_ | with_reducible refine blockQ.n ?_)
      refine Safe.region ?_
      refine SafeOps.quiet0 E_good rfl rfl rfl (v := V.int .i64 x_15540) (.fn rfl) ?_
      refine SafeOps.quiet0 E_good rfl rfl rfl (v := V.bool (x_15540 != 0)) (.fn rfl) ?_
      refine SafeOps.nil ?_
      repeat (first | refine Safe.seq ?_ | refine Safe.skip ?_ | with_reducible refine thenQ.n ?_ | with_reducible refine blockQ.n ?_)
      refine ifG h (fun hc15543 h => ?_) (fun hc15543 h => ?_)
      · skip
        refine Safe.condK rfl hc15543 ?_
        repeat (first | refine Safe.seq ?_ | refine Safe.skip ?_ | with_reducible refine thenQ.n ?_ | with_reducible refine blockQ.n ?_)
        refine Safe.region ?_
        refine SafeOps.quiet0 E_good rfl rfl rfl (v := V.bool x_15531) (.fn rfl) ?_
        refine SafeOps.quiet0 E_good rfl rfl rfl (v := V.bool x_15531) (.fn rfl) ?_
        refine SafeOps.bjoin 4 42 (b := (x_15531 && (x_15537 == x_15540))) (b1 := (x_15537 == x_15540)) (b0 := false) (fun hc15544 K => ?_) (fun hc15544 K => ?_) bj_and ?_
        · skip
          refine SafeOps.quiet0 E_good (congrArg some hc15544) rfl rfl (v := V.int .i64 x_15537) (.fn rfl) ?_
          refine SafeOps.quiet0 E_good (congrArg some hc15544) rfl rfl (v := V.int .i64 x_15540) (.fn rfl) ?_
          refine SafeOps.quiet0 E_good (congrArg some hc15544) rfl rfl (v := V.bool (x_15537 == x_15540)) (.fn rfl) ?_
          refine SafeOps.quiet0 E_good rfl rfl rfl (v := V.bool (x_15537 == x_15540)) (.pickK rfl hc15544 rfl) ?_
          exact SafeOps.drop' 4 rfl rfl rfl K
        · skip
          refine SafeOps.skip (congrArg some hc15544) rfl rfl ?_
          refine SafeOps.skip (congrArg some hc15544) rfl rfl ?_
          refine SafeOps.skip (congrArg some hc15544) rfl rfl ?_
          refine SafeOps.quiet0 E_good rfl rfl rfl (v := V.bool false) (.pickK rfl hc15544 rfl) ?_
          exact SafeOps.drop' 4 rfl rfl rfl K
        refine SafeOps.quiet0 E_good rfl rfl rfl (v := V.bool (x_15531 && (x_15537 == x_15540))) (.fn rfl) ?_
        refine SafeOps.nil ?_
        repeat (first | refine Safe.seq ?_ | refine Safe.skip ?_ | with_reducible refine thenQ.n ?_ | with_reducible refine blockQ.n ?_)
        refine Safe.ret ?_
        repeat (first | with_reducible refine thenQ.r ?_ | with_reducible refine blockQ.r ?_)
        obtain rfl := Option.some.inj h
        exact retQ.gen (vs := [V.bool (x_15531 && (x_15537 == x_15540))]) rfl (.tmp (v := V.bool (x_15531 && (x_15537 == x_15540))) rfl .nil) (.free rfl) (by simp) (.inr rfl)
      · skip
        refine Safe.condN rfl hc15543 ?_
        repeat (first | refine Safe.seq ?_ | refine Safe.skip ?_ | with_reducible refine thenQ.n ?_ | with_reducible refine blockQ.n ?_)
        refine Safe.region ?_
        refine SafeOps.quiet0 E_good rfl rfl rfl (v := V.ptr [2] 0 9) (.fn rfl) ?_
        refine SafeOps.quiet0 E_good rfl rfl rfl (v := V.int .i64 a0_15485.State) (.load rfl rfl (.box rfl rfl) rfl) ?_
        refine SafeOps.quiet0 E_good rfl rfl rfl (v := V.bool (a0_15485.State != 2)) (.fn rfl) ?_
        refine SafeOps.nil ?_
        repeat (first | refine Safe.seq ?_ | refine Safe.skip ?_ | with_reducible refine thenQ.n ?_ | with_reducible refine blockQ.n ?_)
        refine ifG h (fun hc15547 h => ?_) (fun hc15547 h => ?_)
        · skip
          refine Safe.condK rfl hc15547 ?_
          repeat (first | refine Safe.seq ?_ | refine Safe.skip ?_ | with_reducible refine thenQ.n ?_ | with_reducible refine blockQ.n ?_)
          refine Safe.region ?_
          refine SafeOps.quiet0 E_good rfl rfl rfl (v := V.bool x_15531) (.fn rfl) ?_
          refine SafeOps.quiet0 E_good rfl rfl rfl (v := V.bool x_15531) (.fn rfl) ?_
          refine SafeOps.bjoin 3 50 (b := (x_15531 && (x_15537 == 9))) (b1 := (x_15537 == 9)) (b0 := false) (fun hc15548 K => ?_) (fun hc15548 K => ?_) bj_and ?_
          · skip
            refine SafeOps.quiet0 E_good (congrArg some hc15548) rfl rfl (v := V.int .i64 x_15537) (.fn rfl) ?_
            refine SafeOps.quiet0 E_good (congrArg some hc15548) rfl rfl (v := V.bool (x_15537 == 9)) (.fn rfl) ?_
            refine SafeOps.quiet0 E_good rfl rfl rfl (v := V.bool (x_15537 == 9)) (.pickK rfl hc15548 rfl) ?_
            exact SafeOps.drop' 3 rfl rfl rfl K
          · skip
            refine SafeOps.skip (congrArg some hc15548) rfl rfl ?_
            refine SafeOps.skip (congrArg some hc15548) rfl rfl ?_
            refine SafeOps.quiet0 E_good rfl rfl rfl (v := V.bool false) (.pickK rfl hc15548 rfl) ?_
            exact SafeOps.drop' 3 rfl rfl rfl K
          refine SafeOps.quiet0 E_good rfl rfl rfl (v := V.bool (x_15531 && (x_15537 == 9))) (.fn rfl) ?_
          refine SafeOps.bjoin 4 55 (b := ((x_15531 && (x_15537 == 9)) && (api_Task.beq x_15535 api_Task.zero))) (b1 := api_Task.beq x_15535 api_Task.zero) (b0 := false) (fun hc15549 K => ?_) (fun hc15549 K => ?_) bj_and ?_
          · skip
            refine SafeOps.quiet0 E_good (congrArg some hc15549) rfl rfl (v := V.agg [V.int .i64 x_15535.Id, V.int .i64 x_15535.Tenant, V.int .i64 x_15535.Prog, V.int .i64 x_15535.Pc, V.int .i64 x_15535.Unit, V.int .i64 x_15535.Keeps.a0, V.int .i64 x_15535.Keeps.a1, V.int .i64 x_15535.Keeps.a2, V.int .i64 x_15535.Keeps.a3, V.int .i64 x_15535.State, V.int .i64 x_15535.Ran]) (.load rfl rfl (.box rfl rfl) rfl) ?_
            refine SafeOps.quiet0 E_good (congrArg some hc15549) rfl rfl (v := V.agg [V.int .i64 0, V.int .i64 0, V.int .i64 0, V.int .i64 0, V.int .i64 0, V.int .i64 0, V.int .i64 0, V.int .i64 0, V.int .i64 0, V.int .i64 0, V.int .i64 0]) (.fn rfl) ?_
            refine SafeOps.quiet0 E_good (congrArg some hc15549) rfl rfl (v := V.bool (api_Task.beq x_15535 api_Task.zero)) (.eqA rfl rfl rfl rfl okT29 rfl) ?_
            refine SafeOps.quiet0 E_good rfl rfl rfl (v := V.bool (api_Task.beq x_15535 api_Task.zero)) (.pickK rfl hc15549 rfl) ?_
            exact SafeOps.drop' 4 rfl rfl rfl K
          · skip
            refine SafeOps.skip (congrArg some hc15549) rfl rfl ?_
            refine SafeOps.skip (congrArg some hc15549) rfl rfl ?_
            refine SafeOps.skip (congrArg some hc15549) rfl rfl ?_
            refine SafeOps.quiet0 E_good rfl rfl rfl (v := V.bool false) (.pickK rfl hc15549 rfl) ?_
            exact SafeOps.drop' 4 rfl rfl rfl K
          refine SafeOps.quiet0 E_good rfl rfl rfl (v := V.bool ((x_15531 && (x_15537 == 9)) && (api_Task.beq x_15535 api_Task.zero))) (.fn rfl) ?_
          refine SafeOps.nil ?_
          repeat (first | refine Safe.seq ?_ | refine Safe.skip ?_ | with_reducible refine thenQ.n ?_ | with_reducible refine blockQ.n ?_)
          refine Safe.ret ?_
          repeat (first | with_reducible refine thenQ.r ?_ | with_reducible refine blockQ.r ?_)
          obtain rfl := Option.some.inj h
          exact retQ.gen (vs := [V.bool ((x_15531 && (x_15537 == 9)) && (api_Task.beq x_15535 api_Task.zero))]) rfl (.tmp (v := V.bool ((x_15531 && (x_15537 == 9)) && (api_Task.beq x_15535 api_Task.zero))) rfl .nil) (.free rfl) (by simp) (.inr rfl)
        · skip
          refine Safe.condN rfl hc15547 ?_
          repeat (first | refine Safe.seq ?_ | refine Safe.skip ?_ | with_reducible refine thenQ.n ?_ | with_reducible refine blockQ.n ?_)
          refine Safe.region ?_
          refine SafeOps.quiet0 E_good rfl rfl rfl (v := V.ptr [2] 0 10) (.fn rfl) ?_
          refine SafeOps.quiet0 E_good rfl rfl rfl (v := V.int .i64 a0_15485.Ran) (.load rfl rfl (.box rfl rfl) rfl) ?_
          refine SafeOps.quiet0 E_good rfl rfl rfl (v := V.bool (a0_15485.Ran == 1099511627776)) (.fn rfl) ?_
          refine SafeOps.nil ?_
          repeat (first | refine Safe.seq ?_ | refine Safe.skip ?_ | with_reducible refine thenQ.n ?_ | with_reducible refine blockQ.n ?_)
          refine ifG h (fun hc15551 h => ?_) (fun hc15551 h => ?_)
          · skip
            refine Safe.condK rfl hc15551 ?_
            repeat (first | refine Safe.seq ?_ | refine Safe.skip ?_ | with_reducible refine thenQ.n ?_ | with_reducible refine blockQ.n ?_)
            refine Safe.region ?_
            refine SafeOps.quiet0 E_good rfl rfl rfl (v := V.bool x_15531) (.fn rfl) ?_
            refine SafeOps.quiet0 E_good rfl rfl rfl (v := V.bool x_15531) (.fn rfl) ?_
            refine SafeOps.bjoin 3 63 (b := (x_15531 && (x_15537 == 4))) (b1 := (x_15537 == 4)) (b0 := false) (fun hc15552 K => ?_) (fun hc15552 K => ?_) bj_and ?_
            · skip
              refine SafeOps.quiet0 E_good (congrArg some hc15552) rfl rfl (v := V.int .i64 x_15537) (.fn rfl) ?_
              refine SafeOps.quiet0 E_good (congrArg some hc15552) rfl rfl (v := V.bool (x_15537 == 4)) (.fn rfl) ?_
              refine SafeOps.quiet0 E_good rfl rfl rfl (v := V.bool (x_15537 == 4)) (.pickK rfl hc15552 rfl) ?_
              exact SafeOps.drop' 3 rfl rfl rfl K
            · skip
              refine SafeOps.skip (congrArg some hc15552) rfl rfl ?_
              refine SafeOps.skip (congrArg some hc15552) rfl rfl ?_
              refine SafeOps.quiet0 E_good rfl rfl rfl (v := V.bool false) (.pickK rfl hc15552 rfl) ?_
              exact SafeOps.drop' 3 rfl rfl rfl K
            refine SafeOps.quiet0 E_good rfl rfl rfl (v := V.bool (x_15531 && (x_15537 == 4))) (.fn rfl) ?_
            refine SafeOps.nil ?_
            repeat (first | refine Safe.seq ?_ | refine Safe.skip ?_ | with_reducible refine thenQ.n ?_ | with_reducible refine blockQ.n ?_)
            refine Safe.ret ?_
            repeat (first | with_reducible refine thenQ.r ?_ | with_reducible refine blockQ.r ?_)
            obtain rfl := Option.some.inj h
            exact retQ.gen (vs := [V.bool (x_15531 && (x_15537 == 4))]) rfl (.tmp (v := V.bool (x_15531 && (x_15537 == 4))) rfl .nil) (.free rfl) (by simp) (.inr rfl)
          · skip
            refine Safe.condN rfl hc15551 ?_
            repeat (first | refine Safe.seq ?_ | refine Safe.skip ?_ | with_reducible refine thenQ.n ?_ | with_reducible refine blockQ.n ?_)
            refine Safe.region ?_
            refine SafeOps.quiet0 E_good rfl rfl rfl (v := V.agg [V.int .i64 a0_15485.Id, V.int .i64 a0_15485.Tenant, V.int .i64 a0_15485.Prog, V.int .i64 a0_15485.Pc, V.int .i64 a0_15485.Unit, V.int .i64 a0_15485.Keeps.a0, V.int .i64 a0_15485.Keeps.a1, V.int .i64 a0_15485.Keeps.a2, V.int .i64 a0_15485.Keeps.a3, V.int .i64 a0_15485.State, V.int .i64 a0_15485.Ran]) (.load rfl rfl (.box rfl rfl) rfl) ?_
            refine SafeOps.quiet0 E_good rfl rfl rfl (v := V.sl 3 (rws api_Instr.cells a1_15486)) (.fn rfl) ?_
            refine bindG h ?_
            rintro ⟨x_15553, x_15554⟩ he15555 h
            refine SafeOps.quiet0 E_good rfl rfl rfl (v := V.tup [V.int .i64 x_15553, V.int .i64 x_15554]) (.callP rfl rfl (go_step_Left_sc a0_15485 a1_15486 _ he15555) rfl) ?_
            refine SafeOps.quiet0 E_good rfl rfl rfl (v := V.tup [V.int .i64 x_15553, V.int .i64 x_15554]) (.fn rfl) ?_
            refine SafeOps.quiet0 E_good rfl rfl rfl (v := V.int .i64 x_15553) (.fn rfl) ?_
            refine SafeOps.quiet0 E_good rfl rfl rfl (v := V.int .i64 x_15554) (.fn rfl) ?_
            refine SafeOps.quiet0 E_good rfl rfl rfl (v := V.int .i64 x_15553) (.fn rfl) ?_
            refine SafeOps.quiet0 E_good rfl rfl rfl (v := V.int .i64 x_15554) (.fn rfl) ?_
            refine SafeOps.nil ?_
            repeat (first | refine Safe.seq ?_ | refine Safe.skip ?_ | with_reducible refine thenQ.n ?_ | with_reducible refine blockQ.n ?_)
            refine Safe.region ?_
            refine SafeOps.quiet0 E_good rfl rfl rfl (v := V.agg [V.int .i64 x_15535.Id, V.int .i64 x_15535.Tenant, V.int .i64 x_15535.Prog, V.int .i64 x_15535.Pc, V.int .i64 x_15535.Unit, V.int .i64 x_15535.Keeps.a0, V.int .i64 x_15535.Keeps.a1, V.int .i64 x_15535.Keeps.a2, V.int .i64 x_15535.Keeps.a3, V.int .i64 x_15535.State, V.int .i64 x_15535.Ran]) (.load rfl rfl (.box rfl rfl) rfl) ?_
            refine SafeOps.quiet0 E_good rfl rfl rfl (v := V.sl 3 (rws api_Instr.cells a1_15486)) (.fn rfl) ?_
            refine bindG h ?_
            rintro ⟨x_15556, x_15557⟩ he15558 h
            refine SafeOps.quiet0 E_good rfl rfl rfl (v := V.tup [V.int .i64 x_15556, V.int .i64 x_15557]) (.callP rfl rfl (go_step_Left_sc x_15535 a1_15486 _ he15558) rfl) ?_
            refine SafeOps.quiet0 E_good rfl rfl rfl (v := V.tup [V.int .i64 x_15556, V.int .i64 x_15557]) (.fn rfl) ?_
            refine SafeOps.quiet0 E_good rfl rfl rfl (v := V.int .i64 x_15556) (.fn rfl) ?_
            refine SafeOps.quiet0 E_good rfl rfl rfl (v := V.int .i64 x_15557) (.fn rfl) ?_
            refine SafeOps.quiet0 E_good rfl rfl rfl (v := V.int .i64 x_15556) (.fn rfl) ?_
            refine SafeOps.quiet0 E_good rfl rfl rfl (v := V.int .i64 x_15557) (.fn rfl) ?_
            refine SafeOps.nil ?_
            repeat (first | refine Safe.seq ?_ | refine Safe.skip ?_ | with_reducible refine thenQ.n ?_ | with_reducible refine blockQ.n ?_)
            refine Safe.region ?_
            refine SafeOps.quiet0 E_good rfl rfl rfl (v := V.int .i64 x_15537) (.fn rfl) ?_
            refine SafeOps.quiet0 E_good rfl rfl rfl (v := V.bool (x_15537 != 0)) (.fn rfl) ?_
            refine SafeOps.quiet0 E_good rfl rfl rfl (v := V.bool (x_15537 != 0)) (.fn rfl) ?_
            refine SafeOps.bjoin 3 81 (b := ((x_15537 != 0) || (x_15554 != 0))) (b1 := true) (b0 := (x_15554 != 0)) (fun hc15559 K => ?_) (fun hc15559 K => ?_) bj_or ?_
            · skip
              refine SafeOps.skip (congrArg (fun b => some (!b)) hc15559) rfl rfl ?_
              refine SafeOps.skip (congrArg (fun b => some (!b)) hc15559) rfl rfl ?_
              refine SafeOps.quiet0 E_good rfl rfl rfl (v := V.bool true) (.pickK rfl hc15559 rfl) ?_
              exact SafeOps.drop' 3 rfl rfl rfl K
            · skip
              refine SafeOps.quiet0 E_good (congrArg (fun b => some (!b)) hc15559) rfl rfl (v := V.int .i64 x_15554) (.fn rfl) ?_
              refine SafeOps.quiet0 E_good (congrArg (fun b => some (!b)) hc15559) rfl rfl (v := V.bool (x_15554 != 0)) (.fn rfl) ?_
              refine SafeOps.quiet0 E_good rfl rfl rfl (v := V.bool (x_15554 != 0)) (.pickK rfl hc15559 rfl) ?_
              exact SafeOps.drop' 3 rfl rfl rfl K
            refine SafeOps.quiet0 E_good rfl rfl rfl (v := V.bool ((x_15537 != 0) || (x_15554 != 0))) (.fn rfl) ?_
            refine SafeOps.bjoin 3 85 (b := (((x_15537 != 0) || (x_15554 != 0)) || (x_15557 != 0))) (b1 := true) (b0 := (x_15557 != 0)) (fun hc15560 K => ?_) (fun hc15560 K => ?_) bj_or ?_
            · skip
              refine SafeOps.skip (congrArg (fun b => some (!b)) hc15560) rfl rfl ?_
              refine SafeOps.skip (congrArg (fun b => some (!b)) hc15560) rfl rfl ?_
              refine SafeOps.quiet0 E_good rfl rfl rfl (v := V.bool true) (.pickK rfl hc15560 rfl) ?_
              exact SafeOps.drop' 3 rfl rfl rfl K
            · skip
              refine SafeOps.quiet0 E_good (congrArg (fun b => some (!b)) hc15560) rfl rfl (v := V.int .i64 x_15557) (.fn rfl) ?_
              refine SafeOps.quiet0 E_good (congrArg (fun b => some (!b)) hc15560) rfl rfl (v := V.bool (x_15557 != 0)) (.fn rfl) ?_
              refine SafeOps.quiet0 E_good rfl rfl rfl (v := V.bool (x_15557 != 0)) (.pickK rfl hc15560 rfl) ?_
              exact SafeOps.drop' 3 rfl rfl rfl K
            refine SafeOps.quiet0 E_good rfl rfl rfl (v := V.bool (((x_15537 != 0) || (x_15554 != 0)) || (x_15557 != 0))) (.fn rfl) ?_
            refine SafeOps.bjoin 3 89 (b := ((((x_15537 != 0) || (x_15554 != 0)) || (x_15557 != 0)) || (decide (x_15553 < 0)))) (b1 := true) (b0 := decide (x_15553 < 0)) (fun hc15561 K => ?_) (fun hc15561 K => ?_) bj_or ?_
            · skip
              refine SafeOps.skip (congrArg (fun b => some (!b)) hc15561) rfl rfl ?_
              refine SafeOps.skip (congrArg (fun b => some (!b)) hc15561) rfl rfl ?_
              refine SafeOps.quiet0 E_good rfl rfl rfl (v := V.bool true) (.pickK rfl hc15561 rfl) ?_
              exact SafeOps.drop' 3 rfl rfl rfl K
            · skip
              refine SafeOps.quiet0 E_good (congrArg (fun b => some (!b)) hc15561) rfl rfl (v := V.int .i64 x_15553) (.fn rfl) ?_
              refine SafeOps.quiet0 E_good (congrArg (fun b => some (!b)) hc15561) rfl rfl (v := V.bool (decide (x_15553 < 0))) (.fn rfl) ?_
              refine SafeOps.quiet0 E_good rfl rfl rfl (v := V.bool (decide (x_15553 < 0))) (.pickK rfl hc15561 rfl) ?_
              exact SafeOps.drop' 3 rfl rfl rfl K
            refine SafeOps.quiet0 E_good rfl rfl rfl (v := V.bool ((((x_15537 != 0) || (x_15554 != 0)) || (x_15557 != 0)) || (decide (x_15553 < 0)))) (.fn rfl) ?_
            refine SafeOps.bjoin 6 96 (b := (((((x_15537 != 0) || (x_15554 != 0)) || (x_15557 != 0)) || (decide (x_15553 < 0))) || (x_15556 != (if 0 > (IntKind.i64.wrap (x_15553 - 1)) then 0 else IntKind.i64.wrap (x_15553 - 1))))) (b1 := true) (b0 := (x_15556 != (if 0 > (IntKind.i64.wrap (x_15553 - 1)) then 0 else IntKind.i64.wrap (x_15553 - 1)))) (fun hc15562 K => ?_) (fun hc15562 K => ?_) bj_or ?_
            · skip
              refine SafeOps.skip (congrArg (fun b => some (!b)) hc15562) rfl rfl ?_
              refine SafeOps.skip (congrArg (fun b => some (!b)) hc15562) rfl rfl ?_
              refine SafeOps.skip (congrArg (fun b => some (!b)) hc15562) rfl rfl ?_
              refine SafeOps.skip (congrArg (fun b => some (!b)) hc15562) rfl rfl ?_
              refine SafeOps.skip (congrArg (fun b => some (!b)) hc15562) rfl rfl ?_
              refine SafeOps.quiet0 E_good rfl rfl rfl (v := V.bool true) (.pickK rfl hc15562 rfl) ?_
              exact SafeOps.drop' 6 rfl rfl rfl K
            · skip
              refine SafeOps.quiet0 E_good (congrArg (fun b => some (!b)) hc15562) rfl rfl (v := V.int .i64 x_15556) (.fn rfl) ?_
              refine SafeOps.quiet0 E_good (congrArg (fun b => some (!b)) hc15562) rfl rfl (v := V.int .i64 x_15553) (.fn rfl) ?_
              refine SafeOps.quiet0 E_good (congrArg (fun b => some (!b)) hc15562) rfl rfl (v := V.int .i64 (IntKind.i64.wrap (x_15553 - 1))) (.fn rfl) ?_
              refine SafeOps.quiet0 E_good (congrArg (fun b => some (!b)) hc15562) rfl rfl (v := V.int .i64 (if 0 > (IntKind.i64.wrap (x_15553 - 1)) then 0 else IntKind.i64.wrap (x_15553 - 1))) (.fn rfl) ?_
              refine SafeOps.quiet0 E_good (congrArg (fun b => some (!b)) hc15562) rfl rfl (v := V.bool (x_15556 != (if 0 > (IntKind.i64.wrap (x_15553 - 1)) then 0 else IntKind.i64.wrap (x_15553 - 1)))) (.fn rfl) ?_
              refine SafeOps.quiet0 E_good rfl rfl rfl (v := V.bool (x_15556 != (if 0 > (IntKind.i64.wrap (x_15553 - 1)) then 0 else IntKind.i64.wrap (x_15553 - 1)))) (.pickK rfl hc15562 rfl) ?_
              exact SafeOps.drop' 6 rfl rfl rfl K
            refine SafeOps.nil ?_
            repeat (first | refine Safe.seq ?_ | refine Safe.skip ?_ | with_reducible refine thenQ.n ?_ | with_reducible refine blockQ.n ?_)
            refine ifG h (fun hc15563 h => ?_) (fun hc15563 h => ?_)
            · skip
              refine Safe.condK rfl hc15563 ?_
              repeat (first | refine Safe.seq ?_ | refine Safe.skip ?_ | with_reducible refine thenQ.n ?_ | with_reducible refine blockQ.n ?_)
              refine Safe.region ?_
              refine SafeOps.quiet0 E_good rfl rfl rfl (v := V.bool false) (.fn rfl) ?_
              refine SafeOps.nil ?_
              repeat (first | refine Safe.seq ?_ | refine Safe.skip ?_ | with_reducible refine thenQ.n ?_ | with_reducible refine blockQ.n ?_)
              refine Safe.ret ?_
              repeat (first | with_reducible refine thenQ.r ?_ | with_reducible refine blockQ.r ?_)
              obtain rfl := Option.some.inj h
              exact retQ.gen (vs := [V.bool false]) rfl (.tmp (v := V.bool false) rfl .nil) (.free rfl) (by simp) (.inr rfl)
            · skip
              refine Safe.condN rfl hc15563 ?_
              repeat (first | refine Safe.seq ?_ | refine Safe.skip ?_ | with_reducible refine thenQ.n ?_ | with_reducible refine blockQ.n ?_)
              refine Safe.region ?_
              refine SafeOps.quiet0 E_good rfl rfl rfl (v := V.ptr [2] 0 3) (.fn rfl) ?_
              refine SafeOps.quiet0 E_good rfl rfl rfl (v := V.int .i64 a0_15485.Pc) (.load rfl rfl (.box rfl rfl) rfl) ?_
              refine SafeOps.quiet0 E_good rfl rfl rfl (v := V.sl 3 (rws api_Instr.cells a1_15486)) (.fn rfl) ?_
              refine SafeOps.quiet0 E_good rfl rfl rfl (v := V.int .i64 (a1_15486.length : Int)) (.fnE rfl lenE) ?_
              refine SafeOps.quiet0 E_good rfl rfl rfl (v := V.bool (a0_15485.Pc == (a1_15486.length : Int))) (.fn rfl) ?_
              refine SafeOps.nil ?_
              repeat (first | refine Safe.seq ?_ | refine Safe.skip ?_ | with_reducible refine thenQ.n ?_ | with_reducible refine blockQ.n ?_)
              refine ifG h (fun hc15567 h => ?_) (fun hc15567 h => ?_)
              · skip
                refine Safe.condK rfl hc15567 ?_
                repeat (first | refine Safe.seq ?_ | refine Safe.skip ?_ | with_reducible refine thenQ.n ?_ | with_reducible refine blockQ.n ?_)
                refine Safe.region ?_
                refine SafeOps.quiet0 E_good rfl rfl rfl (v := V.bool x_15531) (.fn rfl) ?_
                refine SafeOps.quiet0 E_good rfl rfl rfl (v := V.bool x_15531) (.fn rfl) ?_
                refine SafeOps.bjoin 4 107 (b := (x_15531 && (api_Effect.beq x_15536 (api_Effect.mk 9 0 0)))) (b1 := api_Effect.beq x_15536 (api_Effect.mk 9 0 0)) (b0 := false) (fun hc15568 K => ?_) (fun hc15568 K => ?_) bj_and ?_
                · skip
                  refine SafeOps.quiet0 E_good (congrArg some hc15568) rfl rfl (v := V.agg [V.int .i64 x_15536.Kind, V.int .i64 x_15536.A, V.int .i64 x_15536.B]) (.load rfl rfl (.box rfl rfl) rfl) ?_
                  refine SafeOps.quiet0 E_good (congrArg some hc15568) rfl rfl (v := V.agg [V.int .i64 9, V.int .i64 0, V.int .i64 0]) (.fn rfl) ?_
                  refine SafeOps.quiet0 E_good (congrArg some hc15568) rfl rfl (v := V.bool (api_Effect.beq x_15536 (api_Effect.mk 9 0 0))) (.eqA rfl rfl rfl rfl okT33 rfl) ?_
                  refine SafeOps.quiet0 E_good rfl rfl rfl (v := V.bool (api_Effect.beq x_15536 (api_Effect.mk 9 0 0))) (.pickK rfl hc15568 rfl) ?_
                  exact SafeOps.drop' 4 rfl rfl rfl K
                · skip
                  refine SafeOps.skip (congrArg some hc15568) rfl rfl ?_
                  refine SafeOps.skip (congrArg some hc15568) rfl rfl ?_
                  refine SafeOps.skip (congrArg some hc15568) rfl rfl ?_
                  refine SafeOps.quiet0 E_good rfl rfl rfl (v := V.bool false) (.pickK rfl hc15568 rfl) ?_
                  exact SafeOps.drop' 4 rfl rfl rfl K
                refine SafeOps.quiet0 E_good rfl rfl rfl (v := V.bool (x_15531 && (api_Effect.beq x_15536 (api_Effect.mk 9 0 0)))) (.fn rfl) ?_
                refine SafeOps.bjoin 6 114 (b := ((x_15531 && (api_Effect.beq x_15536 (api_Effect.mk 9 0 0))) && (x_15535.Pc == a0_15485.Pc))) (b1 := (x_15535.Pc == a0_15485.Pc)) (b0 := false) (fun hc15569 K => ?_) (fun hc15569 K => ?_) bj_and ?_
                · skip
                  refine SafeOps.quiet0 E_good (congrArg some hc15569) rfl rfl (v := V.ptr [6] 0 3) (.fn rfl) ?_
                  refine SafeOps.quiet0 E_good (congrArg some hc15569) rfl rfl (v := V.int .i64 x_15535.Pc) (.load rfl rfl (.box rfl rfl) rfl) ?_
                  refine SafeOps.quiet0 E_good (congrArg some hc15569) rfl rfl (v := V.ptr [2] 0 3) (.fn rfl) ?_
                  refine SafeOps.quiet0 E_good (congrArg some hc15569) rfl rfl (v := V.int .i64 a0_15485.Pc) (.load rfl rfl (.box rfl rfl) rfl) ?_
                  refine SafeOps.quiet0 E_good (congrArg some hc15569) rfl rfl (v := V.bool (x_15535.Pc == a0_15485.Pc)) (.fn rfl) ?_
                  refine SafeOps.quiet0 E_good rfl rfl rfl (v := V.bool (x_15535.Pc == a0_15485.Pc)) (.pickK rfl hc15569 rfl) ?_
                  exact SafeOps.drop' 6 rfl rfl rfl K
                · skip
                  refine SafeOps.skip (congrArg some hc15569) rfl rfl ?_
                  refine SafeOps.skip (congrArg some hc15569) rfl rfl ?_
                  refine SafeOps.skip (congrArg some hc15569) rfl rfl ?_
                  refine SafeOps.skip (congrArg some hc15569) rfl rfl ?_
                  refine SafeOps.skip (congrArg some hc15569) rfl rfl ?_
                  refine SafeOps.quiet0 E_good rfl rfl rfl (v := V.bool false) (.pickK rfl hc15569 rfl) ?_
                  exact SafeOps.drop' 6 rfl rfl rfl K
                refine SafeOps.quiet0 E_good rfl rfl rfl (v := V.bool ((x_15531 && (api_Effect.beq x_15536 (api_Effect.mk 9 0 0))) && (x_15535.Pc == a0_15485.Pc))) (.fn rfl) ?_
                refine SafeOps.bjoin 3 118 (b := (((x_15531 && (api_Effect.beq x_15536 (api_Effect.mk 9 0 0))) && (x_15535.Pc == a0_15485.Pc)) && (x_15553 == 0))) (b1 := (x_15553 == 0)) (b0 := false) (fun hc15570 K => ?_) (fun hc15570 K => ?_) bj_and ?_
                · skip
                  refine SafeOps.quiet0 E_good (congrArg some hc15570) rfl rfl (v := V.int .i64 x_15553) (.fn rfl) ?_
                  refine SafeOps.quiet0 E_good (congrArg some hc15570) rfl rfl (v := V.bool (x_15553 == 0)) (.fn rfl) ?_
                  refine SafeOps.quiet0 E_good rfl rfl rfl (v := V.bool (x_15553 == 0)) (.pickK rfl hc15570 rfl) ?_
                  exact SafeOps.drop' 3 rfl rfl rfl K
                · skip
                  refine SafeOps.skip (congrArg some hc15570) rfl rfl ?_
                  refine SafeOps.skip (congrArg some hc15570) rfl rfl ?_
                  refine SafeOps.quiet0 E_good rfl rfl rfl (v := V.bool false) (.pickK rfl hc15570 rfl) ?_
                  exact SafeOps.drop' 3 rfl rfl rfl K
                refine SafeOps.quiet0 E_good rfl rfl rfl (v := V.bool (((x_15531 && (api_Effect.beq x_15536 (api_Effect.mk 9 0 0))) && (x_15535.Pc == a0_15485.Pc)) && (x_15553 == 0))) (.fn rfl) ?_
                refine SafeOps.nil ?_
                repeat (first | refine Safe.seq ?_ | refine Safe.skip ?_ | with_reducible refine thenQ.n ?_ | with_reducible refine blockQ.n ?_)
                refine Safe.ret ?_
                repeat (first | with_reducible refine thenQ.r ?_ | with_reducible refine blockQ.r ?_)
                obtain rfl := Option.some.inj h
                exact retQ.gen (vs := [V.bool (((x_15531 && (api_Effect.beq x_15536 (api_Effect.mk 9 0 0))) && (x_15535.Pc == a0_15485.Pc)) && (x_15553 == 0))]) rfl (.tmp (v := V.bool (((x_15531 && (api_Effect.beq x_15536 (api_Effect.mk 9 0 0))) && (x_15535.Pc == a0_15485.Pc)) && (x_15553 == 0))) rfl .nil) (.free rfl) (by simp) (.inr rfl)
              · skip
                refine Safe.condN rfl hc15567 ?_
                repeat (first | refine Safe.seq ?_ | refine Safe.skip ?_ | with_reducible refine thenQ.n ?_ | with_reducible refine blockQ.n ?_)
                refine Safe.region ?_
                refine SafeOps.quiet0 E_good rfl rfl rfl (v := V.bool x_15531) (.fn rfl) ?_
                refine SafeOps.quiet0 E_good rfl rfl rfl (v := V.bool x_15531) (.fn rfl) ?_
                refine SafeOps.bjoin 6 126 (b := (x_15531 && (decide (x_15535.Pc ≥ a0_15485.Pc)))) (b1 := decide (x_15535.Pc ≥ a0_15485.Pc)) (b0 := false) (fun hc15571 K => ?_) (fun hc15571 K => ?_) bj_and ?_
                · skip
                  refine SafeOps.quiet0 E_good (congrArg some hc15571) rfl rfl (v := V.ptr [6] 0 3) (.fn rfl) ?_
                  refine SafeOps.quiet0 E_good (congrArg some hc15571) rfl rfl (v := V.int .i64 x_15535.Pc) (.load rfl rfl (.box rfl rfl) rfl) ?_
                  refine SafeOps.quiet0 E_good (congrArg some hc15571) rfl rfl (v := V.ptr [2] 0 3) (.fn rfl) ?_
                  refine SafeOps.quiet0 E_good (congrArg some hc15571) rfl rfl (v := V.int .i64 a0_15485.Pc) (.load rfl rfl (.box rfl rfl) rfl) ?_
                  refine SafeOps.quiet0 E_good (congrArg some hc15571) rfl rfl (v := V.bool (decide (x_15535.Pc ≥ a0_15485.Pc))) (.fn rfl) ?_
                  refine SafeOps.quiet0 E_good rfl rfl rfl (v := V.bool (decide (x_15535.Pc ≥ a0_15485.Pc))) (.pickK rfl hc15571 rfl) ?_
                  exact SafeOps.drop' 6 rfl rfl rfl K
                · skip
                  refine SafeOps.skip (congrArg some hc15571) rfl rfl ?_
                  refine SafeOps.skip (congrArg some hc15571) rfl rfl ?_
                  refine SafeOps.skip (congrArg some hc15571) rfl rfl ?_
                  refine SafeOps.skip (congrArg some hc15571) rfl rfl ?_
                  refine SafeOps.skip (congrArg some hc15571) rfl rfl ?_
                  refine SafeOps.quiet0 E_good rfl rfl rfl (v := V.bool false) (.pickK rfl hc15571 rfl) ?_
                  exact SafeOps.drop' 6 rfl rfl rfl K
                refine SafeOps.quiet0 E_good rfl rfl rfl (v := V.bool (x_15531 && (decide (x_15535.Pc ≥ a0_15485.Pc)))) (.fn rfl) ?_
                refine SafeOps.bjoin 7 134 (b := ((x_15531 && (decide (x_15535.Pc ≥ a0_15485.Pc))) && (decide (x_15535.Pc ≤ (IntKind.i64.wrap (a0_15485.Pc + 1)))))) (b1 := decide (x_15535.Pc ≤ (IntKind.i64.wrap (a0_15485.Pc + 1)))) (b0 := false) (fun hc15572 K => ?_) (fun hc15572 K => ?_) bj_and ?_
                · skip
                  refine SafeOps.quiet0 E_good (congrArg some hc15572) rfl rfl (v := V.ptr [6] 0 3) (.fn rfl) ?_
                  refine SafeOps.quiet0 E_good (congrArg some hc15572) rfl rfl (v := V.int .i64 x_15535.Pc) (.load rfl rfl (.box rfl rfl) rfl) ?_
                  refine SafeOps.quiet0 E_good (congrArg some hc15572) rfl rfl (v := V.ptr [2] 0 3) (.fn rfl) ?_
                  refine SafeOps.quiet0 E_good (congrArg some hc15572) rfl rfl (v := V.int .i64 a0_15485.Pc) (.load rfl rfl (.box rfl rfl) rfl) ?_
                  refine SafeOps.quiet0 E_good (congrArg some hc15572) rfl rfl (v := V.int .i64 (IntKind.i64.wrap (a0_15485.Pc + 1))) (.fn rfl) ?_
                  refine SafeOps.quiet0 E_good (congrArg some hc15572) rfl rfl (v := V.bool (decide (x_15535.Pc ≤ (IntKind.i64.wrap (a0_15485.Pc + 1))))) (.fn rfl) ?_
                  refine SafeOps.quiet0 E_good rfl rfl rfl (v := V.bool (decide (x_15535.Pc ≤ (IntKind.i64.wrap (a0_15485.Pc + 1))))) (.pickK rfl hc15572 rfl) ?_
                  exact SafeOps.drop' 7 rfl rfl rfl K
                · skip
                  refine SafeOps.skip (congrArg some hc15572) rfl rfl ?_
                  refine SafeOps.skip (congrArg some hc15572) rfl rfl ?_
                  refine SafeOps.skip (congrArg some hc15572) rfl rfl ?_
                  refine SafeOps.skip (congrArg some hc15572) rfl rfl ?_
                  refine SafeOps.skip (congrArg some hc15572) rfl rfl ?_
                  refine SafeOps.skip (congrArg some hc15572) rfl rfl ?_
                  refine SafeOps.quiet0 E_good rfl rfl rfl (v := V.bool false) (.pickK rfl hc15572 rfl) ?_
                  exact SafeOps.drop' 7 rfl rfl rfl K
                refine SafeOps.quiet0 E_good rfl rfl rfl (v := V.bool ((x_15531 && (decide (x_15535.Pc ≥ a0_15485.Pc))) && (decide (x_15535.Pc ≤ (IntKind.i64.wrap (a0_15485.Pc + 1)))))) (.fn rfl) ?_
                refine SafeOps.bjoin 6 141 (b := (((x_15531 && (decide (x_15535.Pc ≥ a0_15485.Pc))) && (decide (x_15535.Pc ≤ (IntKind.i64.wrap (a0_15485.Pc + 1))))) && (x_15535.State == a0_15485.State))) (b1 := (x_15535.State == a0_15485.State)) (b0 := false) (fun hc15573 K => ?_) (fun hc15573 K => ?_) bj_and ?_
                · skip
                  refine SafeOps.quiet0 E_good (congrArg some hc15573) rfl rfl (v := V.ptr [6] 0 9) (.fn rfl) ?_
                  refine SafeOps.quiet0 E_good (congrArg some hc15573) rfl rfl (v := V.int .i64 x_15535.State) (.load rfl rfl (.box rfl rfl) rfl) ?_
                  refine SafeOps.quiet0 E_good (congrArg some hc15573) rfl rfl (v := V.ptr [2] 0 9) (.fn rfl) ?_
                  refine SafeOps.quiet0 E_good (congrArg some hc15573) rfl rfl (v := V.int .i64 a0_15485.State) (.load rfl rfl (.box rfl rfl) rfl) ?_
                  refine SafeOps.quiet0 E_good (congrArg some hc15573) rfl rfl (v := V.bool (x_15535.State == a0_15485.State)) (.fn rfl) ?_
                  refine SafeOps.quiet0 E_good rfl rfl rfl (v := V.bool (x_15535.State == a0_15485.State)) (.pickK rfl hc15573 rfl) ?_
                  exact SafeOps.drop' 6 rfl rfl rfl K
                · skip
                  refine SafeOps.skip (congrArg some hc15573) rfl rfl ?_
                  refine SafeOps.skip (congrArg some hc15573) rfl rfl ?_
                  refine SafeOps.skip (congrArg some hc15573) rfl rfl ?_
                  refine SafeOps.skip (congrArg some hc15573) rfl rfl ?_
                  refine SafeOps.skip (congrArg some hc15573) rfl rfl ?_
                  refine SafeOps.quiet0 E_good rfl rfl rfl (v := V.bool false) (.pickK rfl hc15573 rfl) ?_
                  exact SafeOps.drop' 6 rfl rfl rfl K
                refine SafeOps.quiet0 E_good rfl rfl rfl (v := V.bool (((x_15531 && (decide (x_15535.Pc ≥ a0_15485.Pc))) && (decide (x_15535.Pc ≤ (IntKind.i64.wrap (a0_15485.Pc + 1))))) && (x_15535.State == a0_15485.State))) (.fn rfl) ?_
                refine SafeOps.bjoin 6 148 (b := ((((x_15531 && (decide (x_15535.Pc ≥ a0_15485.Pc))) && (decide (x_15535.Pc ≤ (IntKind.i64.wrap (a0_15485.Pc + 1))))) && (x_15535.State == a0_15485.State)) && (x_15535.Id == a0_15485.Id))) (b1 := (x_15535.Id == a0_15485.Id)) (b0 := false) (fun hc15574 K => ?_) (fun hc15574 K => ?_) bj_and ?_
                · skip
                  refine SafeOps.quiet0 E_good (congrArg some hc15574) rfl rfl (v := V.ptr [6] 0 0) (.fn rfl) ?_
                  refine SafeOps.quiet0 E_good (congrArg some hc15574) rfl rfl (v := V.int .i64 x_15535.Id) (.load rfl rfl (.box rfl rfl) rfl) ?_
                  refine SafeOps.quiet0 E_good (congrArg some hc15574) rfl rfl (v := V.ptr [2] 0 0) (.fn rfl) ?_
                  refine SafeOps.quiet0 E_good (congrArg some hc15574) rfl rfl (v := V.int .i64 a0_15485.Id) (.load rfl rfl (.box rfl rfl) rfl) ?_
                  refine SafeOps.quiet0 E_good (congrArg some hc15574) rfl rfl (v := V.bool (x_15535.Id == a0_15485.Id)) (.fn rfl) ?_
                  refine SafeOps.quiet0 E_good rfl rfl rfl (v := V.bool (x_15535.Id == a0_15485.Id)) (.pickK rfl hc15574 rfl) ?_
                  exact SafeOps.drop' 6 rfl rfl rfl K
                · skip
                  refine SafeOps.skip (congrArg some hc15574) rfl rfl ?_
                  refine SafeOps.skip (congrArg some hc15574) rfl rfl ?_
                  refine SafeOps.skip (congrArg some hc15574) rfl rfl ?_
                  refine SafeOps.skip (congrArg some hc15574) rfl rfl ?_
                  refine SafeOps.skip (congrArg some hc15574) rfl rfl ?_
                  refine SafeOps.quiet0 E_good rfl rfl rfl (v := V.bool false) (.pickK rfl hc15574 rfl) ?_
                  exact SafeOps.drop' 6 rfl rfl rfl K
                refine SafeOps.quiet0 E_good rfl rfl rfl (v := V.bool ((((x_15531 && (decide (x_15535.Pc ≥ a0_15485.Pc))) && (decide (x_15535.Pc ≤ (IntKind.i64.wrap (a0_15485.Pc + 1))))) && (x_15535.State == a0_15485.State)) && (x_15535.Id == a0_15485.Id))) (.fn rfl) ?_
                refine SafeOps.nil ?_
                repeat (first | refine Safe.seq ?_ | refine Safe.skip ?_ | with_reducible refine thenQ.n ?_ | with_reducible refine blockQ.n ?_)
                refine Safe.ret ?_
                repeat (first | with_reducible refine thenQ.r ?_ | with_reducible refine blockQ.r ?_)
                obtain rfl := Option.some.inj h
                exact retQ.gen (vs := [V.bool ((((x_15531 && (decide (x_15535.Pc ≥ a0_15485.Pc))) && (decide (x_15535.Pc ≤ (IntKind.i64.wrap (a0_15485.Pc + 1))))) && (x_15535.State == a0_15485.State)) && (x_15535.Id == a0_15485.Id))]) rfl (.tmp (v := V.bool ((((x_15531 && (decide (x_15535.Pc ≥ a0_15485.Pc))) && (decide (x_15535.Pc ≤ (IntKind.i64.wrap (a0_15485.Pc + 1))))) && (x_15535.State == a0_15485.State)) && (x_15535.Id == a0_15485.Id))) rfl .nil) (.free rfl) (by simp) (.inr rfl)

noncomputable def go_ravellaw13_StepBudget (a0_15575 : api_Task) (a1_15576 : List api_Instr) (a2_15577 : Int) : Option Bool :=
  (go_ravellaw13_live).bind fun x_15602 =>
  if (!x_15602) = true then
    some false
  else
    if (decide ((a1_15576.length : Int) > 200)) = true then
      some x_15602
    else
      (go_step_Left a0_15575 a1_15576).bind fun (x_15606, x_15607) =>
      (go_step_Slice a0_15575 a1_15576 a2_15577).bind fun (x_15609, x_15610, x_15611, x_15612) =>
      if ((x_15607 != 0) || (x_15612 != 0)) = true then
        some x_15602
      else
        (go_step_Left x_15609 a1_15576).bind fun (x_15616, x_15617) =>
        some ((((((x_15602 && (x_15617 == 0)) && (decide (x_15611 ≥ 1))) && (decide (x_15611 ≤ a2_15577))) && ((x_15610.Kind != 0) || (x_15611 == a2_15577))) && (x_15616 == (if 0 > (IntKind.i64.wrap (x_15606 - x_15611)) then 0 else IntKind.i64.wrap (x_15606 - x_15611)))) && (x_15609.Ran == (IntKind.i64.wrap (a0_15575.Ran + x_15611))))

theorem go_ravellaw13_StepBudget_sc (a0_15575 : api_Task) (a1_15576 : List api_Instr) (a2_15577 : Int) (r : Bool) (h : go_ravellaw13_StepBudget a0_15575 a1_15576 a2_15577 = some r) : SC Tryd.prog gl 8 [V.agg [V.int .i64 a0_15575.Id, V.int .i64 a0_15575.Tenant, V.int .i64 a0_15575.Prog, V.int .i64 a0_15575.Pc, V.int .i64 a0_15575.Unit, V.int .i64 a0_15575.Keeps.a0, V.int .i64 a0_15575.Keeps.a1, V.int .i64 a0_15575.Keeps.a2, V.int .i64 a0_15575.Keeps.a3, V.int .i64 a0_15575.State, V.int .i64 a0_15575.Ran], V.sl 3 (rws api_Instr.cells a1_15576), V.int .i64 a2_15577] (V.bool r) := by
  rw [go_ravellaw13_StepBudget] at h
  refine SC.of E_good Tryd.func8 rfl (fun _ _ => Tryd.call8 _ _) rfl ?_
  repeat (first | refine Safe.seq ?_ | refine Safe.skip ?_ | with_reducible refine thenQ.n ?_ | with_reducible refine blockQ.n ?_)
  refine Safe.region ?_
  refine SafeOps.quiet1 E_good rfl rfl rfl (.box rfl rfl) rfl ?_
  refine SafeOps.quiet0 E_good rfl rfl rfl (v := V.bool false) (.fn rfl) ?_
  refine SafeOps.nil ?_
  repeat (first | refine Safe.seq ?_ | refine Safe.skip ?_ | with_reducible refine thenQ.n ?_ | with_reducible refine blockQ.n ?_)
  refine Safe.region ?_
  refine bindG h ?_
  intro x_15602 he15603 h
  refine SafeOps.quiet0 E_good rfl rfl rfl (v := V.bool x_15602) (.callP rfl rfl (go_ravellaw13_live_sc  _ he15603) rfl) ?_
  refine SafeOps.quiet0 E_good rfl rfl rfl (v := V.bool x_15602) (.fn rfl) ?_
  refine SafeOps.nil ?_
  repeat (first | refine Safe.seq ?_ | refine Safe.skip ?_ | with_reducible refine thenQ.n ?_ | with_reducible refine blockQ.n ?_)
  refine Safe.region ?_
  refine SafeOps.quiet0 E_good rfl rfl rfl (v := V.bool x_15602) (.fn rfl) ?_
  refine SafeOps.quiet0 E_good rfl rfl rfl (v := V.bool (!x_15602)) (.fn rfl) ?_
  refine SafeOps.nil ?_
  repeat (first | refine Safe.seq ?_ | refine Safe.skip ?_ | with_reducible refine thenQ.n ?_ | with_reducible refine blockQ.n ?_)
  refine ifG h (fun hc15604 h => ?_) (fun hc15604 h => ?_)
  · skip
    refine Safe.condK rfl hc15604 ?_
    repeat (first | refine Safe.seq ?_ | refine Safe.skip ?_ | with_reducible refine thenQ.n ?_ | with_reducible refine blockQ.n ?_)
    refine Safe.region ?_
    refine SafeOps.quiet0 E_good rfl rfl rfl (v := V.bool false) (.fn rfl) ?_
    refine SafeOps.nil ?_
    repeat (first | refine Safe.seq ?_ | refine Safe.skip ?_ | with_reducible refine thenQ.n ?_ | with_reducible refine blockQ.n ?_)
    refine Safe.ret ?_
    repeat (first | with_reducible refine thenQ.r ?_ | with_reducible refine blockQ.r ?_)
    obtain rfl := Option.some.inj h
    exact retQ.gen (vs := [V.bool false]) rfl (.tmp (v := V.bool false) rfl .nil) (.free rfl) (by simp) (.inr rfl)
  · skip
    refine Safe.condN rfl hc15604 ?_
    repeat (first | refine Safe.seq ?_ | refine Safe.skip ?_ | with_reducible refine thenQ.n ?_ | with_reducible refine blockQ.n ?_)
    refine Safe.region ?_
    refine SafeOps.quiet0 E_good rfl rfl rfl (v := V.sl 3 (rws api_Instr.cells a1_15576)) (.fn rfl) ?_
    refine SafeOps.quiet0 E_good rfl rfl rfl (v := V.int .i64 (a1_15576.length : Int)) (.fnE rfl lenE) ?_
    refine SafeOps.quiet0 E_good rfl rfl rfl (v := V.bool (decide ((a1_15576.length : Int) > 200))) (.fn rfl) ?_
    refine SafeOps.nil ?_
    repeat (first | refine Safe.seq ?_ | refine Safe.skip ?_ | with_reducible refine thenQ.n ?_ | with_reducible refine blockQ.n ?_)
    refine ifG h (fun hc15605 h => ?_) (fun hc15605 h => ?_)
    · skip
      refine Safe.condK rfl hc15605 ?_
      repeat (first | refine Safe.seq ?_ | refine Safe.skip ?_ | with_reducible refine thenQ.n ?_ | with_reducible refine blockQ.n ?_)
      refine Safe.region ?_
      refine SafeOps.quiet0 E_good rfl rfl rfl (v := V.bool x_15602) (.fn rfl) ?_
      refine SafeOps.quiet0 E_good rfl rfl rfl (v := V.bool x_15602) (.fn rfl) ?_
      refine SafeOps.nil ?_
      repeat (first | refine Safe.seq ?_ | refine Safe.skip ?_ | with_reducible refine thenQ.n ?_ | with_reducible refine blockQ.n ?_)
      refine Safe.ret ?_
      repeat (first | with_reducible refine thenQ.r ?_ | with_reducible refine blockQ.r ?_)
      obtain rfl := Option.some.inj h
      exact retQ.gen (vs := [V.bool x_15602]) rfl (.tmp (v := V.bool x_15602) rfl .nil) (.free rfl) (by simp) (.inr rfl)
    · skip
      refine Safe.condN rfl hc15605 ?_
      repeat (first | refine Safe.seq ?_ | refine Safe.skip ?_ | with_reducible refine thenQ.n ?_ | with_reducible refine blockQ.n ?_)
      refine Safe.region ?_
      refine SafeOps.quiet0 E_good rfl rfl rfl (v := V.agg [V.int .i64 a0_15575.Id, V.int .i64 a0_15575.Tenant, V.int .i64 a0_15575.Prog, V.int .i64 a0_15575.Pc, V.int .i64 a0_15575.Unit, V.int .i64 a0_15575.Keeps.a0, V.int .i64 a0_15575.Keeps.a1, V.int .i64 a0_15575.Keeps.a2, V.int .i64 a0_15575.Keeps.a3, V.int .i64 a0_15575.State, V.int .i64 a0_15575.Ran]) (.load rfl rfl (.box rfl rfl) rfl) ?_
      refine SafeOps.quiet0 E_good rfl rfl rfl (v := V.sl 3 (rws api_Instr.cells a1_15576)) (.fn rfl) ?_
      refine bindG h ?_
      rintro ⟨x_15606, x_15607⟩ he15608 h
      refine SafeOps.quiet0 E_good rfl rfl rfl (v := V.tup [V.int .i64 x_15606, V.int .i64 x_15607]) (.callP rfl rfl (go_step_Left_sc a0_15575 a1_15576 _ he15608) rfl) ?_
      refine SafeOps.quiet0 E_good rfl rfl rfl (v := V.tup [V.int .i64 x_15606, V.int .i64 x_15607]) (.fn rfl) ?_
      refine SafeOps.quiet0 E_good rfl rfl rfl (v := V.int .i64 x_15606) (.fn rfl) ?_
      refine SafeOps.quiet0 E_good rfl rfl rfl (v := V.int .i64 x_15607) (.fn rfl) ?_
      refine SafeOps.quiet0 E_good rfl rfl rfl (v := V.int .i64 x_15606) (.fn rfl) ?_
      refine SafeOps.quiet0 E_good rfl rfl rfl (v := V.int .i64 x_15607) (.fn rfl) ?_
      refine SafeOps.nil ?_
      repeat (first | refine Safe.seq ?_ | refine Safe.skip ?_ | with_reducible refine thenQ.n ?_ | with_reducible refine blockQ.n ?_)
      refine Safe.region ?_
      refine SafeOps.quiet0 E_good rfl rfl rfl (v := V.agg [V.int .i64 a0_15575.Id, V.int .i64 a0_15575.Tenant, V.int .i64 a0_15575.Prog, V.int .i64 a0_15575.Pc, V.int .i64 a0_15575.Unit, V.int .i64 a0_15575.Keeps.a0, V.int .i64 a0_15575.Keeps.a1, V.int .i64 a0_15575.Keeps.a2, V.int .i64 a0_15575.Keeps.a3, V.int .i64 a0_15575.State, V.int .i64 a0_15575.Ran]) (.load rfl rfl (.box rfl rfl) rfl) ?_
      refine SafeOps.quiet0 E_good rfl rfl rfl (v := V.sl 3 (rws api_Instr.cells a1_15576)) (.fn rfl) ?_
      refine SafeOps.quiet0 E_good rfl rfl rfl (v := V.int .i64 a2_15577) (.fn rfl) ?_
      refine bindG h ?_
      rintro ⟨x_15609, x_15610, x_15611, x_15612⟩ he15613 h
      refine SafeOps.quiet0 E_good rfl rfl rfl (v := V.tup [V.agg [V.int .i64 x_15609.Id, V.int .i64 x_15609.Tenant, V.int .i64 x_15609.Prog, V.int .i64 x_15609.Pc, V.int .i64 x_15609.Unit, V.int .i64 x_15609.Keeps.a0, V.int .i64 x_15609.Keeps.a1, V.int .i64 x_15609.Keeps.a2, V.int .i64 x_15609.Keeps.a3, V.int .i64 x_15609.State, V.int .i64 x_15609.Ran], V.agg [V.int .i64 x_15610.Kind, V.int .i64 x_15610.A, V.int .i64 x_15610.B], V.int .i64 x_15611, V.int .i64 x_15612]) (.callP rfl rfl (go_step_Slice_sc a0_15575 a1_15576 a2_15577 _ he15613) rfl) ?_
      refine SafeOps.quiet0 E_good rfl rfl rfl (v := V.tup [V.agg [V.int .i64 x_15609.Id, V.int .i64 x_15609.Tenant, V.int .i64 x_15609.Prog, V.int .i64 x_15609.Pc, V.int .i64 x_15609.Unit, V.int .i64 x_15609.Keeps.a0, V.int .i64 x_15609.Keeps.a1, V.int .i64 x_15609.Keeps.a2, V.int .i64 x_15609.Keeps.a3, V.int .i64 x_15609.State, V.int .i64 x_15609.Ran], V.agg [V.int .i64 x_15610.Kind, V.int .i64 x_15610.A, V.int .i64 x_15610.B], V.int .i64 x_15611, V.int .i64 x_15612]) (.fn rfl) ?_
      refine SafeOps.quiet0 E_good rfl rfl rfl (v := V.agg [V.int .i64 x_15609.Id, V.int .i64 x_15609.Tenant, V.int .i64 x_15609.Prog, V.int .i64 x_15609.Pc, V.int .i64 x_15609.Unit, V.int .i64 x_15609.Keeps.a0, V.int .i64 x_15609.Keeps.a1, V.int .i64 x_15609.Keeps.a2, V.int .i64 x_15609.Keeps.a3, V.int .i64 x_15609.State, V.int .i64 x_15609.Ran]) (.fn rfl) ?_
      refine SafeOps.quiet0 E_good rfl rfl rfl (v := V.agg [V.int .i64 x_15610.Kind, V.int .i64 x_15610.A, V.int .i64 x_15610.B]) (.fn rfl) ?_
      refine SafeOps.quiet0 E_good rfl rfl rfl (v := V.int .i64 x_15611) (.fn rfl) ?_
      refine SafeOps.quiet0 E_good rfl rfl rfl (v := V.int .i64 x_15612) (.fn rfl) ?_
      refine SafeOps.quiet1 E_good rfl rfl rfl (.alloc rfl rfl) rfl ?_
      refine SafeOps.quiet1 E_good rfl rfl rfl (.alloc rfl rfl) rfl ?_
      refine SafeOps.store (z := Obj.box [V.int .i64 x_15609.Id, V.int .i64 x_15609.Tenant, V.int .i64 x_15609.Prog, V.int .i64 x_15609.Pc, V.int .i64 x_15609.Unit, V.int .i64 x_15609.Keeps.a0, V.int .i64 x_15609.Keeps.a1, V.int .i64 x_15609.Keeps.a2, V.int .i64 x_15609.Keeps.a3, V.int .i64 x_15609.State, V.int .i64 x_15609.Ran]) E_good rfl rfl rfl rfl rfl rfl rfl (.boxM (c := 11) rfl rfl (Nat.le_of_ble_eq_true rfl) rfl) ?_
      refine SafeOps.store (z := Obj.box [V.int .i64 x_15610.Kind, V.int .i64 x_15610.A, V.int .i64 x_15610.B]) E_good rfl rfl rfl rfl rfl rfl rfl (.boxM (c := 3) rfl rfl (Nat.le_of_ble_eq_true rfl) rfl) ?_
      refine SafeOps.quiet0 E_good rfl rfl rfl (v := V.int .i64 x_15611) (.fn rfl) ?_
      refine SafeOps.quiet0 E_good rfl rfl rfl (v := V.int .i64 x_15612) (.fn rfl) ?_
      refine SafeOps.nil ?_
      repeat (first | refine Safe.seq ?_ | refine Safe.skip ?_ | with_reducible refine thenQ.n ?_ | with_reducible refine blockQ.n ?_)
      refine Safe.region ?_
      refine SafeOps.quiet0 E_good rfl rfl rfl (v := V.int .i64 x_15607) (.fn rfl) ?_
      refine SafeOps.quiet0 E_good rfl rfl rfl (v := V.bool (x_15607 != 0)) (.fn rfl) ?_
      refine SafeOps.quiet0 E_good rfl rfl rfl (v := V.bool (x_15607 != 0)) (.fn rfl) ?_
      refine SafeOps.bjoin 3 43 (b := ((x_15607 != 0) || (x_15612 != 0))) (b1 := true) (b0 := (x_15612 != 0)) (fun hc15614 K => ?_) (fun hc15614 K => ?_) bj_or ?_
      · skip
        refine SafeOps.skip (congrArg (fun b => some (!b)) hc15614) rfl rfl ?_
        refine SafeOps.skip (congrArg (fun b => some (!b)) hc15614) rfl rfl ?_
        refine SafeOps.quiet0 E_good rfl rfl rfl (v := V.bool true) (.pickK rfl hc15614 rfl) ?_
        exact SafeOps.drop' 3 rfl rfl rfl K
      · skip
        refine SafeOps.quiet0 E_good (congrArg (fun b => some (!b)) hc15614) rfl rfl (v := V.int .i64 x_15612) (.fn rfl) ?_
        refine SafeOps.quiet0 E_good (congrArg (fun b => some (!b)) hc15614) rfl rfl (v := V.bool (x_15612 != 0)) (.fn rfl) ?_
        refine SafeOps.quiet0 E_good rfl rfl rfl (v := V.bool (x_15612 != 0)) (.pickK rfl hc15614 rfl) ?_
        exact SafeOps.drop' 3 rfl rfl rfl K
      refine SafeOps.nil ?_
      repeat (first | refine Safe.seq ?_ | refine Safe.skip ?_ | with_reducible refine thenQ.n ?_ | with_reducible refine blockQ.n ?_)
      refine ifG h (fun hc15615 h => ?_) (fun hc15615 h => ?_)
      · skip
        refine Safe.condK rfl hc15615 ?_
        repeat (first | refine Safe.seq ?_ | refine Safe.skip ?_ | with_reducible refine thenQ.n ?_ | with_reducible refine blockQ.n ?_)
        refine Safe.region ?_
        refine SafeOps.quiet0 E_good rfl rfl rfl (v := V.bool x_15602) (.fn rfl) ?_
        refine SafeOps.quiet0 E_good rfl rfl rfl (v := V.bool x_15602) (.fn rfl) ?_
        refine SafeOps.nil ?_
        repeat (first | refine Safe.seq ?_ | refine Safe.skip ?_ | with_reducible refine thenQ.n ?_ | with_reducible refine blockQ.n ?_)
        refine Safe.ret ?_
        repeat (first | with_reducible refine thenQ.r ?_ | with_reducible refine blockQ.r ?_)
        obtain rfl := Option.some.inj h
        exact retQ.gen (vs := [V.bool x_15602]) rfl (.tmp (v := V.bool x_15602) rfl .nil) (.free rfl) (by simp) (.inr rfl)
      · skip
        refine Safe.condN rfl hc15615 ?_
        repeat (first | refine Safe.seq ?_ | refine Safe.skip ?_ | with_reducible refine thenQ.n ?_ | with_reducible refine blockQ.n ?_)
        refine Safe.region ?_
        refine SafeOps.quiet0 E_good rfl rfl rfl (v := V.agg [V.int .i64 x_15609.Id, V.int .i64 x_15609.Tenant, V.int .i64 x_15609.Prog, V.int .i64 x_15609.Pc, V.int .i64 x_15609.Unit, V.int .i64 x_15609.Keeps.a0, V.int .i64 x_15609.Keeps.a1, V.int .i64 x_15609.Keeps.a2, V.int .i64 x_15609.Keeps.a3, V.int .i64 x_15609.State, V.int .i64 x_15609.Ran]) (.load rfl rfl (.box rfl rfl) rfl) ?_
        refine SafeOps.quiet0 E_good rfl rfl rfl (v := V.sl 3 (rws api_Instr.cells a1_15576)) (.fn rfl) ?_
        refine bindG h ?_
        rintro ⟨x_15616, x_15617⟩ he15618 h
        refine SafeOps.quiet0 E_good rfl rfl rfl (v := V.tup [V.int .i64 x_15616, V.int .i64 x_15617]) (.callP rfl rfl (go_step_Left_sc x_15609 a1_15576 _ he15618) rfl) ?_
        refine SafeOps.quiet0 E_good rfl rfl rfl (v := V.tup [V.int .i64 x_15616, V.int .i64 x_15617]) (.fn rfl) ?_
        refine SafeOps.quiet0 E_good rfl rfl rfl (v := V.int .i64 x_15616) (.fn rfl) ?_
        refine SafeOps.quiet0 E_good rfl rfl rfl (v := V.int .i64 x_15617) (.fn rfl) ?_
        refine SafeOps.quiet0 E_good rfl rfl rfl (v := V.int .i64 x_15616) (.fn rfl) ?_
        refine SafeOps.quiet0 E_good rfl rfl rfl (v := V.int .i64 x_15617) (.fn rfl) ?_
        refine SafeOps.nil ?_
        repeat (first | refine Safe.seq ?_ | refine Safe.skip ?_ | with_reducible refine thenQ.n ?_ | with_reducible refine blockQ.n ?_)
        refine Safe.region ?_
        refine SafeOps.quiet0 E_good rfl rfl rfl (v := V.bool x_15602) (.fn rfl) ?_
        refine SafeOps.quiet0 E_good rfl rfl rfl (v := V.bool x_15602) (.fn rfl) ?_
        refine SafeOps.bjoin 3 55 (b := (x_15602 && (x_15617 == 0))) (b1 := (x_15617 == 0)) (b0 := false) (fun hc15619 K => ?_) (fun hc15619 K => ?_) bj_and ?_
        · skip
          refine SafeOps.quiet0 E_good (congrArg some hc15619) rfl rfl (v := V.int .i64 x_15617) (.fn rfl) ?_
          refine SafeOps.quiet0 E_good (congrArg some hc15619) rfl rfl (v := V.bool (x_15617 == 0)) (.fn rfl) ?_
          refine SafeOps.quiet0 E_good rfl rfl rfl (v := V.bool (x_15617 == 0)) (.pickK rfl hc15619 rfl) ?_
          exact SafeOps.drop' 3 rfl rfl rfl K
        · skip
          refine SafeOps.skip (congrArg some hc15619) rfl rfl ?_
          refine SafeOps.skip (congrArg some hc15619) rfl rfl ?_
          refine SafeOps.quiet0 E_good rfl rfl rfl (v := V.bool false) (.pickK rfl hc15619 rfl) ?_
          exact SafeOps.drop' 3 rfl rfl rfl K
        refine SafeOps.quiet0 E_good rfl rfl rfl (v := V.bool (x_15602 && (x_15617 == 0))) (.fn rfl) ?_
        refine SafeOps.bjoin 3 59 (b := ((x_15602 && (x_15617 == 0)) && (decide (x_15611 ≥ 1)))) (b1 := decide (x_15611 ≥ 1)) (b0 := false) (fun hc15620 K => ?_) (fun hc15620 K => ?_) bj_and ?_
        · skip
          refine SafeOps.quiet0 E_good (congrArg some hc15620) rfl rfl (v := V.int .i64 x_15611) (.fn rfl) ?_
          refine SafeOps.quiet0 E_good (congrArg some hc15620) rfl rfl (v := V.bool (decide (x_15611 ≥ 1))) (.fn rfl) ?_
          refine SafeOps.quiet0 E_good rfl rfl rfl (v := V.bool (decide (x_15611 ≥ 1))) (.pickK rfl hc15620 rfl) ?_
          exact SafeOps.drop' 3 rfl rfl rfl K
        · skip
          refine SafeOps.skip (congrArg some hc15620) rfl rfl ?_
          refine SafeOps.skip (congrArg some hc15620) rfl rfl ?_
          refine SafeOps.quiet0 E_good rfl rfl rfl (v := V.bool false) (.pickK rfl hc15620 rfl) ?_
          exact SafeOps.drop' 3 rfl rfl rfl K
        refine SafeOps.quiet0 E_good rfl rfl rfl (v := V.bool ((x_15602 && (x_15617 == 0)) && (decide (x_15611 ≥ 1)))) (.fn rfl) ?_
        refine SafeOps.bjoin 4 64 (b := (((x_15602 && (x_15617 == 0)) && (decide (x_15611 ≥ 1))) && (decide (x_15611 ≤ a2_15577)))) (b1 := decide (x_15611 ≤ a2_15577)) (b0 := false) (fun hc15621 K => ?_) (fun hc15621 K => ?_) bj_and ?_
        · skip
          refine SafeOps.quiet0 E_good (congrArg some hc15621) rfl rfl (v := V.int .i64 x_15611) (.fn rfl) ?_
          refine SafeOps.quiet0 E_good (congrArg some hc15621) rfl rfl (v := V.int .i64 a2_15577) (.fn rfl) ?_
          refine SafeOps.quiet0 E_good (congrArg some hc15621) rfl rfl (v := V.bool (decide (x_15611 ≤ a2_15577))) (.fn rfl) ?_
          refine SafeOps.quiet0 E_good rfl rfl rfl (v := V.bool (decide (x_15611 ≤ a2_15577))) (.pickK rfl hc15621 rfl) ?_
          exact SafeOps.drop' 4 rfl rfl rfl K
        · skip
          refine SafeOps.skip (congrArg some hc15621) rfl rfl ?_
          refine SafeOps.skip (congrArg some hc15621) rfl rfl ?_
          refine SafeOps.skip (congrArg some hc15621) rfl rfl ?_
          refine SafeOps.quiet0 E_good rfl rfl rfl (v := V.bool false) (.pickK rfl hc15621 rfl) ?_
          exact SafeOps.drop' 4 rfl rfl rfl K
        refine SafeOps.quiet0 E_good rfl rfl rfl (v := V.bool (((x_15602 && (x_15617 == 0)) && (decide (x_15611 ≥ 1))) && (decide (x_15611 ≤ a2_15577)))) (.fn rfl) ?_
        refine SafeOps.bjoin 9 74 (b := ((((x_15602 && (x_15617 == 0)) && (decide (x_15611 ≥ 1))) && (decide (x_15611 ≤ a2_15577))) && ((x_15610.Kind != 0) || (x_15611 == a2_15577)))) (b1 := ((x_15610.Kind != 0) || (x_15611 == a2_15577))) (b0 := false) (fun hc15622 K => ?_) (fun hc15622 K => ?_) bj_and ?_
        · skip
          refine SafeOps.quiet0 E_good (congrArg some hc15622) rfl rfl (v := V.ptr [11] 0 0) (.fn rfl) ?_
          refine SafeOps.quiet0 E_good (congrArg some hc15622) rfl rfl (v := V.int .i64 x_15610.Kind) (.load rfl rfl (.box rfl rfl) rfl) ?_
          refine SafeOps.quiet0 E_good (congrArg some hc15622) rfl rfl (v := V.bool (x_15610.Kind != 0)) (.fn rfl) ?_
          refine SafeOps.quiet0 E_good (congrArg some hc15622) rfl rfl (v := V.bool (x_15610.Kind != 0)) (.fn rfl) ?_
          refine SafeOps.bjoin 4 73 (b := ((x_15610.Kind != 0) || (x_15611 == a2_15577))) (b1 := true) (b0 := (x_15611 == a2_15577)) (fun hc15623 K => ?_) (fun hc15623 K => ?_) bj_or ?_
          · skip
            refine SafeOps.skip (congrArg (fun b => some (!b)) hc15623) rfl rfl ?_
            refine SafeOps.skip (congrArg (fun b => some (!b)) hc15623) rfl rfl ?_
            refine SafeOps.skip (congrArg (fun b => some (!b)) hc15623) rfl rfl ?_
            refine SafeOps.quiet0 E_good (congrArg some hc15622) rfl rfl (v := V.bool true) (.pickK rfl hc15623 rfl) ?_
            exact SafeOps.drop' 4 rfl rfl rfl K
          · skip
            refine SafeOps.quiet0 E_good (congrArg (fun b => some (!b)) hc15623) rfl rfl (v := V.int .i64 x_15611) (.fn rfl) ?_
            refine SafeOps.quiet0 E_good (congrArg (fun b => some (!b)) hc15623) rfl rfl (v := V.int .i64 a2_15577) (.fn rfl) ?_
            refine SafeOps.quiet0 E_good (congrArg (fun b => some (!b)) hc15623) rfl rfl (v := V.bool (x_15611 == a2_15577)) (.fn rfl) ?_
            refine SafeOps.quiet0 E_good (congrArg some hc15622) rfl rfl (v := V.bool (x_15611 == a2_15577)) (.pickK rfl hc15623 rfl) ?_
            exact SafeOps.drop' 4 rfl rfl rfl K
          refine SafeOps.quiet0 E_good rfl rfl rfl (v := V.bool ((x_15610.Kind != 0) || (x_15611 == a2_15577))) (.pickK rfl hc15622 rfl) ?_
          exact SafeOps.drop' 6 rfl rfl rfl K
        · skip
          refine SafeOps.skip (congrArg some hc15622) rfl rfl ?_
          refine SafeOps.skip (congrArg some hc15622) rfl rfl ?_
          refine SafeOps.skip (congrArg some hc15622) rfl rfl ?_
          refine SafeOps.skip (congrArg some hc15622) rfl rfl ?_
          refine SafeOps.skip rfl rfl rfl ?_
          refine SafeOps.skip rfl rfl rfl ?_
          refine SafeOps.skip rfl rfl rfl ?_
          refine SafeOps.skip (congrArg some hc15622) rfl rfl ?_
          refine SafeOps.quiet0 E_good rfl rfl rfl (v := V.bool false) (.pickK rfl hc15622 rfl) ?_
          exact SafeOps.drop' 9 rfl rfl rfl K
        refine SafeOps.quiet0 E_good rfl rfl rfl (v := V.bool ((((x_15602 && (x_15617 == 0)) && (decide (x_15611 ≥ 1))) && (decide (x_15611 ≤ a2_15577))) && ((x_15610.Kind != 0) || (x_15611 == a2_15577)))) (.fn rfl) ?_
        refine SafeOps.bjoin 7 82 (b := (((((x_15602 && (x_15617 == 0)) && (decide (x_15611 ≥ 1))) && (decide (x_15611 ≤ a2_15577))) && ((x_15610.Kind != 0) || (x_15611 == a2_15577))) && (x_15616 == (if 0 > (IntKind.i64.wrap (x_15606 - x_15611)) then 0 else IntKind.i64.wrap (x_15606 - x_15611))))) (b1 := (x_15616 == (if 0 > (IntKind.i64.wrap (x_15606 - x_15611)) then 0 else IntKind.i64.wrap (x_15606 - x_15611)))) (b0 := false) (fun hc15624 K => ?_) (fun hc15624 K => ?_) bj_and ?_
        · skip
          refine SafeOps.quiet0 E_good (congrArg some hc15624) rfl rfl (v := V.int .i64 x_15616) (.fn rfl) ?_
          refine SafeOps.quiet0 E_good (congrArg some hc15624) rfl rfl (v := V.int .i64 x_15606) (.fn rfl) ?_
          refine SafeOps.quiet0 E_good (congrArg some hc15624) rfl rfl (v := V.int .i64 x_15611) (.fn rfl) ?_
          refine SafeOps.quiet0 E_good (congrArg some hc15624) rfl rfl (v := V.int .i64 (IntKind.i64.wrap (x_15606 - x_15611))) (.fn rfl) ?_
          refine SafeOps.quiet0 E_good (congrArg some hc15624) rfl rfl (v := V.int .i64 (if 0 > (IntKind.i64.wrap (x_15606 - x_15611)) then 0 else IntKind.i64.wrap (x_15606 - x_15611))) (.fn rfl) ?_
          refine SafeOps.quiet0 E_good (congrArg some hc15624) rfl rfl (v := V.bool (x_15616 == (if 0 > (IntKind.i64.wrap (x_15606 - x_15611)) then 0 else IntKind.i64.wrap (x_15606 - x_15611)))) (.fn rfl) ?_
          refine SafeOps.quiet0 E_good rfl rfl rfl (v := V.bool (x_15616 == (if 0 > (IntKind.i64.wrap (x_15606 - x_15611)) then 0 else IntKind.i64.wrap (x_15606 - x_15611)))) (.pickK rfl hc15624 rfl) ?_
          exact SafeOps.drop' 7 rfl rfl rfl K
        · skip
          refine SafeOps.skip (congrArg some hc15624) rfl rfl ?_
          refine SafeOps.skip (congrArg some hc15624) rfl rfl ?_
          refine SafeOps.skip (congrArg some hc15624) rfl rfl ?_
          refine SafeOps.skip (congrArg some hc15624) rfl rfl ?_
          refine SafeOps.skip (congrArg some hc15624) rfl rfl ?_
          refine SafeOps.skip (congrArg some hc15624) rfl rfl ?_
          refine SafeOps.quiet0 E_good rfl rfl rfl (v := V.bool false) (.pickK rfl hc15624 rfl) ?_
          exact SafeOps.drop' 7 rfl rfl rfl K
        refine SafeOps.quiet0 E_good rfl rfl rfl (v := V.bool (((((x_15602 && (x_15617 == 0)) && (decide (x_15611 ≥ 1))) && (decide (x_15611 ≤ a2_15577))) && ((x_15610.Kind != 0) || (x_15611 == a2_15577))) && (x_15616 == (if 0 > (IntKind.i64.wrap (x_15606 - x_15611)) then 0 else IntKind.i64.wrap (x_15606 - x_15611))))) (.fn rfl) ?_
        refine SafeOps.bjoin 8 91 (b := ((((((x_15602 && (x_15617 == 0)) && (decide (x_15611 ≥ 1))) && (decide (x_15611 ≤ a2_15577))) && ((x_15610.Kind != 0) || (x_15611 == a2_15577))) && (x_15616 == (if 0 > (IntKind.i64.wrap (x_15606 - x_15611)) then 0 else IntKind.i64.wrap (x_15606 - x_15611)))) && (x_15609.Ran == (IntKind.i64.wrap (a0_15575.Ran + x_15611))))) (b1 := (x_15609.Ran == (IntKind.i64.wrap (a0_15575.Ran + x_15611)))) (b0 := false) (fun hc15625 K => ?_) (fun hc15625 K => ?_) bj_and ?_
        · skip
          refine SafeOps.quiet0 E_good (congrArg some hc15625) rfl rfl (v := V.ptr [10] 0 10) (.fn rfl) ?_
          refine SafeOps.quiet0 E_good (congrArg some hc15625) rfl rfl (v := V.int .i64 x_15609.Ran) (.load rfl rfl (.box rfl rfl) rfl) ?_
          refine SafeOps.quiet0 E_good (congrArg some hc15625) rfl rfl (v := V.ptr [3] 0 10) (.fn rfl) ?_
          refine SafeOps.quiet0 E_good (congrArg some hc15625) rfl rfl (v := V.int .i64 a0_15575.Ran) (.load rfl rfl (.box rfl rfl) rfl) ?_
          refine SafeOps.quiet0 E_good (congrArg some hc15625) rfl rfl (v := V.int .i64 x_15611) (.fn rfl) ?_
          refine SafeOps.quiet0 E_good (congrArg some hc15625) rfl rfl (v := V.int .i64 (IntKind.i64.wrap (a0_15575.Ran + x_15611))) (.fn rfl) ?_
          refine SafeOps.quiet0 E_good (congrArg some hc15625) rfl rfl (v := V.bool (x_15609.Ran == (IntKind.i64.wrap (a0_15575.Ran + x_15611)))) (.fn rfl) ?_
          refine SafeOps.quiet0 E_good rfl rfl rfl (v := V.bool (x_15609.Ran == (IntKind.i64.wrap (a0_15575.Ran + x_15611)))) (.pickK rfl hc15625 rfl) ?_
          exact SafeOps.drop' 8 rfl rfl rfl K
        · skip
          refine SafeOps.skip (congrArg some hc15625) rfl rfl ?_
          refine SafeOps.skip (congrArg some hc15625) rfl rfl ?_
          refine SafeOps.skip (congrArg some hc15625) rfl rfl ?_
          refine SafeOps.skip (congrArg some hc15625) rfl rfl ?_
          refine SafeOps.skip (congrArg some hc15625) rfl rfl ?_
          refine SafeOps.skip (congrArg some hc15625) rfl rfl ?_
          refine SafeOps.skip (congrArg some hc15625) rfl rfl ?_
          refine SafeOps.quiet0 E_good rfl rfl rfl (v := V.bool false) (.pickK rfl hc15625 rfl) ?_
          exact SafeOps.drop' 8 rfl rfl rfl K
        refine SafeOps.quiet0 E_good rfl rfl rfl (v := V.bool ((((((x_15602 && (x_15617 == 0)) && (decide (x_15611 ≥ 1))) && (decide (x_15611 ≤ a2_15577))) && ((x_15610.Kind != 0) || (x_15611 == a2_15577))) && (x_15616 == (if 0 > (IntKind.i64.wrap (x_15606 - x_15611)) then 0 else IntKind.i64.wrap (x_15606 - x_15611)))) && (x_15609.Ran == (IntKind.i64.wrap (a0_15575.Ran + x_15611))))) (.fn rfl) ?_
        refine SafeOps.nil ?_
        repeat (first | refine Safe.seq ?_ | refine Safe.skip ?_ | with_reducible refine thenQ.n ?_ | with_reducible refine blockQ.n ?_)
        refine Safe.ret ?_
        repeat (first | with_reducible refine thenQ.r ?_ | with_reducible refine blockQ.r ?_)
        obtain rfl := Option.some.inj h
        exact retQ.gen (vs := [V.bool ((((((x_15602 && (x_15617 == 0)) && (decide (x_15611 ≥ 1))) && (decide (x_15611 ≤ a2_15577))) && ((x_15610.Kind != 0) || (x_15611 == a2_15577))) && (x_15616 == (if 0 > (IntKind.i64.wrap (x_15606 - x_15611)) then 0 else IntKind.i64.wrap (x_15606 - x_15611)))) && (x_15609.Ran == (IntKind.i64.wrap (a0_15575.Ran + x_15611))))]) rfl (.tmp (v := V.bool ((((((x_15602 && (x_15617 == 0)) && (decide (x_15611 ≥ 1))) && (decide (x_15611 ≤ a2_15577))) && ((x_15610.Kind != 0) || (x_15611 == a2_15577))) && (x_15616 == (if 0 > (IntKind.i64.wrap (x_15606 - x_15611)) then 0 else IntKind.i64.wrap (x_15606 - x_15611)))) && (x_15609.Ran == (IntKind.i64.wrap (a0_15575.Ran + x_15611))))) rfl .nil) (.free rfl) (by simp) (.inr rfl)
end Go.Proofs.YtlekpilcgahaoaaDoor
