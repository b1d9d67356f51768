/- Helper lemmas for the claim's theorem: an abstract machine over the model, proved sound; no condition beyond each lemma's own. -/
import Derived.Test.YtlekpilcgahaoaaDoorT1
set_option linter.unusedVariables false
set_option linter.unusedSimpArgs false
set_option linter.unnecessarySimpa false
set_option linter.unusedSectionVars false
namespace Go.Proofs.YtlekpilcgahaoaaDoor
open Go Go.AM
set_option maxRecDepth 100000
set_option maxHeartbeats 1000000
set_option linter.unusedVariables false
set_option linter.unusedSimpArgs false
noncomputable def go_ravelref13_Do_j1 (a0_2027 : api_Task) (x_14503 : api_Instr) (v23_14511 : Int) : Option (api_Task × api_Effect × Int) :=
  if (x_14503.Op == 1) = true then
    some ((api_Task.mk a0_2027.Id a0_2027.Tenant a0_2027.Prog v23_14511 0 a0_2027.Keeps a0_2027.State (IntKind.i64.wrap (a0_2027.Ran + 1))), api_Effect.zero, 0)
  else
    some ((api_Task.mk a0_2027.Id a0_2027.Tenant a0_2027.Prog v23_14511 0 a0_2027.Keeps a0_2027.State (IntKind.i64.wrap (a0_2027.Ran + 1))), (api_Effect.mk x_14503.Op x_14503.A x_14503.B), 0)

noncomputable def go_ravelref13_Do (a0_2027 : api_Task) (a1_2028 : List api_Instr) : Option (api_Task × api_Effect × Int) :=
  (go_ravelref13_Next a0_2027 a1_2028).bind fun (x_14503, x_14504) =>
  if (x_14504 != 0) = true then
    some (api_Task.zero, api_Effect.zero, x_14504)
  else
    if (a0_2027.State != 2) = true then
      some (api_Task.zero, api_Effect.zero, 9)
    else
      if (a0_2027.Ran == 1099511627776) = true then
        some (api_Task.zero, api_Effect.zero, 4)
      else
        if ((x_14503.Op == 1) && (decide ((IntKind.i64.wrap (a0_2027.Unit + 1)) < x_14503.A))) = true then
          some ((api_Task.mk a0_2027.Id a0_2027.Tenant a0_2027.Prog a0_2027.Pc (IntKind.i64.wrap (a0_2027.Unit + 1)) a0_2027.Keeps a0_2027.State (IntKind.i64.wrap (a0_2027.Ran + 1))), api_Effect.zero, 0)
        else
          if (decide (a0_2027.Pc < (a1_2028.length : Int))) = true then
            go_ravelref13_Do_j1 a0_2027 x_14503 (IntKind.i64.wrap (a0_2027.Pc + 1))
          else
            go_ravelref13_Do_j1 a0_2027 x_14503 a0_2027.Pc

theorem go_ravelref13_Do_sc (a0_2027 : api_Task) (a1_2028 : List api_Instr) (r : api_Task × api_Effect × Int) (h : go_ravelref13_Do a0_2027 a1_2028 = some r) : SC Tryd.prog gl 16 [V.agg [V.int .i64 a0_2027.Id, V.int .i64 a0_2027.Tenant, V.int .i64 a0_2027.Prog, V.int .i64 a0_2027.Pc, V.int .i64 a0_2027.Unit, V.int .i64 a0_2027.Keeps.a0, V.int .i64 a0_2027.Keeps.a1, V.int .i64 a0_2027.Keeps.a2, V.int .i64 a0_2027.Keeps.a3, V.int .i64 a0_2027.State, V.int .i64 a0_2027.Ran], V.sl 3 (rws api_Instr.cells a1_2028)] (V.tup [V.agg [V.int .i64 r.1.Id, V.int .i64 r.1.Tenant, V.int .i64 r.1.Prog, V.int .i64 r.1.Pc, V.int .i64 r.1.Unit, V.int .i64 r.1.Keeps.a0, V.int .i64 r.1.Keeps.a1, V.int .i64 r.1.Keeps.a2, V.int .i64 r.1.Keeps.a3, V.int .i64 r.1.State, V.int .i64 r.1.Ran], V.agg [V.int .i64 r.2.1.Kind, V.int .i64 r.2.1.A, V.int .i64 r.2.1.B], V.int .i64 r.2.2]) := by
  rw [go_ravelref13_Do] at h
  refine SC.of E_good Tryd.func16 rfl (fun _ _ => Tryd.call16 _ _) rfl ?_
  repeat (first | refine Safe.seq ?_ | refine Safe.skip ?_ | with_reducible refine thenQ.n ?_ | with_reducible refine blockQ.n ?_)
  refine Safe.region ?_
  refine SafeOps.quiet1 E_good rfl rfl rfl (.box rfl rfl) rfl ?_
  refine SafeOps.quiet1 E_good rfl rfl rfl (.alloc rfl rfl) rfl ?_
  refine SafeOps.quiet1 E_good rfl rfl rfl (.alloc rfl rfl) rfl ?_
  refine SafeOps.quiet0 E_good rfl rfl rfl (v := V.int .i64 0) (.fn rfl) ?_
  refine SafeOps.nil ?_
  repeat (first | refine Safe.seq ?_ | refine Safe.skip ?_ | with_reducible refine thenQ.n ?_ | with_reducible refine blockQ.n ?_)
  refine Safe.region ?_
  refine SafeOps.quiet0 E_good rfl rfl rfl (v := V.agg [V.int .i64 a0_2027.Id, V.int .i64 a0_2027.Tenant, V.int .i64 a0_2027.Prog, V.int .i64 a0_2027.Pc, V.int .i64 a0_2027.Unit, V.int .i64 a0_2027.Keeps.a0, V.int .i64 a0_2027.Keeps.a1, V.int .i64 a0_2027.Keeps.a2, V.int .i64 a0_2027.Keeps.a3, V.int .i64 a0_2027.State, V.int .i64 a0_2027.Ran]) (.load rfl rfl (.box rfl rfl) rfl) ?_
  refine SafeOps.quiet0 E_good rfl rfl rfl (v := V.sl 3 (rws api_Instr.cells a1_2028)) (.fn rfl) ?_
  refine bindG h ?_
  rintro ⟨x_14503, x_14504⟩ he14505 h
  refine SafeOps.quiet0 E_good rfl rfl rfl (v := V.tup [V.agg [V.int .i64 x_14503.Op, V.int .i64 x_14503.A, V.int .i64 x_14503.B], V.int .i64 x_14504]) (.callP rfl rfl (go_ravelref13_Next_sc a0_2027 a1_2028 _ he14505) rfl) ?_
  refine SafeOps.quiet0 E_good rfl rfl rfl (v := V.tup [V.agg [V.int .i64 x_14503.Op, V.int .i64 x_14503.A, V.int .i64 x_14503.B], V.int .i64 x_14504]) (.fn rfl) ?_
  refine SafeOps.quiet0 E_good rfl rfl rfl (v := V.agg [V.int .i64 x_14503.Op, V.int .i64 x_14503.A, V.int .i64 x_14503.B]) (.fn rfl) ?_
  refine SafeOps.quiet0 E_good rfl rfl rfl (v := V.int .i64 x_14504) (.fn rfl) ?_
  refine SafeOps.quiet1 E_good rfl rfl rfl (.alloc rfl rfl) rfl ?_
  refine SafeOps.store (z := Obj.box [V.int .i64 x_14503.Op, V.int .i64 x_14503.A, V.int .i64 x_14503.B]) E_good rfl rfl rfl rfl rfl rfl rfl (.boxM (c := 3) rfl rfl (Nat.le_of_ble_eq_true rfl) rfl) ?_
  refine SafeOps.quiet0 E_good rfl rfl rfl (v := V.int .i64 x_14504) (.fn rfl) ?_
  refine SafeOps.nil ?_
  repeat (first | refine Safe.seq ?_ | refine Safe.skip ?_ | with_reducible refine thenQ.n ?_ | with_reducible refine blockQ.n ?_)
  refine Safe.region ?_
  refine SafeOps.quiet0 E_good rfl rfl rfl (v := V.int .i64 x_14504) (.fn rfl) ?_
  refine SafeOps.quiet0 E_good rfl rfl rfl (v := V.bool (x_14504 != 0)) (.fn rfl) ?_
  refine SafeOps.nil ?_
  repeat (first | refine Safe.seq ?_ | refine Safe.skip ?_ | with_reducible refine thenQ.n ?_ | with_reducible refine blockQ.n ?_)
  refine ifG h (fun hc14506 h => ?_) (fun hc14506 h => ?_)
  · skip
    refine Safe.condK rfl hc14506 ?_
    repeat (first | refine Safe.seq ?_ | refine Safe.skip ?_ | with_reducible refine thenQ.n ?_ | with_reducible refine blockQ.n ?_)
    refine Safe.region ?_
    refine SafeOps.quiet0 E_good rfl rfl rfl (v := V.agg [V.int .i64 0, V.int .i64 0, V.int .i64 0, V.int .i64 0, V.int .i64 0, V.int .i64 0, V.int .i64 0, V.int .i64 0, V.int .i64 0, V.int .i64 0, V.int .i64 0]) (.fn rfl) ?_
    refine SafeOps.quiet0 E_good rfl rfl rfl (v := V.agg [V.int .i64 0, V.int .i64 0, V.int .i64 0]) (.fn rfl) ?_
    refine SafeOps.quiet0 E_good rfl rfl rfl (v := V.int .i64 x_14504) (.fn rfl) ?_
    refine SafeOps.store (z := Obj.box [V.int .i64 0, V.int .i64 0, V.int .i64 0, V.int .i64 0, V.int .i64 0, V.int .i64 0, V.int .i64 0, V.int .i64 0, V.int .i64 0, V.int .i64 0, V.int .i64 0]) E_good rfl rfl rfl rfl rfl rfl rfl (.boxM (c := 11) rfl rfl (Nat.le_of_ble_eq_true rfl) rfl) ?_
    refine SafeOps.store (z := Obj.box [V.int .i64 0, V.int .i64 0, V.int .i64 0]) E_good rfl rfl rfl rfl rfl rfl rfl (.boxM (c := 3) rfl rfl (Nat.le_of_ble_eq_true rfl) rfl) ?_
    refine SafeOps.quiet0 E_good rfl rfl rfl (v := V.int .i64 x_14504) (.fn rfl) ?_
    refine SafeOps.nil ?_
    repeat (first | refine Safe.seq ?_ | refine Safe.skip ?_ | with_reducible refine thenQ.n ?_ | with_reducible refine blockQ.n ?_)
    refine Safe.ret ?_
    repeat (first | with_reducible refine thenQ.r ?_ | with_reducible refine blockQ.r ?_)
    obtain rfl := Option.some.inj h
    exact retQ.gen (vs := [V.agg [V.int .i64 0, V.int .i64 0, V.int .i64 0, V.int .i64 0, V.int .i64 0, V.int .i64 0, V.int .i64 0, V.int .i64 0, V.int .i64 0, V.int .i64 0, V.int .i64 0], V.agg [V.int .i64 0, V.int .i64 0, V.int .i64 0], V.int .i64 x_14504]) rfl (.cell (v := V.agg [V.int .i64 0, V.int .i64 0, V.int .i64 0, V.int .i64 0, V.int .i64 0, V.int .i64 0, V.int .i64 0, V.int .i64 0, V.int .i64 0, V.int .i64 0, V.int .i64 0]) rfl rfl (.box rfl rfl) rfl (.cell (v := V.agg [V.int .i64 0, V.int .i64 0, V.int .i64 0]) rfl rfl (.box rfl rfl) rfl (.tmp (v := V.int .i64 x_14504) rfl .nil))) (.free rfl) (by simp) (.inr rfl)
  · skip
    refine Safe.condN rfl hc14506 ?_
    repeat (first | refine Safe.seq ?_ | refine Safe.skip ?_ | with_reducible refine thenQ.n ?_ | with_reducible refine blockQ.n ?_)
    refine Safe.region ?_
    refine SafeOps.quiet0 E_good rfl rfl rfl (v := V.ptr [2] 0 9) (.fn rfl) ?_
    refine SafeOps.quiet0 E_good rfl rfl rfl (v := V.int .i64 a0_2027.State) (.load rfl rfl (.box rfl rfl) rfl) ?_
    refine SafeOps.quiet0 E_good rfl rfl rfl (v := V.bool (a0_2027.State != 2)) (.fn rfl) ?_
    refine SafeOps.nil ?_
    repeat (first | refine Safe.seq ?_ | refine Safe.skip ?_ | with_reducible refine thenQ.n ?_ | with_reducible refine blockQ.n ?_)
    refine ifG h (fun hc14507 h => ?_) (fun hc14507 h => ?_)
    · skip
      refine Safe.condK rfl hc14507 ?_
      repeat (first | refine Safe.seq ?_ | refine Safe.skip ?_ | with_reducible refine thenQ.n ?_ | with_reducible refine blockQ.n ?_)
      refine Safe.region ?_
      refine SafeOps.quiet0 E_good rfl rfl rfl (v := V.agg [V.int .i64 0, V.int .i64 0, V.int .i64 0, V.int .i64 0, V.int .i64 0, V.int .i64 0, V.int .i64 0, V.int .i64 0, V.int .i64 0, V.int .i64 0, V.int .i64 0]) (.fn rfl) ?_
      refine SafeOps.quiet0 E_good rfl rfl rfl (v := V.agg [V.int .i64 0, V.int .i64 0, V.int .i64 0]) (.fn rfl) ?_
      refine SafeOps.store (z := Obj.box [V.int .i64 0, V.int .i64 0, V.int .i64 0, V.int .i64 0, V.int .i64 0, V.int .i64 0, V.int .i64 0, V.int .i64 0, V.int .i64 0, V.int .i64 0, V.int .i64 0]) E_good rfl rfl rfl rfl rfl rfl rfl (.boxM (c := 11) rfl rfl (Nat.le_of_ble_eq_true rfl) rfl) ?_
      refine SafeOps.store (z := Obj.box [V.int .i64 0, V.int .i64 0, V.int .i64 0]) E_good rfl rfl rfl rfl rfl rfl rfl (.boxM (c := 3) rfl rfl (Nat.le_of_ble_eq_true rfl) rfl) ?_
      refine SafeOps.quiet0 E_good rfl rfl rfl (v := V.int .i64 9) (.fn rfl) ?_
      refine SafeOps.nil ?_
      repeat (first | refine Safe.seq ?_ | refine Safe.skip ?_ | with_reducible refine thenQ.n ?_ | with_reducible refine blockQ.n ?_)
      refine Safe.ret ?_
      repeat (first | with_reducible refine thenQ.r ?_ | with_reducible refine blockQ.r ?_)
      obtain rfl := Option.some.inj h
      exact retQ.gen (vs := [V.agg [V.int .i64 0, V.int .i64 0, V.int .i64 0, V.int .i64 0, V.int .i64 0, V.int .i64 0, V.int .i64 0, V.int .i64 0, V.int .i64 0, V.int .i64 0, V.int .i64 0], V.agg [V.int .i64 0, V.int .i64 0, V.int .i64 0], V.int .i64 9]) rfl (.cell (v := V.agg [V.int .i64 0, V.int .i64 0, V.int .i64 0, V.int .i64 0, V.int .i64 0, V.int .i64 0, V.int .i64 0, V.int .i64 0, V.int .i64 0, V.int .i64 0, V.int .i64 0]) rfl rfl (.box rfl rfl) rfl (.cell (v := V.agg [V.int .i64 0, V.int .i64 0, V.int .i64 0]) rfl rfl (.box rfl rfl) rfl (.tmp (v := V.int .i64 9) rfl .nil))) (.free rfl) (by simp) (.inr rfl)
    · skip
      refine Safe.condN rfl hc14507 ?_
      repeat (first | refine Safe.seq ?_ | refine Safe.skip ?_ | with_reducible refine thenQ.n ?_ | with_reducible refine blockQ.n ?_)
      refine Safe.region ?_
      refine SafeOps.quiet0 E_good rfl rfl rfl (v := V.ptr [2] 0 10) (.fn rfl) ?_
      refine SafeOps.quiet0 E_good rfl rfl rfl (v := V.int .i64 a0_2027.Ran) (.load rfl rfl (.box rfl rfl) rfl) ?_
      refine SafeOps.quiet0 E_good rfl rfl rfl (v := V.bool (a0_2027.Ran == 1099511627776)) (.fn rfl) ?_
      refine SafeOps.nil ?_
      repeat (first | refine Safe.seq ?_ | refine Safe.skip ?_ | with_reducible refine thenQ.n ?_ | with_reducible refine blockQ.n ?_)
      refine ifG h (fun hc14508 h => ?_) (fun hc14508 h => ?_)
      · skip
        refine Safe.condK rfl hc14508 ?_
        repeat (first | refine Safe.seq ?_ | refine Safe.skip ?_ | with_reducible refine thenQ.n ?_ | with_reducible refine blockQ.n ?_)
        refine Safe.region ?_
        refine SafeOps.quiet0 E_good rfl rfl rfl (v := V.agg [V.int .i64 0, V.int .i64 0, V.int .i64 0, V.int .i64 0, V.int .i64 0, V.int .i64 0, V.int .i64 0, V.int .i64 0, V.int .i64 0, V.int .i64 0, V.int .i64 0]) (.fn rfl) ?_
        refine SafeOps.quiet0 E_good rfl rfl rfl (v := V.agg [V.int .i64 0, V.int .i64 0, V.int .i64 0]) (.fn rfl) ?_
        refine SafeOps.store (z := Obj.box [V.int .i64 0, V.int .i64 0, V.int .i64 0, V.int .i64 0, V.int .i64 0, V.int .i64 0, V.int .i64 0, V.int .i64 0, V.int .i64 0, V.int .i64 0, V.int .i64 0]) E_good rfl rfl rfl rfl rfl rfl rfl (.boxM (c := 11) rfl rfl (Nat.le_of_ble_eq_true rfl) rfl) ?_
        refine SafeOps.store (z := Obj.box [V.int .i64 0, V.int .i64 0, V.int .i64 0]) E_good rfl rfl rfl rfl rfl rfl rfl (.boxM (c := 3) rfl rfl (Nat.le_of_ble_eq_true rfl) rfl) ?_
        refine SafeOps.quiet0 E_good rfl rfl rfl (v := V.int .i64 4) (.fn rfl) ?_
        refine SafeOps.nil ?_
        repeat (first | refine Safe.seq ?_ | refine Safe.skip ?_ | with_reducible refine thenQ.n ?_ | with_reducible refine blockQ.n ?_)
        refine Safe.ret ?_
        repeat (first | with_reducible refine thenQ.r ?_ | with_reducible refine blockQ.r ?_)
        obtain rfl := Option.some.inj h
        exact retQ.gen (vs := [V.agg [V.int .i64 0, V.int .i64 0, V.int .i64 0, V.int .i64 0, V.int .i64 0, V.int .i64 0, V.int .i64 0, V.int .i64 0, V.int .i64 0, V.int .i64 0, V.int .i64 0], V.agg [V.int .i64 0, V.int .i64 0, V.int .i64 0], V.int .i64 4]) rfl (.cell (v := V.agg [V.int .i64 0, V.int .i64 0, V.int .i64 0, V.int .i64 0, V.int .i64 0, V.int .i64 0, V.int .i64 0, V.int .i64 0, V.int .i64 0, V.int .i64 0, V.int .i64 0]) rfl rfl (.box rfl rfl) rfl (.cell (v := V.agg [V.int .i64 0, V.int .i64 0, V.int .i64 0]) rfl rfl (.box rfl rfl) rfl (.tmp (v := V.int .i64 4) rfl .nil))) (.free rfl) (by simp) (.inr rfl)
      · skip
        refine Safe.condN rfl hc14508 ?_
        repeat (first | refine Safe.seq ?_ | refine Safe.skip ?_ | with_reducible refine thenQ.n ?_ | with_reducible refine blockQ.n ?_)
        refine Safe.region ?_
        refine SafeOps.quiet0 E_good rfl rfl rfl (v := V.ptr [2] 0 10) (.fn rfl) ?_
        refine SafeOps.quiet0 E_good rfl rfl rfl (v := V.int .i64 a0_2027.Ran) (.load rfl rfl (.box rfl rfl) rfl) ?_
        refine SafeOps.quiet0 E_good rfl rfl rfl (v := V.int .i64 (IntKind.i64.wrap (a0_2027.Ran + 1))) (.fn rfl) ?_
        refine SafeOps.quiet0 E_good rfl rfl rfl (v := V.ptr [2] 0 10) (.fn rfl) ?_
        refine SafeOps.store (z := Obj.box [V.int .i64 a0_2027.Id, V.int .i64 a0_2027.Tenant, V.int .i64 a0_2027.Prog, V.int .i64 a0_2027.Pc, V.int .i64 a0_2027.Unit, V.int .i64 a0_2027.Keeps.a0, V.int .i64 a0_2027.Keeps.a1, V.int .i64 a0_2027.Keeps.a2, V.int .i64 a0_2027.Keeps.a3, V.int .i64 a0_2027.State, V.int .i64 (IntKind.i64.wrap (a0_2027.Ran + 1))]) E_good rfl rfl rfl rfl rfl rfl rfl (.boxM (c := 11) rfl rfl (Nat.le_of_ble_eq_true rfl) rfl) ?_
        refine SafeOps.nil ?_
        repeat (first | refine Safe.seq ?_ | refine Safe.skip ?_ | with_reducible refine thenQ.n ?_ | with_reducible refine blockQ.n ?_)
        refine Safe.region ?_
        refine SafeOps.quiet0 E_good rfl rfl rfl (v := V.ptr [7] 0 0) (.fn rfl) ?_
        refine SafeOps.quiet0 E_good rfl rfl rfl (v := V.int .i64 x_14503.Op) (.load rfl rfl (.box rfl rfl) rfl) ?_
        refine SafeOps.quiet0 E_good rfl rfl rfl (v := V.bool (x_14503.Op == 1)) (.fn rfl) ?_
        refine SafeOps.quiet0 E_good rfl rfl rfl (v := V.bool (x_14503.Op == 1)) (.fn rfl) ?_
        refine SafeOps.bjoin 7 44 (b := ((x_14503.Op == 1) && (decide ((IntKind.i64.wrap (a0_2027.Unit + 1)) < x_14503.A)))) (b1 := decide ((IntKind.i64.wrap (a0_2027.Unit + 1)) < x_14503.A)) (b0 := false) (fun hc14509 K => ?_) (fun hc14509 K => ?_) bj_and ?_
        · skip
          refine SafeOps.quiet0 E_good (congrArg some hc14509) rfl rfl (v := V.ptr [2] 0 4) (.fn rfl) ?_
          refine SafeOps.quiet0 E_good (congrArg some hc14509) rfl rfl (v := V.int .i64 a0_2027.Unit) (.load rfl rfl (.box rfl rfl) rfl) ?_
          refine SafeOps.quiet0 E_good (congrArg some hc14509) rfl rfl (v := V.int .i64 (IntKind.i64.wrap (a0_2027.Unit + 1))) (.fn rfl) ?_
          refine SafeOps.quiet0 E_good (congrArg some hc14509) rfl rfl (v := V.ptr [7] 0 1) (.fn rfl) ?_
          refine SafeOps.quiet0 E_good (congrArg some hc14509) rfl rfl (v := V.int .i64 x_14503.A) (.load rfl rfl (.box rfl rfl) rfl) ?_
          refine SafeOps.quiet0 E_good (congrArg some hc14509) rfl rfl (v := V.bool (decide ((IntKind.i64.wrap (a0_2027.Unit + 1)) < x_14503.A))) (.fn rfl) ?_
          refine SafeOps.quiet0 E_good rfl rfl rfl (v := V.bool (decide ((IntKind.i64.wrap (a0_2027.Unit + 1)) < x_14503.A))) (.pickK rfl hc14509 rfl) ?_
          exact SafeOps.drop' 7 rfl rfl rfl K
        · skip
          refine SafeOps.skip (congrArg some hc14509) rfl rfl ?_
          refine SafeOps.skip (congrArg some hc14509) rfl rfl ?_
          refine SafeOps.skip (congrArg some hc14509) rfl rfl ?_
          refine SafeOps.skip (congrArg some hc14509) rfl rfl ?_
          refine SafeOps.skip (congrArg some hc14509) rfl rfl ?_
          refine SafeOps.skip (congrArg some hc14509) rfl rfl ?_
          refine SafeOps.quiet0 E_good rfl rfl rfl (v := V.bool false) (.pickK rfl hc14509 rfl) ?_
          exact SafeOps.drop' 7 rfl rfl rfl K
        refine SafeOps.nil ?_
        repeat (first | refine Safe.seq ?_ | refine Safe.skip ?_ | with_reducible refine thenQ.n ?_ | with_reducible refine blockQ.n ?_)
        refine ifG h (fun hc14510 h => ?_) (fun hc14510 h => ?_)
        · skip
          refine Safe.condK rfl hc14510 ?_
          repeat (first | refine Safe.seq ?_ | refine Safe.skip ?_ | with_reducible refine thenQ.n ?_ | with_reducible refine blockQ.n ?_)
          refine Safe.region ?_
          refine SafeOps.quiet0 E_good rfl rfl rfl (v := V.ptr [2] 0 4) (.fn rfl) ?_
          refine SafeOps.quiet0 E_good rfl rfl rfl (v := V.int .i64 a0_2027.Unit) (.load rfl rfl (.box rfl rfl) rfl) ?_
          refine SafeOps.quiet0 E_good rfl rfl rfl (v := V.int .i64 (IntKind.i64.wrap (a0_2027.Unit + 1))) (.fn rfl) ?_
          refine SafeOps.quiet0 E_good rfl rfl rfl (v := V.ptr [2] 0 4) (.fn rfl) ?_
          refine SafeOps.store (z := Obj.box [V.int .i64 a0_2027.Id, V.int .i64 a0_2027.Tenant, V.int .i64 a0_2027.Prog, V.int .i64 a0_2027.Pc, V.int .i64 (IntKind.i64.wrap (a0_2027.Unit + 1)), V.int .i64 a0_2027.Keeps.a0, V.int .i64 a0_2027.Keeps.a1, V.int .i64 a0_2027.Keeps.a2, V.int .i64 a0_2027.Keeps.a3, V.int .i64 a0_2027.State, V.int .i64 (IntKind.i64.wrap (a0_2027.Ran + 1))]) E_good rfl rfl rfl rfl rfl rfl rfl (.boxM (c := 11) rfl rfl (Nat.le_of_ble_eq_true rfl) rfl) ?_
          refine SafeOps.nil ?_
          repeat (first | refine Safe.seq ?_ | refine Safe.skip ?_ | with_reducible refine thenQ.n ?_ | with_reducible refine blockQ.n ?_)
          refine Safe.region ?_
          refine SafeOps.quiet0 E_good rfl rfl rfl (v := V.agg [V.int .i64 a0_2027.Id, V.int .i64 a0_2027.Tenant, V.int .i64 a0_2027.Prog, V.int .i64 a0_2027.Pc, V.int .i64 (IntKind.i64.wrap (a0_2027.Unit + 1)), V.int .i64 a0_2027.Keeps.a0, V.int .i64 a0_2027.Keeps.a1, V.int .i64 a0_2027.Keeps.a2, V.int .i64 a0_2027.Keeps.a3, V.int .i64 a0_2027.State, V.int .i64 (IntKind.i64.wrap (a0_2027.Ran + 1))]) (.load rfl rfl (.box rfl rfl) rfl) ?_
          refine SafeOps.quiet0 E_good rfl rfl rfl (v := V.agg [V.int .i64 0, V.int .i64 0, V.int .i64 0]) (.fn rfl) ?_
          refine SafeOps.store (z := Obj.box [V.int .i64 a0_2027.Id, V.int .i64 a0_2027.Tenant, V.int .i64 a0_2027.Prog, V.int .i64 a0_2027.Pc, V.int .i64 (IntKind.i64.wrap (a0_2027.Unit + 1)), V.int .i64 a0_2027.Keeps.a0, V.int .i64 a0_2027.Keeps.a1, V.int .i64 a0_2027.Keeps.a2, V.int .i64 a0_2027.Keeps.a3, V.int .i64 a0_2027.State, V.int .i64 (IntKind.i64.wrap (a0_2027.Ran + 1))]) E_good rfl rfl rfl rfl rfl rfl rfl (.boxM (c := 11) rfl rfl (Nat.le_of_ble_eq_true rfl) rfl) ?_
          refine SafeOps.store (z := Obj.box [V.int .i64 0, V.int .i64 0, V.int .i64 0]) E_good rfl rfl rfl rfl rfl rfl rfl (.boxM (c := 3) rfl rfl (Nat.le_of_ble_eq_true rfl) rfl) ?_
          refine SafeOps.quiet0 E_good rfl rfl rfl (v := V.int .i64 0) (.fn rfl) ?_
          refine SafeOps.nil ?_
          repeat (first | refine Safe.seq ?_ | refine Safe.skip ?_ | with_reducible refine thenQ.n ?_ | with_reducible refine blockQ.n ?_)
          refine Safe.ret ?_
          repeat (first | with_reducible refine thenQ.r ?_ | with_reducible refine blockQ.r ?_)
          obtain rfl := Option.some.inj h
          exact retQ.gen (vs := [V.agg [V.int .i64 a0_2027.Id, V.int .i64 a0_2027.Tenant, V.int .i64 a0_2027.Prog, V.int .i64 a0_2027.Pc, V.int .i64 (IntKind.i64.wrap (a0_2027.Unit + 1)), V.int .i64 a0_2027.Keeps.a0, V.int .i64 a0_2027.Keeps.a1, V.int .i64 a0_2027.Keeps.a2, V.int .i64 a0_2027.Keeps.a3, V.int .i64 a0_2027.State, V.int .i64 (IntKind.i64.wrap (a0_2027.Ran + 1))], V.agg [V.int .i64 0, V.int .i64 0, V.int .i64 0], V.int .i64 0]) rfl (.cell (v := V.agg [V.int .i64 a0_2027.Id, V.int .i64 a0_2027.Tenant, V.int .i64 a0_2027.Prog, V.int .i64 a0_2027.Pc, V.int .i64 (IntKind.i64.wrap (a0_2027.Unit + 1)), V.int .i64 a0_2027.Keeps.a0, V.int .i64 a0_2027.Keeps.a1, V.int .i64 a0_2027.Keeps.a2, V.int .i64 a0_2027.Keeps.a3, V.int .i64 a0_2027.State, V.int .i64 (IntKind.i64.wrap (a0_2027.Ran + 1))]) rfl rfl (.box rfl rfl) rfl (.cell (v := V.agg [V.int .i64 0, V.int .i64 0, V.int .i64 0]) rfl rfl (.box rfl rfl) rfl (.tmp (v := V.int .i64 0) rfl .nil))) (.free rfl) (by simp) (.inr rfl)
        · skip
          refine Safe.condN rfl hc14510 ?_
          repeat (first | refine Safe.seq ?_ | refine Safe.skip ?_ | with_reducible refine thenQ.n ?_ | with_reducible refine blockQ.n ?_)
          refine Safe.region ?_
          refine SafeOps.quiet0 E_good rfl rfl rfl (v := V.ptr [2] 0 4) (.fn rfl) ?_
          refine SafeOps.store (z := Obj.box [V.int .i64 a0_2027.Id, V.int .i64 a0_2027.Tenant, V.int .i64 a0_2027.Prog, V.int .i64 a0_2027.Pc, V.int .i64 0, V.int .i64 a0_2027.Keeps.a0, V.int .i64 a0_2027.Keeps.a1, V.int .i64 a0_2027.Keeps.a2, V.int .i64 a0_2027.Keeps.a3, V.int .i64 a0_2027.State, V.int .i64 (IntKind.i64.wrap (a0_2027.Ran + 1))]) E_good rfl rfl rfl rfl rfl rfl rfl (.boxM (c := 11) rfl rfl (Nat.le_of_ble_eq_true rfl) rfl) ?_
          refine SafeOps.nil ?_
          repeat (first | refine Safe.seq ?_ | refine Safe.skip ?_ | with_reducible refine thenQ.n ?_ | with_reducible refine blockQ.n ?_)
          refine Safe.region ?_
          refine SafeOps.quiet0 E_good rfl rfl rfl (v := V.ptr [2] 0 3) (.fn rfl) ?_
          refine SafeOps.quiet0 E_good rfl rfl rfl (v := V.int .i64 a0_2027.Pc) (.load rfl rfl (.box rfl rfl) rfl) ?_
          refine SafeOps.quiet0 E_good rfl rfl rfl (v := V.sl 3 (rws api_Instr.cells a1_2028)) (.fn rfl) ?_
          refine SafeOps.quiet0 E_good rfl rfl rfl (v := V.int .i64 (a1_2028.length : Int)) (.fnE rfl lenE) ?_
          refine SafeOps.quiet0 E_good rfl rfl rfl (v := V.bool (decide (a0_2027.Pc < (a1_2028.length : Int)))) (.fn rfl) ?_
          refine SafeOps.nil ?_
          repeat (first | refine Safe.seq ?_ | refine Safe.skip ?_ | with_reducible refine thenQ.n ?_ | with_reducible refine blockQ.n ?_)
          refine Safe.joinT (fun (v23_14511 : Int) => go_ravelref13_Do_j1 a0_2027 x_14503 v23_14511 = some r) (fun (v23_14511 : Int) => ⟨Tryd.f16.ntmps, [(2, V.ptr [2] 0 0), (4, V.ptr [4] 0 0), (5, V.ptr [5] 0 0), (7, V.ptr [7] 0 0)], [([2], Obj.box [V.int .i64 a0_2027.Id, V.int .i64 a0_2027.Tenant, V.int .i64 a0_2027.Prog, V.int .i64 v23_14511, V.int .i64 0, V.int .i64 a0_2027.Keeps.a0, V.int .i64 a0_2027.Keeps.a1, V.int .i64 a0_2027.Keeps.a2, V.int .i64 a0_2027.Keeps.a3, V.int .i64 a0_2027.State, V.int .i64 (IntKind.i64.wrap (a0_2027.Ran + 1))]), ([4], Obj.box [V.int .i64 0, V.int .i64 0, V.int .i64 0, V.int .i64 0, V.int .i64 0, V.int .i64 0, V.int .i64 0, V.int .i64 0, V.int .i64 0, V.int .i64 0, V.int .i64 0]), ([5], Obj.box [V.int .i64 0, V.int .i64 0, V.int .i64 0]), ([7], Obj.box [V.int .i64 x_14503.Op, V.int .i64 x_14503.A, V.int .i64 x_14503.B])], [], []⟩) ?_ (fun HJ14512 => ?_)
          · intro v23_14511 h
            replace h : go_ravelref13_Do_j1 a0_2027 x_14503 v23_14511 = some r := h
            rw [go_ravelref13_Do_j1] at h
            repeat (first | refine Safe.seq ?_ | refine Safe.skip ?_ | with_reducible refine thenQ.n ?_ | with_reducible refine blockQ.n ?_)
            refine Safe.region ?_
            refine SafeOps.quiet0 E_good rfl rfl rfl (v := V.ptr [7] 0 0) (.fn rfl) ?_
            refine SafeOps.quiet0 E_good rfl rfl rfl (v := V.int .i64 x_14503.Op) (.load rfl rfl (.box rfl rfl) rfl) ?_
            refine SafeOps.quiet0 E_good rfl rfl rfl (v := V.bool (x_14503.Op == 1)) (.fn rfl) ?_
            refine SafeOps.nil ?_
            repeat (first | refine Safe.seq ?_ | refine Safe.skip ?_ | with_reducible refine thenQ.n ?_ | with_reducible refine blockQ.n ?_)
            refine ifG h (fun hc14513 h => ?_) (fun hc14513 h => ?_)
            · skip
              refine Safe.condK rfl hc14513 ?_
              repeat (first | refine Safe.seq ?_ | refine Safe.skip ?_ | with_reducible refine thenQ.n ?_ | with_reducible refine blockQ.n ?_)
              refine Safe.region ?_
              refine SafeOps.quiet0 E_good rfl rfl rfl (v := V.agg [V.int .i64 a0_2027.Id, V.int .i64 a0_2027.Tenant, V.int .i64 a0_2027.Prog, V.int .i64 v23_14511, V.int .i64 0, V.int .i64 a0_2027.Keeps.a0, V.int .i64 a0_2027.Keeps.a1, V.int .i64 a0_2027.Keeps.a2, V.int .i64 a0_2027.Keeps.a3, V.int .i64 a0_2027.State, V.int .i64 (IntKind.i64.wrap (a0_2027.Ran + 1))]) (.load rfl rfl (.box rfl rfl) rfl) ?_
              refine SafeOps.quiet0 E_good rfl rfl rfl (v := V.agg [V.int .i64 0, V.int .i64 0, V.int .i64 0]) (.fn rfl) ?_
              refine SafeOps.store (z := Obj.box [V.int .i64 a0_2027.Id, V.int .i64 a0_2027.Tenant, V.int .i64 a0_2027.Prog, V.int .i64 v23_14511, V.int .i64 0, V.int .i64 a0_2027.Keeps.a0, V.int .i64 a0_2027.Keeps.a1, V.int .i64 a0_2027.Keeps.a2, V.int .i64 a0_2027.Keeps.a3, V.int .i64 a0_2027.State, V.int .i64 (IntKind.i64.wrap (a0_2027.Ran + 1))]) E_good rfl rfl rfl rfl rfl rfl rfl (.boxM (c := 11) rfl rfl (Nat.le_of_ble_eq_true rfl) rfl) ?_
              refine SafeOps.store (z := Obj.box [V.int .i64 0, V.int .i64 0, V.int .i64 0]) E_good rfl rfl rfl rfl rfl rfl rfl (.boxM (c := 3) rfl rfl (Nat.le_of_ble_eq_true rfl) rfl) ?_
              refine SafeOps.quiet0 E_good rfl rfl rfl (v := V.int .i64 0) (.fn rfl) ?_
              refine SafeOps.nil ?_
              repeat (first | refine Safe.seq ?_ | refine Safe.skip ?_ | with_reducible refine thenQ.n ?_ | with_reducible refine blockQ.n ?_)
              refine Safe.ret ?_
              repeat (first | with_reducible refine thenQ.r ?_ | with_reducible refine blockQ.r ?_)
              obtain rfl := Option.some.inj h
              exact retQ.gen (vs := [V.agg [V.int .i64 a0_2027.Id, V.int .i64 a0_2027.Tenant, V.int .i64 a0_2027.Prog, V.int .i64 v23_14511, V.int .i64 0, V.int .i64 a0_2027.Keeps.a0, V.int .i64 a0_2027.Keeps.a1, V.int .i64 a0_2027.Keeps.a2, V.int .i64 a0_2027.Keeps.a3, V.int .i64 a0_2027.State, V.int .i64 (IntKind.i64.wrap (a0_2027.Ran + 1))], V.agg [V.int .i64 0, V.int .i64 0, V.int .i64 0], V.int .i64 0]) rfl (.cell (v := V.agg [V.int .i64 a0_2027.Id, V.int .i64 a0_2027.Tenant, V.int .i64 a0_2027.Prog, V.int .i64 v23_14511, V.int .i64 0, V.int .i64 a0_2027.Keeps.a0, V.int .i64 a0_2027.Keeps.a1, V.int .i64 a0_2027.Keeps.a2, V.int .i64 a0_2027.Keeps.a3, V.int .i64 a0_2027.State, V.int .i64 (IntKind.i64.wrap (a0_2027.Ran + 1))]) rfl rfl (.box rfl rfl) rfl (.cell (v := V.agg [V.int .i64 0, V.int .i64 0, V.int .i64 0]) rfl rfl (.box rfl rfl) rfl (.tmp (v := V.int .i64 0) rfl .nil))) (.free rfl) (by simp) (.inr rfl)
            · skip
              refine Safe.condN rfl hc14513 ?_
              repeat (first | refine Safe.seq ?_ | refine Safe.skip ?_ | with_reducible refine thenQ.n ?_ | with_reducible refine blockQ.n ?_)
              refine Safe.regionD (n := 11) [(8, [4]), (9, [5])] [] E_good mixed rfl ?_
              refine DAny.take (i := 0) rfl (by kernel_rfl) [[4], [5]] (by kernel_rfl) (by kernel_rfl) (by kernel_rfl) rfl rfl rfl (v := V.agg [V.int .i64 a0_2027.Id, V.int .i64 a0_2027.Tenant, V.int .i64 a0_2027.Prog, V.int .i64 v23_14511, V.int .i64 0, V.int .i64 a0_2027.Keeps.a0, V.int .i64 a0_2027.Keeps.a1, V.int .i64 a0_2027.Keeps.a2, V.int .i64 a0_2027.Keeps.a3, V.int .i64 a0_2027.State, V.int .i64 (IntKind.i64.wrap (a0_2027.Ran + 1))]) (fun _ hz => (.load rfl rfl (.box (hz _ _ rfl rfl) rfl) rfl)) ?_
              refine DAny.take (i := 1) rfl (by kernel_rfl) [[4], [5]] (by kernel_rfl) (by kernel_rfl) (by kernel_rfl) rfl rfl rfl (v := V.ptr [7] 0 0) (fun _ hz => (.fn rfl)) ?_
              refine DAny.take (i := 2) rfl (by kernel_rfl) [[4], [5]] (by kernel_rfl) (by kernel_rfl) (by kernel_rfl) rfl rfl rfl (v := V.int .i64 x_14503.Op) (fun _ hz => (.load rfl rfl (.box (hz _ _ rfl rfl) rfl) rfl)) ?_
              refine DAny.take (i := 3) rfl (by kernel_rfl) [[4], [5]] (by kernel_rfl) (by kernel_rfl) (by kernel_rfl) rfl rfl rfl (v := V.ptr [7] 0 1) (fun _ hz => (.fn rfl)) ?_
              refine DAny.take (i := 4) rfl (by kernel_rfl) [[4], [5]] (by kernel_rfl) (by kernel_rfl) (by kernel_rfl) rfl rfl rfl (v := V.int .i64 x_14503.A) (fun _ hz => (.load rfl rfl (.box (hz _ _ rfl rfl) rfl) rfl)) ?_
              refine DAny.take (i := 5) rfl (by kernel_rfl) [[4], [5]] (by kernel_rfl) (by kernel_rfl) (by kernel_rfl) rfl rfl rfl (v := V.ptr [7] 0 2) (fun _ hz => (.fn rfl)) ?_
              refine DAny.take (i := 6) rfl (by kernel_rfl) [[4], [5]] (by kernel_rfl) (by kernel_rfl) (by kernel_rfl) rfl rfl rfl (v := V.int .i64 x_14503.B) (fun _ hz => (.load rfl rfl (.box (hz _ _ rfl rfl) rfl) rfl)) ?_
              refine DAny.take (i := 7) rfl (by kernel_rfl) [[4], [5]] (by kernel_rfl) (by kernel_rfl) (by kernel_rfl) rfl rfl rfl (v := V.agg [V.int .i64 x_14503.Op, V.int .i64 x_14503.A, V.int .i64 x_14503.B]) (fun _ hz => (.fn rfl)) ?_
              refine DAny.only (i := 8) rfl (by kernel_rfl) (.store (z := Obj.box [V.int .i64 a0_2027.Id, V.int .i64 a0_2027.Tenant, V.int .i64 a0_2027.Prog, V.int .i64 v23_14511, V.int .i64 0, V.int .i64 a0_2027.Keeps.a0, V.int .i64 a0_2027.Keeps.a1, V.int .i64 a0_2027.Keeps.a2, V.int .i64 a0_2027.Keeps.a3, V.int .i64 a0_2027.State, V.int .i64 (IntKind.i64.wrap (a0_2027.Ran + 1))]) rfl rfl rfl rfl rfl rfl rfl (.boxM (c := 11) rfl rfl (Nat.le_of_ble_eq_true rfl) rfl) rfl ?_)
              refine DAny.only (i := 9) rfl (by kernel_rfl) (.store (z := Obj.box [V.int .i64 x_14503.Op, V.int .i64 x_14503.A, V.int .i64 x_14503.B]) rfl rfl rfl rfl rfl rfl rfl (.boxM (c := 3) rfl rfl (Nat.le_of_ble_eq_true rfl) rfl) rfl ?_)
              refine DAny.take (i := 10) rfl (by kernel_rfl) [[4], [5]] (by kernel_rfl) (by kernel_rfl) (by kernel_rfl) rfl rfl rfl (v := V.int .i64 0) (fun _ hz => (.fn rfl)) ?_
              refine DAny.nil (by kernel_rfl) ?_
              repeat (first | refine Safe.seq ?_ | refine Safe.skip ?_ | with_reducible refine thenQ.n ?_ | with_reducible refine blockQ.n ?_)
              refine Safe.ret ?_
              repeat (first | with_reducible refine thenQ.r ?_ | with_reducible refine blockQ.r ?_)
              obtain rfl := Option.some.inj h
              exact retQ.gen (vs := [V.agg [V.int .i64 a0_2027.Id, V.int .i64 a0_2027.Tenant, V.int .i64 a0_2027.Prog, V.int .i64 v23_14511, V.int .i64 0, V.int .i64 a0_2027.Keeps.a0, V.int .i64 a0_2027.Keeps.a1, V.int .i64 a0_2027.Keeps.a2, V.int .i64 a0_2027.Keeps.a3, V.int .i64 a0_2027.State, V.int .i64 (IntKind.i64.wrap (a0_2027.Ran + 1))], V.agg [V.int .i64 x_14503.Op, V.int .i64 x_14503.A, V.int .i64 x_14503.B], V.int .i64 0]) rfl (.cell (v := V.agg [V.int .i64 a0_2027.Id, V.int .i64 a0_2027.Tenant, V.int .i64 a0_2027.Prog, V.int .i64 v23_14511, V.int .i64 0, V.int .i64 a0_2027.Keeps.a0, V.int .i64 a0_2027.Keeps.a1, V.int .i64 a0_2027.Keeps.a2, V.int .i64 a0_2027.Keeps.a3, V.int .i64 a0_2027.State, V.int .i64 (IntKind.i64.wrap (a0_2027.Ran + 1))]) rfl rfl (.box rfl rfl) rfl (.cell (v := V.agg [V.int .i64 x_14503.Op, V.int .i64 x_14503.A, V.int .i64 x_14503.B]) rfl rfl (.box rfl rfl) rfl (.tmp (v := V.int .i64 0) rfl .nil))) (.free rfl) (by simp) (.inr rfl)
          · skip
            refine ifG h (fun hc14514 h => ?_) (fun hc14514 h => ?_)
            · skip
              refine Safe.condK rfl hc14514 ?_
              repeat (first | refine Safe.seq ?_ | refine Safe.skip ?_ | with_reducible refine thenQ.n ?_ | with_reducible refine blockQ.n ?_)
              refine Safe.region ?_
              refine SafeOps.quiet0 E_good rfl rfl rfl (v := V.ptr [2] 0 3) (.fn rfl) ?_
              refine SafeOps.quiet0 E_good rfl rfl rfl (v := V.int .i64 a0_2027.Pc) (.load rfl rfl (.box rfl rfl) rfl) ?_
              refine SafeOps.quiet0 E_good rfl rfl rfl (v := V.int .i64 (IntKind.i64.wrap (a0_2027.Pc + 1))) (.fn rfl) ?_
              refine SafeOps.quiet0 E_good rfl rfl rfl (v := V.ptr [2] 0 3) (.fn rfl) ?_
              refine SafeOps.store (z := Obj.box [V.int .i64 a0_2027.Id, V.int .i64 a0_2027.Tenant, V.int .i64 a0_2027.Prog, V.int .i64 (IntKind.i64.wrap (a0_2027.Pc + 1)), V.int .i64 0, V.int .i64 a0_2027.Keeps.a0, V.int .i64 a0_2027.Keeps.a1, V.int .i64 a0_2027.Keeps.a2, V.int .i64 a0_2027.Keeps.a3, V.int .i64 a0_2027.State, V.int .i64 (IntKind.i64.wrap (a0_2027.Ran + 1))]) E_good rfl rfl rfl rfl rfl rfl rfl (.boxM (c := 11) rfl rfl (Nat.le_of_ble_eq_true rfl) rfl) ?_
              refine SafeOps.nil ?_
              repeat (first | refine Safe.skip ?_ | with_reducible refine thenQ.n ?_ | with_reducible refine blockQ.n ?_)
              exact Safe.got (HJ14512 (IntKind.i64.wrap (a0_2027.Pc + 1)) h) (.cov ⟨rfl, rfl, (upT_cons (.refl _) (upT_cons (.refl _) (upT_cons (.refl _) (upT_cons (.refl _) upT_nil)))), (upOb_cons rfl (.refl _) (upOb_cons rfl (.refl _) (upOb_cons rfl (.refl _) (upOb_cons rfl (.refl _) upOb_nil)))), upOut_nil, rfl⟩)
            · skip
              refine Safe.condN rfl hc14514 ?_
              repeat (first | refine Safe.skip ?_ | with_reducible refine thenQ.n ?_ | with_reducible refine blockQ.n ?_)
              exact Safe.got (HJ14512 (a0_2027.Pc) h) (.cov ⟨rfl, rfl, (upT_cons (.refl _) (upT_cons (.refl _) (upT_cons (.refl _) (upT_cons (.refl _) upT_nil)))), (upOb_cons rfl (.refl _) (upOb_cons rfl (.refl _) (upOb_cons rfl (.refl _) (upOb_cons rfl (.refl _) upOb_nil)))), upOut_nil, rfl⟩)

noncomputable def go_ravelref13_Slice_s2 (a1_14525 : List api_Instr) (a2_14526 : Int) : (Int × Int × Int × Int × Int × Int × Int × Int × Int × Int × Int × Int) → Option ((Int × Int × Int × Int × Int × Int × Int × Int × Int × Int × Int × Int) ⊕ (api_Task × api_Effect × Int × Int))
  | (v10_14701, v30_14702, v31_14703, v32_14704, v33_14705, v34_14706, v35_14707, v36_14708, v37_14709, v38_14710, v39_14711, v310_14712) =>
    if (decide (v10_14701 ≤ a2_14526)) = true then
      (go_ravelref13_Do (api_Task.mk v30_14702 v31_14703 v32_14704 v33_14705 v34_14706 (A4_Int.mk v35_14707 v36_14708 v37_14709 v38_14710) v39_14711 v310_14712) a1_14525).bind fun (x_14715, x_14716, x_14717) =>
      if (x_14717 != 0) = true then
        inrO (
          some (api_Task.zero, api_Effect.zero, 0, x_14717))
      else
        if (x_14716.Kind != 0) = true then
          inrO (
            some (x_14715, x_14716, v10_14701, 0))
        else
          nextO (IntKind.i64.wrap (v10_14701 + 1), x_14715.Id, x_14715.Tenant, x_14715.Prog, x_14715.Pc, x_14715.Unit, x_14715.Keeps.a0, x_14715.Keeps.a1, x_14715.Keeps.a2, x_14715.Keeps.a3, x_14715.State, x_14715.Ran)
    else
      inrO (
        some ((api_Task.mk v30_14702 v31_14703 v32_14704 v33_14705 v34_14706 (A4_Int.mk v35_14707 v36_14708 v37_14709 v38_14710) v39_14711 v310_14712), api_Effect.zero, a2_14526, 0))

noncomputable def go_ravelref13_Slice (a0_14524 : api_Task) (a1_14525 : List api_Instr) (a2_14526 : Int) : Option (api_Task × api_Effect × Int × Int) :=
  (go_ravelref13_Fits a0_14524 a1_14525).bind fun x_14624 =>
  if (((!x_14624) || (decide (a2_14526 < 1))) || (decide (a2_14526 > 100))) = true then
    some (api_Task.zero, api_Effect.zero, 0, 1)
  else
    whileO (go_ravelref13_Slice_s2 a1_14525 a2_14526) (1, a0_14524.Id, a0_14524.Tenant, a0_14524.Prog, a0_14524.Pc, a0_14524.Unit, a0_14524.Keeps.a0, a0_14524.Keeps.a1, a0_14524.Keeps.a2, a0_14524.Keeps.a3, a0_14524.State, a0_14524.Ran)

theorem go_ravelref13_Slice_sc (a0_14524 : api_Task) (a1_14525 : List api_Instr) (a2_14526 : Int) (r : api_Task × api_Effect × Int × Int) (h : go_ravelref13_Slice a0_14524 a1_14525 a2_14526 = some r) : SC Tryd.prog gl 17 [V.agg [V.int .i64 a0_14524.Id, V.int .i64 a0_14524.Tenant, V.int .i64 a0_14524.Prog, V.int .i64 a0_14524.Pc, V.int .i64 a0_14524.Unit, V.int .i64 a0_14524.Keeps.a0, V.int .i64 a0_14524.Keeps.a1, V.int .i64 a0_14524.Keeps.a2, V.int .i64 a0_14524.Keeps.a3, V.int .i64 a0_14524.State, V.int .i64 a0_14524.Ran], V.sl 3 (rws api_Instr.cells a1_14525), V.int .i64 a2_14526] (V.tup [V.agg [V.int .i64 r.1.Id, V.int .i64 r.1.Tenant, V.int .i64 r.1.Prog, V.int .i64 r.1.Pc, V.int .i64 r.1.Unit, V.int .i64 r.1.Keeps.a0, V.int .i64 r.1.Keeps.a1, V.int .i64 r.1.Keeps.a2, V.int .i64 r.1.Keeps.a3, V.int .i64 r.1.State, V.int .i64 r.1.Ran], V.agg [V.int .i64 r.2.1.Kind, V.int .i64 r.2.1.A, V.int .i64 r.2.1.B], V.int .i64 r.2.2.1, V.int .i64 r.2.2.2]) := by
  rw [go_ravelref13_Slice] at h
  refine SC.of E_good Tryd.func17 rfl (fun _ _ => Tryd.call17 _ _) rfl ?_
  repeat (first | refine Safe.seq ?_ | refine Safe.skip ?_ | with_reducible refine thenQ.n ?_ | with_reducible refine blockQ.n ?_)
  refine Safe.region ?_
  refine SafeOps.quiet1 E_good rfl rfl rfl (.box rfl rfl) rfl ?_
  refine SafeOps.quiet1 E_good rfl rfl rfl (.alloc rfl rfl) rfl ?_
  refine SafeOps.quiet1 E_good rfl rfl rfl (.alloc rfl rfl) rfl ?_
  refine SafeOps.quiet0 E_good rfl rfl rfl (v := V.int .i64 0) (.fn rfl) ?_
  refine SafeOps.quiet0 E_good rfl rfl rfl (v := V.int .i64 0) (.fn rfl) ?_
  refine SafeOps.nil ?_
  repeat (first | refine Safe.seq ?_ | refine Safe.skip ?_ | with_reducible refine thenQ.n ?_ | with_reducible refine blockQ.n ?_)
  refine Safe.region ?_
  refine SafeOps.quiet0 E_good rfl rfl rfl (v := V.agg [V.int .i64 a0_14524.Id, V.int .i64 a0_14524.Tenant, V.int .i64 a0_14524.Prog, V.int .i64 a0_14524.Pc, V.int .i64 a0_14524.Unit, V.int .i64 a0_14524.Keeps.a0, V.int .i64 a0_14524.Keeps.a1, V.int .i64 a0_14524.Keeps.a2, V.int .i64 a0_14524.Keeps.a3, V.int .i64 a0_14524.State, V.int .i64 a0_14524.Ran]) (.load rfl rfl (.box rfl rfl) rfl) ?_
  refine SafeOps.quiet0 E_good rfl rfl rfl (v := V.sl 3 (rws api_Instr.cells a1_14525)) (.fn rfl) ?_
  refine bindG h ?_
  intro x_14624 he14625 h
  refine SafeOps.quiet0 E_good rfl rfl rfl (v := V.bool x_14624) (.callP rfl rfl (go_ravelref13_Fits_sc a0_14524 a1_14525 _ he14625) rfl) ?_
  refine SafeOps.quiet0 E_good rfl rfl rfl (v := V.bool (!x_14624)) (.fn rfl) ?_
  refine SafeOps.quiet0 E_good rfl rfl rfl (v := V.bool (!x_14624)) (.fn rfl) ?_
  refine SafeOps.bjoin 3 21 (b := ((!x_14624) || (decide (a2_14526 < 1)))) (b1 := true) (b0 := decide (a2_14526 < 1)) (fun hc14626 K => ?_) (fun hc14626 K => ?_) bj_or ?_
  · skip
    refine SafeOps.skip (congrArg (fun b => some (!b)) hc14626) rfl rfl ?_
    refine SafeOps.skip (congrArg (fun b => some (!b)) hc14626) rfl rfl ?_
    refine SafeOps.quiet0 E_good rfl rfl rfl (v := V.bool true) (.pickK rfl hc14626 rfl) ?_
    exact SafeOps.drop' 3 rfl rfl rfl K
  · skip
    refine SafeOps.quiet0 E_good (congrArg (fun b => some (!b)) hc14626) rfl rfl (v := V.int .i64 a2_14526) (.fn rfl) ?_
    refine SafeOps.quiet0 E_good (congrArg (fun b => some (!b)) hc14626) rfl rfl (v := V.bool (decide (a2_14526 < 1))) (.fn rfl) ?_
    refine SafeOps.quiet0 E_good rfl rfl rfl (v := V.bool (decide (a2_14526 < 1))) (.pickK rfl hc14626 rfl) ?_
    exact SafeOps.drop' 3 rfl rfl rfl K
  refine SafeOps.quiet0 E_good rfl rfl rfl (v := V.bool ((!x_14624) || (decide (a2_14526 < 1)))) (.fn rfl) ?_
  refine SafeOps.bjoin 3 25 (b := (((!x_14624) || (decide (a2_14526 < 1))) || (decide (a2_14526 > 100)))) (b1 := true) (b0 := decide (a2_14526 > 100)) (fun hc14627 K => ?_) (fun hc14627 K => ?_) bj_or ?_
  · skip
    refine SafeOps.skip (congrArg (fun b => some (!b)) hc14627) rfl rfl ?_
    refine SafeOps.skip (congrArg (fun b => some (!b)) hc14627) rfl rfl ?_
    refine SafeOps.quiet0 E_good rfl rfl rfl (v := V.bool true) (.pickK rfl hc14627 rfl) ?_
    exact SafeOps.drop' 3 rfl rfl rfl K
  · skip
    refine SafeOps.quiet0 E_good (congrArg (fun b => some (!b)) hc14627) rfl rfl (v := V.int .i64 a2_14526) (.fn rfl) ?_
    refine SafeOps.quiet0 E_good (congrArg (fun b => some (!b)) hc14627) rfl rfl (v := V.bool (decide (a2_14526 > 100))) (.fn rfl) ?_
    refine SafeOps.quiet0 E_good rfl rfl rfl (v := V.bool (decide (a2_14526 > 100))) (.pickK rfl hc14627 rfl) ?_
    exact SafeOps.drop' 3 rfl rfl rfl K
  refine SafeOps.nil ?_
  repeat (first | refine Safe.seq ?_ | refine Safe.skip ?_ | with_reducible refine thenQ.n ?_ | with_reducible refine blockQ.n ?_)
  refine ifG h (fun hc14628 h => ?_) (fun hc14628 h => ?_)
  · skip
    refine Safe.condK rfl hc14628 ?_
    repeat (first | refine Safe.seq ?_ | refine Safe.skip ?_ | with_reducible refine thenQ.n ?_ | with_reducible refine blockQ.n ?_)
    refine Safe.region ?_
    refine SafeOps.quiet0 E_good rfl rfl rfl (v := V.agg [V.int .i64 0, V.int .i64 0, V.int .i64 0, V.int .i64 0, V.int .i64 0, V.int .i64 0, V.int .i64 0, V.int .i64 0, V.int .i64 0, V.int .i64 0, V.int .i64 0]) (.fn rfl) ?_
    refine SafeOps.quiet0 E_good rfl rfl rfl (v := V.agg [V.int .i64 0, V.int .i64 0, V.int .i64 0]) (.fn rfl) ?_
    refine SafeOps.store (z := Obj.box [V.int .i64 0, V.int .i64 0, V.int .i64 0, V.int .i64 0, V.int .i64 0, V.int .i64 0, V.int .i64 0, V.int .i64 0, V.int .i64 0, V.int .i64 0, V.int .i64 0]) E_good rfl rfl rfl rfl rfl rfl rfl (.boxM (c := 11) rfl rfl (Nat.le_of_ble_eq_true rfl) rfl) ?_
    refine SafeOps.store (z := Obj.box [V.int .i64 0, V.int .i64 0, V.int .i64 0]) E_good rfl rfl rfl rfl rfl rfl rfl (.boxM (c := 3) rfl rfl (Nat.le_of_ble_eq_true rfl) rfl) ?_
    refine SafeOps.quiet0 E_good rfl rfl rfl (v := V.int .i64 0) (.fn rfl) ?_
    refine SafeOps.quiet0 E_good rfl rfl rfl (v := V.int .i64 1) (.fn rfl) ?_
    refine SafeOps.nil ?_
    repeat (first | refine Safe.seq ?_ | refine Safe.skip ?_ | with_reducible refine thenQ.n ?_ | with_reducible refine blockQ.n ?_)
    refine Safe.ret ?_
    repeat (first | with_reducible refine thenQ.r ?_ | with_reducible refine blockQ.r ?_)
    obtain rfl := Option.some.inj h
    exact retQ.gen (vs := [V.agg [V.int .i64 0, V.int .i64 0, V.int .i64 0, V.int .i64 0, V.int .i64 0, V.int .i64 0, V.int .i64 0, V.int .i64 0, V.int .i64 0, V.int .i64 0, V.int .i64 0], V.agg [V.int .i64 0, V.int .i64 0, V.int .i64 0], V.int .i64 0, V.int .i64 1]) rfl (.cell (v := V.agg [V.int .i64 0, V.int .i64 0, V.int .i64 0, V.int .i64 0, V.int .i64 0, V.int .i64 0, V.int .i64 0, V.int .i64 0, V.int .i64 0, V.int .i64 0, V.int .i64 0]) rfl rfl (.box rfl rfl) rfl (.cell (v := V.agg [V.int .i64 0, V.int .i64 0, V.int .i64 0]) rfl rfl (.box rfl rfl) rfl (.tmp (v := V.int .i64 0) rfl (.tmp (v := V.int .i64 1) rfl .nil)))) (.free rfl) (by simp) (.inr rfl)
  · skip
    refine Safe.condN rfl hc14628 ?_
    repeat (first | refine Safe.seq ?_ | refine Safe.skip ?_ | with_reducible refine thenQ.n ?_ | with_reducible refine blockQ.n ?_)
    refine Safe.region ?_
    refine SafeOps.quiet0 E_good rfl rfl rfl (v := V.int .i64 1) (.fn rfl) ?_
    refine SafeOps.nil ?_
    repeat (first | refine Safe.seq ?_ | refine Safe.skip ?_ | with_reducible refine thenQ.n ?_ | with_reducible refine blockQ.n ?_)
    refine Safe.block ?_
    repeat (first | refine Safe.seq ?_ | refine Safe.skip ?_ | with_reducible refine thenQ.n ?_ | with_reducible refine blockQ.n ?_)
    refine Safe.loopW (fun ((v10_14701, v30_14702, v31_14703, v32_14704, v33_14705, v34_14706, v35_14707, v36_14708, v37_14709, v38_14710, v39_14711, v310_14712) : Int × Int × Int × Int × Int × Int × Int × Int × Int × Int × Int × Int) => ⟨Tryd.f17.ntmps, [(1, V.sl 3 (rws api_Instr.cells a1_14525)), (2, V.int .i64 a2_14526), (3, V.ptr [3] 0 0), (6, V.ptr [6] 0 0), (7, V.ptr [7] 0 0), (10, V.int .i64 v10_14701)], [([3], Obj.box [V.int .i64 v30_14702, V.int .i64 v31_14703, V.int .i64 v32_14704, V.int .i64 v33_14705, V.int .i64 v34_14706, V.int .i64 v35_14707, V.int .i64 v36_14708, V.int .i64 v37_14709, V.int .i64 v38_14710, V.int .i64 v39_14711, V.int .i64 v310_14712]), ([6], Obj.box [V.int .i64 0, V.int .i64 0, V.int .i64 0, V.int .i64 0, V.int .i64 0, V.int .i64 0, V.int .i64 0, V.int .i64 0, V.int .i64 0, V.int .i64 0, V.int .i64 0]), ([7], Obj.box [V.int .i64 0, V.int .i64 0, V.int .i64 0])], [], []⟩) h (.cov ⟨rfl, rfl, (upT_cons (.refl _) (upT_cons (.refl _) (upT_cons (.refl _) (upT_cons (.refl _) (upT_cons (.refl _) (upT_cons (.refl _) upT_nil)))))), (upOb_cons rfl (.refl _) (upOb_cons rfl (.refl _) (upOb_cons rfl (.refl _) upOb_nil))), upOut_nil, rfl⟩) ?_
    rintro ⟨v10_14701, v30_14702, v31_14703, v32_14704, v33_14705, v34_14706, v35_14707, v36_14708, v37_14709, v38_14710, v39_14711, v310_14712⟩ ohr14713 h hr14713
    replace h : go_ravelref13_Slice_s2 a1_14525 a2_14526 (v10_14701, v30_14702, v31_14703, v32_14704, v33_14705, v34_14706, v35_14707, v36_14708, v37_14709, v38_14710, v39_14711, v310_14712) = some ohr14713 := h
    rw [go_ravelref13_Slice_s2] at h
    repeat (first | refine Safe.seq ?_ | refine Safe.skip ?_ | with_reducible refine thenQ.n ?_ | with_reducible refine blockQ.n ?_)
    refine Safe.region ?_
    refine SafeOps.quiet0 E_good rfl rfl rfl (v := V.int .i64 v10_14701) (.fn rfl) ?_
    refine SafeOps.quiet0 E_good rfl rfl rfl (v := V.int .i64 a2_14526) (.fn rfl) ?_
    refine SafeOps.quiet0 E_good rfl rfl rfl (v := V.bool (decide (v10_14701 ≤ a2_14526))) (.fn rfl) ?_
    refine SafeOps.nil ?_
    repeat (first | refine Safe.seq ?_ | refine Safe.skip ?_ | with_reducible refine thenQ.n ?_ | with_reducible refine blockQ.n ?_)
    refine ifG h (fun hc14714 h => ?_) (fun hc14714 h => ?_)
    · skip
      refine Safe.condK rfl hc14714 ?_
      repeat (first | refine Safe.seq ?_ | refine Safe.skip ?_ | with_reducible refine thenQ.n ?_ | with_reducible refine blockQ.n ?_)
      refine Safe.block ?_
      repeat (first | refine Safe.seq ?_ | refine Safe.skip ?_ | with_reducible refine thenQ.n ?_ | with_reducible refine blockQ.n ?_)
      refine Safe.region ?_
      refine SafeOps.quiet0 E_good rfl rfl rfl (v := V.agg [V.int .i64 v30_14702, V.int .i64 v31_14703, V.int .i64 v32_14704, V.int .i64 v33_14705, V.int .i64 v34_14706, V.int .i64 v35_14707, V.int .i64 v36_14708, V.int .i64 v37_14709, V.int .i64 v38_14710, V.int .i64 v39_14711, V.int .i64 v310_14712]) (.load rfl rfl (.box rfl rfl) rfl) ?_
      refine SafeOps.quiet0 E_good rfl rfl rfl (v := V.sl 3 (rws api_Instr.cells a1_14525)) (.fn rfl) ?_
      refine bindG h ?_
      rintro ⟨x_14715, x_14716, x_14717⟩ he14718 h
      refine SafeOps.quiet0 E_good rfl rfl rfl (v := V.tup [V.agg [V.int .i64 x_14715.Id, V.int .i64 x_14715.Tenant, V.int .i64 x_14715.Prog, V.int .i64 x_14715.Pc, V.int .i64 x_14715.Unit, V.int .i64 x_14715.Keeps.a0, V.int .i64 x_14715.Keeps.a1, V.int .i64 x_14715.Keeps.a2, V.int .i64 x_14715.Keeps.a3, V.int .i64 x_14715.State, V.int .i64 x_14715.Ran], V.agg [V.int .i64 x_14716.Kind, V.int .i64 x_14716.A, V.int .i64 x_14716.B], V.int .i64 x_14717]) (.callP rfl rfl (go_ravelref13_Do_sc (api_Task.mk v30_14702 v31_14703 v32_14704 v33_14705 v34_14706 (A4_Int.mk v35_14707 v36_14708 v37_14709 v38_14710) v39_14711 v310_14712) a1_14525 _ he14718) rfl) ?_
      refine SafeOps.quiet0 E_good rfl rfl rfl (v := V.tup [V.agg [V.int .i64 x_14715.Id, V.int .i64 x_14715.Tenant, V.int .i64 x_14715.Prog, V.int .i64 x_14715.Pc, V.int .i64 x_14715.Unit, V.int .i64 x_14715.Keeps.a0, V.int .i64 x_14715.Keeps.a1, V.int .i64 x_14715.Keeps.a2, V.int .i64 x_14715.Keeps.a3, V.int .i64 x_14715.State, V.int .i64 x_14715.Ran], V.agg [V.int .i64 x_14716.Kind, V.int .i64 x_14716.A, V.int .i64 x_14716.B], V.int .i64 x_14717]) (.fn rfl) ?_
      refine SafeOps.quiet0 E_good rfl rfl rfl (v := V.agg [V.int .i64 x_14715.Id, V.int .i64 x_14715.Tenant, V.int .i64 x_14715.Prog, V.int .i64 x_14715.Pc, V.int .i64 x_14715.Unit, V.int .i64 x_14715.Keeps.a0, V.int .i64 x_14715.Keeps.a1, V.int .i64 x_14715.Keeps.a2, V.int .i64 x_14715.Keeps.a3, V.int .i64 x_14715.State, V.int .i64 x_14715.Ran]) (.fn rfl) ?_
      refine SafeOps.quiet0 E_good rfl rfl rfl (v := V.agg [V.int .i64 x_14716.Kind, V.int .i64 x_14716.A, V.int .i64 x_14716.B]) (.fn rfl) ?_
      refine SafeOps.quiet0 E_good rfl rfl rfl (v := V.int .i64 x_14717) (.fn rfl) ?_
      refine SafeOps.quiet1 E_good rfl rfl rfl (.alloc rfl rfl) rfl ?_
      refine SafeOps.quiet1 E_good rfl rfl rfl (.alloc rfl rfl) rfl ?_
      refine SafeOps.store (z := Obj.box [V.int .i64 x_14715.Id, V.int .i64 x_14715.Tenant, V.int .i64 x_14715.Prog, V.int .i64 x_14715.Pc, V.int .i64 x_14715.Unit, V.int .i64 x_14715.Keeps.a0, V.int .i64 x_14715.Keeps.a1, V.int .i64 x_14715.Keeps.a2, V.int .i64 x_14715.Keeps.a3, V.int .i64 x_14715.State, V.int .i64 x_14715.Ran]) E_good rfl rfl rfl rfl rfl rfl rfl (.boxM (c := 11) rfl rfl (Nat.le_of_ble_eq_true rfl) rfl) ?_
      refine SafeOps.store (z := Obj.box [V.int .i64 x_14716.Kind, V.int .i64 x_14716.A, V.int .i64 x_14716.B]) E_good rfl rfl rfl rfl rfl rfl rfl (.boxM (c := 3) rfl rfl (Nat.le_of_ble_eq_true rfl) rfl) ?_
      refine SafeOps.quiet0 E_good rfl rfl rfl (v := V.int .i64 x_14717) (.fn rfl) ?_
      refine SafeOps.nil ?_
      repeat (first | refine Safe.seq ?_ | refine Safe.skip ?_ | with_reducible refine thenQ.n ?_ | with_reducible refine blockQ.n ?_)
      refine Safe.region ?_
      refine SafeOps.quiet0 E_good rfl rfl rfl (v := V.int .i64 x_14717) (.fn rfl) ?_
      refine SafeOps.quiet0 E_good rfl rfl rfl (v := V.bool (x_14717 != 0)) (.fn rfl) ?_
      refine SafeOps.nil ?_
      repeat (first | refine Safe.seq ?_ | refine Safe.skip ?_ | with_reducible refine thenQ.n ?_ | with_reducible refine blockQ.n ?_)
      refine ifG h (fun hc14719 h => ?_) (fun hc14719 h => ?_)
      · skip
        refine Safe.condK rfl hc14719 ?_
        repeat (first | refine Safe.seq ?_ | refine Safe.skip ?_ | with_reducible refine thenQ.n ?_ | with_reducible refine blockQ.n ?_)
        refine Safe.region ?_
        refine SafeOps.quiet0 E_good rfl rfl rfl (v := V.agg [V.int .i64 0, V.int .i64 0, V.int .i64 0, V.int .i64 0, V.int .i64 0, V.int .i64 0, V.int .i64 0, V.int .i64 0, V.int .i64 0, V.int .i64 0, V.int .i64 0]) (.fn rfl) ?_
        refine SafeOps.quiet0 E_good rfl rfl rfl (v := V.agg [V.int .i64 0, V.int .i64 0, V.int .i64 0]) (.fn rfl) ?_
        refine SafeOps.quiet0 E_good rfl rfl rfl (v := V.int .i64 x_14717) (.fn rfl) ?_
        refine SafeOps.store (z := Obj.box [V.int .i64 0, V.int .i64 0, V.int .i64 0, V.int .i64 0, V.int .i64 0, V.int .i64 0, V.int .i64 0, V.int .i64 0, V.int .i64 0, V.int .i64 0, V.int .i64 0]) E_good rfl rfl rfl rfl rfl rfl rfl (.boxM (c := 11) rfl rfl (Nat.le_of_ble_eq_true rfl) rfl) ?_
        refine SafeOps.store (z := Obj.box [V.int .i64 0, V.int .i64 0, V.int .i64 0]) E_good rfl rfl rfl rfl rfl rfl rfl (.boxM (c := 3) rfl rfl (Nat.le_of_ble_eq_true rfl) rfl) ?_
        refine SafeOps.quiet0 E_good rfl rfl rfl (v := V.int .i64 0) (.fn rfl) ?_
        refine SafeOps.quiet0 E_good rfl rfl rfl (v := V.int .i64 x_14717) (.fn rfl) ?_
        refine SafeOps.nil ?_
        repeat (first | refine Safe.seq ?_ | refine Safe.skip ?_ | with_reducible refine thenQ.n ?_ | with_reducible refine blockQ.n ?_)
        refine Safe.ret ?_
        repeat (first | with_reducible refine thenQ.r ?_ | with_reducible refine blockQ.r ?_)
        replace h := inr_out h hr14713
        obtain rfl := Option.some.inj h
        exact retQ.gen (vs := [V.agg [V.int .i64 0, V.int .i64 0, V.int .i64 0, V.int .i64 0, V.int .i64 0, V.int .i64 0, V.int .i64 0, V.int .i64 0, V.int .i64 0, V.int .i64 0, V.int .i64 0], V.agg [V.int .i64 0, V.int .i64 0, V.int .i64 0], V.int .i64 0, V.int .i64 x_14717]) rfl (.cell (v := V.agg [V.int .i64 0, V.int .i64 0, V.int .i64 0, V.int .i64 0, V.int .i64 0, V.int .i64 0, V.int .i64 0, V.int .i64 0, V.int .i64 0, V.int .i64 0, V.int .i64 0]) rfl rfl (.box rfl rfl) rfl (.cell (v := V.agg [V.int .i64 0, V.int .i64 0, V.int .i64 0]) rfl rfl (.box rfl rfl) rfl (.tmp (v := V.int .i64 0) rfl (.tmp (v := V.int .i64 x_14717) rfl .nil)))) (.free rfl) (by simp) (.inr rfl)
      · skip
        refine Safe.condN rfl hc14719 ?_
        repeat (first | refine Safe.seq ?_ | refine Safe.skip ?_ | with_reducible refine thenQ.n ?_ | with_reducible refine blockQ.n ?_)
        refine Safe.region ?_
        refine SafeOps.quiet0 E_good rfl rfl rfl (v := V.agg [V.int .i64 x_14715.Id, V.int .i64 x_14715.Tenant, V.int .i64 x_14715.Prog, V.int .i64 x_14715.Pc, V.int .i64 x_14715.Unit, V.int .i64 x_14715.Keeps.a0, V.int .i64 x_14715.Keeps.a1, V.int .i64 x_14715.Keeps.a2, V.int .i64 x_14715.Keeps.a3, V.int .i64 x_14715.State, V.int .i64 x_14715.Ran]) (.load rfl rfl (.box rfl rfl) rfl) ?_
        refine SafeOps.store (z := Obj.box [V.int .i64 x_14715.Id, V.int .i64 x_14715.Tenant, V.int .i64 x_14715.Prog, V.int .i64 x_14715.Pc, V.int .i64 x_14715.Unit, V.int .i64 x_14715.Keeps.a0, V.int .i64 x_14715.Keeps.a1, V.int .i64 x_14715.Keeps.a2, V.int .i64 x_14715.Keeps.a3, V.int .i64 x_14715.State, V.int .i64 x_14715.Ran]) E_good rfl rfl rfl rfl rfl rfl rfl (.boxM (c := 11) rfl rfl (Nat.le_of_ble_eq_true rfl) rfl) ?_
        refine SafeOps.nil ?_
        repeat (first | refine Safe.seq ?_ | refine Safe.skip ?_ | with_reducible refine thenQ.n ?_ | with_reducible refine blockQ.n ?_)
        refine Safe.region ?_
        refine SafeOps.quiet0 E_good rfl rfl rfl (v := V.ptr [12] 0 0) (.fn rfl) ?_
        refine SafeOps.quiet0 E_good rfl rfl rfl (v := V.int .i64 x_14716.Kind) (.load rfl rfl (.box rfl rfl) rfl) ?_
        refine SafeOps.quiet0 E_good rfl rfl rfl (v := V.bool (x_14716.Kind != 0)) (.fn rfl) ?_
        refine SafeOps.nil ?_
        repeat (first | refine Safe.seq ?_ | refine Safe.skip ?_ | with_reducible refine thenQ.n ?_ | with_reducible refine blockQ.n ?_)
        refine ifG h (fun hc14720 h => ?_) (fun hc14720 h => ?_)
        · skip
          refine Safe.condK rfl hc14720 ?_
          repeat (first | refine Safe.seq ?_ | refine Safe.skip ?_ | with_reducible refine thenQ.n ?_ | with_reducible refine blockQ.n ?_)
          refine Safe.regionD (n := 7) [(3, [6]), (4, [7])] [] E_good mixed rfl ?_
          refine DAny.take (i := 0) rfl (by kernel_rfl) [[6], [7]] (by kernel_rfl) (by kernel_rfl) (by kernel_rfl) rfl rfl rfl (v := V.agg [V.int .i64 x_14715.Id, V.int .i64 x_14715.Tenant, V.int .i64 x_14715.Prog, V.int .i64 x_14715.Pc, V.int .i64 x_14715.Unit, V.int .i64 x_14715.Keeps.a0, V.int .i64 x_14715.Keeps.a1, V.int .i64 x_14715.Keeps.a2, V.int .i64 x_14715.Keeps.a3, V.int .i64 x_14715.State, V.int .i64 x_14715.Ran]) (fun _ hz => (.load rfl rfl (.box (hz _ _ rfl rfl) rfl) rfl)) ?_
          refine DAny.take (i := 1) rfl (by kernel_rfl) [[6], [7]] (by kernel_rfl) (by kernel_rfl) (by kernel_rfl) rfl rfl rfl (v := V.agg [V.int .i64 x_14716.Kind, V.int .i64 x_14716.A, V.int .i64 x_14716.B]) (fun _ hz => (.load rfl rfl (.box (hz _ _ rfl rfl) rfl) rfl)) ?_
          refine DAny.take (i := 2) rfl (by kernel_rfl) [[6], [7]] (by kernel_rfl) (by kernel_rfl) (by kernel_rfl) rfl rfl rfl (v := V.int .i64 v10_14701) (fun _ hz => (.fn rfl)) ?_
          refine DAny.only (i := 3) rfl (by kernel_rfl) (.store (z := Obj.box [V.int .i64 x_14715.Id, V.int .i64 x_14715.Tenant, V.int .i64 x_14715.Prog, V.int .i64 x_14715.Pc, V.int .i64 x_14715.Unit, V.int .i64 x_14715.Keeps.a0, V.int .i64 x_14715.Keeps.a1, V.int .i64 x_14715.Keeps.a2, V.int .i64 x_14715.Keeps.a3, V.int .i64 x_14715.State, V.int .i64 x_14715.Ran]) rfl rfl rfl rfl rfl rfl rfl (.boxM (c := 11) rfl rfl (Nat.le_of_ble_eq_true rfl) rfl) rfl ?_)
          refine DAny.only (i := 4) rfl (by kernel_rfl) (.store (z := Obj.box [V.int .i64 x_14716.Kind, V.int .i64 x_14716.A, V.int .i64 x_14716.B]) rfl rfl rfl rfl rfl rfl rfl (.boxM (c := 3) rfl rfl (Nat.le_of_ble_eq_true rfl) rfl) rfl ?_)
          refine DAny.take (i := 5) rfl (by kernel_rfl) [[6], [7]] (by kernel_rfl) (by kernel_rfl) (by kernel_rfl) rfl rfl rfl (v := V.int .i64 v10_14701) (fun _ hz => (.fn rfl)) ?_
          refine DAny.take (i := 6) rfl (by kernel_rfl) [[6], [7]] (by kernel_rfl) (by kernel_rfl) (by kernel_rfl) rfl rfl rfl (v := V.int .i64 0) (fun _ hz => (.fn rfl)) ?_
          refine DAny.nil (by kernel_rfl) ?_
          repeat (first | refine Safe.seq ?_ | refine Safe.skip ?_ | with_reducible refine thenQ.n ?_ | with_reducible refine blockQ.n ?_)
          refine Safe.ret ?_
          repeat (first | with_reducible refine thenQ.r ?_ | with_reducible refine blockQ.r ?_)
          replace h := inr_out h hr14713
          obtain rfl := Option.some.inj h
          exact retQ.gen (vs := [V.agg [V.int .i64 x_14715.Id, V.int .i64 x_14715.Tenant, V.int .i64 x_14715.Prog, V.int .i64 x_14715.Pc, V.int .i64 x_14715.Unit, V.int .i64 x_14715.Keeps.a0, V.int .i64 x_14715.Keeps.a1, V.int .i64 x_14715.Keeps.a2, V.int .i64 x_14715.Keeps.a3, V.int .i64 x_14715.State, V.int .i64 x_14715.Ran], V.agg [V.int .i64 x_14716.Kind, V.int .i64 x_14716.A, V.int .i64 x_14716.B], V.int .i64 v10_14701, V.int .i64 0]) rfl (.cell (v := V.agg [V.int .i64 x_14715.Id, V.int .i64 x_14715.Tenant, V.int .i64 x_14715.Prog, V.int .i64 x_14715.Pc, V.int .i64 x_14715.Unit, V.int .i64 x_14715.Keeps.a0, V.int .i64 x_14715.Keeps.a1, V.int .i64 x_14715.Keeps.a2, V.int .i64 x_14715.Keeps.a3, V.int .i64 x_14715.State, V.int .i64 x_14715.Ran]) rfl rfl (.box rfl rfl) rfl (.cell (v := V.agg [V.int .i64 x_14716.Kind, V.int .i64 x_14716.A, V.int .i64 x_14716.B]) rfl rfl (.box rfl rfl) rfl (.tmp (v := V.int .i64 v10_14701) rfl (.tmp (v := V.int .i64 0) rfl .nil)))) (.free rfl) (by simp) (.inr rfl)
        · skip
          refine Safe.condN rfl hc14720 ?_
          repeat (first | refine Safe.seq ?_ | refine Safe.skip ?_ | with_reducible refine thenQ.n ?_ | with_reducible refine blockQ.n ?_)
          refine Safe.region ?_
          refine SafeOps.quiet0 E_good rfl rfl rfl (v := V.int .i64 v10_14701) (.fn rfl) ?_
          refine SafeOps.quiet0 E_good rfl rfl rfl (v := V.int .i64 (IntKind.i64.wrap (v10_14701 + 1))) (.fn rfl) ?_
          refine SafeOps.quiet0 E_good rfl rfl rfl (v := V.int .i64 (IntKind.i64.wrap (v10_14701 + 1))) (.fn rfl) ?_
          refine SafeOps.nil ?_
          repeat (first | refine Safe.seq ?_ | refine Safe.skip ?_ | with_reducible refine thenQ.n ?_ | with_reducible refine blockQ.n ?_)
          exact ⟨_, next_out h, (.cov ⟨rfl, rfl, (upT_cons (.refl _) (upT_cons (.refl _) (upT_cons (.refl _) (upT_cons (.refl _) (upT_cons (.refl _) (upT_cons (.refl _) upT_nil)))))), (upOb_cons rfl (.refl _) (upOb_cons rfl (.refl _) (upOb_cons rfl (.refl _) upOb_nil))), upOut_nil, rfl⟩)⟩
    · skip
      refine Safe.condN rfl hc14714 ?_
      repeat (first | refine Safe.seq ?_ | refine Safe.skip ?_ | with_reducible refine thenQ.n ?_ | with_reducible refine blockQ.n ?_)
      refine Safe.exit ?_
      repeat (first | with_reducible refine thenQ.e ?_ | with_reducible refine blockQ.x rfl ?_ | with_reducible refine blockQ.y rfl ?_)
      replace h := inr_out h hr14713
      repeat (first | refine Safe.seq ?_ | refine Safe.skip ?_ | with_reducible refine thenQ.n ?_ | with_reducible refine blockQ.n ?_)
      refine Safe.region ?_
      refine SafeOps.quiet0 E_good rfl rfl rfl (v := V.agg [V.int .i64 v30_14702, V.int .i64 v31_14703, V.int .i64 v32_14704, V.int .i64 v33_14705, V.int .i64 v34_14706, V.int .i64 v35_14707, V.int .i64 v36_14708, V.int .i64 v37_14709, V.int .i64 v38_14710, V.int .i64 v39_14711, V.int .i64 v310_14712]) (.load rfl rfl (.box rfl rfl) rfl) ?_
      refine SafeOps.quiet0 E_good rfl rfl rfl (v := V.agg [V.int .i64 0, V.int .i64 0, V.int .i64 0]) (.fn rfl) ?_
      refine SafeOps.quiet0 E_good rfl rfl rfl (v := V.int .i64 a2_14526) (.fn rfl) ?_
      refine SafeOps.store (z := Obj.box [V.int .i64 v30_14702, V.int .i64 v31_14703, V.int .i64 v32_14704, V.int .i64 v33_14705, V.int .i64 v34_14706, V.int .i64 v35_14707, V.int .i64 v36_14708, V.int .i64 v37_14709, V.int .i64 v38_14710, V.int .i64 v39_14711, V.int .i64 v310_14712]) E_good rfl rfl rfl rfl rfl rfl rfl (.boxM (c := 11) rfl rfl (Nat.le_of_ble_eq_true rfl) rfl) ?_
      refine SafeOps.store (z := Obj.box [V.int .i64 0, V.int .i64 0, V.int .i64 0]) E_good rfl rfl rfl rfl rfl rfl rfl (.boxM (c := 3) rfl rfl (Nat.le_of_ble_eq_true rfl) rfl) ?_
      refine SafeOps.quiet0 E_good rfl rfl rfl (v := V.int .i64 a2_14526) (.fn rfl) ?_
      refine SafeOps.quiet0 E_good rfl rfl rfl (v := V.int .i64 0) (.fn rfl) ?_
      refine SafeOps.nil ?_
      repeat (first | refine Safe.seq ?_ | refine Safe.skip ?_ | with_reducible refine thenQ.n ?_ | with_reducible refine blockQ.n ?_)
      refine Safe.ret ?_
      repeat (first | with_reducible refine thenQ.r ?_ | with_reducible refine blockQ.r ?_)
      obtain rfl := Option.some.inj h
      exact retQ.gen (vs := [V.agg [V.int .i64 v30_14702, V.int .i64 v31_14703, V.int .i64 v32_14704, V.int .i64 v33_14705, V.int .i64 v34_14706, V.int .i64 v35_14707, V.int .i64 v36_14708, V.int .i64 v37_14709, V.int .i64 v38_14710, V.int .i64 v39_14711, V.int .i64 v310_14712], V.agg [V.int .i64 0, V.int .i64 0, V.int .i64 0], V.int .i64 a2_14526, V.int .i64 0]) rfl (.cell (v := V.agg [V.int .i64 v30_14702, V.int .i64 v31_14703, V.int .i64 v32_14704, V.int .i64 v33_14705, V.int .i64 v34_14706, V.int .i64 v35_14707, V.int .i64 v36_14708, V.int .i64 v37_14709, V.int .i64 v38_14710, V.int .i64 v39_14711, V.int .i64 v310_14712]) rfl rfl (.box rfl rfl) rfl (.cell (v := V.agg [V.int .i64 0, V.int .i64 0, V.int .i64 0]) rfl rfl (.box rfl rfl) rfl (.tmp (v := V.int .i64 a2_14526) rfl (.tmp (v := V.int .i64 0) rfl .nil)))) (.free rfl) (by simp) (.inr rfl)

def go_step_Left_1 (a0_14739 : api_Instr) : Bool :=
  (a0_14739.Op == 9)

theorem go_step_Left_1_sc (a0_14739 : api_Instr) (r : Bool) (h : go_step_Left_1 a0_14739 = r) : SC Tryd.prog gl 30 [V.agg [V.int .i64 a0_14739.Op, V.int .i64 a0_14739.A, V.int .i64 a0_14739.B]] (V.bool r) := by
  rw [go_step_Left_1] at h
  refine SC.of E_good Tryd.func30 rfl (fun _ _ => Tryd.call30 _ _) rfl ?_
  repeat (first | refine Safe.seq ?_ | refine Safe.skip ?_ | with_reducible refine thenQ.n ?_ | with_reducible refine blockQ.n ?_)
  refine Safe.region ?_
  refine SafeOps.quiet1 E_good rfl rfl rfl (.box rfl rfl) rfl ?_
  refine SafeOps.quiet0 E_good rfl rfl rfl (v := V.bool false) (.fn rfl) ?_
  refine SafeOps.nil ?_
  repeat (first | refine Safe.seq ?_ | refine Safe.skip ?_ | with_reducible refine thenQ.n ?_ | with_reducible refine blockQ.n ?_)
  refine Safe.region ?_
  refine SafeOps.quiet0 E_good rfl rfl rfl (v := V.ptr [1] 0 0) (.fn rfl) ?_
  refine SafeOps.quiet0 E_good rfl rfl rfl (v := V.int .i64 a0_14739.Op) (.load rfl rfl (.box rfl rfl) rfl) ?_
  refine SafeOps.quiet0 E_good rfl rfl rfl (v := V.bool (a0_14739.Op == 9)) (.fn rfl) ?_
  refine SafeOps.quiet0 E_good rfl rfl rfl (v := V.bool (a0_14739.Op == 9)) (.fn rfl) ?_
  refine SafeOps.nil ?_
  repeat (first | refine Safe.seq ?_ | refine Safe.skip ?_ | with_reducible refine thenQ.n ?_ | with_reducible refine blockQ.n ?_)
  refine Safe.ret ?_
  repeat (first | with_reducible refine thenQ.r ?_ | with_reducible refine blockQ.r ?_)
  obtain rfl := h
  exact retQ.gen (vs := [V.bool (a0_14739.Op == 9)]) rfl (.tmp (v := V.bool (a0_14739.Op == 9)) rfl .nil) (.free rfl) (by simp) (.inr rfl)

noncomputable def go_slices_IndexFunc_api_Instr_api_Instr_130_s1 (a0_14735 : List api_Instr) : (Int) → Option ((Int) ⊕ (Int))
  | v8_14757 =>
    if (decide (v8_14757 < (a0_14735.length : Int))) = true then
      if 0 ≤ v8_14757 ∧ v8_14757 < (a0_14735.length : Int) then
        if (go_step_Left_1 (gt a0_14735 v8_14757)) = true then
          inrO (
            some v8_14757)
        else
          nextO (IntKind.i64.wrap (v8_14757 + 1))
      else none
    else
      inrO (
        some (-1))

noncomputable def go_slices_IndexFunc_api_Instr_api_Instr_130 (a0_14735 : List api_Instr) : Option Int :=
  whileO (go_slices_IndexFunc_api_Instr_api_Instr_130_s1 a0_14735) 0

theorem go_slices_IndexFunc_api_Instr_api_Instr_130_sc (a0_14735 : List api_Instr) (r : Int) (h : go_slices_IndexFunc_api_Instr_api_Instr_130 a0_14735 = some r) : SC Tryd.prog gl 34 [V.sl 3 (rws api_Instr.cells a0_14735), V.fn 30 []] (V.int .i64 r) := by
  rw [go_slices_IndexFunc_api_Instr_api_Instr_130] at h
  refine SC.of E_good Tryd.func34 rfl (fun _ _ => Tryd.call34 _ _) rfl ?_
  repeat (first | refine Safe.seq ?_ | refine Safe.skip ?_ | with_reducible refine thenQ.n ?_ | with_reducible refine blockQ.n ?_)
  refine Safe.region ?_
  refine SafeOps.quiet0 E_good rfl rfl rfl (v := V.int .i64 0) (.fn rfl) ?_
  refine SafeOps.nil ?_
  repeat (first | refine Safe.seq ?_ | refine Safe.skip ?_ | with_reducible refine thenQ.n ?_ | with_reducible refine blockQ.n ?_)
  refine Safe.region ?_
  refine SafeOps.quiet0 E_good rfl rfl rfl (v := V.sl 3 (rws api_Instr.cells a0_14735)) (.fn rfl) ?_
  refine SafeOps.quiet0 E_good rfl rfl rfl (v := V.int .i64 (a0_14735.length : Int)) (.fnE rfl lenE) ?_
  refine SafeOps.quiet0 E_good rfl rfl rfl (v := V.int .i64 0) (.fn rfl) ?_
  refine SafeOps.nil ?_
  repeat (first | refine Safe.seq ?_ | refine Safe.skip ?_ | with_reducible refine thenQ.n ?_ | with_reducible refine blockQ.n ?_)
  refine Safe.block ?_
  repeat (first | refine Safe.seq ?_ | refine Safe.skip ?_ | with_reducible refine thenQ.n ?_ | with_reducible refine blockQ.n ?_)
  refine Safe.loopW (fun (v8_14757 : Int) => ⟨Tryd.f34.ntmps, [(0, V.sl 3 (rws api_Instr.cells a0_14735)), (1, V.fn 30 []), (7, V.int .i64 (a0_14735.length : Int)), (8, V.int .i64 v8_14757)], [], [], []⟩) h (.cov ⟨rfl, rfl, (upT_cons (.refl _) (upT_cons (.refl _) (upT_cons (.refl _) (upT_cons (.refl _) upT_nil)))), upOb_nil, upOut_nil, rfl⟩) ?_
  intro v8_14757 ohr14758 h hr14758
  replace h : go_slices_IndexFunc_api_Instr_api_Instr_130_s1 a0_14735 v8_14757 = some ohr14758 := h
  rw [go_slices_IndexFunc_api_Instr_api_Instr_130_s1] at h
  repeat (first | refine Safe.seq ?_ | refine Safe.skip ?_ | with_reducible refine thenQ.n ?_ | with_reducible refine blockQ.n ?_)
  refine Safe.region ?_
  refine SafeOps.quiet0 E_good rfl rfl rfl (v := V.bool (decide (v8_14757 < (a0_14735.length : Int)))) (.fn rfl) ?_
  refine SafeOps.nil ?_
  repeat (first | refine Safe.seq ?_ | refine Safe.skip ?_ | with_reducible refine thenQ.n ?_ | with_reducible refine blockQ.n ?_)
  refine ifG h (fun hc14759 h => ?_) (fun hc14759 h => ?_)
  · skip
    refine Safe.condK rfl hc14759 ?_
    repeat (first | refine Safe.seq ?_ | refine Safe.skip ?_ | with_reducible refine thenQ.n ?_ | with_reducible refine blockQ.n ?_)
    refine Safe.block ?_
    repeat (first | refine Safe.seq ?_ | refine Safe.skip ?_ | with_reducible refine thenQ.n ?_ | with_reducible refine blockQ.n ?_)
    refine Safe.region ?_
    refine SafeOps.quiet0 E_good rfl rfl rfl (v := V.int .i64 v8_14757) (.fn rfl) ?_
    refine SafeOps.quiet0 E_good rfl rfl rfl (v := V.int .i64 v8_14757) (.fn rfl) ?_
    refine SafeOps.nil ?_
    repeat (first | refine Safe.seq ?_ | refine Safe.skip ?_ | with_reducible refine thenQ.n ?_ | with_reducible refine blockQ.n ?_)
    refine Safe.region ?_
    refine SafeOps.quiet0 E_good rfl rfl rfl (v := V.fn 30 []) (.fn rfl) ?_
    refine SafeOps.quiet0 E_good rfl rfl rfl (v := V.sl 3 (rws api_Instr.cells a0_14735)) (.fn rfl) ?_
    refine SafeOps.quiet0 E_good rfl rfl rfl (v := V.int .i64 v8_14757) (.fn rfl) ?_
    refine okG h (fun hb14760 h => ?_)
    refine SafeOps.quiet0 E_good rfl rfl rfl (v := V.spt 3 (rws api_Instr.cells a0_14735) (Int.toNat v8_14757) 0) (.idxSlM (f := api_Instr.cells) rfl rfl rfl rfl rfl hb14760) ?_
    refine SafeOps.quiet0 E_good rfl rfl rfl (v := V.agg [V.int .i64 ((gt a0_14735 v8_14757).Op), V.int .i64 ((gt a0_14735 v8_14757).A), V.int .i64 ((gt a0_14735 v8_14757).B)]) (.load rfl rfl (.sptM (f := api_Instr.cells) hb14760 rfl) rfl) ?_
    refine SafeOps.quiet0 E_good rfl rfl rfl (v := V.bool (go_step_Left_1 (gt a0_14735 v8_14757))) (.callP rfl rfl (go_step_Left_1_sc (gt a0_14735 v8_14757) _ rfl) rfl) ?_
    refine SafeOps.nil ?_
    repeat (first | refine Safe.seq ?_ | refine Safe.skip ?_ | with_reducible refine thenQ.n ?_ | with_reducible refine blockQ.n ?_)
    refine ifG h (fun hc14761 h => ?_) (fun hc14761 h => ?_)
    · skip
      refine Safe.condK rfl hc14761 ?_
      repeat (first | refine Safe.seq ?_ | refine Safe.skip ?_ | with_reducible refine thenQ.n ?_ | with_reducible refine blockQ.n ?_)
      refine Safe.region ?_
      refine SafeOps.quiet0 E_good rfl rfl rfl (v := V.int .i64 v8_14757) (.fn rfl) ?_
      refine SafeOps.quiet0 E_good rfl rfl rfl (v := V.int .i64 v8_14757) (.fn rfl) ?_
      refine SafeOps.nil ?_
      repeat (first | refine Safe.seq ?_ | refine Safe.skip ?_ | with_reducible refine thenQ.n ?_ | with_reducible refine blockQ.n ?_)
      refine Safe.ret ?_
      repeat (first | with_reducible refine thenQ.r ?_ | with_reducible refine blockQ.r ?_)
      replace h := inr_out h hr14758
      obtain rfl := Option.some.inj h
      exact retQ.gen (vs := [V.int .i64 v8_14757]) rfl (.tmp (v := V.int .i64 v8_14757) rfl .nil) (.free rfl) (by simp) (.inr rfl)
    · skip
      refine Safe.condN rfl hc14761 ?_
      repeat (first | refine Safe.seq ?_ | refine Safe.skip ?_ | with_reducible refine thenQ.n ?_ | with_reducible refine blockQ.n ?_)
      refine Safe.region ?_
      refine SafeOps.quiet0 E_good rfl rfl rfl (v := V.int .i64 (IntKind.i64.wrap (v8_14757 + 1))) (.fn rfl) ?_
      refine SafeOps.quiet0 E_good rfl rfl rfl (v := V.int .i64 (IntKind.i64.wrap (v8_14757 + 1))) (.fn rfl) ?_
      refine SafeOps.nil ?_
      repeat (first | refine Safe.seq ?_ | refine Safe.skip ?_ | with_reducible refine thenQ.n ?_ | with_reducible refine blockQ.n ?_)
      exact ⟨_, next_out h, (.cov ⟨rfl, rfl, (upT_cons (.refl _) (upT_cons (.refl _) (upT_cons (.refl _) (upT_cons (.refl _) upT_nil)))), upOb_nil, upOut_nil, rfl⟩)⟩
  · skip
    refine Safe.condN rfl hc14759 ?_
    repeat (first | refine Safe.seq ?_ | refine Safe.skip ?_ | with_reducible refine thenQ.n ?_ | with_reducible refine blockQ.n ?_)
    refine Safe.exit ?_
    repeat (first | with_reducible refine thenQ.e ?_ | with_reducible refine blockQ.x rfl ?_ | with_reducible refine blockQ.y rfl ?_)
    replace h := inr_out h hr14758
    repeat (first | refine Safe.seq ?_ | refine Safe.skip ?_ | with_reducible refine thenQ.n ?_ | with_reducible refine blockQ.n ?_)
    refine Safe.region ?_
    refine SafeOps.quiet0 E_good rfl rfl rfl (v := V.int .i64 (-1)) (.fn rfl) ?_
    refine SafeOps.nil ?_
    repeat (first | refine Safe.seq ?_ | refine Safe.skip ?_ | with_reducible refine thenQ.n ?_ | with_reducible refine blockQ.n ?_)
    refine Safe.ret ?_
    repeat (first | with_reducible refine thenQ.r ?_ | with_reducible refine blockQ.r ?_)
    obtain rfl := Option.some.inj h
    exact retQ.gen (vs := [V.int .i64 (-1)]) rfl (.tmp (v := V.int .i64 (-1)) rfl .nil) (.free rfl) (by simp) (.inr rfl)

noncomputable def go_slices_ContainsFunc_api_Instr_api_Instr_130 (a0_14734 : List api_Instr) : Option Bool :=
  (go_slices_IndexFunc_api_Instr_api_Instr_130 a0_14734).bind fun x_14764 =>
  some (decide (x_14764 ≥ 0))

theorem go_slices_ContainsFunc_api_Instr_api_Instr_130_sc (a0_14734 : List api_Instr) (r : Bool) (h : go_slices_ContainsFunc_api_Instr_api_Instr_130 a0_14734 = some r) : SC Tryd.prog gl 24 [V.sl 3 (rws api_Instr.cells a0_14734), V.fn 30 []] (V.bool r) := by
  rw [go_slices_ContainsFunc_api_Instr_api_Instr_130] at h
  refine SC.of E_good Tryd.func24 rfl (fun _ _ => Tryd.call24 _ _) rfl ?_
  repeat (first | refine Safe.seq ?_ | refine Safe.skip ?_ | with_reducible refine thenQ.n ?_ | with_reducible refine blockQ.n ?_)
  refine Safe.region ?_
  refine SafeOps.quiet0 E_good rfl rfl rfl (v := V.bool false) (.fn rfl) ?_
  refine SafeOps.nil ?_
  repeat (first | refine Safe.seq ?_ | refine Safe.skip ?_ | with_reducible refine thenQ.n ?_ | with_reducible refine blockQ.n ?_)
  refine Safe.region ?_
  refine SafeOps.quiet0 E_good rfl rfl rfl (v := V.sl 3 (rws api_Instr.cells a0_14734)) (.fn rfl) ?_
  refine SafeOps.quiet0 E_good rfl rfl rfl (v := V.fn 30 []) (.fn rfl) ?_
  refine bindG h ?_
  intro x_14764 he14765 h
  refine SafeOps.quiet0 E_good rfl rfl rfl (v := V.int .i64 x_14764) (.callP rfl rfl (go_slices_IndexFunc_api_Instr_api_Instr_130_sc a0_14734 _ he14765) rfl) ?_
  refine SafeOps.quiet0 E_good rfl rfl rfl (v := V.bool (decide (x_14764 ≥ 0))) (.fn rfl) ?_
  refine SafeOps.quiet0 E_good rfl rfl rfl (v := V.bool (decide (x_14764 ≥ 0))) (.fn rfl) ?_
  refine SafeOps.nil ?_
  repeat (first | refine Safe.seq ?_ | refine Safe.skip ?_ | with_reducible refine thenQ.n ?_ | with_reducible refine blockQ.n ?_)
  refine Safe.ret ?_
  repeat (first | with_reducible refine thenQ.r ?_ | with_reducible refine blockQ.r ?_)
  obtain rfl := Option.some.inj h
  exact retQ.gen (vs := [V.bool (decide (x_14764 ≥ 0))]) rfl (.tmp (v := V.bool (decide (x_14764 ≥ 0))) rfl .nil) (.free rfl) (by simp) (.inr rfl)

def go_code_reached_1 (a0_14782 : api_Instr) : Bool :=
  (a0_14782.Op == 9)

theorem go_code_reached_1_sc (a0_14782 : api_Instr) (r : Bool) (h : go_code_reached_1 a0_14782 = r) : SC Tryd.prog gl 38 [V.agg [V.int .i64 a0_14782.Op, V.int .i64 a0_14782.A, V.int .i64 a0_14782.B]] (V.bool r) := by
  rw [go_code_reached_1] at h
  refine SC.of E_good Tryd.func38 rfl (fun _ _ => Tryd.call38 _ _) rfl ?_
  repeat (first | refine Safe.seq ?_ | refine Safe.skip ?_ | with_reducible refine thenQ.n ?_ | with_reducible refine blockQ.n ?_)
  refine Safe.region ?_
  refine SafeOps.quiet1 E_good rfl rfl rfl (.box rfl rfl) rfl ?_
  refine SafeOps.quiet0 E_good rfl rfl rfl (v := V.bool false) (.fn rfl) ?_
  refine SafeOps.nil ?_
  repeat (first | refine Safe.seq ?_ | refine Safe.skip ?_ | with_reducible refine thenQ.n ?_ | with_reducible refine blockQ.n ?_)
  refine Safe.region ?_
  refine SafeOps.quiet0 E_good rfl rfl rfl (v := V.ptr [1] 0 0) (.fn rfl) ?_
  refine SafeOps.quiet0 E_good rfl rfl rfl (v := V.int .i64 a0_14782.Op) (.load rfl rfl (.box rfl rfl) rfl) ?_
  refine SafeOps.quiet0 E_good rfl rfl rfl (v := V.bool (a0_14782.Op == 9)) (.fn rfl) ?_
  refine SafeOps.quiet0 E_good rfl rfl rfl (v := V.bool (a0_14782.Op == 9)) (.fn rfl) ?_
  refine SafeOps.nil ?_
  repeat (first | refine Safe.seq ?_ | refine Safe.skip ?_ | with_reducible refine thenQ.n ?_ | with_reducible refine blockQ.n ?_)
  refine Safe.ret ?_
  repeat (first | with_reducible refine thenQ.r ?_ | with_reducible refine blockQ.r ?_)
  obtain rfl := h
  exact retQ.gen (vs := [V.bool (a0_14782.Op == 9)]) rfl (.tmp (v := V.bool (a0_14782.Op == 9)) rfl .nil) (.free rfl) (by simp) (.inr rfl)

noncomputable def go_slices_IndexFunc_api_Instr_api_Instr_138_s1 (a0_14778 : List api_Instr) : (Int) → Option ((Int) ⊕ (Int))
  | v8_14800 =>
    if (decide (v8_14800 < (a0_14778.length : Int))) = true then
      if 0 ≤ v8_14800 ∧ v8_14800 < (a0_14778.length : Int) then
        if (go_code_reached_1 (gt a0_14778 v8_14800)) = true then
          inrO (
            some v8_14800)
        else
          nextO (IntKind.i64.wrap (v8_14800 + 1))
      else none
    else
      inrO (
        some (-1))

noncomputable def go_slices_IndexFunc_api_Instr_api_Instr_138 (a0_14778 : List api_Instr) : Option Int :=
  whileO (go_slices_IndexFunc_api_Instr_api_Instr_138_s1 a0_14778) 0

theorem go_slices_IndexFunc_api_Instr_api_Instr_138_sc (a0_14778 : List api_Instr) (r : Int) (h : go_slices_IndexFunc_api_Instr_api_Instr_138 a0_14778 = some r) : SC Tryd.prog gl 34 [V.sl 3 (rws api_Instr.cells a0_14778), V.fn 38 []] (V.int .i64 r) := by
  rw [go_slices_IndexFunc_api_Instr_api_Instr_138] at h
  refine SC.of E_good Tryd.func34 rfl (fun _ _ => Tryd.call34 _ _) rfl ?_
  repeat (first | refine Safe.seq ?_ | refine Safe.skip ?_ | with_reducible refine thenQ.n ?_ | with_reducible refine blockQ.n ?_)
  refine Safe.region ?_
  refine SafeOps.quiet0 E_good rfl rfl rfl (v := V.int .i64 0) (.fn rfl) ?_
  refine SafeOps.nil ?_
  repeat (first | refine Safe.seq ?_ | refine Safe.skip ?_ | with_reducible refine thenQ.n ?_ | with_reducible refine blockQ.n ?_)
  refine Safe.region ?_
  refine SafeOps.quiet0 E_good rfl rfl rfl (v := V.sl 3 (rws api_Instr.cells a0_14778)) (.fn rfl) ?_
  refine SafeOps.quiet0 E_good rfl rfl rfl (v := V.int .i64 (a0_14778.length : Int)) (.fnE rfl lenE) ?_
  refine SafeOps.quiet0 E_good rfl rfl rfl (v := V.int .i64 0) (.fn rfl) ?_
  refine SafeOps.nil ?_
  repeat (first | refine Safe.seq ?_ | refine Safe.skip ?_ | with_reducible refine thenQ.n ?_ | with_reducible refine blockQ.n ?_)
  refine Safe.block ?_
  repeat (first | refine Safe.seq ?_ | refine Safe.skip ?_ | with_reducible refine thenQ.n ?_ | with_reducible refine blockQ.n ?_)
  refine Safe.loopW (fun (v8_14800 : Int) => ⟨Tryd.f34.ntmps, [(0, V.sl 3 (rws api_Instr.cells a0_14778)), (1, V.fn 38 []), (7, V.int .i64 (a0_14778.length : Int)), (8, V.int .i64 v8_14800)], [], [], []⟩) h (.cov ⟨rfl, rfl, (upT_cons (.refl _) (upT_cons (.refl _) (upT_cons (.refl _) (upT_cons (.refl _) upT_nil)))), upOb_nil, upOut_nil, rfl⟩) ?_
  intro v8_14800 ohr14801 h hr14801
  replace h : go_slices_IndexFunc_api_Instr_api_Instr_138_s1 a0_14778 v8_14800 = some ohr14801 := h
  rw [go_slices_IndexFunc_api_Instr_api_Instr_138_s1] at h
  repeat (first | refine Safe.seq ?_ | refine Safe.skip ?_ | with_reducible refine thenQ.n ?_ | with_reducible refine blockQ.n ?_)
  refine Safe.region ?_
  refine SafeOps.quiet0 E_good rfl rfl rfl (v := V.bool (decide (v8_14800 < (a0_14778.length : Int)))) (.fn rfl) ?_
  refine SafeOps.nil ?_
  repeat (first | refine Safe.seq ?_ | refine Safe.skip ?_ | with_reducible refine thenQ.n ?_ | with_reducible refine blockQ.n ?_)
  refine ifG h (fun hc14802 h => ?_) (fun hc14802 h => ?_)
  · skip
    refine Safe.condK rfl hc14802 ?_
    repeat (first | refine Safe.seq ?_ | refine Safe.skip ?_ | with_reducible refine thenQ.n ?_ | with_reducible refine blockQ.n ?_)
    refine Safe.block ?_
    repeat (first | refine Safe.seq ?_ | refine Safe.skip ?_ | with_reducible refine thenQ.n ?_ | with_reducible refine blockQ.n ?_)
    refine Safe.region ?_
    refine SafeOps.quiet0 E_good rfl rfl rfl (v := V.int .i64 v8_14800) (.fn rfl) ?_
    refine SafeOps.quiet0 E_good rfl rfl rfl (v := V.int .i64 v8_14800) (.fn rfl) ?_
    refine SafeOps.nil ?_
    repeat (first | refine Safe.seq ?_ | refine Safe.skip ?_ | with_reducible refine thenQ.n ?_ | with_reducible refine blockQ.n ?_)
    refine Safe.region ?_
    refine SafeOps.quiet0 E_good rfl rfl rfl (v := V.fn 38 []) (.fn rfl) ?_
    refine SafeOps.quiet0 E_good rfl rfl rfl (v := V.sl 3 (rws api_Instr.cells a0_14778)) (.fn rfl) ?_
    refine SafeOps.quiet0 E_good rfl rfl rfl (v := V.int .i64 v8_14800) (.fn rfl) ?_
    refine okG h (fun hb14803 h => ?_)
    refine SafeOps.quiet0 E_good rfl rfl rfl (v := V.spt 3 (rws api_Instr.cells a0_14778) (Int.toNat v8_14800) 0) (.idxSlM (f := api_Instr.cells) rfl rfl rfl rfl rfl hb14803) ?_
    refine SafeOps.quiet0 E_good rfl rfl rfl (v := V.agg [V.int .i64 ((gt a0_14778 v8_14800).Op), V.int .i64 ((gt a0_14778 v8_14800).A), V.int .i64 ((gt a0_14778 v8_14800).B)]) (.load rfl rfl (.sptM (f := api_Instr.cells) hb14803 rfl) rfl) ?_
    refine SafeOps.quiet0 E_good rfl rfl rfl (v := V.bool (go_code_reached_1 (gt a0_14778 v8_14800))) (.callP rfl rfl (go_code_reached_1_sc (gt a0_14778 v8_14800) _ rfl) rfl) ?_
    refine SafeOps.nil ?_
    repeat (first | refine Safe.seq ?_ | refine Safe.skip ?_ | with_reducible refine thenQ.n ?_ | with_reducible refine blockQ.n ?_)
    refine ifG h (fun hc14804 h => ?_) (fun hc14804 h => ?_)
    · skip
      refine Safe.condK rfl hc14804 ?_
      repeat (first | refine Safe.seq ?_ | refine Safe.skip ?_ | with_reducible refine thenQ.n ?_ | with_reducible refine blockQ.n ?_)
      refine Safe.region ?_
      refine SafeOps.quiet0 E_good rfl rfl rfl (v := V.int .i64 v8_14800) (.fn rfl) ?_
      refine SafeOps.quiet0 E_good rfl rfl rfl (v := V.int .i64 v8_14800) (.fn rfl) ?_
      refine SafeOps.nil ?_
      repeat (first | refine Safe.seq ?_ | refine Safe.skip ?_ | with_reducible refine thenQ.n ?_ | with_reducible refine blockQ.n ?_)
      refine Safe.ret ?_
      repeat (first | with_reducible refine thenQ.r ?_ | with_reducible refine blockQ.r ?_)
      replace h := inr_out h hr14801
      obtain rfl := Option.some.inj h
      exact retQ.gen (vs := [V.int .i64 v8_14800]) rfl (.tmp (v := V.int .i64 v8_14800) rfl .nil) (.free rfl) (by simp) (.inr rfl)
    · skip
      refine Safe.condN rfl hc14804 ?_
      repeat (first | refine Safe.seq ?_ | refine Safe.skip ?_ | with_reducible refine thenQ.n ?_ | with_reducible refine blockQ.n ?_)
      refine Safe.region ?_
      refine SafeOps.quiet0 E_good rfl rfl rfl (v := V.int .i64 (IntKind.i64.wrap (v8_14800 + 1))) (.fn rfl) ?_
      refine SafeOps.quiet0 E_good rfl rfl rfl (v := V.int .i64 (IntKind.i64.wrap (v8_14800 + 1))) (.fn rfl) ?_
      refine SafeOps.nil ?_
      repeat (first | refine Safe.seq ?_ | refine Safe.skip ?_ | with_reducible refine thenQ.n ?_ | with_reducible refine blockQ.n ?_)
      exact ⟨_, next_out h, (.cov ⟨rfl, rfl, (upT_cons (.refl _) (upT_cons (.refl _) (upT_cons (.refl _) (upT_cons (.refl _) upT_nil)))), upOb_nil, upOut_nil, rfl⟩)⟩
  · skip
    refine Safe.condN rfl hc14802 ?_
    repeat (first | refine Safe.seq ?_ | refine Safe.skip ?_ | with_reducible refine thenQ.n ?_ | with_reducible refine blockQ.n ?_)
    refine Safe.exit ?_
    repeat (first | with_reducible refine thenQ.e ?_ | with_reducible refine blockQ.x rfl ?_ | with_reducible refine blockQ.y rfl ?_)
    replace h := inr_out h hr14801
    repeat (first | refine Safe.seq ?_ | refine Safe.skip ?_ | with_reducible refine thenQ.n ?_ | with_reducible refine blockQ.n ?_)
    refine Safe.region ?_
    refine SafeOps.quiet0 E_good rfl rfl rfl (v := V.int .i64 (-1)) (.fn rfl) ?_
    refine SafeOps.nil ?_
    repeat (first | refine Safe.seq ?_ | refine Safe.skip ?_ | with_reducible refine thenQ.n ?_ | with_reducible refine blockQ.n ?_)
    refine Safe.ret ?_
    repeat (first | with_reducible refine thenQ.r ?_ | with_reducible refine blockQ.r ?_)
    obtain rfl := Option.some.inj h
    exact retQ.gen (vs := [V.int .i64 (-1)]) rfl (.tmp (v := V.int .i64 (-1)) rfl .nil) (.free rfl) (by simp) (.inr rfl)

noncomputable def go_code_reached (a0_14777 : List api_Instr) : Option (List api_Instr) :=
  (go_slices_IndexFunc_api_Instr_api_Instr_138 a0_14777).bind fun x_14809 =>
  if (decide (x_14809 ≥ 0)) = true then
    if 0 ≤ (IntKind.i64.wrap (x_14809 + 1)) ∧ (IntKind.i64.wrap (x_14809 + 1)) ≤ (a0_14777.length : Int) then
      some (sub a0_14777 0 (IntKind.i64.wrap (x_14809 + 1)))
    else none
  else
    some a0_14777

theorem go_code_reached_sc (a0_14777 : List api_Instr) (r : List api_Instr) (h : go_code_reached a0_14777 = some r) : SC Tryd.prog gl 32 [V.sl 3 (rws api_Instr.cells a0_14777)] (V.sl 3 (rws api_Instr.cells r)) := by
  rw [go_code_reached] at h
  refine SC.of E_good Tryd.func32 rfl (fun _ _ => Tryd.call32 _ _) rfl ?_
  repeat (first | refine Safe.seq ?_ | refine Safe.skip ?_ | with_reducible refine thenQ.n ?_ | with_reducible refine blockQ.n ?_)
  refine Safe.region ?_
  refine SafeOps.quiet0 E_good rfl rfl rfl (v := V.nils) (.fn rfl) ?_
  refine SafeOps.nil ?_
  repeat (first | refine Safe.seq ?_ | refine Safe.skip ?_ | with_reducible refine thenQ.n ?_ | with_reducible refine blockQ.n ?_)
  refine Safe.region ?_
  refine SafeOps.quiet0 E_good rfl rfl rfl (v := V.sl 3 (rws api_Instr.cells a0_14777)) (.fn rfl) ?_
  refine bindG h ?_
  intro x_14809 he14810 h
  refine SafeOps.quiet0 E_good rfl rfl rfl (v := V.int .i64 x_14809) (.callP rfl rfl (go_slices_IndexFunc_api_Instr_api_Instr_138_sc a0_14777 _ he14810) rfl) ?_
  refine SafeOps.quiet0 E_good rfl rfl rfl (v := V.int .i64 x_14809) (.fn rfl) ?_
  refine SafeOps.nil ?_
  repeat (first | refine Safe.seq ?_ | refine Safe.skip ?_ | with_reducible refine thenQ.n ?_ | with_reducible refine blockQ.n ?_)
  refine Safe.region ?_
  refine SafeOps.quiet0 E_good rfl rfl rfl (v := V.int .i64 x_14809) (.fn rfl) ?_
  refine SafeOps.quiet0 E_good rfl rfl rfl (v := V.bool (decide (x_14809 ≥ 0))) (.fn rfl) ?_
  refine SafeOps.nil ?_
  repeat (first | refine Safe.seq ?_ | refine Safe.skip ?_ | with_reducible refine thenQ.n ?_ | with_reducible refine blockQ.n ?_)
  refine ifG h (fun hc14811 h => ?_) (fun hc14811 h => ?_)
  · skip
    refine Safe.condK rfl hc14811 ?_
    repeat (first | refine Safe.seq ?_ | refine Safe.skip ?_ | with_reducible refine thenQ.n ?_ | with_reducible refine blockQ.n ?_)
    refine Safe.region ?_
    refine SafeOps.quiet0 E_good rfl rfl rfl (v := V.sl 3 (rws api_Instr.cells a0_14777)) (.fn rfl) ?_
    refine SafeOps.quiet0 E_good rfl rfl rfl (v := V.int .i64 x_14809) (.fn rfl) ?_
    refine SafeOps.quiet0 E_good rfl rfl rfl (v := V.int .i64 (IntKind.i64.wrap (x_14809 + 1))) (.fn rfl) ?_
    refine okG h (fun hb14812 h => ?_)
    refine SafeOps.quiet0 E_good rfl rfl rfl (v := V.sl 3 (rws api_Instr.cells (sub a0_14777 0 (IntKind.i64.wrap (x_14809 + 1))))) (.slH (f := api_Instr.cells) rfl rfl rfl rfl rfl hb14812) ?_
    refine SafeOps.quiet0 E_good rfl rfl rfl (v := V.sl 3 (rws api_Instr.cells (sub a0_14777 0 (IntKind.i64.wrap (x_14809 + 1))))) (.fn rfl) ?_
    refine SafeOps.nil ?_
    repeat (first | refine Safe.seq ?_ | refine Safe.skip ?_ | with_reducible refine thenQ.n ?_ | with_reducible refine blockQ.n ?_)
    refine Safe.ret ?_
    repeat (first | with_reducible refine thenQ.r ?_ | with_reducible refine blockQ.r ?_)
    obtain rfl := Option.some.inj h
    exact retQ.gen (vs := [V.sl 3 (rws api_Instr.cells (sub a0_14777 0 (IntKind.i64.wrap (x_14809 + 1))))]) rfl (.tmp (v := V.sl 3 (rws api_Instr.cells (sub a0_14777 0 (IntKind.i64.wrap (x_14809 + 1))))) rfl .nil) (.free rfl) (by simp) (.inr rfl)
  · skip
    refine Safe.condN rfl hc14811 ?_
    repeat (first | refine Safe.seq ?_ | refine Safe.skip ?_ | with_reducible refine thenQ.n ?_ | with_reducible refine blockQ.n ?_)
    refine Safe.region ?_
    refine SafeOps.quiet0 E_good rfl rfl rfl (v := V.sl 3 (rws api_Instr.cells a0_14777)) (.fn rfl) ?_
    refine SafeOps.quiet0 E_good rfl rfl rfl (v := V.sl 3 (rws api_Instr.cells a0_14777)) (.fn rfl) ?_
    refine SafeOps.nil ?_
    repeat (first | refine Safe.seq ?_ | refine Safe.skip ?_ | with_reducible refine thenQ.n ?_ | with_reducible refine blockQ.n ?_)
    refine Safe.ret ?_
    repeat (first | with_reducible refine thenQ.r ?_ | with_reducible refine blockQ.r ?_)
    obtain rfl := Option.some.inj h
    exact retQ.gen (vs := [V.sl 3 (rws api_Instr.cells a0_14777)]) rfl (.tmp (v := V.sl 3 (rws api_Instr.cells a0_14777)) rfl .nil) (.free rfl) (by simp) (.inr rfl)

noncomputable def go_code_Units_s1 (x_14832 : List api_Instr) : (Int × Int) → Option ((Int × Int) ⊕ (Int × Int))
  | (v2_14842, v14_14843) =>
    if (decide (v14_14843 < (x_14832.length : Int))) = true then
      if 0 ≤ v14_14843 ∧ v14_14843 < (x_14832.length : Int) then
        if (((gt x_14832 v14_14843).Op) == 1) = true then
          nextO (IntKind.i64.wrap ((IntKind.i64.wrap (v2_14842 + (IntKind.i64.wrap (((gt x_14832 v14_14843).A) - 1)))) + 1), IntKind.i64.wrap (v14_14843 + 1))
        else
          nextO (IntKind.i64.wrap (v2_14842 + 1), IntKind.i64.wrap (v14_14843 + 1))
      else none
    else
      inrO (
        some (v2_14842, 0))

noncomputable def go_code_Units (a0_14773 : List api_Instr) : Option (Int × Int) :=
  (go_code_Check a0_14773).bind fun x_14829 =>
  if (x_14829 != 0) = true then
    some (0, x_14829)
  else
    (go_code_reached a0_14773).bind fun x_14832 =>
    whileO (go_code_Units_s1 x_14832) (0, 0)

theorem go_code_Units_sc (a0_14773 : List api_Instr) (r : Int × Int) (h : go_code_Units a0_14773 = some r) : SC Tryd.prog gl 21 [V.sl 3 (rws api_Instr.cells a0_14773)] (V.tup [V.int .i64 r.1, V.int .i64 r.2]) := by
  rw [go_code_Units] at h
  refine SC.of E_good Tryd.func21 rfl (fun _ _ => Tryd.call21 _ _) rfl ?_
  repeat (first | refine Safe.seq ?_ | refine Safe.skip ?_ | with_reducible refine thenQ.n ?_ | with_reducible refine blockQ.n ?_)
  refine Safe.region ?_
  refine SafeOps.quiet0 E_good rfl rfl rfl (v := V.int .i64 0) (.fn rfl) ?_
  refine SafeOps.quiet0 E_good rfl rfl rfl (v := V.int .i64 0) (.fn rfl) ?_
  refine SafeOps.nil ?_
  repeat (first | refine Safe.seq ?_ | refine Safe.skip ?_ | with_reducible refine thenQ.n ?_ | with_reducible refine blockQ.n ?_)
  refine Safe.region ?_
  refine SafeOps.quiet0 E_good rfl rfl rfl (v := V.sl 3 (rws api_Instr.cells a0_14773)) (.fn rfl) ?_
  refine bindG h ?_
  intro x_14829 he14830 h
  refine SafeOps.quiet0 E_good rfl rfl rfl (v := V.int .i64 x_14829) (.callP rfl rfl (go_code_Check_sc a0_14773 _ he14830) rfl) ?_
  refine SafeOps.quiet0 E_good rfl rfl rfl (v := V.int .i64 x_14829) (.fn rfl) ?_
  refine SafeOps.nil ?_
  repeat (first | refine Safe.seq ?_ | refine Safe.skip ?_ | with_reducible refine thenQ.n ?_ | with_reducible refine blockQ.n ?_)
  refine Safe.region ?_
  refine SafeOps.quiet0 E_good rfl rfl rfl (v := V.int .i64 x_14829) (.fn rfl) ?_
  refine SafeOps.quiet0 E_good rfl rfl rfl (v := V.bool (x_14829 != 0)) (.fn rfl) ?_
  refine SafeOps.nil ?_
  repeat (first | refine Safe.seq ?_ | refine Safe.skip ?_ | with_reducible refine thenQ.n ?_ | with_reducible refine blockQ.n ?_)
  refine ifG h (fun hc14831 h => ?_) (fun hc14831 h => ?_)
  · skip
    refine Safe.condK rfl hc14831 ?_
    repeat (first | refine Safe.seq ?_ | refine Safe.skip ?_ | with_reducible refine thenQ.n ?_ | with_reducible refine blockQ.n ?_)
    refine Safe.region ?_
    refine SafeOps.quiet0 E_good rfl rfl rfl (v := V.int .i64 x_14829) (.fn rfl) ?_
    refine SafeOps.quiet0 E_good rfl rfl rfl (v := V.int .i64 0) (.fn rfl) ?_
    refine SafeOps.quiet0 E_good rfl rfl rfl (v := V.int .i64 x_14829) (.fn rfl) ?_
    refine SafeOps.nil ?_
    repeat (first | refine Safe.seq ?_ | refine Safe.skip ?_ | with_reducible refine thenQ.n ?_ | with_reducible refine blockQ.n ?_)
    refine Safe.ret ?_
    repeat (first | with_reducible refine thenQ.r ?_ | with_reducible refine blockQ.r ?_)
    obtain rfl := Option.some.inj h
    exact retQ.gen (vs := [V.int .i64 0, V.int .i64 x_14829]) rfl (.tmp (v := V.int .i64 0) rfl (.tmp (v := V.int .i64 x_14829) rfl .nil)) (.free rfl) (by simp) (.inr rfl)
  · skip
    refine Safe.condN rfl hc14831 ?_
    repeat (first | refine Safe.seq ?_ | refine Safe.skip ?_ | with_reducible refine thenQ.n ?_ | with_reducible refine blockQ.n ?_)
    refine Safe.region ?_
    refine SafeOps.quiet0 E_good rfl rfl rfl (v := V.sl 3 (rws api_Instr.cells a0_14773)) (.fn rfl) ?_
    refine bindG h ?_
    intro x_14832 he14833 h
    refine SafeOps.quiet0 E_good rfl rfl rfl (v := V.sl 3 (rws api_Instr.cells x_14832)) (.callP rfl rfl (go_code_reached_sc a0_14773 _ he14833) rfl) ?_
    refine SafeOps.quiet0 E_good rfl rfl rfl (v := V.int .i64 (x_14832.length : Int)) (.fnE rfl lenE) ?_
    refine SafeOps.quiet0 E_good rfl rfl rfl (v := V.int .i64 0) (.fn rfl) ?_
    refine SafeOps.nil ?_
    repeat (first | refine Safe.seq ?_ | refine Safe.skip ?_ | with_reducible refine thenQ.n ?_ | with_reducible refine blockQ.n ?_)
    refine Safe.block ?_
    repeat (first | refine Safe.seq ?_ | refine Safe.skip ?_ | with_reducible refine thenQ.n ?_ | with_reducible refine blockQ.n ?_)
    refine Safe.loopW (fun ((v2_14842, v14_14843) : Int × Int) => ⟨Tryd.f21.ntmps, [(2, V.int .i64 v2_14842), (12, V.sl 3 (rws api_Instr.cells x_14832)), (13, V.int .i64 (x_14832.length : Int)), (14, V.int .i64 v14_14843)], [], [], []⟩) h (.cov ⟨rfl, rfl, (upT_cons (.refl _) (upT_cons (.refl _) (upT_cons (.refl _) (upT_cons (.refl _) upT_nil)))), upOb_nil, upOut_nil, rfl⟩) ?_
    rintro ⟨v2_14842, v14_14843⟩ ohr14844 h hr14844
    replace h : go_code_Units_s1 x_14832 (v2_14842, v14_14843) = some ohr14844 := h
    rw [go_code_Units_s1] at h
    repeat (first | refine Safe.seq ?_ | refine Safe.skip ?_ | with_reducible refine thenQ.n ?_ | with_reducible refine blockQ.n ?_)
    refine Safe.region ?_
    refine SafeOps.quiet0 E_good rfl rfl rfl (v := V.bool (decide (v14_14843 < (x_14832.length : Int)))) (.fn rfl) ?_
    refine SafeOps.nil ?_
    repeat (first | refine Safe.seq ?_ | refine Safe.skip ?_ | with_reducible refine thenQ.n ?_ | with_reducible refine blockQ.n ?_)
    refine ifG h (fun hc14845 h => ?_) (fun hc14845 h => ?_)
    · skip
      refine Safe.condK rfl hc14845 ?_
      repeat (first | refine Safe.seq ?_ | refine Safe.skip ?_ | with_reducible refine thenQ.n ?_ | with_reducible refine blockQ.n ?_)
      refine Safe.block ?_
      repeat (first | refine Safe.seq ?_ | refine Safe.skip ?_ | with_reducible refine thenQ.n ?_ | with_reducible refine blockQ.n ?_)
      refine Safe.region ?_
      refine okG h (fun hb14846 h => ?_)
      refine SafeOps.quiet0 E_good rfl rfl rfl (v := V.spt 3 (rws api_Instr.cells x_14832) (Int.toNat v14_14843) 0) (.idxSlM (f := api_Instr.cells) rfl rfl rfl rfl rfl hb14846) ?_
      refine SafeOps.quiet0 E_good rfl rfl rfl (v := V.agg [V.int .i64 ((gt x_14832 v14_14843).Op), V.int .i64 ((gt x_14832 v14_14843).A), V.int .i64 ((gt x_14832 v14_14843).B)]) (.load rfl rfl (.sptM (f := api_Instr.cells) hb14846 rfl) rfl) ?_
      refine SafeOps.quiet1 E_good rfl rfl rfl (.alloc rfl rfl) rfl ?_
      refine SafeOps.store (z := Obj.box [V.int .i64 ((gt x_14832 v14_14843).Op), V.int .i64 ((gt x_14832 v14_14843).A), V.int .i64 ((gt x_14832 v14_14843).B)]) E_good rfl rfl rfl rfl rfl rfl rfl (.boxM (c := 3) rfl rfl (Nat.le_of_ble_eq_true rfl) rfl) ?_
      refine SafeOps.nil ?_
      repeat (first | refine Safe.seq ?_ | refine Safe.skip ?_ | with_reducible refine thenQ.n ?_ | with_reducible refine blockQ.n ?_)
      refine Safe.region ?_
      refine SafeOps.quiet0 E_good rfl rfl rfl (v := V.ptr [5] 0 0) (.fn rfl) ?_
      refine SafeOps.quiet0 E_good rfl rfl rfl (v := V.int .i64 ((gt x_14832 v14_14843).Op)) (.load rfl rfl (.box rfl rfl) rfl) ?_
      refine SafeOps.quiet0 E_good rfl rfl rfl (v := V.bool (((gt x_14832 v14_14843).Op) == 1)) (.fn rfl) ?_
      refine SafeOps.nil ?_
      repeat (first | refine Safe.seq ?_ | refine Safe.skip ?_ | with_reducible refine thenQ.n ?_ | with_reducible refine blockQ.n ?_)
      refine ifG h (fun hc14847 h => ?_) (fun hc14847 h => ?_)
      · skip
        refine Safe.condK rfl hc14847 ?_
        repeat (first | refine Safe.seq ?_ | refine Safe.skip ?_ | with_reducible refine thenQ.n ?_ | with_reducible refine blockQ.n ?_)
        refine Safe.region ?_
        refine SafeOps.quiet0 E_good rfl rfl rfl (v := V.int .i64 v2_14842) (.fn rfl) ?_
        refine SafeOps.quiet0 E_good rfl rfl rfl (v := V.ptr [5] 0 1) (.fn rfl) ?_
        refine SafeOps.quiet0 E_good rfl rfl rfl (v := V.int .i64 ((gt x_14832 v14_14843).A)) (.load rfl rfl (.box rfl rfl) rfl) ?_
        refine SafeOps.quiet0 E_good rfl rfl rfl (v := V.int .i64 (IntKind.i64.wrap (((gt x_14832 v14_14843).A) - 1))) (.fn rfl) ?_
        refine SafeOps.quiet0 E_good rfl rfl rfl (v := V.int .i64 (IntKind.i64.wrap (v2_14842 + (IntKind.i64.wrap (((gt x_14832 v14_14843).A) - 1))))) (.fn rfl) ?_
        refine SafeOps.quiet0 E_good rfl rfl rfl (v := V.int .i64 (IntKind.i64.wrap (v2_14842 + (IntKind.i64.wrap (((gt x_14832 v14_14843).A) - 1))))) (.fn rfl) ?_
        refine SafeOps.nil ?_
        repeat (first | refine Safe.seq ?_ | refine Safe.skip ?_ | with_reducible refine thenQ.n ?_ | with_reducible refine blockQ.n ?_)
        refine Safe.region ?_
        refine SafeOps.quiet0 E_good rfl rfl rfl (v := V.int .i64 (IntKind.i64.wrap (v2_14842 + (IntKind.i64.wrap (((gt x_14832 v14_14843).A) - 1))))) (.fn rfl) ?_
        refine SafeOps.quiet0 E_good rfl rfl rfl (v := V.int .i64 (IntKind.i64.wrap ((IntKind.i64.wrap (v2_14842 + (IntKind.i64.wrap (((gt x_14832 v14_14843).A) - 1)))) + 1))) (.fn rfl) ?_
        refine SafeOps.quiet0 E_good rfl rfl rfl (v := V.int .i64 (IntKind.i64.wrap ((IntKind.i64.wrap (v2_14842 + (IntKind.i64.wrap (((gt x_14832 v14_14843).A) - 1)))) + 1))) (.fn rfl) ?_
        refine SafeOps.nil ?_
        repeat (first | refine Safe.seq ?_ | refine Safe.skip ?_ | with_reducible refine thenQ.n ?_ | with_reducible refine blockQ.n ?_)
        refine Safe.region ?_
        refine SafeOps.quiet0 E_good rfl rfl rfl (v := V.int .i64 (IntKind.i64.wrap (v14_14843 + 1))) (.fn rfl) ?_
        refine SafeOps.quiet0 E_good rfl rfl rfl (v := V.int .i64 (IntKind.i64.wrap (v14_14843 + 1))) (.fn rfl) ?_
        refine SafeOps.nil ?_
        repeat (first | refine Safe.seq ?_ | refine Safe.skip ?_ | with_reducible refine thenQ.n ?_ | with_reducible refine blockQ.n ?_)
        exact ⟨_, next_out h, (.cov ⟨rfl, rfl, (upT_cons (.refl _) (upT_cons (.refl _) (upT_cons (.refl _) (upT_cons (.refl _) upT_nil)))), upOb_nil, upOut_nil, rfl⟩)⟩
      · skip
        refine Safe.condN rfl hc14847 ?_
        repeat (first | refine Safe.seq ?_ | refine Safe.skip ?_ | with_reducible refine thenQ.n ?_ | with_reducible refine blockQ.n ?_)
        refine Safe.region ?_
        refine SafeOps.quiet0 E_good rfl rfl rfl (v := V.int .i64 v2_14842) (.fn rfl) ?_
        refine SafeOps.quiet0 E_good rfl rfl rfl (v := V.int .i64 (IntKind.i64.wrap (v2_14842 + 1))) (.fn rfl) ?_
        refine SafeOps.quiet0 E_good rfl rfl rfl (v := V.int .i64 (IntKind.i64.wrap (v2_14842 + 1))) (.fn rfl) ?_
        refine SafeOps.nil ?_
        repeat (first | refine Safe.seq ?_ | refine Safe.skip ?_ | with_reducible refine thenQ.n ?_ | with_reducible refine blockQ.n ?_)
        refine Safe.region ?_
        refine SafeOps.quiet0 E_good rfl rfl rfl (v := V.int .i64 (IntKind.i64.wrap (v14_14843 + 1))) (.fn rfl) ?_
        refine SafeOps.quiet0 E_good rfl rfl rfl (v := V.int .i64 (IntKind.i64.wrap (v14_14843 + 1))) (.fn rfl) ?_
        refine SafeOps.nil ?_
        repeat (first | refine Safe.seq ?_ | refine Safe.skip ?_ | with_reducible refine thenQ.n ?_ | with_reducible refine blockQ.n ?_)
        exact ⟨_, next_out h, (.cov ⟨rfl, rfl, (upT_cons (.refl _) (upT_cons (.refl _) (upT_cons (.refl _) (upT_cons (.refl _) upT_nil)))), upOb_nil, upOut_nil, rfl⟩)⟩
    · skip
      refine Safe.condN rfl hc14845 ?_
      repeat (first | refine Safe.seq ?_ | refine Safe.skip ?_ | with_reducible refine thenQ.n ?_ | with_reducible refine blockQ.n ?_)
      refine Safe.exit ?_
      repeat (first | with_reducible refine thenQ.e ?_ | with_reducible refine blockQ.x rfl ?_ | with_reducible refine blockQ.y rfl ?_)
      replace h := inr_out h hr14844
      repeat (first | refine Safe.seq ?_ | refine Safe.skip ?_ | with_reducible refine thenQ.n ?_ | with_reducible refine blockQ.n ?_)
      refine Safe.region ?_
      refine SafeOps.quiet0 E_good rfl rfl rfl (v := V.int .i64 v2_14842) (.fn rfl) ?_
      refine SafeOps.quiet0 E_good rfl rfl rfl (v := V.int .i64 v2_14842) (.fn rfl) ?_
      refine SafeOps.quiet0 E_good rfl rfl rfl (v := V.int .i64 0) (.fn rfl) ?_
      refine SafeOps.nil ?_
      repeat (first | refine Safe.seq ?_ | refine Safe.skip ?_ | with_reducible refine thenQ.n ?_ | with_reducible refine blockQ.n ?_)
      refine Safe.ret ?_
      repeat (first | with_reducible refine thenQ.r ?_ | with_reducible refine blockQ.r ?_)
      obtain rfl := Option.some.inj h
      exact retQ.gen (vs := [V.int .i64 v2_14842, V.int .i64 0]) rfl (.tmp (v := V.int .i64 v2_14842) rfl (.tmp (v := V.int .i64 0) rfl .nil)) (.free rfl) (by simp) (.inr rfl)

noncomputable def go_step_Left (a0_14726 : api_Task) (a1_14727 : List api_Instr) : Option (Int × Int) :=
  (go_step_Next a0_14726 a1_14727).bind fun (x_14852, x_14853) =>
  if (x_14853 != 0) = true then
    some (0, x_14853)
  else
    if (a0_14726.Pc == (a1_14727.length : Int)) = true then
      some (0, 0)
    else
      if 0 ≤ a0_14726.Pc ∧ a0_14726.Pc ≤ (a1_14727.length : Int) then
        (go_slices_ContainsFunc_api_Instr_api_Instr_130 (sub a1_14727 0 a0_14726.Pc)).bind fun x_14861 =>
        if x_14861 = true then
          some (0, 0)
        else
          if 0 ≤ a0_14726.Pc ∧ a0_14726.Pc ≤ (a1_14727.length : Int) then
            (go_code_Units (sub a1_14727 a0_14726.Pc (a1_14727.length : Int))).bind fun (x_14865, x_14866) =>
            if (x_14866 != 0) = true then
              some (0, x_14866)
            else
              some (IntKind.i64.wrap (x_14865 - a0_14726.Unit), 0)
          else none
      else none

theorem go_step_Left_sc (a0_14726 : api_Task) (a1_14727 : List api_Instr) (r : Int × Int) (h : go_step_Left a0_14726 a1_14727 = some r) : SC Tryd.prog gl 18 [V.agg [V.int .i64 a0_14726.Id, V.int .i64 a0_14726.Tenant, V.int .i64 a0_14726.Prog, V.int .i64 a0_14726.Pc, V.int .i64 a0_14726.Unit, V.int .i64 a0_14726.Keeps.a0, V.int .i64 a0_14726.Keeps.a1, V.int .i64 a0_14726.Keeps.a2, V.int .i64 a0_14726.Keeps.a3, V.int .i64 a0_14726.State, V.int .i64 a0_14726.Ran], V.sl 3 (rws api_Instr.cells a1_14727)] (V.tup [V.int .i64 r.1, V.int .i64 r.2]) := by
  rw [go_step_Left] at h
  refine SC.of E_good Tryd.func18 rfl (fun _ _ => Tryd.call18 _ _) rfl ?_
  repeat (first | refine Safe.seq ?_ | refine Safe.skip ?_ | with_reducible refine thenQ.n ?_ | with_reducible refine blockQ.n ?_)
  refine Safe.region ?_
  refine SafeOps.quiet1 E_good rfl rfl rfl (.box rfl rfl) rfl ?_
  refine SafeOps.quiet0 E_good rfl rfl rfl (v := V.int .i64 0) (.fn rfl) ?_
  refine SafeOps.quiet0 E_good rfl rfl rfl (v := V.int .i64 0) (.fn rfl) ?_
  refine SafeOps.nil ?_
  repeat (first | refine Safe.seq ?_ | refine Safe.skip ?_ | with_reducible refine thenQ.n ?_ | with_reducible refine blockQ.n ?_)
  refine Safe.region ?_
  refine SafeOps.quiet0 E_good rfl rfl rfl (v := V.agg [V.int .i64 a0_14726.Id, V.int .i64 a0_14726.Tenant, V.int .i64 a0_14726.Prog, V.int .i64 a0_14726.Pc, V.int .i64 a0_14726.Unit, V.int .i64 a0_14726.Keeps.a0, V.int .i64 a0_14726.Keeps.a1, V.int .i64 a0_14726.Keeps.a2, V.int .i64 a0_14726.Keeps.a3, V.int .i64 a0_14726.State, V.int .i64 a0_14726.Ran]) (.load rfl rfl (.box rfl rfl) rfl) ?_
  refine SafeOps.quiet0 E_good rfl rfl rfl (v := V.sl 3 (rws api_Instr.cells a1_14727)) (.fn rfl) ?_
  refine bindG h ?_
  rintro ⟨x_14852, x_14853⟩ he14854 h
  refine SafeOps.quiet0 E_good rfl rfl rfl (v := V.tup [V.agg [V.int .i64 x_14852.Op, V.int .i64 x_14852.A, V.int .i64 x_14852.B], V.int .i64 x_14853]) (.callP rfl rfl (go_step_Next_sc a0_14726 a1_14727 _ he14854) rfl) ?_
  refine SafeOps.quiet0 E_good rfl rfl rfl (v := V.tup [V.agg [V.int .i64 x_14852.Op, V.int .i64 x_14852.A, V.int .i64 x_14852.B], V.int .i64 x_14853]) (.fn rfl) ?_
  refine SafeOps.quiet0 E_good rfl rfl rfl (v := V.agg [V.int .i64 x_14852.Op, V.int .i64 x_14852.A, V.int .i64 x_14852.B]) (.fn rfl) ?_
  refine SafeOps.quiet0 E_good rfl rfl rfl (v := V.int .i64 x_14853) (.fn rfl) ?_
  refine SafeOps.quiet1 E_good rfl rfl rfl (.alloc rfl rfl) rfl ?_
  refine SafeOps.store (z := Obj.box [V.int .i64 x_14852.Op, V.int .i64 x_14852.A, V.int .i64 x_14852.B]) E_good rfl rfl rfl rfl rfl rfl rfl (.boxM (c := 3) rfl rfl (Nat.le_of_ble_eq_true rfl) rfl) ?_
  refine SafeOps.quiet0 E_good rfl rfl rfl (v := V.int .i64 x_14853) (.fn rfl) ?_
  refine SafeOps.nil ?_
  repeat (first | refine Safe.seq ?_ | refine Safe.skip ?_ | with_reducible refine thenQ.n ?_ | with_reducible refine blockQ.n ?_)
  refine Safe.region ?_
  refine SafeOps.quiet0 E_good rfl rfl rfl (v := V.int .i64 x_14853) (.fn rfl) ?_
  refine SafeOps.quiet0 E_good rfl rfl rfl (v := V.bool (x_14853 != 0)) (.fn rfl) ?_
  refine SafeOps.nil ?_
  repeat (first | refine Safe.seq ?_ | refine Safe.skip ?_ | with_reducible refine thenQ.n ?_ | with_reducible refine blockQ.n ?_)
  refine ifG h (fun hc14855 h => ?_) (fun hc14855 h => ?_)
  · skip
    refine Safe.condK rfl hc14855 ?_
    repeat (first | refine Safe.seq ?_ | refine Safe.skip ?_ | with_reducible refine thenQ.n ?_ | with_reducible refine blockQ.n ?_)
    refine Safe.region ?_
    refine SafeOps.quiet0 E_good rfl rfl rfl (v := V.int .i64 x_14853) (.fn rfl) ?_
    refine SafeOps.quiet0 E_good rfl rfl rfl (v := V.int .i64 0) (.fn rfl) ?_
    refine SafeOps.quiet0 E_good rfl rfl rfl (v := V.int .i64 x_14853) (.fn rfl) ?_
    refine SafeOps.nil ?_
    repeat (first | refine Safe.seq ?_ | refine Safe.skip ?_ | with_reducible refine thenQ.n ?_ | with_reducible refine blockQ.n ?_)
    refine Safe.ret ?_
    repeat (first | with_reducible refine thenQ.r ?_ | with_reducible refine blockQ.r ?_)
    obtain rfl := Option.some.inj h
    exact retQ.gen (vs := [V.int .i64 0, V.int .i64 x_14853]) rfl (.tmp (v := V.int .i64 0) rfl (.tmp (v := V.int .i64 x_14853) rfl .nil)) (.free rfl) (by simp) (.inr rfl)
  · skip
    refine Safe.condN rfl hc14855 ?_
    repeat (first | refine Safe.seq ?_ | refine Safe.skip ?_ | with_reducible refine thenQ.n ?_ | with_reducible refine blockQ.n ?_)
    refine Safe.region ?_
    refine SafeOps.quiet0 E_good rfl rfl rfl (v := V.fn 30 []) (.fn rfl) ?_
    refine SafeOps.nil ?_
    repeat (first | refine Safe.seq ?_ | refine Safe.skip ?_ | with_reducible refine thenQ.n ?_ | with_reducible refine blockQ.n ?_)
    refine Safe.region ?_
    refine SafeOps.quiet0 E_good rfl rfl rfl (v := V.ptr [2] 0 3) (.fn rfl) ?_
    refine SafeOps.quiet0 E_good rfl rfl rfl (v := V.int .i64 a0_14726.Pc) (.load rfl rfl (.box rfl rfl) rfl) ?_
    refine SafeOps.quiet0 E_good rfl rfl rfl (v := V.sl 3 (rws api_Instr.cells a1_14727)) (.fn rfl) ?_
    refine SafeOps.quiet0 E_good rfl rfl rfl (v := V.int .i64 (a1_14727.length : Int)) (.fnE rfl lenE) ?_
    refine SafeOps.quiet0 E_good rfl rfl rfl (v := V.bool (a0_14726.Pc == (a1_14727.length : Int))) (.fn rfl) ?_
    refine SafeOps.quiet0 E_good rfl rfl rfl (v := V.bool (a0_14726.Pc == (a1_14727.length : Int))) (.fn rfl) ?_
    refine ifG h (fun hc14856 h => ?_) (fun hc14856 h => ?_)
    · skip
      refine SafeOps.skip (congrArg (fun b => some (!b)) hc14856) rfl rfl ?_
      refine SafeOps.skip (congrArg (fun b => some (!b)) hc14856) rfl rfl ?_
      refine SafeOps.skip (congrArg (fun b => some (!b)) hc14856) rfl rfl ?_
      refine SafeOps.skip (congrArg (fun b => some (!b)) hc14856) rfl rfl ?_
      refine SafeOps.skip (congrArg (fun b => some (!b)) hc14856) rfl rfl ?_
      refine SafeOps.skip (congrArg (fun b => some (!b)) hc14856) rfl rfl ?_
      refine SafeOps.quiet0 E_good rfl rfl rfl (v := V.bool true) (.pickK rfl hc14856 rfl) ?_
      refine SafeOps.nil ?_
      repeat (first | refine Safe.seq ?_ | refine Safe.skip ?_ | with_reducible refine thenQ.n ?_ | with_reducible refine blockQ.n ?_)
      refine Safe.condK rfl rfl ?_
      repeat (first | refine Safe.seq ?_ | refine Safe.skip ?_ | with_reducible refine thenQ.n ?_ | with_reducible refine blockQ.n ?_)
      refine Safe.region ?_
      refine SafeOps.quiet0 E_good rfl rfl rfl (v := V.int .i64 0) (.fn rfl) ?_
      refine SafeOps.quiet0 E_good rfl rfl rfl (v := V.int .i64 0) (.fn rfl) ?_
      refine SafeOps.nil ?_
      repeat (first | refine Safe.seq ?_ | refine Safe.skip ?_ | with_reducible refine thenQ.n ?_ | with_reducible refine blockQ.n ?_)
      refine Safe.ret ?_
      repeat (first | with_reducible refine thenQ.r ?_ | with_reducible refine blockQ.r ?_)
      obtain rfl := Option.some.inj h
      exact retQ.gen (vs := [V.int .i64 0, V.int .i64 0]) rfl (.tmp (v := V.int .i64 0) rfl (.tmp (v := V.int .i64 0) rfl .nil)) (.free rfl) (by simp) (.inr rfl)
    · skip
      refine SafeOps.quiet0 E_good (congrArg (fun b => some (!b)) hc14856) rfl rfl (v := V.sl 3 (rws api_Instr.cells a1_14727)) (.fn rfl) ?_
      refine SafeOps.quiet0 E_good (congrArg (fun b => some (!b)) hc14856) rfl rfl (v := V.ptr [2] 0 3) (.fn rfl) ?_
      refine SafeOps.quiet0 E_good (congrArg (fun b => some (!b)) hc14856) rfl rfl (v := V.int .i64 a0_14726.Pc) (.load rfl rfl (.box rfl rfl) rfl) ?_
      refine okG h (fun hb14860 h => ?_)
      refine SafeOps.quiet0 E_good (congrArg (fun b => some (!b)) hc14856) rfl rfl (v := V.sl 3 (rws api_Instr.cells (sub a1_14727 0 a0_14726.Pc))) (.slH (f := api_Instr.cells) rfl rfl rfl rfl rfl hb14860) ?_
      refine SafeOps.quiet0 E_good (congrArg (fun b => some (!b)) hc14856) rfl rfl (v := V.fn 30 []) (.fn rfl) ?_
      refine bindG h ?_
      intro x_14861 he14862 h
      refine SafeOps.quiet0 E_good (congrArg (fun b => some (!b)) hc14856) rfl rfl (v := V.bool x_14861) (.callP rfl rfl (go_slices_ContainsFunc_api_Instr_api_Instr_130_sc (sub a1_14727 0 a0_14726.Pc) _ he14862) rfl) ?_
      refine SafeOps.quiet0 E_good rfl rfl rfl (v := V.bool x_14861) (.pickK rfl hc14856 rfl) ?_
      refine SafeOps.nil ?_
      repeat (first | refine Safe.seq ?_ | refine Safe.skip ?_ | with_reducible refine thenQ.n ?_ | with_reducible refine blockQ.n ?_)
      refine ifG h (fun hc14863 h => ?_) (fun hc14863 h => ?_)
      · skip
        refine Safe.condK rfl hc14863 ?_
        repeat (first | refine Safe.seq ?_ | refine Safe.skip ?_ | with_reducible refine thenQ.n ?_ | with_reducible refine blockQ.n ?_)
        refine Safe.region ?_
        refine SafeOps.quiet0 E_good rfl rfl rfl (v := V.int .i64 0) (.fn rfl) ?_
        refine SafeOps.quiet0 E_good rfl rfl rfl (v := V.int .i64 0) (.fn rfl) ?_
        refine SafeOps.nil ?_
        repeat (first | refine Safe.seq ?_ | refine Safe.skip ?_ | with_reducible refine thenQ.n ?_ | with_reducible refine blockQ.n ?_)
        refine Safe.ret ?_
        repeat (first | with_reducible refine thenQ.r ?_ | with_reducible refine blockQ.r ?_)
        obtain rfl := Option.some.inj h
        exact retQ.gen (vs := [V.int .i64 0, V.int .i64 0]) rfl (.tmp (v := V.int .i64 0) rfl (.tmp (v := V.int .i64 0) rfl .nil)) (.free rfl) (by simp) (.inr rfl)
      · skip
        refine Safe.condN rfl hc14863 ?_
        repeat (first | refine Safe.seq ?_ | refine Safe.skip ?_ | with_reducible refine thenQ.n ?_ | with_reducible refine blockQ.n ?_)
        refine Safe.region ?_
        refine SafeOps.quiet0 E_good rfl rfl rfl (v := V.sl 3 (rws api_Instr.cells a1_14727)) (.fn rfl) ?_
        refine SafeOps.quiet0 E_good rfl rfl rfl (v := V.ptr [2] 0 3) (.fn rfl) ?_
        refine SafeOps.quiet0 E_good rfl rfl rfl (v := V.int .i64 a0_14726.Pc) (.load rfl rfl (.box rfl rfl) rfl) ?_
        refine okG h (fun hb14864 h => ?_)
        refine SafeOps.quiet0 E_good rfl rfl rfl (v := V.sl 3 (rws api_Instr.cells (sub a1_14727 a0_14726.Pc (a1_14727.length : Int)))) (.slL (f := api_Instr.cells) rfl rfl rfl rfl rfl hb14864) ?_
        refine bindG h ?_
        rintro ⟨x_14865, x_14866⟩ he14867 h
        refine SafeOps.quiet0 E_good rfl rfl rfl (v := V.tup [V.int .i64 x_14865, V.int .i64 x_14866]) (.callP rfl rfl (go_code_Units_sc (sub a1_14727 a0_14726.Pc (a1_14727.length : Int)) _ he14867) rfl) ?_
        refine SafeOps.quiet0 E_good rfl rfl rfl (v := V.tup [V.int .i64 x_14865, V.int .i64 x_14866]) (.fn rfl) ?_
        refine SafeOps.quiet0 E_good rfl rfl rfl (v := V.int .i64 x_14865) (.fn rfl) ?_
        refine SafeOps.quiet0 E_good rfl rfl rfl (v := V.int .i64 x_14866) (.fn rfl) ?_
        refine SafeOps.quiet0 E_good rfl rfl rfl (v := V.int .i64 x_14865) (.fn rfl) ?_
        refine SafeOps.quiet0 E_good rfl rfl rfl (v := V.int .i64 x_14866) (.fn rfl) ?_
        refine SafeOps.nil ?_
        repeat (first | refine Safe.seq ?_ | refine Safe.skip ?_ | with_reducible refine thenQ.n ?_ | with_reducible refine blockQ.n ?_)
        refine Safe.region ?_
        refine SafeOps.quiet0 E_good rfl rfl rfl (v := V.int .i64 x_14866) (.fn rfl) ?_
        refine SafeOps.quiet0 E_good rfl rfl rfl (v := V.bool (x_14866 != 0)) (.fn rfl) ?_
        refine SafeOps.nil ?_
        repeat (first | refine Safe.seq ?_ | refine Safe.skip ?_ | with_reducible refine thenQ.n ?_ | with_reducible refine blockQ.n ?_)
        refine ifG h (fun hc14868 h => ?_) (fun hc14868 h => ?_)
        · skip
          refine Safe.condK rfl hc14868 ?_
          repeat (first | refine Safe.seq ?_ | refine Safe.skip ?_ | with_reducible refine thenQ.n ?_ | with_reducible refine blockQ.n ?_)
          refine Safe.region ?_
          refine SafeOps.quiet0 E_good rfl rfl rfl (v := V.int .i64 x_14866) (.fn rfl) ?_
          refine SafeOps.quiet0 E_good rfl rfl rfl (v := V.int .i64 0) (.fn rfl) ?_
          refine SafeOps.quiet0 E_good rfl rfl rfl (v := V.int .i64 x_14866) (.fn rfl) ?_
          refine SafeOps.nil ?_
          repeat (first | refine Safe.seq ?_ | refine Safe.skip ?_ | with_reducible refine thenQ.n ?_ | with_reducible refine blockQ.n ?_)
          refine Safe.ret ?_
          repeat (first | with_reducible refine thenQ.r ?_ | with_reducible refine blockQ.r ?_)
          obtain rfl := Option.some.inj h
          exact retQ.gen (vs := [V.int .i64 0, V.int .i64 x_14866]) rfl (.tmp (v := V.int .i64 0) rfl (.tmp (v := V.int .i64 x_14866) rfl .nil)) (.free rfl) (by simp) (.inr rfl)
        · skip
          refine Safe.condN rfl hc14868 ?_
          repeat (first | refine Safe.seq ?_ | refine Safe.skip ?_ | with_reducible refine thenQ.n ?_ | with_reducible refine blockQ.n ?_)
          refine Safe.region ?_
          refine SafeOps.quiet0 E_good rfl rfl rfl (v := V.int .i64 x_14865) (.fn rfl) ?_
          refine SafeOps.quiet0 E_good rfl rfl rfl (v := V.ptr [2] 0 4) (.fn rfl) ?_
          refine SafeOps.quiet0 E_good rfl rfl rfl (v := V.int .i64 a0_14726.Unit) (.load rfl rfl (.box rfl rfl) rfl) ?_
          refine SafeOps.quiet0 E_good rfl rfl rfl (v := V.int .i64 (IntKind.i64.wrap (x_14865 - a0_14726.Unit))) (.fn rfl) ?_
          refine SafeOps.quiet0 E_good rfl rfl rfl (v := V.int .i64 (IntKind.i64.wrap (x_14865 - a0_14726.Unit))) (.fn rfl) ?_
          refine SafeOps.quiet0 E_good rfl rfl rfl (v := V.int .i64 0) (.fn rfl) ?_
          refine SafeOps.nil ?_
          repeat (first | refine Safe.seq ?_ | refine Safe.skip ?_ | with_reducible refine thenQ.n ?_ | with_reducible refine blockQ.n ?_)
          refine Safe.ret ?_
          repeat (first | with_reducible refine thenQ.r ?_ | with_reducible refine blockQ.r ?_)
          obtain rfl := Option.some.inj h
          exact retQ.gen (vs := [V.int .i64 (IntKind.i64.wrap (x_14865 - a0_14726.Unit)), V.int .i64 0]) rfl (.tmp (v := V.int .i64 (IntKind.i64.wrap (x_14865 - a0_14726.Unit))) rfl (.tmp (v := V.int .i64 0) rfl .nil)) (.free rfl) (by simp) (.inr rfl)

noncomputable def go_ravelref04_Run_s1 (a0_14903 : List api_Instr) : (Int) → Option ((Int) ⊕ (List api_Instr))
  | v7_14929 =>
    if (decide (v7_14929 < (a0_14903.length : Int))) = true then
      if 0 ≤ v7_14929 ∧ v7_14929 < (a0_14903.length : Int) then
        if (((gt a0_14903 v7_14929).Op) == 9) = true then
          if 0 ≤ (IntKind.i64.wrap (v7_14929 + 1)) ∧ (IntKind.i64.wrap (v7_14929 + 1)) ≤ (a0_14903.length : Int) then
            inrO (
              some (sub a0_14903 0 (IntKind.i64.wrap (v7_14929 + 1))))
          else none
        else
          nextO (IntKind.i64.wrap (v7_14929 + 1))
      else none
    else
      inrO (
        some a0_14903)

noncomputable def go_ravelref04_Run (a0_14903 : List api_Instr) : Option (List api_Instr) :=
  whileO (go_ravelref04_Run_s1 a0_14903) 0

theorem go_ravelref04_Run_sc (a0_14903 : List api_Instr) (r : List api_Instr) (h : go_ravelref04_Run a0_14903 = some r) : SC Tryd.prog gl 31 [V.sl 3 (rws api_Instr.cells a0_14903)] (V.sl 3 (rws api_Instr.cells r)) := by
  rw [go_ravelref04_Run] at h
  refine SC.of E_good Tryd.func31 rfl (fun _ _ => Tryd.call31 _ _) rfl ?_
  repeat (first | refine Safe.seq ?_ | refine Safe.skip ?_ | with_reducible refine thenQ.n ?_ | with_reducible refine blockQ.n ?_)
  refine Safe.region ?_
  refine SafeOps.quiet0 E_good rfl rfl rfl (v := V.nils) (.fn rfl) ?_
  refine SafeOps.nil ?_
  repeat (first | refine Safe.seq ?_ | refine Safe.skip ?_ | with_reducible refine thenQ.n ?_ | with_reducible refine blockQ.n ?_)
  refine Safe.region ?_
  refine SafeOps.quiet0 E_good rfl rfl rfl (v := V.sl 3 (rws api_Instr.cells a0_14903)) (.fn rfl) ?_
  refine SafeOps.quiet0 E_good rfl rfl rfl (v := V.int .i64 (a0_14903.length : Int)) (.fnE rfl lenE) ?_
  refine SafeOps.quiet0 E_good rfl rfl rfl (v := V.int .i64 0) (.fn rfl) ?_
  refine SafeOps.nil ?_
  repeat (first | refine Safe.seq ?_ | refine Safe.skip ?_ | with_reducible refine thenQ.n ?_ | with_reducible refine blockQ.n ?_)
  refine Safe.block ?_
  repeat (first | refine Safe.seq ?_ | refine Safe.skip ?_ | with_reducible refine thenQ.n ?_ | with_reducible refine blockQ.n ?_)
  refine Safe.loopW (fun (v7_14929 : Int) => ⟨Tryd.f31.ntmps, [(0, V.sl 3 (rws api_Instr.cells a0_14903)), (5, V.sl 3 (rws api_Instr.cells a0_14903)), (6, V.int .i64 (a0_14903.length : Int)), (7, V.int .i64 v7_14929)], [], [], []⟩) h (.cov ⟨rfl, rfl, (upT_cons (.refl _) (upT_cons (.refl _) (upT_cons (.refl _) (upT_cons (.refl _) upT_nil)))), upOb_nil, upOut_nil, rfl⟩) ?_
  intro v7_14929 ohr14930 h hr14930
  replace h : go_ravelref04_Run_s1 a0_14903 v7_14929 = some ohr14930 := h
  rw [go_ravelref04_Run_s1] at h
  repeat (first | refine Safe.seq ?_ | refine Safe.skip ?_ | with_reducible refine thenQ.n ?_ | with_reducible refine blockQ.n ?_)
  refine Safe.region ?_
  refine SafeOps.quiet0 E_good rfl rfl rfl (v := V.bool (decide (v7_14929 < (a0_14903.length : Int)))) (.fn rfl) ?_
  refine SafeOps.nil ?_
  repeat (first | refine Safe.seq ?_ | refine Safe.skip ?_ | with_reducible refine thenQ.n ?_ | with_reducible refine blockQ.n ?_)
  refine ifG h (fun hc14931 h => ?_) (fun hc14931 h => ?_)
  · skip
    refine Safe.condK rfl hc14931 ?_
    repeat (first | refine Safe.seq ?_ | refine Safe.skip ?_ | with_reducible refine thenQ.n ?_ | with_reducible refine blockQ.n ?_)
    refine Safe.block ?_
    repeat (first | refine Safe.seq ?_ | refine Safe.skip ?_ | with_reducible refine thenQ.n ?_ | with_reducible refine blockQ.n ?_)
    refine Safe.region ?_
    refine SafeOps.quiet0 E_good rfl rfl rfl (v := V.int .i64 v7_14929) (.fn rfl) ?_
    refine okG h (fun hb14932 h => ?_)
    refine SafeOps.quiet0 E_good rfl rfl rfl (v := V.spt 3 (rws api_Instr.cells a0_14903) (Int.toNat v7_14929) 0) (.idxSlM (f := api_Instr.cells) rfl rfl rfl rfl rfl hb14932) ?_
    refine SafeOps.quiet0 E_good rfl rfl rfl (v := V.agg [V.int .i64 ((gt a0_14903 v7_14929).Op), V.int .i64 ((gt a0_14903 v7_14929).A), V.int .i64 ((gt a0_14903 v7_14929).B)]) (.load rfl rfl (.sptM (f := api_Instr.cells) hb14932 rfl) rfl) ?_
    refine SafeOps.quiet1 E_good rfl rfl rfl (.alloc rfl rfl) rfl ?_
    refine SafeOps.quiet0 E_good rfl rfl rfl (v := V.int .i64 v7_14929) (.fn rfl) ?_
    refine SafeOps.store (z := Obj.box [V.int .i64 ((gt a0_14903 v7_14929).Op), V.int .i64 ((gt a0_14903 v7_14929).A), V.int .i64 ((gt a0_14903 v7_14929).B)]) E_good rfl rfl rfl rfl rfl rfl rfl (.boxM (c := 3) rfl rfl (Nat.le_of_ble_eq_true rfl) rfl) ?_
    refine SafeOps.nil ?_
    repeat (first | refine Safe.seq ?_ | refine Safe.skip ?_ | with_reducible refine thenQ.n ?_ | with_reducible refine blockQ.n ?_)
    refine Safe.region ?_
    refine SafeOps.quiet0 E_good rfl rfl rfl (v := V.ptr [4] 0 0) (.fn rfl) ?_
    refine SafeOps.quiet0 E_good rfl rfl rfl (v := V.int .i64 ((gt a0_14903 v7_14929).Op)) (.load rfl rfl (.box rfl rfl) rfl) ?_
    refine SafeOps.quiet0 E_good rfl rfl rfl (v := V.bool (((gt a0_14903 v7_14929).Op) == 9)) (.fn rfl) ?_
    refine SafeOps.nil ?_
    repeat (first | refine Safe.seq ?_ | refine Safe.skip ?_ | with_reducible refine thenQ.n ?_ | with_reducible refine blockQ.n ?_)
    refine ifG h (fun hc14933 h => ?_) (fun hc14933 h => ?_)
    · skip
      refine Safe.condK rfl hc14933 ?_
      repeat (first | refine Safe.seq ?_ | refine Safe.skip ?_ | with_reducible refine thenQ.n ?_ | with_reducible refine blockQ.n ?_)
      refine Safe.region ?_
      refine SafeOps.quiet0 E_good rfl rfl rfl (v := V.sl 3 (rws api_Instr.cells a0_14903)) (.fn rfl) ?_
      refine SafeOps.quiet0 E_good rfl rfl rfl (v := V.int .i64 v7_14929) (.fn rfl) ?_
      refine SafeOps.quiet0 E_good rfl rfl rfl (v := V.int .i64 (IntKind.i64.wrap (v7_14929 + 1))) (.fn rfl) ?_
      refine okG h (fun hb14934 h => ?_)
      refine SafeOps.quiet0 E_good rfl rfl rfl (v := V.sl 3 (rws api_Instr.cells (sub a0_14903 0 (IntKind.i64.wrap (v7_14929 + 1))))) (.slH (f := api_Instr.cells) rfl rfl rfl rfl rfl hb14934) ?_
      refine SafeOps.quiet0 E_good rfl rfl rfl (v := V.sl 3 (rws api_Instr.cells (sub a0_14903 0 (IntKind.i64.wrap (v7_14929 + 1))))) (.fn rfl) ?_
      refine SafeOps.nil ?_
      repeat (first | refine Safe.seq ?_ | refine Safe.skip ?_ | with_reducible refine thenQ.n ?_ | with_reducible refine blockQ.n ?_)
      refine Safe.ret ?_
      repeat (first | with_reducible refine thenQ.r ?_ | with_reducible refine blockQ.r ?_)
      replace h := inr_out h hr14930
      obtain rfl := Option.some.inj h
      exact retQ.gen (vs := [V.sl 3 (rws api_Instr.cells (sub a0_14903 0 (IntKind.i64.wrap (v7_14929 + 1))))]) rfl (.tmp (v := V.sl 3 (rws api_Instr.cells (sub a0_14903 0 (IntKind.i64.wrap (v7_14929 + 1))))) rfl .nil) (.free rfl) (by simp) (.inr rfl)
    · skip
      refine Safe.condN rfl hc14933 ?_
      repeat (first | refine Safe.seq ?_ | refine Safe.skip ?_ | with_reducible refine thenQ.n ?_ | with_reducible refine blockQ.n ?_)
      refine Safe.region ?_
      refine SafeOps.quiet0 E_good rfl rfl rfl (v := V.int .i64 (IntKind.i64.wrap (v7_14929 + 1))) (.fn rfl) ?_
      refine SafeOps.quiet0 E_good rfl rfl rfl (v := V.int .i64 (IntKind.i64.wrap (v7_14929 + 1))) (.fn rfl) ?_
      refine SafeOps.nil ?_
      repeat (first | refine Safe.seq ?_ | refine Safe.skip ?_ | with_reducible refine thenQ.n ?_ | with_reducible refine blockQ.n ?_)
      exact ⟨_, next_out h, (.cov ⟨rfl, rfl, (upT_cons (.refl _) (upT_cons (.refl _) (upT_cons (.refl _) (upT_cons (.refl _) upT_nil)))), upOb_nil, upOut_nil, rfl⟩)⟩
  · skip
    refine Safe.condN rfl hc14931 ?_
    repeat (first | refine Safe.seq ?_ | refine Safe.skip ?_ | with_reducible refine thenQ.n ?_ | with_reducible refine blockQ.n ?_)
    refine Safe.exit ?_
    repeat (first | with_reducible refine thenQ.e ?_ | with_reducible refine blockQ.x rfl ?_ | with_reducible refine blockQ.y rfl ?_)
    replace h := inr_out h hr14930
    repeat (first | refine Safe.seq ?_ | refine Safe.skip ?_ | with_reducible refine thenQ.n ?_ | with_reducible refine blockQ.n ?_)
    refine Safe.region ?_
    refine SafeOps.quiet0 E_good rfl rfl rfl (v := V.sl 3 (rws api_Instr.cells a0_14903)) (.fn rfl) ?_
    refine SafeOps.quiet0 E_good rfl rfl rfl (v := V.sl 3 (rws api_Instr.cells a0_14903)) (.fn rfl) ?_
    refine SafeOps.nil ?_
    repeat (first | refine Safe.seq ?_ | refine Safe.skip ?_ | with_reducible refine thenQ.n ?_ | with_reducible refine blockQ.n ?_)
    refine Safe.ret ?_
    repeat (first | with_reducible refine thenQ.r ?_ | with_reducible refine blockQ.r ?_)
    obtain rfl := Option.some.inj h
    exact retQ.gen (vs := [V.sl 3 (rws api_Instr.cells a0_14903)]) rfl (.tmp (v := V.sl 3 (rws api_Instr.cells a0_14903)) rfl .nil) (.free rfl) (by simp) (.inr rfl)

noncomputable def go_ravelref13_Left_s3 (x_14980 : List api_Instr) : (Int × Int) → Option ((Int × Int) ⊕ (Int × Int))
  | (v8_14990, v37_14991) =>
    if (decide (v37_14991 < (x_14980.length : Int))) = true then
      if 0 ≤ v37_14991 ∧ v37_14991 < (x_14980.length : Int) then
        if (((gt x_14980 v37_14991).Op) == 1) = true then
          nextO (IntKind.i64.wrap (v8_14990 + ((gt x_14980 v37_14991).A)), IntKind.i64.wrap (v37_14991 + 1))
        else
          nextO (IntKind.i64.wrap (v8_14990 + 1), IntKind.i64.wrap (v37_14991 + 1))
      else none
    else
      inrO (
        some (v8_14990, 0))

noncomputable def go_ravelref13_Left_s2 (a0_14872 : api_Task) (a1_14873 : List api_Instr) : (Int) → Option ((Int) ⊕ (Int × Int))
  | v20_14974 =>
    if (decide (v20_14974 < ((sub a1_14873 0 a0_14872.Pc).length : Int))) = true then
      if 0 ≤ v20_14974 ∧ v20_14974 < ((sub a1_14873 0 a0_14872.Pc).length : Int) then
        if (((gt (sub a1_14873 0 a0_14872.Pc) v20_14974).Op) == 9) = true then
          inrO (
            some (0, 0))
        else
          nextO (IntKind.i64.wrap (v20_14974 + 1))
      else none
    else
      inrO (
        if 0 ≤ a0_14872.Pc ∧ a0_14872.Pc ≤ (a1_14873.length : Int) then
          (go_ravelref04_Run (sub a1_14873 a0_14872.Pc (a1_14873.length : Int))).bind fun x_14980 =>
          whileO (go_ravelref13_Left_s3 x_14980) (IntKind.i64.wrap (0 - a0_14872.Unit), 0)
        else none)

noncomputable def go_ravelref13_Left (a0_14872 : api_Task) (a1_14873 : List api_Instr) : Option (Int × Int) :=
  (go_ravelref13_Fits a0_14872 a1_14873).bind fun x_14951 =>
  if (!x_14951) = true then
    some (0, 1)
  else
    if 0 ≤ a0_14872.Pc ∧ a0_14872.Pc ≤ (a1_14873.length : Int) then
      whileO (go_ravelref13_Left_s2 a0_14872 a1_14873) 0
    else none

theorem go_ravelref13_Left_sc (a0_14872 : api_Task) (a1_14873 : List api_Instr) (r : Int × Int) (h : go_ravelref13_Left a0_14872 a1_14873 = some r) : SC Tryd.prog gl 19 [V.agg [V.int .i64 a0_14872.Id, V.int .i64 a0_14872.Tenant, V.int .i64 a0_14872.Prog, V.int .i64 a0_14872.Pc, V.int .i64 a0_14872.Unit, V.int .i64 a0_14872.Keeps.a0, V.int .i64 a0_14872.Keeps.a1, V.int .i64 a0_14872.Keeps.a2, V.int .i64 a0_14872.Keeps.a3, V.int .i64 a0_14872.State, V.int .i64 a0_14872.Ran], V.sl 3 (rws api_Instr.cells a1_14873)] (V.tup [V.int .i64 r.1, V.int .i64 r.2]) := by
  rw [go_ravelref13_Left] at h
  refine SC.of E_good Tryd.func19 rfl (fun _ _ => Tryd.call19 _ _) rfl ?_
  repeat (first | refine Safe.seq ?_ | refine Safe.skip ?_ | with_reducible refine thenQ.n ?_ | with_reducible refine blockQ.n ?_)
  refine Safe.region ?_
  refine SafeOps.quiet1 E_good rfl rfl rfl (.box rfl rfl) rfl ?_
  refine SafeOps.quiet0 E_good rfl rfl rfl (v := V.int .i64 0) (.fn rfl) ?_
  refine SafeOps.quiet0 E_good rfl rfl rfl (v := V.int .i64 0) (.fn rfl) ?_
  refine SafeOps.nil ?_
  repeat (first | refine Safe.seq ?_ | refine Safe.skip ?_ | with_reducible refine thenQ.n ?_ | with_reducible refine blockQ.n ?_)
  refine Safe.region ?_
  refine SafeOps.quiet0 E_good rfl rfl rfl (v := V.agg [V.int .i64 a0_14872.Id, V.int .i64 a0_14872.Tenant, V.int .i64 a0_14872.Prog, V.int .i64 a0_14872.Pc, V.int .i64 a0_14872.Unit, V.int .i64 a0_14872.Keeps.a0, V.int .i64 a0_14872.Keeps.a1, V.int .i64 a0_14872.Keeps.a2, V.int .i64 a0_14872.Keeps.a3, V.int .i64 a0_14872.State, V.int .i64 a0_14872.Ran]) (.load rfl rfl (.box rfl rfl) rfl) ?_
  refine SafeOps.quiet0 E_good rfl rfl rfl (v := V.sl 3 (rws api_Instr.cells a1_14873)) (.fn rfl) ?_
  refine bindG h ?_
  intro x_14951 he14952 h
  refine SafeOps.quiet0 E_good rfl rfl rfl (v := V.bool x_14951) (.callP rfl rfl (go_ravelref13_Fits_sc a0_14872 a1_14873 _ he14952) rfl) ?_
  refine SafeOps.quiet0 E_good rfl rfl rfl (v := V.bool (!x_14951)) (.fn rfl) ?_
  refine SafeOps.nil ?_
  repeat (first | refine Safe.seq ?_ | refine Safe.skip ?_ | with_reducible refine thenQ.n ?_ | with_reducible refine blockQ.n ?_)
  refine ifG h (fun hc14953 h => ?_) (fun hc14953 h => ?_)
  · skip
    refine Safe.condK rfl hc14953 ?_
    repeat (first | refine Safe.seq ?_ | refine Safe.skip ?_ | with_reducible refine thenQ.n ?_ | with_reducible refine blockQ.n ?_)
    refine Safe.region ?_
    refine SafeOps.quiet0 E_good rfl rfl rfl (v := V.int .i64 0) (.fn rfl) ?_
    refine SafeOps.quiet0 E_good rfl rfl rfl (v := V.int .i64 1) (.fn rfl) ?_
    refine SafeOps.nil ?_
    repeat (first | refine Safe.seq ?_ | refine Safe.skip ?_ | with_reducible refine thenQ.n ?_ | with_reducible refine blockQ.n ?_)
    refine Safe.ret ?_
    repeat (first | with_reducible refine thenQ.r ?_ | with_reducible refine blockQ.r ?_)
    obtain rfl := Option.some.inj h
    exact retQ.gen (vs := [V.int .i64 0, V.int .i64 1]) rfl (.tmp (v := V.int .i64 0) rfl (.tmp (v := V.int .i64 1) rfl .nil)) (.free rfl) (by simp) (.inr rfl)
  · skip
    refine Safe.condN rfl hc14953 ?_
    repeat (first | refine Safe.seq ?_ | refine Safe.skip ?_ | with_reducible refine thenQ.n ?_ | with_reducible refine blockQ.n ?_)
    refine Safe.region ?_
    refine SafeOps.quiet0 E_good rfl rfl rfl (v := V.sl 3 (rws api_Instr.cells a1_14873)) (.fn rfl) ?_
    refine SafeOps.quiet0 E_good rfl rfl rfl (v := V.ptr [2] 0 3) (.fn rfl) ?_
    refine SafeOps.quiet0 E_good rfl rfl rfl (v := V.int .i64 a0_14872.Pc) (.load rfl rfl (.box rfl rfl) rfl) ?_
    refine okG h (fun hb14954 h => ?_)
    refine SafeOps.quiet0 E_good rfl rfl rfl (v := V.sl 3 (rws api_Instr.cells (sub a1_14873 0 a0_14872.Pc))) (.slH (f := api_Instr.cells) rfl rfl rfl rfl rfl hb14954) ?_
    refine SafeOps.quiet0 E_good rfl rfl rfl (v := V.int .i64 ((sub a1_14873 0 a0_14872.Pc).length : Int)) (.fnE rfl lenE) ?_
    refine SafeOps.quiet0 E_good rfl rfl rfl (v := V.int .i64 0) (.fn rfl) ?_
    refine SafeOps.nil ?_
    repeat (first | refine Safe.seq ?_ | refine Safe.skip ?_ | with_reducible refine thenQ.n ?_ | with_reducible refine blockQ.n ?_)
    refine Safe.block ?_
    repeat (first | refine Safe.seq ?_ | refine Safe.skip ?_ | with_reducible refine thenQ.n ?_ | with_reducible refine blockQ.n ?_)
    refine Safe.loopW (fun (v20_14974 : Int) => ⟨Tryd.f19.ntmps, [(1, V.sl 3 (rws api_Instr.cells a1_14873)), (2, V.ptr [2] 0 0), (18, V.sl 3 (rws api_Instr.cells (sub a1_14873 0 a0_14872.Pc))), (19, V.int .i64 ((sub a1_14873 0 a0_14872.Pc).length : Int)), (20, V.int .i64 v20_14974)], [([2], Obj.box [V.int .i64 a0_14872.Id, V.int .i64 a0_14872.Tenant, V.int .i64 a0_14872.Prog, V.int .i64 a0_14872.Pc, V.int .i64 a0_14872.Unit, V.int .i64 a0_14872.Keeps.a0, V.int .i64 a0_14872.Keeps.a1, V.int .i64 a0_14872.Keeps.a2, V.int .i64 a0_14872.Keeps.a3, V.int .i64 a0_14872.State, V.int .i64 a0_14872.Ran])], [], []⟩) h (.cov ⟨rfl, rfl, (upT_cons (.refl _) (upT_cons (.refl _) (upT_cons (.refl _) (upT_cons (.refl _) (upT_cons (.refl _) upT_nil))))), (upOb_cons rfl (.refl _) upOb_nil), upOut_nil, rfl⟩) ?_
    intro v20_14974 ohr14975 h hr14975
    replace h : go_ravelref13_Left_s2 a0_14872 a1_14873 v20_14974 = some ohr14975 := h
    rw [go_ravelref13_Left_s2] at h
    repeat (first | refine Safe.seq ?_ | refine Safe.skip ?_ | with_reducible refine thenQ.n ?_ | with_reducible refine blockQ.n ?_)
    refine Safe.region ?_
    refine SafeOps.quiet0 E_good rfl rfl rfl (v := V.bool (decide (v20_14974 < ((sub a1_14873 0 a0_14872.Pc).length : Int)))) (.fn rfl) ?_
    refine SafeOps.nil ?_
    repeat (first | refine Safe.seq ?_ | refine Safe.skip ?_ | with_reducible refine thenQ.n ?_ | with_reducible refine blockQ.n ?_)
    refine ifG h (fun hc14976 h => ?_) (fun hc14976 h => ?_)
    · skip
      refine Safe.condK rfl hc14976 ?_
      repeat (first | refine Safe.seq ?_ | refine Safe.skip ?_ | with_reducible refine thenQ.n ?_ | with_reducible refine blockQ.n ?_)
      refine Safe.block ?_
      repeat (first | refine Safe.seq ?_ | refine Safe.skip ?_ | with_reducible refine thenQ.n ?_ | with_reducible refine blockQ.n ?_)
      refine Safe.region ?_
      refine okG h (fun hb14977 h => ?_)
      refine SafeOps.quiet0 E_good rfl rfl rfl (v := V.spt 3 (rws api_Instr.cells (sub a1_14873 0 a0_14872.Pc)) (Int.toNat v20_14974) 0) (.idxSlM (f := api_Instr.cells) rfl rfl rfl rfl rfl hb14977) ?_
      refine SafeOps.quiet0 E_good rfl rfl rfl (v := V.agg [V.int .i64 ((gt (sub a1_14873 0 a0_14872.Pc) v20_14974).Op), V.int .i64 ((gt (sub a1_14873 0 a0_14872.Pc) v20_14974).A), V.int .i64 ((gt (sub a1_14873 0 a0_14872.Pc) v20_14974).B)]) (.load rfl rfl (.sptM (f := api_Instr.cells) hb14977 rfl) rfl) ?_
      refine SafeOps.quiet1 E_good rfl rfl rfl (.alloc rfl rfl) rfl ?_
      refine SafeOps.store (z := Obj.box [V.int .i64 ((gt (sub a1_14873 0 a0_14872.Pc) v20_14974).Op), V.int .i64 ((gt (sub a1_14873 0 a0_14872.Pc) v20_14974).A), V.int .i64 ((gt (sub a1_14873 0 a0_14872.Pc) v20_14974).B)]) E_good rfl rfl rfl rfl rfl rfl rfl (.boxM (c := 3) rfl rfl (Nat.le_of_ble_eq_true rfl) rfl) ?_
      refine SafeOps.nil ?_
      repeat (first | refine Safe.seq ?_ | refine Safe.skip ?_ | with_reducible refine thenQ.n ?_ | with_reducible refine blockQ.n ?_)
      refine Safe.region ?_
      refine SafeOps.quiet0 E_good rfl rfl rfl (v := V.ptr [7] 0 0) (.fn rfl) ?_
      refine SafeOps.quiet0 E_good rfl rfl rfl (v := V.int .i64 ((gt (sub a1_14873 0 a0_14872.Pc) v20_14974).Op)) (.load rfl rfl (.box rfl rfl) rfl) ?_
      refine SafeOps.quiet0 E_good rfl rfl rfl (v := V.bool (((gt (sub a1_14873 0 a0_14872.Pc) v20_14974).Op) == 9)) (.fn rfl) ?_
      refine SafeOps.nil ?_
      repeat (first | refine Safe.seq ?_ | refine Safe.skip ?_ | with_reducible refine thenQ.n ?_ | with_reducible refine blockQ.n ?_)
      refine ifG h (fun hc14978 h => ?_) (fun hc14978 h => ?_)
      · skip
        refine Safe.condK rfl hc14978 ?_
        repeat (first | refine Safe.seq ?_ | refine Safe.skip ?_ | with_reducible refine thenQ.n ?_ | with_reducible refine blockQ.n ?_)
        refine Safe.region ?_
        refine SafeOps.quiet0 E_good rfl rfl rfl (v := V.int .i64 0) (.fn rfl) ?_
        refine SafeOps.quiet0 E_good rfl rfl rfl (v := V.int .i64 0) (.fn rfl) ?_
        refine SafeOps.nil ?_
        repeat (first | refine Safe.seq ?_ | refine Safe.skip ?_ | with_reducible refine thenQ.n ?_ | with_reducible refine blockQ.n ?_)
        refine Safe.ret ?_
        repeat (first | with_reducible refine thenQ.r ?_ | with_reducible refine blockQ.r ?_)
        replace h := inr_out h hr14975
        obtain rfl := Option.some.inj h
        exact retQ.gen (vs := [V.int .i64 0, V.int .i64 0]) rfl (.tmp (v := V.int .i64 0) rfl (.tmp (v := V.int .i64 0) rfl .nil)) (.free rfl) (by simp) (.inr rfl)
      · skip
        refine Safe.condN rfl hc14978 ?_
        repeat (first | refine Safe.seq ?_ | refine Safe.skip ?_ | with_reducible refine thenQ.n ?_ | with_reducible refine blockQ.n ?_)
        refine Safe.region ?_
        refine SafeOps.quiet0 E_good rfl rfl rfl (v := V.int .i64 (IntKind.i64.wrap (v20_14974 + 1))) (.fn rfl) ?_
        refine SafeOps.quiet0 E_good rfl rfl rfl (v := V.int .i64 (IntKind.i64.wrap (v20_14974 + 1))) (.fn rfl) ?_
        refine SafeOps.nil ?_
        repeat (first | refine Safe.seq ?_ | refine Safe.skip ?_ | with_reducible refine thenQ.n ?_ | with_reducible refine blockQ.n ?_)
        exact ⟨_, next_out h, (.cov ⟨rfl, rfl, (upT_cons (.refl _) (upT_cons (.refl _) (upT_cons (.refl _) (upT_cons (.refl _) (upT_cons (.refl _) upT_nil))))), (upOb_cons rfl (.refl _) upOb_nil), upOut_nil, rfl⟩)⟩
    · skip
      refine Safe.condN rfl hc14976 ?_
      repeat (first | refine Safe.seq ?_ | refine Safe.skip ?_ | with_reducible refine thenQ.n ?_ | with_reducible refine blockQ.n ?_)
      refine Safe.exit ?_
      repeat (first | with_reducible refine thenQ.e ?_ | with_reducible refine blockQ.x rfl ?_ | with_reducible refine blockQ.y rfl ?_)
      replace h := inr_out h hr14975
      repeat (first | refine Safe.seq ?_ | refine Safe.skip ?_ | with_reducible refine thenQ.n ?_ | with_reducible refine blockQ.n ?_)
      refine Safe.region ?_
      refine SafeOps.quiet0 E_good rfl rfl rfl (v := V.ptr [2] 0 4) (.fn rfl) ?_
      refine SafeOps.quiet0 E_good rfl rfl rfl (v := V.int .i64 a0_14872.Unit) (.load rfl rfl (.box rfl rfl) rfl) ?_
      refine SafeOps.quiet0 E_good rfl rfl rfl (v := V.int .i64 (IntKind.i64.wrap (0 - a0_14872.Unit))) (.fn rfl) ?_
      refine SafeOps.quiet0 E_good rfl rfl rfl (v := V.int .i64 (IntKind.i64.wrap (0 - a0_14872.Unit))) (.fn rfl) ?_
      refine SafeOps.nil ?_
      repeat (first | refine Safe.seq ?_ | refine Safe.skip ?_ | with_reducible refine thenQ.n ?_ | with_reducible refine blockQ.n ?_)
      refine Safe.region ?_
      refine SafeOps.quiet0 E_good rfl rfl rfl (v := V.sl 3 (rws api_Instr.cells a1_14873)) (.fn rfl) ?_
      refine SafeOps.quiet0 E_good rfl rfl rfl (v := V.ptr [2] 0 3) (.fn rfl) ?_
      refine SafeOps.quiet0 E_good rfl rfl rfl (v := V.int .i64 a0_14872.Pc) (.load rfl rfl (.box rfl rfl) rfl) ?_
      refine okG h (fun hb14979 h => ?_)
      refine SafeOps.quiet0 E_good rfl rfl rfl (v := V.sl 3 (rws api_Instr.cells (sub a1_14873 a0_14872.Pc (a1_14873.length : Int)))) (.slL (f := api_Instr.cells) rfl rfl rfl rfl rfl hb14979) ?_
      refine bindG h ?_
      intro x_14980 he14981 h
      refine SafeOps.quiet0 E_good rfl rfl rfl (v := V.sl 3 (rws api_Instr.cells x_14980)) (.callP rfl rfl (go_ravelref04_Run_sc (sub a1_14873 a0_14872.Pc (a1_14873.length : Int)) _ he14981) rfl) ?_
      refine SafeOps.quiet0 E_good rfl rfl rfl (v := V.int .i64 (x_14980.length : Int)) (.fnE rfl lenE) ?_
      refine SafeOps.quiet0 E_good rfl rfl rfl (v := V.int .i64 0) (.fn rfl) ?_
      refine SafeOps.nil ?_
      repeat (first | refine Safe.seq ?_ | refine Safe.skip ?_ | with_reducible refine thenQ.n ?_ | with_reducible refine blockQ.n ?_)
      refine Safe.block ?_
      repeat (first | refine Safe.seq ?_ | refine Safe.skip ?_ | with_reducible refine thenQ.n ?_ | with_reducible refine blockQ.n ?_)
      refine Safe.loopW (fun ((v8_14990, v37_14991) : Int × Int) => ⟨Tryd.f19.ntmps, [(8, V.int .i64 v8_14990), (35, V.sl 3 (rws api_Instr.cells x_14980)), (36, V.int .i64 (x_14980.length : Int)), (37, V.int .i64 v37_14991)], [], [], []⟩) h (.cov ⟨rfl, rfl, (upT_cons (.refl _) (upT_cons (.refl _) (upT_cons (.refl _) (upT_cons (.refl _) upT_nil)))), upOb_nil, upOut_nil, rfl⟩) ?_
      rintro ⟨v8_14990, v37_14991⟩ ohr14992 h hr14992
      replace h : go_ravelref13_Left_s3 x_14980 (v8_14990, v37_14991) = some ohr14992 := h
      rw [go_ravelref13_Left_s3] at h
      repeat (first | refine Safe.seq ?_ | refine Safe.skip ?_ | with_reducible refine thenQ.n ?_ | with_reducible refine blockQ.n ?_)
      refine Safe.region ?_
      refine SafeOps.quiet0 E_good rfl rfl rfl (v := V.bool (decide (v37_14991 < (x_14980.length : Int)))) (.fn rfl) ?_
      refine SafeOps.nil ?_
      repeat (first | refine Safe.seq ?_ | refine Safe.skip ?_ | with_reducible refine thenQ.n ?_ | with_reducible refine blockQ.n ?_)
      refine ifG h (fun hc14993 h => ?_) (fun hc14993 h => ?_)
      · skip
        refine Safe.condK rfl hc14993 ?_
        repeat (first | refine Safe.seq ?_ | refine Safe.skip ?_ | with_reducible refine thenQ.n ?_ | with_reducible refine blockQ.n ?_)
        refine Safe.block ?_
        repeat (first | refine Safe.seq ?_ | refine Safe.skip ?_ | with_reducible refine thenQ.n ?_ | with_reducible refine blockQ.n ?_)
        refine Safe.region ?_
        refine okG h (fun hb14994 h => ?_)
        refine SafeOps.quiet0 E_good rfl rfl rfl (v := V.spt 3 (rws api_Instr.cells x_14980) (Int.toNat v37_14991) 0) (.idxSlM (f := api_Instr.cells) rfl rfl rfl rfl rfl hb14994) ?_
        refine SafeOps.quiet0 E_good rfl rfl rfl (v := V.agg [V.int .i64 ((gt x_14980 v37_14991).Op), V.int .i64 ((gt x_14980 v37_14991).A), V.int .i64 ((gt x_14980 v37_14991).B)]) (.load rfl rfl (.sptM (f := api_Instr.cells) hb14994 rfl) rfl) ?_
        refine SafeOps.quiet1 E_good rfl rfl rfl (.alloc rfl rfl) rfl ?_
        refine SafeOps.store (z := Obj.box [V.int .i64 ((gt x_14980 v37_14991).Op), V.int .i64 ((gt x_14980 v37_14991).A), V.int .i64 ((gt x_14980 v37_14991).B)]) E_good rfl rfl rfl rfl rfl rfl rfl (.boxM (c := 3) rfl rfl (Nat.le_of_ble_eq_true rfl) rfl) ?_
        refine SafeOps.nil ?_
        repeat (first | refine Safe.seq ?_ | refine Safe.skip ?_ | with_reducible refine thenQ.n ?_ | with_reducible refine blockQ.n ?_)
        refine Safe.region ?_
        refine SafeOps.quiet0 E_good rfl rfl rfl (v := V.ptr [10] 0 0) (.fn rfl) ?_
        refine SafeOps.quiet0 E_good rfl rfl rfl (v := V.int .i64 ((gt x_14980 v37_14991).Op)) (.load rfl rfl (.box rfl rfl) rfl) ?_
        refine SafeOps.quiet0 E_good rfl rfl rfl (v := V.bool (((gt x_14980 v37_14991).Op) == 1)) (.fn rfl) ?_
        refine SafeOps.nil ?_
        repeat (first | refine Safe.seq ?_ | refine Safe.skip ?_ | with_reducible refine thenQ.n ?_ | with_reducible refine blockQ.n ?_)
        refine ifG h (fun hc14995 h => ?_) (fun hc14995 h => ?_)
        · skip
          refine Safe.condK rfl hc14995 ?_
          repeat (first | refine Safe.seq ?_ | refine Safe.skip ?_ | with_reducible refine thenQ.n ?_ | with_reducible refine blockQ.n ?_)
          refine Safe.region ?_
          refine SafeOps.quiet0 E_good rfl rfl rfl (v := V.int .i64 v8_14990) (.fn rfl) ?_
          refine SafeOps.quiet0 E_good rfl rfl rfl (v := V.ptr [10] 0 1) (.fn rfl) ?_
          refine SafeOps.quiet0 E_good rfl rfl rfl (v := V.int .i64 ((gt x_14980 v37_14991).A)) (.load rfl rfl (.box rfl rfl) rfl) ?_
          refine SafeOps.quiet0 E_good rfl rfl rfl (v := V.int .i64 (IntKind.i64.wrap (v8_14990 + ((gt x_14980 v37_14991).A)))) (.fn rfl) ?_
          refine SafeOps.quiet0 E_good rfl rfl rfl (v := V.int .i64 (IntKind.i64.wrap (v8_14990 + ((gt x_14980 v37_14991).A)))) (.fn rfl) ?_
          refine SafeOps.nil ?_
          repeat (first | refine Safe.seq ?_ | refine Safe.skip ?_ | with_reducible refine thenQ.n ?_ | with_reducible refine blockQ.n ?_)
          refine Safe.region ?_
          refine SafeOps.quiet0 E_good rfl rfl rfl (v := V.int .i64 (IntKind.i64.wrap (v37_14991 + 1))) (.fn rfl) ?_
          refine SafeOps.quiet0 E_good rfl rfl rfl (v := V.int .i64 (IntKind.i64.wrap (v37_14991 + 1))) (.fn rfl) ?_
          refine SafeOps.nil ?_
          repeat (first | refine Safe.seq ?_ | refine Safe.skip ?_ | with_reducible refine thenQ.n ?_ | with_reducible refine blockQ.n ?_)
          exact ⟨_, next_out h, (.cov ⟨rfl, rfl, (upT_cons (.refl _) (upT_cons (.refl _) (upT_cons (.refl _) (upT_cons (.refl _) upT_nil)))), upOb_nil, upOut_nil, rfl⟩)⟩
        · skip
          refine Safe.condN rfl hc14995 ?_
          repeat (first | refine Safe.seq ?_ | refine Safe.skip ?_ | with_reducible refine thenQ.n ?_ | with_reducible refine blockQ.n ?_)
          refine Safe.region ?_
          refine SafeOps.quiet0 E_good rfl rfl rfl (v := V.int .i64 v8_14990) (.fn rfl) ?_
          refine SafeOps.quiet0 E_good rfl rfl rfl (v := V.int .i64 (IntKind.i64.wrap (v8_14990 + 1))) (.fn rfl) ?_
          refine SafeOps.quiet0 E_good rfl rfl rfl (v := V.int .i64 (IntKind.i64.wrap (v8_14990 + 1))) (.fn rfl) ?_
          refine SafeOps.nil ?_
          repeat (first | refine Safe.seq ?_ | refine Safe.skip ?_ | with_reducible refine thenQ.n ?_ | with_reducible refine blockQ.n ?_)
          refine Safe.region ?_
          refine SafeOps.quiet0 E_good rfl rfl rfl (v := V.int .i64 (IntKind.i64.wrap (v37_14991 + 1))) (.fn rfl) ?_
          refine SafeOps.quiet0 E_good rfl rfl rfl (v := V.int .i64 (IntKind.i64.wrap (v37_14991 + 1))) (.fn rfl) ?_
          refine SafeOps.nil ?_
          repeat (first | refine Safe.seq ?_ | refine Safe.skip ?_ | with_reducible refine thenQ.n ?_ | with_reducible refine blockQ.n ?_)
          exact ⟨_, next_out h, (.cov ⟨rfl, rfl, (upT_cons (.refl _) (upT_cons (.refl _) (upT_cons (.refl _) (upT_cons (.refl _) upT_nil)))), upOb_nil, upOut_nil, rfl⟩)⟩
      · skip
        refine Safe.condN rfl hc14993 ?_
        repeat (first | refine Safe.seq ?_ | refine Safe.skip ?_ | with_reducible refine thenQ.n ?_ | with_reducible refine blockQ.n ?_)
        refine Safe.exit ?_
        repeat (first | with_reducible refine thenQ.e ?_ | with_reducible refine blockQ.x rfl ?_ | with_reducible refine blockQ.y rfl ?_)
        replace h := inr_out h hr14992
        repeat (first | refine Safe.seq ?_ | refine Safe.skip ?_ | with_reducible refine thenQ.n ?_ | with_reducible refine blockQ.n ?_)
        refine Safe.region ?_
        refine SafeOps.quiet0 E_good rfl rfl rfl (v := V.int .i64 v8_14990) (.fn rfl) ?_
        refine SafeOps.quiet0 E_good rfl rfl rfl (v := V.int .i64 v8_14990) (.fn rfl) ?_
        refine SafeOps.quiet0 E_good rfl rfl rfl (v := V.int .i64 0) (.fn rfl) ?_
        refine SafeOps.nil ?_
        repeat (first | refine Safe.seq ?_ | refine Safe.skip ?_ | with_reducible refine thenQ.n ?_ | with_reducible refine blockQ.n ?_)
        refine Safe.ret ?_
        repeat (first | with_reducible refine thenQ.r ?_ | with_reducible refine blockQ.r ?_)
        obtain rfl := Option.some.inj h
        exact retQ.gen (vs := [V.int .i64 v8_14990, V.int .i64 0]) rfl (.tmp (v := V.int .i64 v8_14990) rfl (.tmp (v := V.int .i64 0) rfl .nil)) (.free rfl) (by simp) (.inr rfl)

theorem okT40 : (eqOk Tryd.prog E 20 40 && !Tryd.prog.eqGuardType Tryd.prog.depth 40) = true := by kernel_rfl

noncomputable def go_ravellaw13_StepDoes (a0_2016 : api_Task) (a1_2017 : List api_Instr) (a2_2018 : Int) : Option Bool :=
  (go_ravellaw13_live).bind fun x_15016 =>
  if (!x_15016) = true then
    some false
  else
    if (decide ((a1_2017.length : Int) > 200)) = true then
      some x_15016
    else
      (go_step_Do a0_2016 a1_2017).bind fun (x_15020, x_15021, x_15022) =>
      (go_ravelref13_Do a0_2016 a1_2017).bind fun (x_15024, x_15025, x_15026) =>
      (go_step_Slice a0_2016 a1_2017 a2_2018).bind fun (x_15028, x_15029, x_15030, x_15031) =>
      (go_ravelref13_Slice a0_2016 a1_2017 a2_2018).bind fun (x_15033, x_15034, x_15035, x_15036) =>
      (go_step_Left a0_2016 a1_2017).bind fun (x_15038, x_15039) =>
      (go_ravelref13_Left a0_2016 a1_2017).bind fun (x_15041, x_15042) =>
      (go_step_Next a0_2016 a1_2017).bind fun (x_15044, x_15045) =>
      (go_ravelref13_Next a0_2016 a1_2017).bind fun (x_15047, x_15048) =>
      some (((((((((((x_15016 && (api_Task.beq x_15020 x_15024)) && (api_Effect.beq x_15021 x_15025)) && (x_15022 == x_15026)) && (api_Task.beq x_15028 x_15033)) && (api_Effect.beq x_15029 x_15034)) && (x_15030 == x_15035)) && (x_15031 == x_15036)) && (x_15038 == x_15041)) && (x_15039 == x_15042)) && (api_Instr.beq x_15044 x_15047)) && (x_15045 == x_15048))

theorem go_ravellaw13_StepDoes_sc (a0_2016 : api_Task) (a1_2017 : List api_Instr) (a2_2018 : Int) (r : Bool) (h : go_ravellaw13_StepDoes a0_2016 a1_2017 a2_2018 = some r) : SC Tryd.prog gl 5 [V.agg [V.int .i64 a0_2016.Id, V.int .i64 a0_2016.Tenant, V.int .i64 a0_2016.Prog, V.int .i64 a0_2016.Pc, V.int .i64 a0_2016.Unit, V.int .i64 a0_2016.Keeps.a0, V.int .i64 a0_2016.Keeps.a1, V.int .i64 a0_2016.Keeps.a2, V.int .i64 a0_2016.Keeps.a3, V.int .i64 a0_2016.State, V.int .i64 a0_2016.Ran], V.sl 3 (rws api_Instr.cells a1_2017), V.int .i64 a2_2018] (V.bool r) := by
  rw [go_ravellaw13_StepDoes] at h
  refine SC.of E_good Tryd.func5 rfl (fun _ _ => Tryd.call5 _ _) rfl ?_
  repeat (first | refine Safe.seq ?_ | refine Safe.skip ?_ | with_reducible refine thenQ.n ?_ | with_reducible refine blockQ.n ?_)
  refine Safe.region ?_
  refine SafeOps.quiet1 E_good rfl rfl rfl (.box rfl rfl) rfl ?_
  refine SafeOps.quiet0 E_good rfl rfl rfl (v := V.bool false) (.fn rfl) ?_
  refine SafeOps.nil ?_
  repeat (first | refine Safe.seq ?_ | refine Safe.skip ?_ | with_reducible refine thenQ.n ?_ | with_reducible refine blockQ.n ?_)
  refine Safe.region ?_
  refine bindG h ?_
  intro x_15016 he15017 h
  refine SafeOps.quiet0 E_good rfl rfl rfl (v := V.bool x_15016) (.callP rfl rfl (go_ravellaw13_live_sc  _ he15017) rfl) ?_
  refine SafeOps.quiet0 E_good rfl rfl rfl (v := V.bool x_15016) (.fn rfl) ?_
  refine SafeOps.nil ?_
  repeat (first | refine Safe.seq ?_ | refine Safe.skip ?_ | with_reducible refine thenQ.n ?_ | with_reducible refine blockQ.n ?_)
  refine Safe.region ?_
  refine SafeOps.quiet0 E_good rfl rfl rfl (v := V.bool x_15016) (.fn rfl) ?_
  refine SafeOps.quiet0 E_good rfl rfl rfl (v := V.bool (!x_15016)) (.fn rfl) ?_
  refine SafeOps.nil ?_
  repeat (first | refine Safe.seq ?_ | refine Safe.skip ?_ | with_reducible refine thenQ.n ?_ | with_reducible refine blockQ.n ?_)
  refine ifG h (fun hc15018 h => ?_) (fun hc15018 h => ?_)
  · skip
    refine Safe.condK rfl hc15018 ?_
    repeat (first | refine Safe.seq ?_ | refine Safe.skip ?_ | with_reducible refine thenQ.n ?_ | with_reducible refine blockQ.n ?_)
    refine Safe.region ?_
    refine SafeOps.quiet0 E_good rfl rfl rfl (v := V.bool false) (.fn rfl) ?_
    refine SafeOps.nil ?_
    repeat (first | refine Safe.seq ?_ | refine Safe.skip ?_ | with_reducible refine thenQ.n ?_ | with_reducible refine blockQ.n ?_)
    refine Safe.ret ?_
    repeat (first | with_reducible refine thenQ.r ?_ | with_reducible refine blockQ.r ?_)
    obtain rfl := Option.some.inj h
    exact retQ.gen (vs := [V.bool false]) rfl (.tmp (v := V.bool false) rfl .nil) (.free rfl) (by simp) (.inr rfl)
  · skip
    refine Safe.condN rfl hc15018 ?_
    repeat (first | refine Safe.seq ?_ | refine Safe.skip ?_ | with_reducible refine thenQ.n ?_ | with_reducible refine blockQ.n ?_)
    refine Safe.region ?_
    refine SafeOps.quiet0 E_good rfl rfl rfl (v := V.sl 3 (rws api_Instr.cells a1_2017)) (.fn rfl) ?_
    refine SafeOps.quiet0 E_good rfl rfl rfl (v := V.int .i64 (a1_2017.length : Int)) (.fnE rfl lenE) ?_
    refine SafeOps.quiet0 E_good rfl rfl rfl (v := V.bool (decide ((a1_2017.length : Int) > 200))) (.fn rfl) ?_
    refine SafeOps.nil ?_
    repeat (first | refine Safe.seq ?_ | refine Safe.skip ?_ | with_reducible refine thenQ.n ?_ | with_reducible refine blockQ.n ?_)
    refine ifG h (fun hc15019 h => ?_) (fun hc15019 h => ?_)
    · skip
      refine Safe.condK rfl hc15019 ?_
      repeat (first | refine Safe.seq ?_ | refine Safe.skip ?_ | with_reducible refine thenQ.n ?_ | with_reducible refine blockQ.n ?_)
      refine Safe.region ?_
      refine SafeOps.quiet0 E_good rfl rfl rfl (v := V.bool x_15016) (.fn rfl) ?_
      refine SafeOps.quiet0 E_good rfl rfl rfl (v := V.bool x_15016) (.fn rfl) ?_
      refine SafeOps.nil ?_
      repeat (first | refine Safe.seq ?_ | refine Safe.skip ?_ | with_reducible refine thenQ.n ?_ | with_reducible refine blockQ.n ?_)
      refine Safe.ret ?_
      repeat (first | with_reducible refine thenQ.r ?_ | with_reducible refine blockQ.r ?_)
      obtain rfl := Option.some.inj h
      exact retQ.gen (vs := [V.bool x_15016]) rfl (.tmp (v := V.bool x_15016) rfl .nil) (.free rfl) (by simp) (.inr rfl)
    · skip
      refine Safe.condN rfl hc15019 ?_
      repeat (first | refine Safe.seq ?_ | refine Safe.skip ?_ | with_reducible refine thenQ.n ?_ | with_reducible refine blockQ.n ?_)
      refine Safe.region ?_
      refine SafeOps.quiet0 E_good rfl rfl rfl (v := V.agg [V.int .i64 a0_2016.Id, V.int .i64 a0_2016.Tenant, V.int .i64 a0_2016.Prog, V.int .i64 a0_2016.Pc, V.int .i64 a0_2016.Unit, V.int .i64 a0_2016.Keeps.a0, V.int .i64 a0_2016.Keeps.a1, V.int .i64 a0_2016.Keeps.a2, V.int .i64 a0_2016.Keeps.a3, V.int .i64 a0_2016.State, V.int .i64 a0_2016.Ran]) (.load rfl rfl (.box rfl rfl) rfl) ?_
      refine SafeOps.quiet0 E_good rfl rfl rfl (v := V.sl 3 (rws api_Instr.cells a1_2017)) (.fn rfl) ?_
      refine bindG h ?_
      rintro ⟨x_15020, x_15021, x_15022⟩ he15023 h
      refine SafeOps.quiet0 E_good rfl rfl rfl (v := V.tup [V.agg [V.int .i64 x_15020.Id, V.int .i64 x_15020.Tenant, V.int .i64 x_15020.Prog, V.int .i64 x_15020.Pc, V.int .i64 x_15020.Unit, V.int .i64 x_15020.Keeps.a0, V.int .i64 x_15020.Keeps.a1, V.int .i64 x_15020.Keeps.a2, V.int .i64 x_15020.Keeps.a3, V.int .i64 x_15020.State, V.int .i64 x_15020.Ran], V.agg [V.int .i64 x_15021.Kind, V.int .i64 x_15021.A, V.int .i64 x_15021.B], V.int .i64 x_15022]) (.callP rfl rfl (go_step_Do_sc a0_2016 a1_2017 _ he15023) rfl) ?_
      refine SafeOps.quiet0 E_good rfl rfl rfl (v := V.tup [V.agg [V.int .i64 x_15020.Id, V.int .i64 x_15020.Tenant, V.int .i64 x_15020.Prog, V.int .i64 x_15020.Pc, V.int .i64 x_15020.Unit, V.int .i64 x_15020.Keeps.a0, V.int .i64 x_15020.Keeps.a1, V.int .i64 x_15020.Keeps.a2, V.int .i64 x_15020.Keeps.a3, V.int .i64 x_15020.State, V.int .i64 x_15020.Ran], V.agg [V.int .i64 x_15021.Kind, V.int .i64 x_15021.A, V.int .i64 x_15021.B], V.int .i64 x_15022]) (.fn rfl) ?_
      refine SafeOps.quiet0 E_good rfl rfl rfl (v := V.agg [V.int .i64 x_15020.Id, V.int .i64 x_15020.Tenant, V.int .i64 x_15020.Prog, V.int .i64 x_15020.Pc, V.int .i64 x_15020.Unit, V.int .i64 x_15020.Keeps.a0, V.int .i64 x_15020.Keeps.a1, V.int .i64 x_15020.Keeps.a2, V.int .i64 x_15020.Keeps.a3, V.int .i64 x_15020.State, V.int .i64 x_15020.Ran]) (.fn rfl) ?_
      refine SafeOps.quiet0 E_good rfl rfl rfl (v := V.agg [V.int .i64 x_15021.Kind, V.int .i64 x_15021.A, V.int .i64 x_15021.B]) (.fn rfl) ?_
      refine SafeOps.quiet0 E_good rfl rfl rfl (v := V.int .i64 x_15022) (.fn rfl) ?_
      refine SafeOps.quiet1 E_good rfl rfl rfl (.alloc rfl rfl) rfl ?_
      refine SafeOps.quiet1 E_good rfl rfl rfl (.alloc rfl rfl) rfl ?_
      refine SafeOps.store (z := Obj.box [V.int .i64 x_15020.Id, V.int .i64 x_15020.Tenant, V.int .i64 x_15020.Prog, V.int .i64 x_15020.Pc, V.int .i64 x_15020.Unit, V.int .i64 x_15020.Keeps.a0, V.int .i64 x_15020.Keeps.a1, V.int .i64 x_15020.Keeps.a2, V.int .i64 x_15020.Keeps.a3, V.int .i64 x_15020.State, V.int .i64 x_15020.Ran]) E_good rfl rfl rfl rfl rfl rfl rfl (.boxM (c := 11) rfl rfl (Nat.le_of_ble_eq_true rfl) rfl) ?_
      refine SafeOps.store (z := Obj.box [V.int .i64 x_15021.Kind, V.int .i64 x_15021.A, V.int .i64 x_15021.B]) E_good rfl rfl rfl rfl rfl rfl rfl (.boxM (c := 3) rfl rfl (Nat.le_of_ble_eq_true rfl) rfl) ?_
      refine SafeOps.quiet0 E_good rfl rfl rfl (v := V.int .i64 x_15022) (.fn rfl) ?_
      refine SafeOps.nil ?_
      repeat (first | refine Safe.seq ?_ | refine Safe.skip ?_ | with_reducible refine thenQ.n ?_ | with_reducible refine blockQ.n ?_)
      refine Safe.region ?_
      refine SafeOps.quiet0 E_good rfl rfl rfl (v := V.agg [V.int .i64 a0_2016.Id, V.int .i64 a0_2016.Tenant, V.int .i64 a0_2016.Prog, V.int .i64 a0_2016.Pc, V.int .i64 a0_2016.Unit, V.int .i64 a0_2016.Keeps.a0, V.int .i64 a0_2016.Keeps.a1, V.int .i64 a0_2016.Keeps.a2, V.int .i64 a0_2016.Keeps.a3, V.int .i64 a0_2016.State, V.int .i64 a0_2016.Ran]) (.load rfl rfl (.box rfl rfl) rfl) ?_
      refine SafeOps.quiet0 E_good rfl rfl rfl (v := V.sl 3 (rws api_Instr.cells a1_2017)) (.fn rfl) ?_
      refine bindG h ?_
      rintro ⟨x_15024, x_15025, x_15026⟩ he15027 h
      refine SafeOps.quiet0 E_good rfl rfl rfl (v := V.tup [V.agg [V.int .i64 x_15024.Id, V.int .i64 x_15024.Tenant, V.int .i64 x_15024.Prog, V.int .i64 x_15024.Pc, V.int .i64 x_15024.Unit, V.int .i64 x_15024.Keeps.a0, V.int .i64 x_15024.Keeps.a1, V.int .i64 x_15024.Keeps.a2, V.int .i64 x_15024.Keeps.a3, V.int .i64 x_15024.State, V.int .i64 x_15024.Ran], V.agg [V.int .i64 x_15025.Kind, V.int .i64 x_15025.A, V.int .i64 x_15025.B], V.int .i64 x_15026]) (.callP rfl rfl (go_ravelref13_Do_sc a0_2016 a1_2017 _ he15027) rfl) ?_
      refine SafeOps.quiet0 E_good rfl rfl rfl (v := V.tup [V.agg [V.int .i64 x_15024.Id, V.int .i64 x_15024.Tenant, V.int .i64 x_15024.Prog, V.int .i64 x_15024.Pc, V.int .i64 x_15024.Unit, V.int .i64 x_15024.Keeps.a0, V.int .i64 x_15024.Keeps.a1, V.int .i64 x_15024.Keeps.a2, V.int .i64 x_15024.Keeps.a3, V.int .i64 x_15024.State, V.int .i64 x_15024.Ran], V.agg [V.int .i64 x_15025.Kind, V.int .i64 x_15025.A, V.int .i64 x_15025.B], V.int .i64 x_15026]) (.fn rfl) ?_
      refine SafeOps.quiet0 E_good rfl rfl rfl (v := V.agg [V.int .i64 x_15024.Id, V.int .i64 x_15024.Tenant, V.int .i64 x_15024.Prog, V.int .i64 x_15024.Pc, V.int .i64 x_15024.Unit, V.int .i64 x_15024.Keeps.a0, V.int .i64 x_15024.Keeps.a1, V.int .i64 x_15024.Keeps.a2, V.int .i64 x_15024.Keeps.a3, V.int .i64 x_15024.State, V.int .i64 x_15024.Ran]) (.fn rfl) ?_
      refine SafeOps.quiet0 E_good rfl rfl rfl (v := V.agg [V.int .i64 x_15025.Kind, V.int .i64 x_15025.A, V.int .i64 x_15025.B]) (.fn rfl) ?_
      refine SafeOps.quiet0 E_good rfl rfl rfl (v := V.int .i64 x_15026) (.fn rfl) ?_
      refine SafeOps.quiet1 E_good rfl rfl rfl (.alloc rfl rfl) rfl ?_
      refine SafeOps.quiet1 E_good rfl rfl rfl (.alloc rfl rfl) rfl ?_
      refine SafeOps.store (z := Obj.box [V.int .i64 x_15024.Id, V.int .i64 x_15024.Tenant, V.int .i64 x_15024.Prog, V.int .i64 x_15024.Pc, V.int .i64 x_15024.Unit, V.int .i64 x_15024.Keeps.a0, V.int .i64 x_15024.Keeps.a1, V.int .i64 x_15024.Keeps.a2, V.int .i64 x_15024.Keeps.a3, V.int .i64 x_15024.State, V.int .i64 x_15024.Ran]) E_good rfl rfl rfl rfl rfl rfl rfl (.boxM (c := 11) rfl rfl (Nat.le_of_ble_eq_true rfl) rfl) ?_
      refine SafeOps.store (z := Obj.box [V.int .i64 x_15025.Kind, V.int .i64 x_15025.A, V.int .i64 x_15025.B]) E_good rfl rfl rfl rfl rfl rfl rfl (.boxM (c := 3) rfl rfl (Nat.le_of_ble_eq_true rfl) rfl) ?_
      refine SafeOps.quiet0 E_good rfl rfl rfl (v := V.int .i64 x_15026) (.fn rfl) ?_
      refine SafeOps.nil ?_
      repeat (first | refine Safe.seq ?_ | refine Safe.skip ?_ | with_reducible refine thenQ.n ?_ | with_reducible refine blockQ.n ?_)
      refine Safe.region ?_
      refine SafeOps.quiet0 E_good rfl rfl rfl (v := V.agg [V.int .i64 a0_2016.Id, V.int .i64 a0_2016.Tenant, V.int .i64 a0_2016.Prog, V.int .i64 a0_2016.Pc, V.int .i64 a0_2016.Unit, V.int .i64 a0_2016.Keeps.a0, V.int .i64 a0_2016.Keeps.a1, V.int .i64 a0_2016.Keeps.a2, V.int .i64 a0_2016.Keeps.a3, V.int .i64 a0_2016.State, V.int .i64 a0_2016.Ran]) (.load rfl rfl (.box rfl rfl) rfl) ?_
      refine SafeOps.quiet0 E_good rfl rfl rfl (v := V.sl 3 (rws api_Instr.cells a1_2017)) (.fn rfl) ?_
      refine SafeOps.quiet0 E_good rfl rfl rfl (v := V.int .i64 a2_2018) (.fn rfl) ?_
      refine bindG h ?_
      rintro ⟨x_15028, x_15029, x_15030, x_15031⟩ he15032 h
      refine SafeOps.quiet0 E_good rfl rfl rfl (v := V.tup [V.agg [V.int .i64 x_15028.Id, V.int .i64 x_15028.Tenant, V.int .i64 x_15028.Prog, V.int .i64 x_15028.Pc, V.int .i64 x_15028.Unit, V.int .i64 x_15028.Keeps.a0, V.int .i64 x_15028.Keeps.a1, V.int .i64 x_15028.Keeps.a2, V.int .i64 x_15028.Keeps.a3, V.int .i64 x_15028.State, V.int .i64 x_15028.Ran], V.agg [V.int .i64 x_15029.Kind, V.int .i64 x_15029.A, V.int .i64 x_15029.B], V.int .i64 x_15030, V.int .i64 x_15031]) (.callP rfl rfl (go_step_Slice_sc a0_2016 a1_2017 a2_2018 _ he15032) rfl) ?_
      refine SafeOps.quiet0 E_good rfl rfl rfl (v := V.tup [V.agg [V.int .i64 x_15028.Id, V.int .i64 x_15028.Tenant, V.int .i64 x_15028.Prog, V.int .i64 x_15028.Pc, V.int .i64 x_15028.Unit, V.int .i64 x_15028.Keeps.a0, V.int .i64 x_15028.Keeps.a1, V.int .i64 x_15028.Keeps.a2, V.int .i64 x_15028.Keeps.a3, V.int .i64 x_15028.State, V.int .i64 x_15028.Ran], V.agg [V.int .i64 x_15029.Kind, V.int .i64 x_15029.A, V.int .i64 x_15029.B], V.int .i64 x_15030, V.int .i64 x_15031]) (.fn rfl) ?_
      refine SafeOps.quiet0 E_good rfl rfl rfl (v := V.agg [V.int .i64 x_15028.Id, V.int .i64 x_15028.Tenant, V.int .i64 x_15028.Prog, V.int .i64 x_15028.Pc, V.int .i64 x_15028.Unit, V.int .i64 x_15028.Keeps.a0, V.int .i64 x_15028.Keeps.a1, V.int .i64 x_15028.Keeps.a2, V.int .i64 x_15028.Keeps.a3, V.int .i64 x_15028.State, V.int .i64 x_15028.Ran]) (.fn rfl) ?_
      refine SafeOps.quiet0 E_good rfl rfl rfl (v := V.agg [V.int .i64 x_15029.Kind, V.int .i64 x_15029.A, V.int .i64 x_15029.B]) (.fn rfl) ?_
      refine SafeOps.quiet0 E_good rfl rfl rfl (v := V.int .i64 x_15030) (.fn rfl) ?_
      refine SafeOps.quiet0 E_good rfl rfl rfl (v := V.int .i64 x_15031) (.fn rfl) ?_
      refine SafeOps.quiet1 E_good rfl rfl rfl (.alloc rfl rfl) rfl ?_
      refine SafeOps.quiet1 E_good rfl rfl rfl (.alloc rfl rfl) rfl ?_
      refine SafeOps.store (z := Obj.box [V.int .i64 x_15028.Id, V.int .i64 x_15028.Tenant, V.int .i64 x_15028.Prog, V.int .i64 x_15028.Pc, V.int .i64 x_15028.Unit, V.int .i64 x_15028.Keeps.a0, V.int .i64 x_15028.Keeps.a1, V.int .i64 x_15028.Keeps.a2, V.int .i64 x_15028.Keeps.a3, V.int .i64 x_15028.State, V.int .i64 x_15028.Ran]) E_good rfl rfl rfl rfl rfl rfl rfl (.boxM (c := 11) rfl rfl (Nat.le_of_ble_eq_true rfl) rfl) ?_
      refine SafeOps.store (z := Obj.box [V.int .i64 x_15029.Kind, V.int .i64 x_15029.A, V.int .i64 x_15029.B]) E_good rfl rfl rfl rfl rfl rfl rfl (.boxM (c := 3) rfl rfl (Nat.le_of_ble_eq_true rfl) rfl) ?_
      refine SafeOps.quiet0 E_good rfl rfl rfl (v := V.int .i64 x_15030) (.fn rfl) ?_
      refine SafeOps.quiet0 E_good rfl rfl rfl (v := V.int .i64 x_15031) (.fn rfl) ?_
      refine SafeOps.nil ?_
      repeat (first | refine Safe.seq ?_ | refine Safe.skip ?_ | with_reducible refine thenQ.n ?_ | with_reducible refine blockQ.n ?_)
      refine Safe.region ?_
      refine SafeOps.quiet0 E_good rfl rfl rfl (v := V.agg [V.int .i64 a0_2016.Id, V.int .i64 a0_2016.Tenant, V.int .i64 a0_2016.Prog, V.int .i64 a0_2016.Pc, V.int .i64 a0_2016.Unit, V.int .i64 a0_2016.Keeps.a0, V.int .i64 a0_2016.Keeps.a1, V.int .i64 a0_2016.Keeps.a2, V.int .i64 a0_2016.Keeps.a3, V.int .i64 a0_2016.State, V.int .i64 a0_2016.Ran]) (.load rfl rfl (.box rfl rfl) rfl) ?_
      refine SafeOps.quiet0 E_good rfl rfl rfl (v := V.sl 3 (rws api_Instr.cells a1_2017)) (.fn rfl) ?_
      refine SafeOps.quiet0 E_good rfl rfl rfl (v := V.int .i64 a2_2018) (.fn rfl) ?_
      refine bindG h ?_
      rintro ⟨x_15033, x_15034, x_15035, x_15036⟩ he15037 h
      refine SafeOps.quiet0 E_good rfl rfl rfl (v := V.tup [V.agg [V.int .i64 x_15033.Id, V.int .i64 x_15033.Tenant, V.int .i64 x_15033.Prog, V.int .i64 x_15033.Pc, V.int .i64 x_15033.Unit, V.int .i64 x_15033.Keeps.a0, V.int .i64 x_15033.Keeps.a1, V.int .i64 x_15033.Keeps.a2, V.int .i64 x_15033.Keeps.a3, V.int .i64 x_15033.State, V.int .i64 x_15033.Ran], V.agg [V.int .i64 x_15034.Kind, V.int .i64 x_15034.A, V.int .i64 x_15034.B], V.int .i64 x_15035, V.int .i64 x_15036]) (.callP rfl rfl (go_ravelref13_Slice_sc a0_2016 a1_2017 a2_2018 _ he15037) rfl) ?_
      refine SafeOps.quiet0 E_good rfl rfl rfl (v := V.tup [V.agg [V.int .i64 x_15033.Id, V.int .i64 x_15033.Tenant, V.int .i64 x_15033.Prog, V.int .i64 x_15033.Pc, V.int .i64 x_15033.Unit, V.int .i64 x_15033.Keeps.a0, V.int .i64 x_15033.Keeps.a1, V.int .i64 x_15033.Keeps.a2, V.int .i64 x_15033.Keeps.a3, V.int .i64 x_15033.State, V.int .i64 x_15033.Ran], V.agg [V.int .i64 x_15034.Kind, V.int .i64 x_15034.A, V.int .i64 x_15034.B], V.int .i64 x_15035, V.int .i64 x_15036]) (.fn rfl) ?_
      refine SafeOps.quiet0 E_good rfl rfl rfl (v := V.agg [V.int .i64 x_15033.Id, V.int .i64 x_15033.Tenant, V.int .i64 x_15033.Prog, V.int .i64 x_15033.Pc, V.int .i64 x_15033.Unit, V.int .i64 x_15033.Keeps.a0, V.int .i64 x_15033.Keeps.a1, V.int .i64 x_15033.Keeps.a2, V.int .i64 x_15033.Keeps.a3, V.int .i64 x_15033.State, V.int .i64 x_15033.Ran]) (.fn rfl) ?_
      refine SafeOps.quiet0 E_good rfl rfl rfl (v := V.agg [V.int .i64 x_15034.Kind, V.int .i64 x_15034.A, V.int .i64 x_15034.B]) (.fn rfl) ?_
      refine SafeOps.quiet0 E_good rfl rfl rfl (v := V.int .i64 x_15035) (.fn rfl) ?_
      refine SafeOps.quiet0 E_good rfl rfl rfl (v := V.int .i64 x_15036) (.fn rfl) ?_
      refine SafeOps.quiet1 E_good rfl rfl rfl (.alloc rfl rfl) rfl ?_
      refine SafeOps.quiet1 E_good rfl rfl rfl (.alloc rfl rfl) rfl ?_
      refine SafeOps.store (z := Obj.box [V.int .i64 x_15033.Id, V.int .i64 x_15033.Tenant, V.int .i64 x_15033.Prog, V.int .i64 x_15033.Pc, V.int .i64 x_15033.Unit, V.int .i64 x_15033.Keeps.a0, V.int .i64 x_15033.Keeps.a1, V.int .i64 x_15033.Keeps.a2, V.int .i64 x_15033.Keeps.a3, V.int .i64 x_15033.State, V.int .i64 x_15033.Ran]) E_good rfl rfl rfl rfl rfl rfl rfl (.boxM (c := 11) rfl rfl (Nat.le_of_ble_eq_true rfl) rfl) ?_
      refine SafeOps.store (z := Obj.box [V.int .i64 x_15034.Kind, V.int .i64 x_15034.A, V.int .i64 x_15034.B]) E_good rfl rfl rfl rfl rfl rfl rfl (.boxM (c := 3) rfl rfl (Nat.le_of_ble_eq_true rfl) rfl) ?_
      refine SafeOps.quiet0 E_good rfl rfl rfl (v := V.int .i64 x_15035) (.fn rfl) ?_
      refine SafeOps.quiet0 E_good rfl rfl rfl (v := V.int .i64 x_15036) (.fn rfl) ?_
      refine SafeOps.nil ?_
      repeat (first | refine Safe.seq ?_ | refine Safe.skip ?_ | with_reducible refine thenQ.n ?_ | with_reducible refine blockQ.n ?_)
      refine Safe.region ?_
      refine SafeOps.quiet0 E_good rfl rfl rfl (v := V.agg [V.int .i64 a0_2016.Id, V.int .i64 a0_2016.Tenant, V.int .i64 a0_2016.Prog, V.int .i64 a0_2016.Pc, V.int .i64 a0_2016.Unit, V.int .i64 a0_2016.Keeps.a0, V.int .i64 a0_2016.Keeps.a1, V.int .i64 a0_2016.Keeps.a2, V.int .i64 a0_2016.Keeps.a3, V.int .i64 a0_2016.State, V.int .i64 a0_2016.Ran]) (.load rfl rfl (.box rfl rfl) rfl) ?_
      refine SafeOps.quiet0 E_good rfl rfl rfl (v := V.sl 3 (rws api_Instr.cells a1_2017)) (.fn rfl) ?_
      refine bindG h ?_
      rintro ⟨x_15038, x_15039⟩ he15040 h
      refine SafeOps.quiet0 E_good rfl rfl rfl (v := V.tup [V.int .i64 x_15038, V.int .i64 x_15039]) (.callP rfl rfl (go_step_Left_sc a0_2016 a1_2017 _ he15040) rfl) ?_
      refine SafeOps.quiet0 E_good rfl rfl rfl (v := V.tup [V.int .i64 x_15038, V.int .i64 x_15039]) (.fn rfl) ?_
      refine SafeOps.quiet0 E_good rfl rfl rfl (v := V.int .i64 x_15038) (.fn rfl) ?_
      refine SafeOps.quiet0 E_good rfl rfl rfl (v := V.int .i64 x_15039) (.fn rfl) ?_
      refine SafeOps.quiet0 E_good rfl rfl rfl (v := V.int .i64 x_15038) (.fn rfl) ?_
      refine SafeOps.quiet0 E_good rfl rfl rfl (v := V.int .i64 x_15039) (.fn rfl) ?_
      refine SafeOps.nil ?_
      repeat (first | refine Safe.seq ?_ | refine Safe.skip ?_ | with_reducible refine thenQ.n ?_ | with_reducible refine blockQ.n ?_)
      refine Safe.region ?_
      refine SafeOps.quiet0 E_good rfl rfl rfl (v := V.agg [V.int .i64 a0_2016.Id, V.int .i64 a0_2016.Tenant, V.int .i64 a0_2016.Prog, V.int .i64 a0_2016.Pc, V.int .i64 a0_2016.Unit, V.int .i64 a0_2016.Keeps.a0, V.int .i64 a0_2016.Keeps.a1, V.int .i64 a0_2016.Keeps.a2, V.int .i64 a0_2016.Keeps.a3, V.int .i64 a0_2016.State, V.int .i64 a0_2016.Ran]) (.load rfl rfl (.box rfl rfl) rfl) ?_
      refine SafeOps.quiet0 E_good rfl rfl rfl (v := V.sl 3 (rws api_Instr.cells a1_2017)) (.fn rfl) ?_
      refine bindG h ?_
      rintro ⟨x_15041, x_15042⟩ he15043 h
      refine SafeOps.quiet0 E_good rfl rfl rfl (v := V.tup [V.int .i64 x_15041, V.int .i64 x_15042]) (.callP rfl rfl (go_ravelref13_Left_sc a0_2016 a1_2017 _ he15043) rfl) ?_
      refine SafeOps.quiet0 E_good rfl rfl rfl (v := V.tup [V.int .i64 x_15041, V.int .i64 x_15042]) (.fn rfl) ?_
      refine SafeOps.quiet0 E_good rfl rfl rfl (v := V.int .i64 x_15041) (.fn rfl) ?_
      refine SafeOps.quiet0 E_good rfl rfl rfl (v := V.int .i64 x_15042) (.fn rfl) ?_
      refine SafeOps.quiet0 E_good rfl rfl rfl (v := V.int .i64 x_15041) (.fn rfl) ?_
      refine SafeOps.quiet0 E_good rfl rfl rfl (v := V.int .i64 x_15042) (.fn rfl) ?_
      refine SafeOps.nil ?_
      repeat (first | refine Safe.seq ?_ | refine Safe.skip ?_ | with_reducible refine thenQ.n ?_ | with_reducible refine blockQ.n ?_)
      refine Safe.region ?_
      refine SafeOps.quiet0 E_good rfl rfl rfl (v := V.agg [V.int .i64 a0_2016.Id, V.int .i64 a0_2016.Tenant, V.int .i64 a0_2016.Prog, V.int .i64 a0_2016.Pc, V.int .i64 a0_2016.Unit, V.int .i64 a0_2016.Keeps.a0, V.int .i64 a0_2016.Keeps.a1, V.int .i64 a0_2016.Keeps.a2, V.int .i64 a0_2016.Keeps.a3, V.int .i64 a0_2016.State, V.int .i64 a0_2016.Ran]) (.load rfl rfl (.box rfl rfl) rfl) ?_
      refine SafeOps.quiet0 E_good rfl rfl rfl (v := V.sl 3 (rws api_Instr.cells a1_2017)) (.fn rfl) ?_
      refine bindG h ?_
      rintro ⟨x_15044, x_15045⟩ he15046 h
      refine SafeOps.quiet0 E_good rfl rfl rfl (v := V.tup [V.agg [V.int .i64 x_15044.Op, V.int .i64 x_15044.A, V.int .i64 x_15044.B], V.int .i64 x_15045]) (.callP rfl rfl (go_step_Next_sc a0_2016 a1_2017 _ he15046) rfl) ?_
      refine SafeOps.quiet0 E_good rfl rfl rfl (v := V.tup [V.agg [V.int .i64 x_15044.Op, V.int .i64 x_15044.A, V.int .i64 x_15044.B], V.int .i64 x_15045]) (.fn rfl) ?_
      refine SafeOps.quiet0 E_good rfl rfl rfl (v := V.agg [V.int .i64 x_15044.Op, V.int .i64 x_15044.A, V.int .i64 x_15044.B]) (.fn rfl) ?_
      refine SafeOps.quiet0 E_good rfl rfl rfl (v := V.int .i64 x_15045) (.fn rfl) ?_
      refine SafeOps.quiet1 E_good rfl rfl rfl (.alloc rfl rfl) rfl ?_
      refine SafeOps.store (z := Obj.box [V.int .i64 x_15044.Op, V.int .i64 x_15044.A, V.int .i64 x_15044.B]) E_good rfl rfl rfl rfl rfl rfl rfl (.boxM (c := 3) rfl rfl (Nat.le_of_ble_eq_true rfl) rfl) ?_
      refine SafeOps.quiet0 E_good rfl rfl rfl (v := V.int .i64 x_15045) (.fn rfl) ?_
      refine SafeOps.nil ?_
      repeat (first | refine Safe.seq ?_ | refine Safe.skip ?_ | with_reducible refine thenQ.n ?_ | with_reducible refine blockQ.n ?_)
      refine Safe.region ?_
      refine SafeOps.quiet0 E_good rfl rfl rfl (v := V.agg [V.int .i64 a0_2016.Id, V.int .i64 a0_2016.Tenant, V.int .i64 a0_2016.Prog, V.int .i64 a0_2016.Pc, V.int .i64 a0_2016.Unit, V.int .i64 a0_2016.Keeps.a0, V.int .i64 a0_2016.Keeps.a1, V.int .i64 a0_2016.Keeps.a2, V.int .i64 a0_2016.Keeps.a3, V.int .i64 a0_2016.State, V.int .i64 a0_2016.Ran]) (.load rfl rfl (.box rfl rfl) rfl) ?_
      refine SafeOps.quiet0 E_good rfl rfl rfl (v := V.sl 3 (rws api_Instr.cells a1_2017)) (.fn rfl) ?_
      refine bindG h ?_
      rintro ⟨x_15047, x_15048⟩ he15049 h
      refine SafeOps.quiet0 E_good rfl rfl rfl (v := V.tup [V.agg [V.int .i64 x_15047.Op, V.int .i64 x_15047.A, V.int .i64 x_15047.B], V.int .i64 x_15048]) (.callP rfl rfl (go_ravelref13_Next_sc a0_2016 a1_2017 _ he15049) rfl) ?_
      refine SafeOps.quiet0 E_good rfl rfl rfl (v := V.tup [V.agg [V.int .i64 x_15047.Op, V.int .i64 x_15047.A, V.int .i64 x_15047.B], V.int .i64 x_15048]) (.fn rfl) ?_
      refine SafeOps.quiet0 E_good rfl rfl rfl (v := V.agg [V.int .i64 x_15047.Op, V.int .i64 x_15047.A, V.int .i64 x_15047.B]) (.fn rfl) ?_
      refine SafeOps.quiet0 E_good rfl rfl rfl (v := V.int .i64 x_15048) (.fn rfl) ?_
      refine SafeOps.quiet1 E_good rfl rfl rfl (.alloc rfl rfl) rfl ?_
      refine SafeOps.store (z := Obj.box [V.int .i64 x_15047.Op, V.int .i64 x_15047.A, V.int .i64 x_15047.B]) E_good rfl rfl rfl rfl rfl rfl rfl (.boxM (c := 3) rfl rfl (Nat.le_of_ble_eq_true rfl) rfl) ?_
      refine SafeOps.quiet0 E_good rfl rfl rfl (v := V.int .i64 x_15048) (.fn rfl) ?_
      refine SafeOps.nil ?_
      repeat (first | refine Safe.seq ?_ | refine Safe.skip ?_ | with_reducible refine thenQ.n ?_ | with_reducible refine blockQ.n ?_)
      refine Safe.region ?_
      refine SafeOps.quiet0 E_good rfl rfl rfl (v := V.bool x_15016) (.fn rfl) ?_
      refine SafeOps.quiet0 E_good rfl rfl rfl (v := V.bool x_15016) (.fn rfl) ?_
      refine SafeOps.bjoin 4 98 (b := (x_15016 && (api_Task.beq x_15020 x_15024))) (b1 := api_Task.beq x_15020 x_15024) (b0 := false) (fun hc15050 K => ?_) (fun hc15050 K => ?_) bj_and ?_
      · skip
        refine SafeOps.quiet0 E_good (congrArg some hc15050) rfl rfl (v := V.agg [V.int .i64 x_15020.Id, V.int .i64 x_15020.Tenant, V.int .i64 x_15020.Prog, V.int .i64 x_15020.Pc, V.int .i64 x_15020.Unit, V.int .i64 x_15020.Keeps.a0, V.int .i64 x_15020.Keeps.a1, V.int .i64 x_15020.Keeps.a2, V.int .i64 x_15020.Keeps.a3, V.int .i64 x_15020.State, V.int .i64 x_15020.Ran]) (.load rfl rfl (.box rfl rfl) rfl) ?_
        refine SafeOps.quiet0 E_good (congrArg some hc15050) rfl rfl (v := V.agg [V.int .i64 x_15024.Id, V.int .i64 x_15024.Tenant, V.int .i64 x_15024.Prog, V.int .i64 x_15024.Pc, V.int .i64 x_15024.Unit, V.int .i64 x_15024.Keeps.a0, V.int .i64 x_15024.Keeps.a1, V.int .i64 x_15024.Keeps.a2, V.int .i64 x_15024.Keeps.a3, V.int .i64 x_15024.State, V.int .i64 x_15024.Ran]) (.load rfl rfl (.box rfl rfl) rfl) ?_
        refine SafeOps.quiet0 E_good (congrArg some hc15050) rfl rfl (v := V.bool (api_Task.beq x_15020 x_15024)) (.eqA rfl rfl rfl rfl okT29 rfl) ?_
        refine SafeOps.quiet0 E_good rfl rfl rfl (v := V.bool (api_Task.beq x_15020 x_15024)) (.pickK rfl hc15050 rfl) ?_
        exact SafeOps.drop' 4 rfl rfl rfl K
      · skip
        refine SafeOps.skip (congrArg some hc15050) rfl rfl ?_
        refine SafeOps.skip (congrArg some hc15050) rfl rfl ?_
        refine SafeOps.skip (congrArg some hc15050) rfl rfl ?_
        refine SafeOps.quiet0 E_good rfl rfl rfl (v := V.bool false) (.pickK rfl hc15050 rfl) ?_
        exact SafeOps.drop' 4 rfl rfl rfl K
      refine SafeOps.quiet0 E_good rfl rfl rfl (v := V.bool (x_15016 && (api_Task.beq x_15020 x_15024))) (.fn rfl) ?_
      refine SafeOps.bjoin 4 103 (b := ((x_15016 && (api_Task.beq x_15020 x_15024)) && (api_Effect.beq x_15021 x_15025))) (b1 := api_Effect.beq x_15021 x_15025) (b0 := false) (fun hc15051 K => ?_) (fun hc15051 K => ?_) bj_and ?_
      · skip
        refine SafeOps.quiet0 E_good (congrArg some hc15051) rfl rfl (v := V.agg [V.int .i64 x_15021.Kind, V.int .i64 x_15021.A, V.int .i64 x_15021.B]) (.load rfl rfl (.box rfl rfl) rfl) ?_
        refine SafeOps.quiet0 E_good (congrArg some hc15051) rfl rfl (v := V.agg [V.int .i64 x_15025.Kind, V.int .i64 x_15025.A, V.int .i64 x_15025.B]) (.load rfl rfl (.box rfl rfl) rfl) ?_
        refine SafeOps.quiet0 E_good (congrArg some hc15051) rfl rfl (v := V.bool (api_Effect.beq x_15021 x_15025)) (.eqA rfl rfl rfl rfl okT33 rfl) ?_
        refine SafeOps.quiet0 E_good rfl rfl rfl (v := V.bool (api_Effect.beq x_15021 x_15025)) (.pickK rfl hc15051 rfl) ?_
        exact SafeOps.drop' 4 rfl rfl rfl K
      · skip
        refine SafeOps.skip (congrArg some hc15051) rfl rfl ?_
        refine SafeOps.skip (congrArg some hc15051) rfl rfl ?_
        refine SafeOps.skip (congrArg some hc15051) rfl rfl ?_
        refine SafeOps.quiet0 E_good rfl rfl rfl (v := V.bool false) (.pickK rfl hc15051 rfl) ?_
        exact SafeOps.drop' 4 rfl rfl rfl K
      refine SafeOps.quiet0 E_good rfl rfl rfl (v := V.bool ((x_15016 && (api_Task.beq x_15020 x_15024)) && (api_Effect.beq x_15021 x_15025))) (.fn rfl) ?_
      refine SafeOps.bjoin 4 108 (b := (((x_15016 && (api_Task.beq x_15020 x_15024)) && (api_Effect.beq x_15021 x_15025)) && (x_15022 == x_15026))) (b1 := (x_15022 == x_15026)) (b0 := false) (fun hc15052 K => ?_) (fun hc15052 K => ?_) bj_and ?_
      · skip
        refine SafeOps.quiet0 E_good (congrArg some hc15052) rfl rfl (v := V.int .i64 x_15022) (.fn rfl) ?_
        refine SafeOps.quiet0 E_good (congrArg some hc15052) rfl rfl (v := V.int .i64 x_15026) (.fn rfl) ?_
        refine SafeOps.quiet0 E_good (congrArg some hc15052) rfl rfl (v := V.bool (x_15022 == x_15026)) (.fn rfl) ?_
        refine SafeOps.quiet0 E_good rfl rfl rfl (v := V.bool (x_15022 == x_15026)) (.pickK rfl hc15052 rfl) ?_
        exact SafeOps.drop' 4 rfl rfl rfl K
      · skip
        refine SafeOps.skip (congrArg some hc15052) rfl rfl ?_
        refine SafeOps.skip (congrArg some hc15052) rfl rfl ?_
        refine SafeOps.skip (congrArg some hc15052) rfl rfl ?_
        refine SafeOps.quiet0 E_good rfl rfl rfl (v := V.bool false) (.pickK rfl hc15052 rfl) ?_
        exact SafeOps.drop' 4 rfl rfl rfl K
      refine SafeOps.quiet0 E_good rfl rfl rfl (v := V.bool (((x_15016 && (api_Task.beq x_15020 x_15024)) && (api_Effect.beq x_15021 x_15025)) && (x_15022 == x_15026))) (.fn rfl) ?_
      refine SafeOps.bjoin 4 113 (b := ((((x_15016 && (api_Task.beq x_15020 x_15024)) && (api_Effect.beq x_15021 x_15025)) && (x_15022 == x_15026)) && (api_Task.beq x_15028 x_15033))) (b1 := api_Task.beq x_15028 x_15033) (b0 := false) (fun hc15053 K => ?_) (fun hc15053 K => ?_) bj_and ?_
      · skip
        refine SafeOps.quiet0 E_good (congrArg some hc15053) rfl rfl (v := V.agg [V.int .i64 x_15028.Id, V.int .i64 x_15028.Tenant, V.int .i64 x_15028.Prog, V.int .i64 x_15028.Pc, V.int .i64 x_15028.Unit, V.int .i64 x_15028.Keeps.a0, V.int .i64 x_15028.Keeps.a1, V.int .i64 x_15028.Keeps.a2, V.int .i64 x_15028.Keeps.a3, V.int .i64 x_15028.State, V.int .i64 x_15028.Ran]) (.load rfl rfl (.box rfl rfl) rfl) ?_
        refine SafeOps.quiet0 E_good (congrArg some hc15053) rfl rfl (v := V.agg [V.int .i64 x_15033.Id, V.int .i64 x_15033.Tenant, V.int .i64 x_15033.Prog, V.int .i64 x_15033.Pc, V.int .i64 x_15033.Unit, V.int .i64 x_15033.Keeps.a0, V.int .i64 x_15033.Keeps.a1, V.int .i64 x_15033.Keeps.a2, V.int .i64 x_15033.Keeps.a3, V.int .i64 x_15033.State, V.int .i64 x_15033.Ran]) (.load rfl rfl (.box rfl rfl) rfl) ?_
        refine SafeOps.quiet0 E_good (congrArg some hc15053) rfl rfl (v := V.bool (api_Task.beq x_15028 x_15033)) (.eqA rfl rfl rfl rfl okT29 rfl) ?_
        refine SafeOps.quiet0 E_good rfl rfl rfl (v := V.bool (api_Task.beq x_15028 x_15033)) (.pickK rfl hc15053 rfl) ?_
        exact SafeOps.drop' 4 rfl rfl rfl K
      · skip
        refine SafeOps.skip (congrArg some hc15053) rfl rfl ?_
        refine SafeOps.skip (congrArg some hc15053) rfl rfl ?_
        refine SafeOps.skip (congrArg some hc15053) rfl rfl ?_
        refine SafeOps.quiet0 E_good rfl rfl rfl (v := V.bool false) (.pickK rfl hc15053 rfl) ?_
        exact SafeOps.drop' 4 rfl rfl rfl K
      refine SafeOps.quiet0 E_good rfl rfl rfl (v := V.bool ((((x_15016 && (api_Task.beq x_15020 x_15024)) && (api_Effect.beq x_15021 x_15025)) && (x_15022 == x_15026)) && (api_Task.beq x_15028 x_15033))) (.fn rfl) ?_
      refine SafeOps.bjoin 4 118 (b := (((((x_15016 && (api_Task.beq x_15020 x_15024)) && (api_Effect.beq x_15021 x_15025)) && (x_15022 == x_15026)) && (api_Task.beq x_15028 x_15033)) && (api_Effect.beq x_15029 x_15034))) (b1 := api_Effect.beq x_15029 x_15034) (b0 := false) (fun hc15054 K => ?_) (fun hc15054 K => ?_) bj_and ?_
      · skip
        refine SafeOps.quiet0 E_good (congrArg some hc15054) rfl rfl (v := V.agg [V.int .i64 x_15029.Kind, V.int .i64 x_15029.A, V.int .i64 x_15029.B]) (.load rfl rfl (.box rfl rfl) rfl) ?_
        refine SafeOps.quiet0 E_good (congrArg some hc15054) rfl rfl (v := V.agg [V.int .i64 x_15034.Kind, V.int .i64 x_15034.A, V.int .i64 x_15034.B]) (.load rfl rfl (.box rfl rfl) rfl) ?_
        refine SafeOps.quiet0 E_good (congrArg some hc15054) rfl rfl (v := V.bool (api_Effect.beq x_15029 x_15034)) (.eqA rfl rfl rfl rfl okT33 rfl) ?_
        refine SafeOps.quiet0 E_good rfl rfl rfl (v := V.bool (api_Effect.beq x_15029 x_15034)) (.pickK rfl hc15054 rfl) ?_
        exact SafeOps.drop' 4 rfl rfl rfl K
      · skip
        refine SafeOps.skip (congrArg some hc15054) rfl rfl ?_
        refine SafeOps.skip (congrArg some hc15054) rfl rfl ?_
        refine SafeOps.skip (congrArg some hc15054) rfl rfl ?_
        refine SafeOps.quiet0 E_good rfl rfl rfl (v := V.bool false) (.pickK rfl hc15054 rfl) ?_
        exact SafeOps.drop' 4 rfl rfl rfl K
      refine SafeOps.quiet0 E_good rfl rfl rfl (v := V.bool (((((x_15016 && (api_Task.beq x_15020 x_15024)) && (api_Effect.beq x_15021 x_15025)) && (x_15022 == x_15026)) && (api_Task.beq x_15028 x_15033)) && (api_Effect.beq x_15029 x_15034))) (.fn rfl) ?_
      refine SafeOps.bjoin 4 123 (b := ((((((x_15016 && (api_Task.beq x_15020 x_15024)) && (api_Effect.beq x_15021 x_15025)) && (x_15022 == x_15026)) && (api_Task.beq x_15028 x_15033)) && (api_Effect.beq x_15029 x_15034)) && (x_15030 == x_15035))) (b1 := (x_15030 == x_15035)) (b0 := false) (fun hc15055 K => ?_) (fun hc15055 K => ?_) bj_and ?_
      · skip
        refine SafeOps.quiet0 E_good (congrArg some hc15055) rfl rfl (v := V.int .i64 x_15030) (.fn rfl) ?_
        refine SafeOps.quiet0 E_good (congrArg some hc15055) rfl rfl (v := V.int .i64 x_15035) (.fn rfl) ?_
        refine SafeOps.quiet0 E_good (congrArg some hc15055) rfl rfl (v := V.bool (x_15030 == x_15035)) (.fn rfl) ?_
        refine SafeOps.quiet0 E_good rfl rfl rfl (v := V.bool (x_15030 == x_15035)) (.pickK rfl hc15055 rfl) ?_
        exact SafeOps.drop' 4 rfl rfl rfl K
      · skip
        refine SafeOps.skip (congrArg some hc15055) rfl rfl ?_
        refine SafeOps.skip (congrArg some hc15055) rfl rfl ?_
        refine SafeOps.skip (congrArg some hc15055) rfl rfl ?_
        refine SafeOps.quiet0 E_good rfl rfl rfl (v := V.bool false) (.pickK rfl hc15055 rfl) ?_
        exact SafeOps.drop' 4 rfl rfl rfl K
      refine SafeOps.quiet0 E_good rfl rfl rfl (v := V.bool ((((((x_15016 && (api_Task.beq x_15020 x_15024)) && (api_Effect.beq x_15021 x_15025)) && (x_15022 == x_15026)) && (api_Task.beq x_15028 x_15033)) && (api_Effect.beq x_15029 x_15034)) && (x_15030 == x_15035))) (.fn rfl) ?_
      refine SafeOps.bjoin 4 128 (b := (((((((x_15016 && (api_Task.beq x_15020 x_15024)) && (api_Effect.beq x_15021 x_15025)) && (x_15022 == x_15026)) && (api_Task.beq x_15028 x_15033)) && (api_Effect.beq x_15029 x_15034)) && (x_15030 == x_15035)) && (x_15031 == x_15036))) (b1 := (x_15031 == x_15036)) (b0 := false) (fun hc15056 K => ?_) (fun hc15056 K => ?_) bj_and ?_
      · skip
        refine SafeOps.quiet0 E_good (congrArg some hc15056) rfl rfl (v := V.int .i64 x_15031) (.fn rfl) ?_
        refine SafeOps.quiet0 E_good (congrArg some hc15056) rfl rfl (v := V.int .i64 x_15036) (.fn rfl) ?_
        refine SafeOps.quiet0 E_good (congrArg some hc15056) rfl rfl (v := V.bool (x_15031 == x_15036)) (.fn rfl) ?_
        refine SafeOps.quiet0 E_good rfl rfl rfl (v := V.bool (x_15031 == x_15036)) (.pickK rfl hc15056 rfl) ?_
        exact SafeOps.drop' 4 rfl rfl rfl K
      · skip
        refine SafeOps.skip (congrArg some hc15056) rfl rfl ?_
        refine SafeOps.skip (congrArg some hc15056) rfl rfl ?_
        refine SafeOps.skip (congrArg some hc15056) rfl rfl ?_
        refine SafeOps.quiet0 E_good rfl rfl rfl (v := V.bool false) (.pickK rfl hc15056 rfl) ?_
        exact SafeOps.drop' 4 rfl rfl rfl K
      refine SafeOps.quiet0 E_good rfl rfl rfl (v := V.bool (((((((x_15016 && (api_Task.beq x_15020 x_15024)) && (api_Effect.beq x_15021 x_15025)) && (x_15022 == x_15026)) && (api_Task.beq x_15028 x_15033)) && (api_Effect.beq x_15029 x_15034)) && (x_15030 == x_15035)) && (x_15031 == x_15036))) (.fn rfl) ?_
      refine SafeOps.bjoin 4 133 (b := ((((((((x_15016 && (api_Task.beq x_15020 x_15024)) && (api_Effect.beq x_15021 x_15025)) && (x_15022 == x_15026)) && (api_Task.beq x_15028 x_15033)) && (api_Effect.beq x_15029 x_15034)) && (x_15030 == x_15035)) && (x_15031 == x_15036)) && (x_15038 == x_15041))) (b1 := (x_15038 == x_15041)) (b0 := false) (fun hc15057 K => ?_) (fun hc15057 K => ?_) bj_and ?_
      · skip
        refine SafeOps.quiet0 E_good (congrArg some hc15057) rfl rfl (v := V.int .i64 x_15038) (.fn rfl) ?_
        refine SafeOps.quiet0 E_good (congrArg some hc15057) rfl rfl (v := V.int .i64 x_15041) (.fn rfl) ?_
        refine SafeOps.quiet0 E_good (congrArg some hc15057) rfl rfl (v := V.bool (x_15038 == x_15041)) (.fn rfl) ?_
        refine SafeOps.quiet0 E_good rfl rfl rfl (v := V.bool (x_15038 == x_15041)) (.pickK rfl hc15057 rfl) ?_
        exact SafeOps.drop' 4 rfl rfl rfl K
      · skip
        refine SafeOps.skip (congrArg some hc15057) rfl rfl ?_
        refine SafeOps.skip (congrArg some hc15057) rfl rfl ?_
        refine SafeOps.skip (congrArg some hc15057) rfl rfl ?_
        refine SafeOps.quiet0 E_good rfl rfl rfl (v := V.bool false) (.pickK rfl hc15057 rfl) ?_
        exact SafeOps.drop' 4 rfl rfl rfl K
      refine SafeOps.quiet0 E_good rfl rfl rfl (v := V.bool ((((((((x_15016 && (api_Task.beq x_15020 x_15024)) && (api_Effect.beq x_15021 x_15025)) && (x_15022 == x_15026)) && (api_Task.beq x_15028 x_15033)) && (api_Effect.beq x_15029 x_15034)) && (x_15030 == x_15035)) && (x_15031 == x_15036)) && (x_15038 == x_15041))) (.fn rfl) ?_
      refine SafeOps.bjoin 4 138 (b := (((((((((x_15016 && (api_Task.beq x_15020 x_15024)) && (api_Effect.beq x_15021 x_15025)) && (x_15022 == x_15026)) && (api_Task.beq x_15028 x_15033)) && (api_Effect.beq x_15029 x_15034)) && (x_15030 == x_15035)) && (x_15031 == x_15036)) && (x_15038 == x_15041)) && (x_15039 == x_15042))) (b1 := (x_15039 == x_15042)) (b0 := false) (fun hc15058 K => ?_) (fun hc15058 K => ?_) bj_and ?_
      · skip
        refine SafeOps.quiet0 E_good (congrArg some hc15058) rfl rfl (v := V.int .i64 x_15039) (.fn rfl) ?_
        refine SafeOps.quiet0 E_good (congrArg some hc15058) rfl rfl (v := V.int .i64 x_15042) (.fn rfl) ?_
        refine SafeOps.quiet0 E_good (congrArg some hc15058) rfl rfl (v := V.bool (x_15039 == x_15042)) (.fn rfl) ?_
        refine SafeOps.quiet0 E_good rfl rfl rfl (v := V.bool (x_15039 == x_15042)) (.pickK rfl hc15058 rfl) ?_
        exact SafeOps.drop' 4 rfl rfl rfl K
      · skip
        refine SafeOps.skip (congrArg some hc15058) rfl rfl ?_
        refine SafeOps.skip (congrArg some hc15058) rfl rfl ?_
        refine SafeOps.skip (congrArg some hc15058) rfl rfl ?_
        refine SafeOps.quiet0 E_good rfl rfl rfl (v := V.bool false) (.pickK rfl hc15058 rfl) ?_
        exact SafeOps.drop' 4 rfl rfl rfl K
      refine SafeOps.quiet0 E_good rfl rfl rfl (v := V.bool (((((((((x_15016 && (api_Task.beq x_15020 x_15024)) && (api_Effect.beq x_15021 x_15025)) && (x_15022 == x_15026)) && (api_Task.beq x_15028 x_15033)) && (api_Effect.beq x_15029 x_15034)) && (x_15030 == x_15035)) && (x_15031 == x_15036)) && (x_15038 == x_15041)) && (x_15039 == x_15042))) (.fn rfl) ?_
      refine SafeOps.bjoin 4 143 (b := ((((((((((x_15016 && (api_Task.beq x_15020 x_15024)) && (api_Effect.beq x_15021 x_15025)) && (x_15022 == x_15026)) && (api_Task.beq x_15028 x_15033)) && (api_Effect.beq x_15029 x_15034)) && (x_15030 == x_15035)) && (x_15031 == x_15036)) && (x_15038 == x_15041)) && (x_15039 == x_15042)) && (api_Instr.beq x_15044 x_15047))) (b1 := api_Instr.beq x_15044 x_15047) (b0 := false) (fun hc15059 K => ?_) (fun hc15059 K => ?_) bj_and ?_
      · skip
        refine SafeOps.quiet0 E_good (congrArg some hc15059) rfl rfl (v := V.agg [V.int .i64 x_15044.Op, V.int .i64 x_15044.A, V.int .i64 x_15044.B]) (.load rfl rfl (.box rfl rfl) rfl) ?_
        refine SafeOps.quiet0 E_good (congrArg some hc15059) rfl rfl (v := V.agg [V.int .i64 x_15047.Op, V.int .i64 x_15047.A, V.int .i64 x_15047.B]) (.load rfl rfl (.box rfl rfl) rfl) ?_
        refine SafeOps.quiet0 E_good (congrArg some hc15059) rfl rfl (v := V.bool (api_Instr.beq x_15044 x_15047)) (.eqA rfl rfl rfl rfl okT40 rfl) ?_
        refine SafeOps.quiet0 E_good rfl rfl rfl (v := V.bool (api_Instr.beq x_15044 x_15047)) (.pickK rfl hc15059 rfl) ?_
        exact SafeOps.drop' 4 rfl rfl rfl K
      · skip
        refine SafeOps.skip (congrArg some hc15059) rfl rfl ?_
        refine SafeOps.skip (congrArg some hc15059) rfl rfl ?_
        refine SafeOps.skip (congrArg some hc15059) rfl rfl ?_
        refine SafeOps.quiet0 E_good rfl rfl rfl (v := V.bool false) (.pickK rfl hc15059 rfl) ?_
        exact SafeOps.drop' 4 rfl rfl rfl K
      refine SafeOps.quiet0 E_good rfl rfl rfl (v := V.bool ((((((((((x_15016 && (api_Task.beq x_15020 x_15024)) && (api_Effect.beq x_15021 x_15025)) && (x_15022 == x_15026)) && (api_Task.beq x_15028 x_15033)) && (api_Effect.beq x_15029 x_15034)) && (x_15030 == x_15035)) && (x_15031 == x_15036)) && (x_15038 == x_15041)) && (x_15039 == x_15042)) && (api_Instr.beq x_15044 x_15047))) (.fn rfl) ?_
      refine SafeOps.bjoin 4 148 (b := (((((((((((x_15016 && (api_Task.beq x_15020 x_15024)) && (api_Effect.beq x_15021 x_15025)) && (x_15022 == x_15026)) && (api_Task.beq x_15028 x_15033)) && (api_Effect.beq x_15029 x_15034)) && (x_15030 == x_15035)) && (x_15031 == x_15036)) && (x_15038 == x_15041)) && (x_15039 == x_15042)) && (api_Instr.beq x_15044 x_15047)) && (x_15045 == x_15048))) (b1 := (x_15045 == x_15048)) (b0 := false) (fun hc15060 K => ?_) (fun hc15060 K => ?_) bj_and ?_
      · skip
        refine SafeOps.quiet0 E_good (congrArg some hc15060) rfl rfl (v := V.int .i64 x_15045) (.fn rfl) ?_
        refine SafeOps.quiet0 E_good (congrArg some hc15060) rfl rfl (v := V.int .i64 x_15048) (.fn rfl) ?_
        refine SafeOps.quiet0 E_good (congrArg some hc15060) rfl rfl (v := V.bool (x_15045 == x_15048)) (.fn rfl) ?_
        refine SafeOps.quiet0 E_good rfl rfl rfl (v := V.bool (x_15045 == x_15048)) (.pickK rfl hc15060 rfl) ?_
        exact SafeOps.drop' 4 rfl rfl rfl K
      · skip
        refine SafeOps.skip (congrArg some hc15060) rfl rfl ?_
        refine SafeOps.skip (congrArg some hc15060) rfl rfl ?_
        refine SafeOps.skip (congrArg some hc15060) rfl rfl ?_
        refine SafeOps.quiet0 E_good rfl rfl rfl (v := V.bool false) (.pickK rfl hc15060 rfl) ?_
        exact SafeOps.drop' 4 rfl rfl rfl K
      refine SafeOps.quiet0 E_good rfl rfl rfl (v := V.bool (((((((((((x_15016 && (api_Task.beq x_15020 x_15024)) && (api_Effect.beq x_15021 x_15025)) && (x_15022 == x_15026)) && (api_Task.beq x_15028 x_15033)) && (api_Effect.beq x_15029 x_15034)) && (x_15030 == x_15035)) && (x_15031 == x_15036)) && (x_15038 == x_15041)) && (x_15039 == x_15042)) && (api_Instr.beq x_15044 x_15047)) && (x_15045 == x_15048))) (.fn rfl) ?_
      refine SafeOps.nil ?_
      repeat (first | refine Safe.seq ?_ | refine Safe.skip ?_ | with_reducible refine thenQ.n ?_ | with_reducible refine blockQ.n ?_)
      refine Safe.ret ?_
      repeat (first | with_reducible refine thenQ.r ?_ | with_reducible refine blockQ.r ?_)
      obtain rfl := Option.some.inj h
      exact retQ.gen (vs := [V.bool (((((((((((x_15016 && (api_Task.beq x_15020 x_15024)) && (api_Effect.beq x_15021 x_15025)) && (x_15022 == x_15026)) && (api_Task.beq x_15028 x_15033)) && (api_Effect.beq x_15029 x_15034)) && (x_15030 == x_15035)) && (x_15031 == x_15036)) && (x_15038 == x_15041)) && (x_15039 == x_15042)) && (api_Instr.beq x_15044 x_15047)) && (x_15045 == x_15048))]) rfl (.tmp (v := V.bool (((((((((((x_15016 && (api_Task.beq x_15020 x_15024)) && (api_Effect.beq x_15021 x_15025)) && (x_15022 == x_15026)) && (api_Task.beq x_15028 x_15033)) && (api_Effect.beq x_15029 x_15034)) && (x_15030 == x_15035)) && (x_15031 == x_15036)) && (x_15038 == x_15041)) && (x_15039 == x_15042)) && (api_Instr.beq x_15044 x_15047)) && (x_15045 == x_15048))) rfl .nil) (.free rfl) (by simp) (.inr rfl)
end Go.Proofs.YtlekpilcgahaoaaDoor
