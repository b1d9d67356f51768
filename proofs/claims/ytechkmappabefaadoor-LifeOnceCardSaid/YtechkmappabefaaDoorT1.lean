/- Helper lemmas for the claim's theorem: an abstract machine over the model, proved sound; no condition beyond each lemma's own. -/
import Derived.Test.YtechkmappabefaaDoorT0
set_option linter.unusedVariables false
set_option linter.unusedSimpArgs false
set_option linter.unnecessarySimpa false
set_option linter.unusedSectionVars false
namespace Go.Proofs.YtechkmappabefaaDoor
open Go Go.AM
set_option maxRecDepth 100000
set_option maxHeartbeats 1000000
set_option linter.unusedVariables false
set_option linter.unusedSimpArgs false
noncomputable def go_life_New (a0_1152 : Int) (a1_1153 : Int) (a2_1154 : Int) : Option (api_Task × Int) :=
  (go_life_Check (api_Task.mk a0_1152 a1_1153 a2_1154 0 0 (A4_Int.mk (-1) (-1) (-1) (-1)) 1 0)).bind fun x_1158 =>
  if (x_1158 != 0) = true then
    some (api_Task.zero, x_1158)
  else
    some ((api_Task.mk a0_1152 a1_1153 a2_1154 0 0 (A4_Int.mk (-1) (-1) (-1) (-1)) 1 0), 0)

theorem go_life_New_sc (a0_1152 : Int) (a1_1153 : Int) (a2_1154 : Int) (r : api_Task × Int) (h : go_life_New a0_1152 a1_1153 a2_1154 = some r) : SC Tryd.prog gl 17 [V.int .i64 a0_1152, V.int .i64 a1_1153, V.int .i64 a2_1154] (V.tup [V.agg [V.int .i64 r.1.Id, V.int .i64 r.1.Tenant, V.int .i64 r.1.Prog, V.int .i64 r.1.Pc, V.int .i64 r.1.Unit, V.int .i64 r.1.Keeps.a0, V.int .i64 r.1.Keeps.a1, V.int .i64 r.1.Keeps.a2, V.int .i64 r.1.Keeps.a3, V.int .i64 r.1.State, V.int .i64 r.1.Ran], V.int .i64 r.2]) := by
  rw [go_life_New] at h
  refine SC.of E_good Tryd.func17 rfl (fun _ _ => Tryd.call17 _ _) rfl ?_
  repeat (first | refine Safe.seq ?_ | refine Safe.skip ?_ | with_reducible refine thenQ.n ?_ | with_reducible refine blockQ.n ?_)
  refine Safe.region ?_
  refine SafeOps.quiet1 E_good rfl rfl rfl (.alloc rfl rfl) rfl ?_
  refine SafeOps.quiet0 E_good rfl rfl rfl (v := V.int .i64 0) (.fn rfl) ?_
  refine SafeOps.nil ?_
  repeat (first | refine Safe.seq ?_ | refine Safe.skip ?_ | with_reducible refine thenQ.n ?_ | with_reducible refine blockQ.n ?_)
  refine Safe.region ?_
  refine SafeOps.quiet0 E_good rfl rfl rfl (v := V.int .i64 a0_1152) (.fn rfl) ?_
  refine SafeOps.quiet0 E_good rfl rfl rfl (v := V.int .i64 a1_1153) (.fn rfl) ?_
  refine SafeOps.quiet0 E_good rfl rfl rfl (v := V.int .i64 a2_1154) (.fn rfl) ?_
  refine SafeOps.quiet0 E_good rfl rfl rfl (v := V.agg [V.int .i64 (-1), V.int .i64 (-1), V.int .i64 (-1), V.int .i64 (-1)]) (.fn rfl) ?_
  refine SafeOps.quiet0 E_good rfl rfl rfl (v := V.agg [V.int .i64 a0_1152, V.int .i64 a1_1153, V.int .i64 a2_1154, V.int .i64 0, V.int .i64 0, V.int .i64 (-1), V.int .i64 (-1), V.int .i64 (-1), V.int .i64 (-1), V.int .i64 1, V.int .i64 0]) (.fn rfl) ?_
  refine SafeOps.quiet1 E_good rfl rfl rfl (.alloc rfl rfl) rfl ?_
  refine SafeOps.store (z := Obj.box [V.int .i64 a0_1152, V.int .i64 a1_1153, V.int .i64 a2_1154, V.int .i64 0, V.int .i64 0, V.int .i64 (-1), V.int .i64 (-1), V.int .i64 (-1), V.int .i64 (-1), V.int .i64 1, V.int .i64 0]) E_good rfl rfl rfl rfl rfl rfl rfl (.boxM (c := 11) rfl rfl (Nat.le_of_ble_eq_true rfl) rfl) ?_
  refine SafeOps.nil ?_
  repeat (first | refine Safe.seq ?_ | refine Safe.skip ?_ | with_reducible refine thenQ.n ?_ | with_reducible refine blockQ.n ?_)
  refine Safe.region ?_
  refine SafeOps.quiet0 E_good rfl rfl rfl (v := V.agg [V.int .i64 a0_1152, V.int .i64 a1_1153, V.int .i64 a2_1154, V.int .i64 0, V.int .i64 0, V.int .i64 (-1), V.int .i64 (-1), V.int .i64 (-1), V.int .i64 (-1), V.int .i64 1, V.int .i64 0]) (.load rfl rfl (.box rfl rfl) rfl) ?_
  refine bindG h ?_
  intro x_1158 he1159 h
  refine SafeOps.quiet0 E_good rfl rfl rfl (v := V.int .i64 x_1158) (.callP rfl rfl (go_life_Check_sc (api_Task.mk a0_1152 a1_1153 a2_1154 0 0 (A4_Int.mk (-1) (-1) (-1) (-1)) 1 0) _ he1159) rfl) ?_
  refine SafeOps.quiet0 E_good rfl rfl rfl (v := V.int .i64 x_1158) (.fn rfl) ?_
  refine SafeOps.nil ?_
  repeat (first | refine Safe.seq ?_ | refine Safe.skip ?_ | with_reducible refine thenQ.n ?_ | with_reducible refine blockQ.n ?_)
  refine Safe.region ?_
  refine SafeOps.quiet0 E_good rfl rfl rfl (v := V.int .i64 x_1158) (.fn rfl) ?_
  refine SafeOps.quiet0 E_good rfl rfl rfl (v := V.bool (x_1158 != 0)) (.fn rfl) ?_
  refine SafeOps.nil ?_
  repeat (first | refine Safe.seq ?_ | refine Safe.skip ?_ | with_reducible refine thenQ.n ?_ | with_reducible refine blockQ.n ?_)
  refine ifG h (fun hc1160 h => ?_) (fun hc1160 h => ?_)
  · skip
    refine Safe.condK rfl hc1160 ?_
    repeat (first | refine Safe.seq ?_ | refine Safe.skip ?_ | with_reducible refine thenQ.n ?_ | with_reducible refine blockQ.n ?_)
    refine Safe.region ?_
    refine SafeOps.quiet0 E_good rfl rfl rfl (v := V.agg [V.int .i64 0, V.int .i64 0, V.int .i64 0, V.int .i64 0, V.int .i64 0, V.int .i64 0, V.int .i64 0, V.int .i64 0, V.int .i64 0, V.int .i64 0, V.int .i64 0]) (.fn rfl) ?_
    refine SafeOps.quiet0 E_good rfl rfl rfl (v := V.int .i64 x_1158) (.fn rfl) ?_
    refine SafeOps.store (z := Obj.box [V.int .i64 0, V.int .i64 0, V.int .i64 0, V.int .i64 0, V.int .i64 0, V.int .i64 0, V.int .i64 0, V.int .i64 0, V.int .i64 0, V.int .i64 0, V.int .i64 0]) E_good rfl rfl rfl rfl rfl rfl rfl (.boxM (c := 11) rfl rfl (Nat.le_of_ble_eq_true rfl) rfl) ?_
    refine SafeOps.quiet0 E_good rfl rfl rfl (v := V.int .i64 x_1158) (.fn rfl) ?_
    refine SafeOps.nil ?_
    repeat (first | refine Safe.seq ?_ | refine Safe.skip ?_ | with_reducible refine thenQ.n ?_ | with_reducible refine blockQ.n ?_)
    refine Safe.ret ?_
    repeat (first | with_reducible refine thenQ.r ?_ | with_reducible refine blockQ.r ?_)
    obtain rfl := Option.some.inj h
    exact retQ.gen (vs := [V.agg [V.int .i64 0, V.int .i64 0, V.int .i64 0, V.int .i64 0, V.int .i64 0, V.int .i64 0, V.int .i64 0, V.int .i64 0, V.int .i64 0, V.int .i64 0, V.int .i64 0], V.int .i64 x_1158]) rfl (.cell (v := V.agg [V.int .i64 0, V.int .i64 0, V.int .i64 0, V.int .i64 0, V.int .i64 0, V.int .i64 0, V.int .i64 0, V.int .i64 0, V.int .i64 0, V.int .i64 0, V.int .i64 0]) rfl rfl (.box rfl rfl) rfl (.tmp (v := V.int .i64 x_1158) rfl .nil)) (.free rfl) (by simp) (.inr rfl)
  · skip
    refine Safe.condN rfl hc1160 ?_
    repeat (first | refine Safe.seq ?_ | refine Safe.skip ?_ | with_reducible refine thenQ.n ?_ | with_reducible refine blockQ.n ?_)
    refine Safe.region ?_
    refine SafeOps.quiet0 E_good rfl rfl rfl (v := V.agg [V.int .i64 a0_1152, V.int .i64 a1_1153, V.int .i64 a2_1154, V.int .i64 0, V.int .i64 0, V.int .i64 (-1), V.int .i64 (-1), V.int .i64 (-1), V.int .i64 (-1), V.int .i64 1, V.int .i64 0]) (.load rfl rfl (.box rfl rfl) rfl) ?_
    refine SafeOps.store (z := Obj.box [V.int .i64 a0_1152, V.int .i64 a1_1153, V.int .i64 a2_1154, V.int .i64 0, V.int .i64 0, V.int .i64 (-1), V.int .i64 (-1), V.int .i64 (-1), V.int .i64 (-1), V.int .i64 1, V.int .i64 0]) E_good rfl rfl rfl rfl rfl rfl rfl (.boxM (c := 11) rfl rfl (Nat.le_of_ble_eq_true rfl) rfl) ?_
    refine SafeOps.quiet0 E_good rfl rfl rfl (v := V.int .i64 0) (.fn rfl) ?_
    refine SafeOps.nil ?_
    repeat (first | refine Safe.seq ?_ | refine Safe.skip ?_ | with_reducible refine thenQ.n ?_ | with_reducible refine blockQ.n ?_)
    refine Safe.ret ?_
    repeat (first | with_reducible refine thenQ.r ?_ | with_reducible refine blockQ.r ?_)
    obtain rfl := Option.some.inj h
    exact retQ.gen (vs := [V.agg [V.int .i64 a0_1152, V.int .i64 a1_1153, V.int .i64 a2_1154, V.int .i64 0, V.int .i64 0, V.int .i64 (-1), V.int .i64 (-1), V.int .i64 (-1), V.int .i64 (-1), V.int .i64 1, V.int .i64 0], V.int .i64 0]) rfl (.cell (v := V.agg [V.int .i64 a0_1152, V.int .i64 a1_1153, V.int .i64 a2_1154, V.int .i64 0, V.int .i64 0, V.int .i64 (-1), V.int .i64 (-1), V.int .i64 (-1), V.int .i64 (-1), V.int .i64 1, V.int .i64 0]) rfl rfl (.box rfl rfl) rfl (.tmp (v := V.int .i64 0) rfl .nil)) (.free rfl) (by simp) (.inr rfl)

noncomputable def go_life_Move (a0_1169 : api_Task) (a1_1170 : Int) : Option (api_Task × Int) :=
  (go_life_Check a0_1169).bind fun x_1192 =>
  if ((x_1192 != 0) || (!(go_life_state a1_1170))) = true then
    some (api_Task.zero, 1)
  else
    (go_life_Legal a0_1169.State a1_1170).bind fun x_1196 =>
    if (!x_1196) = true then
      some (api_Task.zero, 9)
    else
      some ((api_Task.mk a0_1169.Id a0_1169.Tenant a0_1169.Prog a0_1169.Pc a0_1169.Unit a0_1169.Keeps a1_1170 a0_1169.Ran), 0)

theorem go_life_Move_sc (a0_1169 : api_Task) (a1_1170 : Int) (r : api_Task × Int) (h : go_life_Move a0_1169 a1_1170 = some r) : SC Tryd.prog gl 18 [V.agg [V.int .i64 a0_1169.Id, V.int .i64 a0_1169.Tenant, V.int .i64 a0_1169.Prog, V.int .i64 a0_1169.Pc, V.int .i64 a0_1169.Unit, V.int .i64 a0_1169.Keeps.a0, V.int .i64 a0_1169.Keeps.a1, V.int .i64 a0_1169.Keeps.a2, V.int .i64 a0_1169.Keeps.a3, V.int .i64 a0_1169.State, V.int .i64 a0_1169.Ran], V.int .i64 a1_1170] (V.tup [V.agg [V.int .i64 r.1.Id, V.int .i64 r.1.Tenant, V.int .i64 r.1.Prog, V.int .i64 r.1.Pc, V.int .i64 r.1.Unit, V.int .i64 r.1.Keeps.a0, V.int .i64 r.1.Keeps.a1, V.int .i64 r.1.Keeps.a2, V.int .i64 r.1.Keeps.a3, V.int .i64 r.1.State, V.int .i64 r.1.Ran], V.int .i64 r.2]) := by
  rw [go_life_Move] at h
  refine SC.of E_good Tryd.func18 rfl (fun _ _ => Tryd.call18 _ _) rfl ?_
  repeat (first | refine Safe.seq ?_ | refine Safe.skip ?_ | with_reducible refine thenQ.n ?_ | with_reducible refine blockQ.n ?_)
  refine Safe.region ?_
  refine SafeOps.quiet1 E_good rfl rfl rfl (.box rfl rfl) rfl ?_
  refine SafeOps.quiet1 E_good rfl rfl rfl (.alloc rfl rfl) rfl ?_
  refine SafeOps.quiet0 E_good rfl rfl rfl (v := V.int .i64 0) (.fn rfl) ?_
  refine SafeOps.nil ?_
  repeat (first | refine Safe.seq ?_ | refine Safe.skip ?_ | with_reducible refine thenQ.n ?_ | with_reducible refine blockQ.n ?_)
  refine Safe.block ?_
  repeat (first | refine Safe.seq ?_ | refine Safe.skip ?_ | with_reducible refine thenQ.n ?_ | with_reducible refine blockQ.n ?_)
  refine Safe.region ?_
  refine SafeOps.quiet0 E_good rfl rfl rfl (v := V.agg [V.int .i64 a0_1169.Id, V.int .i64 a0_1169.Tenant, V.int .i64 a0_1169.Prog, V.int .i64 a0_1169.Pc, V.int .i64 a0_1169.Unit, V.int .i64 a0_1169.Keeps.a0, V.int .i64 a0_1169.Keeps.a1, V.int .i64 a0_1169.Keeps.a2, V.int .i64 a0_1169.Keeps.a3, V.int .i64 a0_1169.State, V.int .i64 a0_1169.Ran]) (.load rfl rfl (.box rfl rfl) rfl) ?_
  refine bindG h ?_
  intro x_1192 he1193 h
  refine SafeOps.quiet0 E_good rfl rfl rfl (v := V.int .i64 x_1192) (.callP rfl rfl (go_life_Check_sc a0_1169 _ he1193) rfl) ?_
  refine SafeOps.quiet0 E_good rfl rfl rfl (v := V.bool (x_1192 != 0)) (.fn rfl) ?_
  refine SafeOps.quiet0 E_good rfl rfl rfl (v := V.bool (x_1192 != 0)) (.fn rfl) ?_
  refine SafeOps.bjoin 4 14 (b := ((x_1192 != 0) || (!(go_life_state a1_1170)))) (b1 := true) (b0 := (!(go_life_state a1_1170))) (fun hc1194 K => ?_) (fun hc1194 K => ?_) bj_or ?_
  · skip
    refine SafeOps.skip (congrArg (fun b => some (!b)) hc1194) rfl rfl ?_
    refine SafeOps.skip (congrArg (fun b => some (!b)) hc1194) rfl rfl ?_
    refine SafeOps.skip (congrArg (fun b => some (!b)) hc1194) rfl rfl ?_
    refine SafeOps.quiet0 E_good rfl rfl rfl (v := V.bool true) (.pickK rfl hc1194 rfl) ?_
    exact SafeOps.drop' 4 rfl rfl rfl K
  · skip
    refine SafeOps.quiet0 E_good (congrArg (fun b => some (!b)) hc1194) rfl rfl (v := V.int .i64 a1_1170) (.fn rfl) ?_
    refine SafeOps.quiet0 E_good (congrArg (fun b => some (!b)) hc1194) rfl rfl (v := V.bool (go_life_state a1_1170)) (.callP rfl rfl (go_life_state_sc a1_1170 _ rfl) rfl) ?_
    refine SafeOps.quiet0 E_good (congrArg (fun b => some (!b)) hc1194) rfl rfl (v := V.bool (!(go_life_state a1_1170))) (.fn rfl) ?_
    refine SafeOps.quiet0 E_good rfl rfl rfl (v := V.bool (!(go_life_state a1_1170))) (.pickK rfl hc1194 rfl) ?_
    exact SafeOps.drop' 4 rfl rfl rfl K
  refine SafeOps.quiet0 E_good rfl rfl rfl (v := V.bool ((x_1192 != 0) || (!(go_life_state a1_1170)))) (.fn rfl) ?_
  refine SafeOps.nil ?_
  repeat (first | refine Safe.seq ?_ | refine Safe.skip ?_ | with_reducible refine thenQ.n ?_ | with_reducible refine blockQ.n ?_)
  refine ifG h (fun hc1195 h => ?_) (fun hc1195 h => ?_)
  · skip
    refine Safe.condK rfl hc1195 ?_
    repeat (first | refine Safe.seq ?_ | refine Safe.skip ?_ | with_reducible refine thenQ.n ?_ | with_reducible refine blockQ.n ?_)
    refine Safe.region ?_
    refine SafeOps.quiet0 E_good rfl rfl rfl (v := V.agg [V.int .i64 0, V.int .i64 0, V.int .i64 0, V.int .i64 0, V.int .i64 0, V.int .i64 0, V.int .i64 0, V.int .i64 0, V.int .i64 0, V.int .i64 0, V.int .i64 0]) (.fn rfl) ?_
    refine SafeOps.store (z := Obj.box [V.int .i64 0, V.int .i64 0, V.int .i64 0, V.int .i64 0, V.int .i64 0, V.int .i64 0, V.int .i64 0, V.int .i64 0, V.int .i64 0, V.int .i64 0, V.int .i64 0]) E_good rfl rfl rfl rfl rfl rfl rfl (.boxM (c := 11) rfl rfl (Nat.le_of_ble_eq_true rfl) rfl) ?_
    refine SafeOps.quiet0 E_good rfl rfl rfl (v := V.int .i64 1) (.fn rfl) ?_
    refine SafeOps.nil ?_
    repeat (first | refine Safe.seq ?_ | refine Safe.skip ?_ | with_reducible refine thenQ.n ?_ | with_reducible refine blockQ.n ?_)
    refine Safe.ret ?_
    repeat (first | with_reducible refine thenQ.r ?_ | with_reducible refine blockQ.r ?_)
    obtain rfl := Option.some.inj h
    exact retQ.gen (vs := [V.agg [V.int .i64 0, V.int .i64 0, V.int .i64 0, V.int .i64 0, V.int .i64 0, V.int .i64 0, V.int .i64 0, V.int .i64 0, V.int .i64 0, V.int .i64 0, V.int .i64 0], V.int .i64 1]) rfl (.cell (v := V.agg [V.int .i64 0, V.int .i64 0, V.int .i64 0, V.int .i64 0, V.int .i64 0, V.int .i64 0, V.int .i64 0, V.int .i64 0, V.int .i64 0, V.int .i64 0, V.int .i64 0]) rfl rfl (.box rfl rfl) rfl (.tmp (v := V.int .i64 1) rfl .nil)) (.free rfl) (by simp) (.inr rfl)
  · skip
    refine Safe.condN rfl hc1195 ?_
    repeat (first | refine Safe.seq ?_ | refine Safe.skip ?_ | with_reducible refine thenQ.n ?_ | with_reducible refine blockQ.n ?_)
    refine Safe.region ?_
    refine SafeOps.quiet0 E_good rfl rfl rfl (v := V.ptr [2] 0 9) (.fn rfl) ?_
    refine SafeOps.quiet0 E_good rfl rfl rfl (v := V.int .i64 a0_1169.State) (.load rfl rfl (.box rfl rfl) rfl) ?_
    refine SafeOps.quiet0 E_good rfl rfl rfl (v := V.int .i64 a1_1170) (.fn rfl) ?_
    refine bindG h ?_
    intro x_1196 he1197 h
    refine SafeOps.quiet0 E_good rfl rfl rfl (v := V.bool x_1196) (.callP rfl rfl (go_life_Legal_sc a0_1169.State a1_1170 _ he1197) rfl) ?_
    refine SafeOps.quiet0 E_good rfl rfl rfl (v := V.bool (!x_1196)) (.fn rfl) ?_
    refine SafeOps.quiet0 E_good rfl rfl rfl (v := V.bool (!x_1196)) (.fn rfl) ?_
    refine SafeOps.nil ?_
    repeat (first | refine Safe.seq ?_ | refine Safe.skip ?_ | with_reducible refine thenQ.n ?_ | with_reducible refine blockQ.n ?_)
    refine ifG h (fun hc1198 h => ?_) (fun hc1198 h => ?_)
    · skip
      refine Safe.condK rfl hc1198 ?_
      repeat (first | refine Safe.seq ?_ | refine Safe.skip ?_ | with_reducible refine thenQ.n ?_ | with_reducible refine blockQ.n ?_)
      refine Safe.region ?_
      refine SafeOps.quiet0 E_good rfl rfl rfl (v := V.agg [V.int .i64 0, V.int .i64 0, V.int .i64 0, V.int .i64 0, V.int .i64 0, V.int .i64 0, V.int .i64 0, V.int .i64 0, V.int .i64 0, V.int .i64 0, V.int .i64 0]) (.fn rfl) ?_
      refine SafeOps.store (z := Obj.box [V.int .i64 0, V.int .i64 0, V.int .i64 0, V.int .i64 0, V.int .i64 0, V.int .i64 0, V.int .i64 0, V.int .i64 0, V.int .i64 0, V.int .i64 0, V.int .i64 0]) E_good rfl rfl rfl rfl rfl rfl rfl (.boxM (c := 11) rfl rfl (Nat.le_of_ble_eq_true rfl) rfl) ?_
      refine SafeOps.quiet0 E_good rfl rfl rfl (v := V.int .i64 9) (.fn rfl) ?_
      refine SafeOps.nil ?_
      repeat (first | refine Safe.seq ?_ | refine Safe.skip ?_ | with_reducible refine thenQ.n ?_ | with_reducible refine blockQ.n ?_)
      refine Safe.ret ?_
      repeat (first | with_reducible refine thenQ.r ?_ | with_reducible refine blockQ.r ?_)
      obtain rfl := Option.some.inj h
      exact retQ.gen (vs := [V.agg [V.int .i64 0, V.int .i64 0, V.int .i64 0, V.int .i64 0, V.int .i64 0, V.int .i64 0, V.int .i64 0, V.int .i64 0, V.int .i64 0, V.int .i64 0, V.int .i64 0], V.int .i64 9]) rfl (.cell (v := V.agg [V.int .i64 0, V.int .i64 0, V.int .i64 0, V.int .i64 0, V.int .i64 0, V.int .i64 0, V.int .i64 0, V.int .i64 0, V.int .i64 0, V.int .i64 0, V.int .i64 0]) rfl rfl (.box rfl rfl) rfl (.tmp (v := V.int .i64 9) rfl .nil)) (.free rfl) (by simp) (.inr rfl)
    · skip
      refine Safe.condN rfl hc1198 ?_
      repeat (first | refine Safe.seq ?_ | refine Safe.skip ?_ | with_reducible refine thenQ.n ?_ | with_reducible refine blockQ.n ?_)
      refine Safe.region ?_
      refine SafeOps.quiet0 E_good rfl rfl rfl (v := V.int .i64 a1_1170) (.fn rfl) ?_
      refine SafeOps.quiet0 E_good rfl rfl rfl (v := V.ptr [2] 0 9) (.fn rfl) ?_
      refine SafeOps.store (z := Obj.box [V.int .i64 a0_1169.Id, V.int .i64 a0_1169.Tenant, V.int .i64 a0_1169.Prog, V.int .i64 a0_1169.Pc, V.int .i64 a0_1169.Unit, V.int .i64 a0_1169.Keeps.a0, V.int .i64 a0_1169.Keeps.a1, V.int .i64 a0_1169.Keeps.a2, V.int .i64 a0_1169.Keeps.a3, V.int .i64 a1_1170, V.int .i64 a0_1169.Ran]) E_good rfl rfl rfl rfl rfl rfl rfl (.boxM (c := 11) rfl rfl (Nat.le_of_ble_eq_true rfl) rfl) ?_
      refine SafeOps.nil ?_
      repeat (first | refine Safe.seq ?_ | refine Safe.skip ?_ | with_reducible refine thenQ.n ?_ | with_reducible refine blockQ.n ?_)
      refine Safe.region ?_
      refine SafeOps.quiet0 E_good rfl rfl rfl (v := V.agg [V.int .i64 a0_1169.Id, V.int .i64 a0_1169.Tenant, V.int .i64 a0_1169.Prog, V.int .i64 a0_1169.Pc, V.int .i64 a0_1169.Unit, V.int .i64 a0_1169.Keeps.a0, V.int .i64 a0_1169.Keeps.a1, V.int .i64 a0_1169.Keeps.a2, V.int .i64 a0_1169.Keeps.a3, V.int .i64 a1_1170, V.int .i64 a0_1169.Ran]) (.load rfl rfl (.box rfl rfl) rfl) ?_
      refine SafeOps.store (z := Obj.box [V.int .i64 a0_1169.Id, V.int .i64 a0_1169.Tenant, V.int .i64 a0_1169.Prog, V.int .i64 a0_1169.Pc, V.int .i64 a0_1169.Unit, V.int .i64 a0_1169.Keeps.a0, V.int .i64 a0_1169.Keeps.a1, V.int .i64 a0_1169.Keeps.a2, V.int .i64 a0_1169.Keeps.a3, V.int .i64 a1_1170, V.int .i64 a0_1169.Ran]) E_good rfl rfl rfl rfl rfl rfl rfl (.boxM (c := 11) rfl rfl (Nat.le_of_ble_eq_true rfl) rfl) ?_
      refine SafeOps.quiet0 E_good rfl rfl rfl (v := V.int .i64 0) (.fn rfl) ?_
      refine SafeOps.nil ?_
      repeat (first | refine Safe.seq ?_ | refine Safe.skip ?_ | with_reducible refine thenQ.n ?_ | with_reducible refine blockQ.n ?_)
      refine Safe.ret ?_
      repeat (first | with_reducible refine thenQ.r ?_ | with_reducible refine blockQ.r ?_)
      obtain rfl := Option.some.inj h
      exact retQ.gen (vs := [V.agg [V.int .i64 a0_1169.Id, V.int .i64 a0_1169.Tenant, V.int .i64 a0_1169.Prog, V.int .i64 a0_1169.Pc, V.int .i64 a0_1169.Unit, V.int .i64 a0_1169.Keeps.a0, V.int .i64 a0_1169.Keeps.a1, V.int .i64 a0_1169.Keeps.a2, V.int .i64 a0_1169.Keeps.a3, V.int .i64 a1_1170, V.int .i64 a0_1169.Ran], V.int .i64 0]) rfl (.cell (v := V.agg [V.int .i64 a0_1169.Id, V.int .i64 a0_1169.Tenant, V.int .i64 a0_1169.Prog, V.int .i64 a0_1169.Pc, V.int .i64 a0_1169.Unit, V.int .i64 a0_1169.Keeps.a0, V.int .i64 a0_1169.Keeps.a1, V.int .i64 a0_1169.Keeps.a2, V.int .i64 a0_1169.Keeps.a3, V.int .i64 a1_1170, V.int .i64 a0_1169.Ran]) rfl rfl (.box rfl rfl) rfl (.tmp (v := V.int .i64 0) rfl .nil)) (.free rfl) (by simp) (.inr rfl)

noncomputable def go_ravellaw12_LifeOnce_s2 (a3_1147 : List Int) (x_1353 : Bool) (x_1357 : api_Task) : ((List Int) × Int × Int × Int × Int × Int × Int × Int × Int × Int × Int × Int × Int) → Option (((List Int) × Int × Int × Int × Int × Int × Int × Int × Int × Int × Int × Int × Int) ⊕ (Bool))
  | (v13_1483, v47_1484, v100_1485, v101_1486, v102_1487, v103_1488, v104_1489, v105_1490, v106_1491, v107_1492, v108_1493, v109_1494, v1010_1495) =>
    if (decide (v47_1484 < (a3_1147.length : Int))) = true then
      if 0 ≤ v47_1484 ∧ v47_1484 < (a3_1147.length : Int) then
        (go_life_Move (api_Task.mk v100_1485 v101_1486 v102_1487 v103_1488 v104_1489 (A4_Int.mk v105_1490 v106_1491 v107_1492 v108_1493) v109_1494 v1010_1495) (gt a3_1147 v47_1484)).bind fun (x_1499, x_1500) =>
        (go_life_Legal v109_1494 (gt a3_1147 v47_1484)).bind fun x_1502 =>
        if (!((x_1500 == 0) == x_1502)) = true then
          inrO (
            some false)
        else
          if (x_1500 != 0) = true then
            nextO (v13_1483, IntKind.i64.wrap (v47_1484 + 1), v100_1485, v101_1486, v102_1487, v103_1488, v104_1489, v105_1490, v106_1491, v107_1492, v108_1493, v109_1494, v1010_1495)
          else
            if (((v109_1494 == 7) || ((x_1499.State == 2) && (v109_1494 != 1))) || (((go_life_Waits v109_1494) && (x_1499.State != 1)) && (x_1499.State != 7))) = true then
              inrO (
                some false)
            else
              if few (v13_1483 ++ [x_1499.State]).length then
                nextO (v13_1483 ++ [x_1499.State], IntKind.i64.wrap (v47_1484 + 1), x_1499.Id, x_1499.Tenant, x_1499.Prog, x_1499.Pc, x_1499.Unit, x_1499.Keeps.a0, x_1499.Keeps.a1, x_1499.Keeps.a2, x_1499.Keeps.a3, x_1499.State, x_1499.Ran)
              else none
      else none
    else
      inrO (
        (go_life_Trace v13_1483).bind fun (x_1513, x_1514) =>
        some (((x_1353 && (x_1514 == 0)) && (x_1513 == (v13_1483.length : Int))) && (api_Task.beq (api_Task.mk v100_1485 v101_1486 v102_1487 v103_1488 v104_1489 (A4_Int.mk v105_1490 v106_1491 v107_1492 v108_1493) x_1357.State v1010_1495) x_1357)))

noncomputable def go_ravellaw12_LifeOnce (a0_1144 : Int) (a1_1145 : Int) (a2_1146 : Int) (a3_1147 : List Int) : Option Bool :=
  (go_ravellaw12_live).bind fun x_1353 =>
  if (!x_1353) = true then
    some false
  else
    if (decide ((a3_1147.length : Int) > 200)) = true then
      some x_1353
    else
      (go_life_New a0_1144 a1_1145 a2_1146).bind fun (x_1357, x_1358) =>
      if (x_1358 != 0) = true then
        some (x_1353 && (x_1358 == 1))
      else
        whileO (go_ravellaw12_LifeOnce_s2 a3_1147 x_1353 x_1357) ([x_1357.State], 0, x_1357.Id, x_1357.Tenant, x_1357.Prog, x_1357.Pc, x_1357.Unit, x_1357.Keeps.a0, x_1357.Keeps.a1, x_1357.Keeps.a2, x_1357.Keeps.a3, x_1357.State, x_1357.Ran)

theorem go_ravellaw12_LifeOnce_sc (a0_1144 : Int) (a1_1145 : Int) (a2_1146 : Int) (a3_1147 : List Int) (r : Bool) (h : go_ravellaw12_LifeOnce a0_1144 a1_1145 a2_1146 a3_1147 = some r) : SC Tryd.prog gl 7 [V.int .i64 a0_1144, V.int .i64 a1_1145, V.int .i64 a2_1146, V.sl 1 (rws (fun n => [V.int .i64 n]) a3_1147)] (V.bool r) := by
  rw [go_ravellaw12_LifeOnce] at h
  refine SC.of E_good Tryd.func7 rfl (fun _ _ => Tryd.call7 _ _) rfl ?_
  repeat (first | refine Safe.seq ?_ | refine Safe.skip ?_ | with_reducible refine thenQ.n ?_ | with_reducible refine blockQ.n ?_)
  refine Safe.region ?_
  refine SafeOps.quiet0 E_good rfl rfl rfl (v := V.bool false) (.fn rfl) ?_
  refine SafeOps.nil ?_
  repeat (first | refine Safe.seq ?_ | refine Safe.skip ?_ | with_reducible refine thenQ.n ?_ | with_reducible refine blockQ.n ?_)
  refine Safe.region ?_
  refine bindG h ?_
  intro x_1353 he1354 h
  refine SafeOps.quiet0 E_good rfl rfl rfl (v := V.bool x_1353) (.callP rfl rfl (go_ravellaw12_live_sc  _ he1354) rfl) ?_
  refine SafeOps.quiet0 E_good rfl rfl rfl (v := V.bool x_1353) (.fn rfl) ?_
  refine SafeOps.nil ?_
  repeat (first | refine Safe.seq ?_ | refine Safe.skip ?_ | with_reducible refine thenQ.n ?_ | with_reducible refine blockQ.n ?_)
  refine Safe.region ?_
  refine SafeOps.quiet0 E_good rfl rfl rfl (v := V.bool x_1353) (.fn rfl) ?_
  refine SafeOps.quiet0 E_good rfl rfl rfl (v := V.bool (!x_1353)) (.fn rfl) ?_
  refine SafeOps.nil ?_
  repeat (first | refine Safe.seq ?_ | refine Safe.skip ?_ | with_reducible refine thenQ.n ?_ | with_reducible refine blockQ.n ?_)
  refine ifG h (fun hc1355 h => ?_) (fun hc1355 h => ?_)
  · skip
    refine Safe.condK rfl hc1355 ?_
    repeat (first | refine Safe.seq ?_ | refine Safe.skip ?_ | with_reducible refine thenQ.n ?_ | with_reducible refine blockQ.n ?_)
    refine Safe.region ?_
    refine SafeOps.quiet0 E_good rfl rfl rfl (v := V.bool false) (.fn rfl) ?_
    refine SafeOps.nil ?_
    repeat (first | refine Safe.seq ?_ | refine Safe.skip ?_ | with_reducible refine thenQ.n ?_ | with_reducible refine blockQ.n ?_)
    refine Safe.ret ?_
    repeat (first | with_reducible refine thenQ.r ?_ | with_reducible refine blockQ.r ?_)
    obtain rfl := Option.some.inj h
    exact retQ.gen (vs := [V.bool false]) rfl (.tmp (v := V.bool false) rfl .nil) (.free rfl) (by simp) (.inr rfl)
  · skip
    refine Safe.condN rfl hc1355 ?_
    repeat (first | refine Safe.seq ?_ | refine Safe.skip ?_ | with_reducible refine thenQ.n ?_ | with_reducible refine blockQ.n ?_)
    refine Safe.region ?_
    refine SafeOps.quiet0 E_good rfl rfl rfl (v := V.sl 1 (rws (fun n => [V.int .i64 n]) a3_1147)) (.fn rfl) ?_
    refine SafeOps.quiet0 E_good rfl rfl rfl (v := V.int .i64 (a3_1147.length : Int)) (.fnE rfl lenE) ?_
    refine SafeOps.quiet0 E_good rfl rfl rfl (v := V.bool (decide ((a3_1147.length : Int) > 200))) (.fn rfl) ?_
    refine SafeOps.nil ?_
    repeat (first | refine Safe.seq ?_ | refine Safe.skip ?_ | with_reducible refine thenQ.n ?_ | with_reducible refine blockQ.n ?_)
    refine ifG h (fun hc1356 h => ?_) (fun hc1356 h => ?_)
    · skip
      refine Safe.condK rfl hc1356 ?_
      repeat (first | refine Safe.seq ?_ | refine Safe.skip ?_ | with_reducible refine thenQ.n ?_ | with_reducible refine blockQ.n ?_)
      refine Safe.region ?_
      refine SafeOps.quiet0 E_good rfl rfl rfl (v := V.bool x_1353) (.fn rfl) ?_
      refine SafeOps.quiet0 E_good rfl rfl rfl (v := V.bool x_1353) (.fn rfl) ?_
      refine SafeOps.nil ?_
      repeat (first | refine Safe.seq ?_ | refine Safe.skip ?_ | with_reducible refine thenQ.n ?_ | with_reducible refine blockQ.n ?_)
      refine Safe.ret ?_
      repeat (first | with_reducible refine thenQ.r ?_ | with_reducible refine blockQ.r ?_)
      obtain rfl := Option.some.inj h
      exact retQ.gen (vs := [V.bool x_1353]) rfl (.tmp (v := V.bool x_1353) rfl .nil) (.free rfl) (by simp) (.inr rfl)
    · skip
      refine Safe.condN rfl hc1356 ?_
      repeat (first | refine Safe.seq ?_ | refine Safe.skip ?_ | with_reducible refine thenQ.n ?_ | with_reducible refine blockQ.n ?_)
      refine Safe.region ?_
      refine SafeOps.quiet0 E_good rfl rfl rfl (v := V.int .i64 a0_1144) (.fn rfl) ?_
      refine SafeOps.quiet0 E_good rfl rfl rfl (v := V.int .i64 a1_1145) (.fn rfl) ?_
      refine SafeOps.quiet0 E_good rfl rfl rfl (v := V.int .i64 a2_1146) (.fn rfl) ?_
      refine bindG h ?_
      rintro ⟨x_1357, x_1358⟩ he1359 h
      refine SafeOps.quiet0 E_good rfl rfl rfl (v := V.tup [V.agg [V.int .i64 x_1357.Id, V.int .i64 x_1357.Tenant, V.int .i64 x_1357.Prog, V.int .i64 x_1357.Pc, V.int .i64 x_1357.Unit, V.int .i64 x_1357.Keeps.a0, V.int .i64 x_1357.Keeps.a1, V.int .i64 x_1357.Keeps.a2, V.int .i64 x_1357.Keeps.a3, V.int .i64 x_1357.State, V.int .i64 x_1357.Ran], V.int .i64 x_1358]) (.callP rfl rfl (go_life_New_sc a0_1144 a1_1145 a2_1146 _ he1359) rfl) ?_
      refine SafeOps.quiet0 E_good rfl rfl rfl (v := V.tup [V.agg [V.int .i64 x_1357.Id, V.int .i64 x_1357.Tenant, V.int .i64 x_1357.Prog, V.int .i64 x_1357.Pc, V.int .i64 x_1357.Unit, V.int .i64 x_1357.Keeps.a0, V.int .i64 x_1357.Keeps.a1, V.int .i64 x_1357.Keeps.a2, V.int .i64 x_1357.Keeps.a3, V.int .i64 x_1357.State, V.int .i64 x_1357.Ran], V.int .i64 x_1358]) (.fn rfl) ?_
      refine SafeOps.quiet0 E_good rfl rfl rfl (v := V.agg [V.int .i64 x_1357.Id, V.int .i64 x_1357.Tenant, V.int .i64 x_1357.Prog, V.int .i64 x_1357.Pc, V.int .i64 x_1357.Unit, V.int .i64 x_1357.Keeps.a0, V.int .i64 x_1357.Keeps.a1, V.int .i64 x_1357.Keeps.a2, V.int .i64 x_1357.Keeps.a3, V.int .i64 x_1357.State, V.int .i64 x_1357.Ran]) (.fn rfl) ?_
      refine SafeOps.quiet0 E_good rfl rfl rfl (v := V.int .i64 x_1358) (.fn rfl) ?_
      refine SafeOps.quiet1 E_good rfl rfl rfl (.alloc rfl rfl) rfl ?_
      refine SafeOps.store (z := Obj.box [V.int .i64 x_1357.Id, V.int .i64 x_1357.Tenant, V.int .i64 x_1357.Prog, V.int .i64 x_1357.Pc, V.int .i64 x_1357.Unit, V.int .i64 x_1357.Keeps.a0, V.int .i64 x_1357.Keeps.a1, V.int .i64 x_1357.Keeps.a2, V.int .i64 x_1357.Keeps.a3, V.int .i64 x_1357.State, V.int .i64 x_1357.Ran]) E_good rfl rfl rfl rfl rfl rfl rfl (.boxM (c := 11) rfl rfl (Nat.le_of_ble_eq_true rfl) rfl) ?_
      refine SafeOps.quiet0 E_good rfl rfl rfl (v := V.int .i64 x_1358) (.fn rfl) ?_
      refine SafeOps.nil ?_
      repeat (first | refine Safe.seq ?_ | refine Safe.skip ?_ | with_reducible refine thenQ.n ?_ | with_reducible refine blockQ.n ?_)
      refine Safe.region ?_
      refine SafeOps.quiet0 E_good rfl rfl rfl (v := V.int .i64 x_1358) (.fn rfl) ?_
      refine SafeOps.quiet0 E_good rfl rfl rfl (v := V.bool (x_1358 != 0)) (.fn rfl) ?_
      refine SafeOps.nil ?_
      repeat (first | refine Safe.seq ?_ | refine Safe.skip ?_ | with_reducible refine thenQ.n ?_ | with_reducible refine blockQ.n ?_)
      refine ifG h (fun hc1361 h => ?_) (fun hc1361 h => ?_)
      · skip
        refine Safe.condK rfl hc1361 ?_
        repeat (first | refine Safe.seq ?_ | refine Safe.skip ?_ | with_reducible refine thenQ.n ?_ | with_reducible refine blockQ.n ?_)
        refine Safe.region ?_
        refine SafeOps.quiet0 E_good rfl rfl rfl (v := V.bool x_1353) (.fn rfl) ?_
        refine SafeOps.quiet0 E_good rfl rfl rfl (v := V.bool x_1353) (.fn rfl) ?_
        refine SafeOps.bjoin 3 40 (b := (x_1353 && (x_1358 == 1))) (b1 := (x_1358 == 1)) (b0 := false) (fun hc1362 K => ?_) (fun hc1362 K => ?_) bj_and ?_
        · skip
          refine SafeOps.quiet0 E_good (congrArg some hc1362) rfl rfl (v := V.int .i64 x_1358) (.fn rfl) ?_
          refine SafeOps.quiet0 E_good (congrArg some hc1362) rfl rfl (v := V.bool (x_1358 == 1)) (.fn rfl) ?_
          refine SafeOps.quiet0 E_good rfl rfl rfl (v := V.bool (x_1358 == 1)) (.pickK rfl hc1362 rfl) ?_
          exact SafeOps.drop' 3 rfl rfl rfl K
        · skip
          refine SafeOps.skip (congrArg some hc1362) rfl rfl ?_
          refine SafeOps.skip (congrArg some hc1362) rfl rfl ?_
          refine SafeOps.quiet0 E_good rfl rfl rfl (v := V.bool false) (.pickK rfl hc1362 rfl) ?_
          exact SafeOps.drop' 3 rfl rfl rfl K
        refine SafeOps.quiet0 E_good rfl rfl rfl (v := V.bool (x_1353 && (x_1358 == 1))) (.fn rfl) ?_
        refine SafeOps.nil ?_
        repeat (first | refine Safe.seq ?_ | refine Safe.skip ?_ | with_reducible refine thenQ.n ?_ | with_reducible refine blockQ.n ?_)
        refine Safe.ret ?_
        repeat (first | with_reducible refine thenQ.r ?_ | with_reducible refine blockQ.r ?_)
        obtain rfl := Option.some.inj h
        exact retQ.gen (vs := [V.bool (x_1353 && (x_1358 == 1))]) rfl (.tmp (v := V.bool (x_1353 && (x_1358 == 1))) rfl .nil) (.free rfl) (by simp) (.inr rfl)
      · skip
        refine Safe.condN rfl hc1361 ?_
        repeat (first | refine Safe.seq ?_ | refine Safe.skip ?_ | with_reducible refine thenQ.n ?_ | with_reducible refine blockQ.n ?_)
        refine Safe.region ?_
        refine SafeOps.quiet0 E_good rfl rfl rfl (v := V.agg [V.int .i64 x_1357.Id, V.int .i64 x_1357.Tenant, V.int .i64 x_1357.Prog, V.int .i64 x_1357.Pc, V.int .i64 x_1357.Unit, V.int .i64 x_1357.Keeps.a0, V.int .i64 x_1357.Keeps.a1, V.int .i64 x_1357.Keeps.a2, V.int .i64 x_1357.Keeps.a3, V.int .i64 x_1357.State, V.int .i64 x_1357.Ran]) (.load rfl rfl (.box rfl rfl) rfl) ?_
        refine SafeOps.quiet1 E_good rfl rfl rfl (.alloc rfl rfl) rfl ?_
        refine SafeOps.store (z := Obj.box [V.int .i64 x_1357.Id, V.int .i64 x_1357.Tenant, V.int .i64 x_1357.Prog, V.int .i64 x_1357.Pc, V.int .i64 x_1357.Unit, V.int .i64 x_1357.Keeps.a0, V.int .i64 x_1357.Keeps.a1, V.int .i64 x_1357.Keeps.a2, V.int .i64 x_1357.Keeps.a3, V.int .i64 x_1357.State, V.int .i64 x_1357.Ran]) E_good rfl rfl rfl rfl rfl rfl rfl (.boxM (c := 11) rfl rfl (Nat.le_of_ble_eq_true rfl) rfl) ?_
        refine SafeOps.nil ?_
        repeat (first | refine Safe.seq ?_ | refine Safe.skip ?_ | with_reducible refine thenQ.n ?_ | with_reducible refine blockQ.n ?_)
        refine Safe.region ?_
        refine SafeOps.quiet0 E_good rfl rfl rfl (v := V.ptr [10] 0 9) (.fn rfl) ?_
        refine SafeOps.quiet0 E_good rfl rfl rfl (v := V.int .i64 x_1357.State) (.load rfl rfl (.box rfl rfl) rfl) ?_
        refine SafeOps.quiet1 E_good rfl rfl rfl (.litM (f := (fun n => [V.int .i64 n])) (xs := [x_1357.State]) rfl rfl (by decide) rfl rfl rfl rfl rfl) rfl ?_
        refine SafeOps.quiet0 E_good rfl rfl rfl (v := V.ref [44] 0 (rws (fun n => [V.int .i64 n]) [x_1357.State]).length) (.fn rfl) ?_
        refine SafeOps.nil ?_
        repeat (first | refine Safe.seq ?_ | refine Safe.skip ?_ | with_reducible refine thenQ.n ?_ | with_reducible refine blockQ.n ?_)
        refine Safe.region ?_
        refine SafeOps.quiet0 E_good rfl rfl rfl (v := V.sl 1 (rws (fun n => [V.int .i64 n]) a3_1147)) (.fn rfl) ?_
        refine SafeOps.quiet0 E_good rfl rfl rfl (v := V.int .i64 (a3_1147.length : Int)) (.fnE rfl lenE) ?_
        refine SafeOps.quiet0 E_good rfl rfl rfl (v := V.int .i64 0) (.fn rfl) ?_
        refine SafeOps.nil ?_
        repeat (first | refine Safe.seq ?_ | refine Safe.skip ?_ | with_reducible refine thenQ.n ?_ | with_reducible refine blockQ.n ?_)
        refine Safe.block ?_
        repeat (first | refine Safe.seq ?_ | refine Safe.skip ?_ | with_reducible refine thenQ.n ?_ | with_reducible refine blockQ.n ?_)
        refine Safe.loopW (fun ((v13_1483, v47_1484, v100_1485, v101_1486, v102_1487, v103_1488, v104_1489, v105_1490, v106_1491, v107_1492, v108_1493, v109_1494, v1010_1495) : (List Int) × Int × Int × Int × Int × Int × Int × Int × Int × Int × Int × Int × Int) => ⟨Tryd.f7.ntmps, [(9, V.bool x_1353), (10, V.ptr [10] 0 0), (12, V.ptr [12] 0 0), (13, V.ref [7000, 118, 13] 0 (rws (fun n => [V.int .i64 n]) v13_1483).length), (45, V.sl 1 (rws (fun n => [V.int .i64 n]) a3_1147)), (46, V.int .i64 (a3_1147.length : Int)), (47, V.int .i64 v47_1484)], [([10], Obj.box [V.int .i64 v100_1485, V.int .i64 v101_1486, V.int .i64 v102_1487, V.int .i64 v103_1488, V.int .i64 v104_1489, V.int .i64 v105_1490, V.int .i64 v106_1491, V.int .i64 v107_1492, V.int .i64 v108_1493, V.int .i64 v109_1494, V.int .i64 v1010_1495]), ([12], Obj.box [V.int .i64 x_1357.Id, V.int .i64 x_1357.Tenant, V.int .i64 x_1357.Prog, V.int .i64 x_1357.Pc, V.int .i64 x_1357.Unit, V.int .i64 x_1357.Keeps.a0, V.int .i64 x_1357.Keeps.a1, V.int .i64 x_1357.Keeps.a2, V.int .i64 x_1357.Keeps.a3, V.int .i64 x_1357.State, V.int .i64 x_1357.Ran]), ([7000, 118, 13], Obj.rows 1 (rws (fun n => [V.int .i64 n]) v13_1483) false)], [], []⟩) h (.ren [44] [7000, 118, 13] (.cov ⟨rfl, rfl, (upT_cons (.refl _) (upT_cons (.refl _) (upT_cons (.refl _) (upT_cons (.refl _) (upT_cons (.refl _) (upT_cons (.refl _) (upT_cons (.refl _) upT_nil))))))), (upOb_cons rfl (.refl _) (upOb_cons rfl (.refl _) (upOb_cons rfl (.refl _) upOb_nil))), upOut_nil, rfl⟩)) ?_
        rintro ⟨v13_1483, v47_1484, v100_1485, v101_1486, v102_1487, v103_1488, v104_1489, v105_1490, v106_1491, v107_1492, v108_1493, v109_1494, v1010_1495⟩ ohr1496 h hr1496
        replace h : go_ravellaw12_LifeOnce_s2 a3_1147 x_1353 x_1357 (v13_1483, v47_1484, v100_1485, v101_1486, v102_1487, v103_1488, v104_1489, v105_1490, v106_1491, v107_1492, v108_1493, v109_1494, v1010_1495) = some ohr1496 := h
        rw [go_ravellaw12_LifeOnce_s2] at h
        repeat (first | refine Safe.seq ?_ | refine Safe.skip ?_ | with_reducible refine thenQ.n ?_ | with_reducible refine blockQ.n ?_)
        refine Safe.region ?_
        refine SafeOps.quiet0 E_good rfl rfl rfl (v := V.bool (decide (v47_1484 < (a3_1147.length : Int)))) (.fn rfl) ?_
        refine SafeOps.nil ?_
        repeat (first | refine Safe.seq ?_ | refine Safe.skip ?_ | with_reducible refine thenQ.n ?_ | with_reducible refine blockQ.n ?_)
        refine ifG h (fun hc1497 h => ?_) (fun hc1497 h => ?_)
        · skip
          refine Safe.condK rfl hc1497 ?_
          repeat (first | refine Safe.seq ?_ | refine Safe.skip ?_ | with_reducible refine thenQ.n ?_ | with_reducible refine blockQ.n ?_)
          refine Safe.block ?_
          repeat (first | refine Safe.seq ?_ | refine Safe.skip ?_ | with_reducible refine thenQ.n ?_ | with_reducible refine blockQ.n ?_)
          refine Safe.region ?_
          refine okG h (fun hb1498 h => ?_)
          refine SafeOps.quiet0 E_good rfl rfl rfl (v := V.spt 1 (rws (fun n => [V.int .i64 n]) a3_1147) (Int.toNat v47_1484) 0) (.idxSlM (f := (fun n => [V.int .i64 n])) rfl rfl rfl rfl rfl hb1498) ?_
          refine SafeOps.quiet0 E_good rfl rfl rfl (v := V.int .i64 (gt a3_1147 v47_1484)) (.load rfl rfl (.sptM (f := (fun n => [V.int .i64 n])) hb1498 rfl) rfl) ?_
          refine SafeOps.quiet0 E_good rfl rfl rfl (v := V.int .i64 (gt a3_1147 v47_1484)) (.fn rfl) ?_
          refine SafeOps.nil ?_
          repeat (first | refine Safe.seq ?_ | refine Safe.skip ?_ | with_reducible refine thenQ.n ?_ | with_reducible refine blockQ.n ?_)
          refine Safe.region ?_
          refine SafeOps.quiet0 E_good rfl rfl rfl (v := V.agg [V.int .i64 v100_1485, V.int .i64 v101_1486, V.int .i64 v102_1487, V.int .i64 v103_1488, V.int .i64 v104_1489, V.int .i64 v105_1490, V.int .i64 v106_1491, V.int .i64 v107_1492, V.int .i64 v108_1493, V.int .i64 v109_1494, V.int .i64 v1010_1495]) (.load rfl rfl (.box rfl rfl) rfl) ?_
          refine SafeOps.quiet0 E_good rfl rfl rfl (v := V.int .i64 (gt a3_1147 v47_1484)) (.fn rfl) ?_
          refine bindG h ?_
          rintro ⟨x_1499, x_1500⟩ he1501 h
          refine SafeOps.quiet0 E_good rfl rfl rfl (v := V.tup [V.agg [V.int .i64 x_1499.Id, V.int .i64 x_1499.Tenant, V.int .i64 x_1499.Prog, V.int .i64 x_1499.Pc, V.int .i64 x_1499.Unit, V.int .i64 x_1499.Keeps.a0, V.int .i64 x_1499.Keeps.a1, V.int .i64 x_1499.Keeps.a2, V.int .i64 x_1499.Keeps.a3, V.int .i64 x_1499.State, V.int .i64 x_1499.Ran], V.int .i64 x_1500]) (.callP rfl rfl (go_life_Move_sc (api_Task.mk v100_1485 v101_1486 v102_1487 v103_1488 v104_1489 (A4_Int.mk v105_1490 v106_1491 v107_1492 v108_1493) v109_1494 v1010_1495) (gt a3_1147 v47_1484) _ he1501) rfl) ?_
          refine SafeOps.quiet0 E_good rfl rfl rfl (v := V.tup [V.agg [V.int .i64 x_1499.Id, V.int .i64 x_1499.Tenant, V.int .i64 x_1499.Prog, V.int .i64 x_1499.Pc, V.int .i64 x_1499.Unit, V.int .i64 x_1499.Keeps.a0, V.int .i64 x_1499.Keeps.a1, V.int .i64 x_1499.Keeps.a2, V.int .i64 x_1499.Keeps.a3, V.int .i64 x_1499.State, V.int .i64 x_1499.Ran], V.int .i64 x_1500]) (.fn rfl) ?_
          refine SafeOps.quiet0 E_good rfl rfl rfl (v := V.agg [V.int .i64 x_1499.Id, V.int .i64 x_1499.Tenant, V.int .i64 x_1499.Prog, V.int .i64 x_1499.Pc, V.int .i64 x_1499.Unit, V.int .i64 x_1499.Keeps.a0, V.int .i64 x_1499.Keeps.a1, V.int .i64 x_1499.Keeps.a2, V.int .i64 x_1499.Keeps.a3, V.int .i64 x_1499.State, V.int .i64 x_1499.Ran]) (.fn rfl) ?_
          refine SafeOps.quiet0 E_good rfl rfl rfl (v := V.int .i64 x_1500) (.fn rfl) ?_
          refine SafeOps.quiet1 E_good rfl rfl rfl (.alloc rfl rfl) rfl ?_
          refine SafeOps.store (z := Obj.box [V.int .i64 x_1499.Id, V.int .i64 x_1499.Tenant, V.int .i64 x_1499.Prog, V.int .i64 x_1499.Pc, V.int .i64 x_1499.Unit, V.int .i64 x_1499.Keeps.a0, V.int .i64 x_1499.Keeps.a1, V.int .i64 x_1499.Keeps.a2, V.int .i64 x_1499.Keeps.a3, V.int .i64 x_1499.State, V.int .i64 x_1499.Ran]) E_good rfl rfl rfl rfl rfl rfl rfl (.boxM (c := 11) rfl rfl (Nat.le_of_ble_eq_true rfl) rfl) ?_
          refine SafeOps.quiet0 E_good rfl rfl rfl (v := V.int .i64 x_1500) (.fn rfl) ?_
          refine SafeOps.nil ?_
          repeat (first | refine Safe.seq ?_ | refine Safe.skip ?_ | with_reducible refine thenQ.n ?_ | with_reducible refine blockQ.n ?_)
          refine Safe.region ?_
          refine SafeOps.quiet0 E_good rfl rfl rfl (v := V.int .i64 x_1500) (.fn rfl) ?_
          refine SafeOps.quiet0 E_good rfl rfl rfl (v := V.bool (x_1500 == 0)) (.fn rfl) ?_
          refine SafeOps.quiet0 E_good rfl rfl rfl (v := V.ptr [10] 0 9) (.fn rfl) ?_
          refine SafeOps.quiet0 E_good rfl rfl rfl (v := V.int .i64 v109_1494) (.load rfl rfl (.box rfl rfl) rfl) ?_
          refine SafeOps.quiet0 E_good rfl rfl rfl (v := V.int .i64 (gt a3_1147 v47_1484)) (.fn rfl) ?_
          refine bindG h ?_
          intro x_1502 he1503 h
          refine SafeOps.quiet0 E_good rfl rfl rfl (v := V.bool x_1502) (.callP rfl rfl (go_life_Legal_sc v109_1494 (gt a3_1147 v47_1484) _ he1503) rfl) ?_
          refine SafeOps.quiet0 E_good rfl rfl rfl (v := V.bool (!((x_1500 == 0) == x_1502))) (.fn rfl) ?_
          refine SafeOps.nil ?_
          repeat (first | refine Safe.seq ?_ | refine Safe.skip ?_ | with_reducible refine thenQ.n ?_ | with_reducible refine blockQ.n ?_)
          refine ifG h (fun hc1504 h => ?_) (fun hc1504 h => ?_)
          · skip
            refine Safe.condK rfl hc1504 ?_
            repeat (first | refine Safe.seq ?_ | refine Safe.skip ?_ | with_reducible refine thenQ.n ?_ | with_reducible refine blockQ.n ?_)
            refine Safe.region ?_
            refine SafeOps.quiet0 E_good rfl rfl rfl (v := V.bool false) (.fn rfl) ?_
            refine SafeOps.nil ?_
            repeat (first | refine Safe.seq ?_ | refine Safe.skip ?_ | with_reducible refine thenQ.n ?_ | with_reducible refine blockQ.n ?_)
            refine Safe.ret ?_
            repeat (first | with_reducible refine thenQ.r ?_ | with_reducible refine blockQ.r ?_)
            replace h := inr_out h hr1496
            obtain rfl := Option.some.inj h
            exact retQ.gen (vs := [V.bool false]) rfl (.tmp (v := V.bool false) rfl .nil) (.free rfl) (by simp) (.inr rfl)
          · skip
            refine Safe.condN rfl hc1504 ?_
            repeat (first | refine Safe.seq ?_ | refine Safe.skip ?_ | with_reducible refine thenQ.n ?_ | with_reducible refine blockQ.n ?_)
            refine Safe.region ?_
            refine SafeOps.quiet0 E_good rfl rfl rfl (v := V.int .i64 x_1500) (.fn rfl) ?_
            refine SafeOps.quiet0 E_good rfl rfl rfl (v := V.bool (x_1500 != 0)) (.fn rfl) ?_
            refine SafeOps.nil ?_
            repeat (first | refine Safe.seq ?_ | refine Safe.skip ?_ | with_reducible refine thenQ.n ?_ | with_reducible refine blockQ.n ?_)
            refine ifG h (fun hc1505 h => ?_) (fun hc1505 h => ?_)
            · skip
              refine Safe.condK rfl hc1505 ?_
              repeat (first | refine Safe.seq ?_ | refine Safe.skip ?_ | with_reducible refine thenQ.n ?_ | with_reducible refine blockQ.n ?_)
              refine Safe.exit ?_
              repeat (first | with_reducible refine thenQ.e ?_ | with_reducible refine blockQ.x rfl ?_ | with_reducible refine blockQ.y rfl ?_)
              repeat (first | refine Safe.seq ?_ | refine Safe.skip ?_ | with_reducible refine thenQ.n ?_ | with_reducible refine blockQ.n ?_)
              refine Safe.region ?_
              refine SafeOps.quiet0 E_good rfl rfl rfl (v := V.int .i64 (IntKind.i64.wrap (v47_1484 + 1))) (.fn rfl) ?_
              refine SafeOps.quiet0 E_good rfl rfl rfl (v := V.int .i64 (IntKind.i64.wrap (v47_1484 + 1))) (.fn rfl) ?_
              refine SafeOps.nil ?_
              repeat (first | refine Safe.seq ?_ | refine Safe.skip ?_ | with_reducible refine thenQ.n ?_ | with_reducible refine blockQ.n ?_)
              exact ⟨_, next_out h, (.cov ⟨rfl, rfl, (upT_cons (.refl _) (upT_cons (.refl _) (upT_cons (.refl _) (upT_cons (.refl _) (upT_cons (.refl _) (upT_cons (.refl _) (upT_cons (.refl _) upT_nil))))))), (upOb_cons rfl (.refl _) (upOb_cons rfl (.refl _) (upOb_cons rfl (.refl _) upOb_nil))), upOut_nil, rfl⟩)⟩
            · skip
              refine Safe.condN rfl hc1505 ?_
              repeat (first | refine Safe.seq ?_ | refine Safe.skip ?_ | with_reducible refine thenQ.n ?_ | with_reducible refine blockQ.n ?_)
              refine Safe.region ?_
              refine SafeOps.quiet0 E_good rfl rfl rfl (v := V.ptr [10] 0 9) (.fn rfl) ?_
              refine SafeOps.quiet0 E_good rfl rfl rfl (v := V.int .i64 v109_1494) (.load rfl rfl (.box rfl rfl) rfl) ?_
              refine SafeOps.quiet0 E_good rfl rfl rfl (v := V.bool (v109_1494 == 7)) (.fn rfl) ?_
              refine SafeOps.quiet0 E_good rfl rfl rfl (v := V.bool (v109_1494 == 7)) (.fn rfl) ?_
              refine SafeOps.bjoin 9 78 (b := ((v109_1494 == 7) || ((x_1499.State == 2) && (v109_1494 != 1)))) (b1 := true) (b0 := ((x_1499.State == 2) && (v109_1494 != 1))) (fun hc1506 K => ?_) (fun hc1506 K => ?_) bj_or ?_
              · skip
                refine SafeOps.skip (congrArg (fun b => some (!b)) hc1506) rfl rfl ?_
                refine SafeOps.skip (congrArg (fun b => some (!b)) hc1506) rfl rfl ?_
                refine SafeOps.skip (congrArg (fun b => some (!b)) hc1506) rfl rfl ?_
                refine SafeOps.skip (congrArg (fun b => some (!b)) hc1506) rfl rfl ?_
                refine SafeOps.skip rfl rfl rfl ?_
                refine SafeOps.skip rfl rfl rfl ?_
                refine SafeOps.skip rfl rfl rfl ?_
                refine SafeOps.skip (congrArg (fun b => some (!b)) hc1506) rfl rfl ?_
                refine SafeOps.quiet0 E_good rfl rfl rfl (v := V.bool true) (.pickK rfl hc1506 rfl) ?_
                exact SafeOps.drop' 9 rfl rfl rfl K
              · skip
                refine SafeOps.quiet0 E_good (congrArg (fun b => some (!b)) hc1506) rfl rfl (v := V.ptr [16] 0 9) (.fn rfl) ?_
                refine SafeOps.quiet0 E_good (congrArg (fun b => some (!b)) hc1506) rfl rfl (v := V.int .i64 x_1499.State) (.load rfl rfl (.box rfl rfl) rfl) ?_
                refine SafeOps.quiet0 E_good (congrArg (fun b => some (!b)) hc1506) rfl rfl (v := V.bool (x_1499.State == 2)) (.fn rfl) ?_
                refine SafeOps.quiet0 E_good (congrArg (fun b => some (!b)) hc1506) rfl rfl (v := V.bool (x_1499.State == 2)) (.fn rfl) ?_
                refine SafeOps.bjoin 4 77 (b := ((x_1499.State == 2) && (v109_1494 != 1))) (b1 := (v109_1494 != 1)) (b0 := false) (fun hc1507 K => ?_) (fun hc1507 K => ?_) bj_and ?_
                · skip
                  refine SafeOps.quiet0 E_good (congrArg some hc1507) rfl rfl (v := V.ptr [10] 0 9) (.fn rfl) ?_
                  refine SafeOps.quiet0 E_good (congrArg some hc1507) rfl rfl (v := V.int .i64 v109_1494) (.load rfl rfl (.box rfl rfl) rfl) ?_
                  refine SafeOps.quiet0 E_good (congrArg some hc1507) rfl rfl (v := V.bool (v109_1494 != 1)) (.fn rfl) ?_
                  refine SafeOps.quiet0 E_good (congrArg (fun b => some (!b)) hc1506) rfl rfl (v := V.bool (v109_1494 != 1)) (.pickK rfl hc1507 rfl) ?_
                  exact SafeOps.drop' 4 rfl rfl rfl K
                · skip
                  refine SafeOps.skip (congrArg some hc1507) rfl rfl ?_
                  refine SafeOps.skip (congrArg some hc1507) rfl rfl ?_
                  refine SafeOps.skip (congrArg some hc1507) rfl rfl ?_
                  refine SafeOps.quiet0 E_good (congrArg (fun b => some (!b)) hc1506) rfl rfl (v := V.bool false) (.pickK rfl hc1507 rfl) ?_
                  exact SafeOps.drop' 4 rfl rfl rfl K
                refine SafeOps.quiet0 E_good rfl rfl rfl (v := V.bool ((x_1499.State == 2) && (v109_1494 != 1))) (.pickK rfl hc1506 rfl) ?_
                exact SafeOps.drop' 6 rfl rfl rfl K
              refine SafeOps.quiet0 E_good rfl rfl rfl (v := V.bool ((v109_1494 == 7) || ((x_1499.State == 2) && (v109_1494 != 1)))) (.fn rfl) ?_
              refine SafeOps.bjoin 14 93 (b := (((v109_1494 == 7) || ((x_1499.State == 2) && (v109_1494 != 1))) || (((go_life_Waits v109_1494) && (x_1499.State != 1)) && (x_1499.State != 7)))) (b1 := true) (b0 := (((go_life_Waits v109_1494) && (x_1499.State != 1)) && (x_1499.State != 7))) (fun hc1508 K => ?_) (fun hc1508 K => ?_) bj_or ?_
              · skip
                refine SafeOps.skip (congrArg (fun b => some (!b)) hc1508) rfl rfl ?_
                refine SafeOps.skip (congrArg (fun b => some (!b)) hc1508) rfl rfl ?_
                refine SafeOps.skip (congrArg (fun b => some (!b)) hc1508) rfl rfl ?_
                refine SafeOps.skip (congrArg (fun b => some (!b)) hc1508) rfl rfl ?_
                refine SafeOps.skip rfl rfl rfl ?_
                refine SafeOps.skip rfl rfl rfl ?_
                refine SafeOps.skip rfl rfl rfl ?_
                refine SafeOps.skip (congrArg (fun b => some (!b)) hc1508) rfl rfl ?_
                refine SafeOps.skip (congrArg (fun b => some (!b)) hc1508) rfl rfl ?_
                refine SafeOps.skip rfl rfl rfl ?_
                refine SafeOps.skip rfl rfl rfl ?_
                refine SafeOps.skip rfl rfl rfl ?_
                refine SafeOps.skip (congrArg (fun b => some (!b)) hc1508) rfl rfl ?_
                refine SafeOps.quiet0 E_good rfl rfl rfl (v := V.bool true) (.pickK rfl hc1508 rfl) ?_
                exact SafeOps.drop' 14 rfl rfl rfl K
              · skip
                refine SafeOps.quiet0 E_good (congrArg (fun b => some (!b)) hc1508) rfl rfl (v := V.ptr [10] 0 9) (.fn rfl) ?_
                refine SafeOps.quiet0 E_good (congrArg (fun b => some (!b)) hc1508) rfl rfl (v := V.int .i64 v109_1494) (.load rfl rfl (.box rfl rfl) rfl) ?_
                refine SafeOps.quiet0 E_good (congrArg (fun b => some (!b)) hc1508) rfl rfl (v := V.bool (go_life_Waits v109_1494)) (.callP rfl rfl (go_life_Waits_sc v109_1494 _ rfl) rfl) ?_
                refine SafeOps.quiet0 E_good (congrArg (fun b => some (!b)) hc1508) rfl rfl (v := V.bool (go_life_Waits v109_1494)) (.fn rfl) ?_
                refine SafeOps.bjoin 4 87 (b := ((go_life_Waits v109_1494) && (x_1499.State != 1))) (b1 := (x_1499.State != 1)) (b0 := false) (fun hc1509 K => ?_) (fun hc1509 K => ?_) bj_and ?_
                · skip
                  refine SafeOps.quiet0 E_good (congrArg some hc1509) rfl rfl (v := V.ptr [16] 0 9) (.fn rfl) ?_
                  refine SafeOps.quiet0 E_good (congrArg some hc1509) rfl rfl (v := V.int .i64 x_1499.State) (.load rfl rfl (.box rfl rfl) rfl) ?_
                  refine SafeOps.quiet0 E_good (congrArg some hc1509) rfl rfl (v := V.bool (x_1499.State != 1)) (.fn rfl) ?_
                  refine SafeOps.quiet0 E_good (congrArg (fun b => some (!b)) hc1508) rfl rfl (v := V.bool (x_1499.State != 1)) (.pickK rfl hc1509 rfl) ?_
                  exact SafeOps.drop' 4 rfl rfl rfl K
                · skip
                  refine SafeOps.skip (congrArg some hc1509) rfl rfl ?_
                  refine SafeOps.skip (congrArg some hc1509) rfl rfl ?_
                  refine SafeOps.skip (congrArg some hc1509) rfl rfl ?_
                  refine SafeOps.quiet0 E_good (congrArg (fun b => some (!b)) hc1508) rfl rfl (v := V.bool false) (.pickK rfl hc1509 rfl) ?_
                  exact SafeOps.drop' 4 rfl rfl rfl K
                refine SafeOps.quiet0 E_good (congrArg (fun b => some (!b)) hc1508) rfl rfl (v := V.bool ((go_life_Waits v109_1494) && (x_1499.State != 1))) (.fn rfl) ?_
                refine SafeOps.bjoin 4 92 (b := (((go_life_Waits v109_1494) && (x_1499.State != 1)) && (x_1499.State != 7))) (b1 := (x_1499.State != 7)) (b0 := false) (fun hc1510 K => ?_) (fun hc1510 K => ?_) bj_and ?_
                · skip
                  refine SafeOps.quiet0 E_good (congrArg some hc1510) rfl rfl (v := V.ptr [16] 0 9) (.fn rfl) ?_
                  refine SafeOps.quiet0 E_good (congrArg some hc1510) rfl rfl (v := V.int .i64 x_1499.State) (.load rfl rfl (.box rfl rfl) rfl) ?_
                  refine SafeOps.quiet0 E_good (congrArg some hc1510) rfl rfl (v := V.bool (x_1499.State != 7)) (.fn rfl) ?_
                  refine SafeOps.quiet0 E_good (congrArg (fun b => some (!b)) hc1508) rfl rfl (v := V.bool (x_1499.State != 7)) (.pickK rfl hc1510 rfl) ?_
                  exact SafeOps.drop' 4 rfl rfl rfl K
                · skip
                  refine SafeOps.skip (congrArg some hc1510) rfl rfl ?_
                  refine SafeOps.skip (congrArg some hc1510) rfl rfl ?_
                  refine SafeOps.skip (congrArg some hc1510) rfl rfl ?_
                  refine SafeOps.quiet0 E_good (congrArg (fun b => some (!b)) hc1508) rfl rfl (v := V.bool false) (.pickK rfl hc1510 rfl) ?_
                  exact SafeOps.drop' 4 rfl rfl rfl K
                refine SafeOps.quiet0 E_good rfl rfl rfl (v := V.bool (((go_life_Waits v109_1494) && (x_1499.State != 1)) && (x_1499.State != 7))) (.pickK rfl hc1508 rfl) ?_
                exact SafeOps.drop' 8 rfl rfl rfl K
              refine SafeOps.nil ?_
              repeat (first | refine Safe.seq ?_ | refine Safe.skip ?_ | with_reducible refine thenQ.n ?_ | with_reducible refine blockQ.n ?_)
              refine ifG h (fun hc1511 h => ?_) (fun hc1511 h => ?_)
              · skip
                refine Safe.condK rfl hc1511 ?_
                repeat (first | refine Safe.seq ?_ | refine Safe.skip ?_ | with_reducible refine thenQ.n ?_ | with_reducible refine blockQ.n ?_)
                refine Safe.region ?_
                refine SafeOps.quiet0 E_good rfl rfl rfl (v := V.bool false) (.fn rfl) ?_
                refine SafeOps.nil ?_
                repeat (first | refine Safe.seq ?_ | refine Safe.skip ?_ | with_reducible refine thenQ.n ?_ | with_reducible refine blockQ.n ?_)
                refine Safe.ret ?_
                repeat (first | with_reducible refine thenQ.r ?_ | with_reducible refine blockQ.r ?_)
                replace h := inr_out h hr1496
                obtain rfl := Option.some.inj h
                exact retQ.gen (vs := [V.bool false]) rfl (.tmp (v := V.bool false) rfl .nil) (.free rfl) (by simp) (.inr rfl)
              · skip
                refine Safe.condN rfl hc1511 ?_
                repeat (first | refine Safe.seq ?_ | refine Safe.skip ?_ | with_reducible refine thenQ.n ?_ | with_reducible refine blockQ.n ?_)
                refine Safe.region ?_
                refine SafeOps.quiet0 E_good rfl rfl rfl (v := V.agg [V.int .i64 x_1499.Id, V.int .i64 x_1499.Tenant, V.int .i64 x_1499.Prog, V.int .i64 x_1499.Pc, V.int .i64 x_1499.Unit, V.int .i64 x_1499.Keeps.a0, V.int .i64 x_1499.Keeps.a1, V.int .i64 x_1499.Keeps.a2, V.int .i64 x_1499.Keeps.a3, V.int .i64 x_1499.State, V.int .i64 x_1499.Ran]) (.load rfl rfl (.box rfl rfl) rfl) ?_
                refine SafeOps.store (z := Obj.box [V.int .i64 x_1499.Id, V.int .i64 x_1499.Tenant, V.int .i64 x_1499.Prog, V.int .i64 x_1499.Pc, V.int .i64 x_1499.Unit, V.int .i64 x_1499.Keeps.a0, V.int .i64 x_1499.Keeps.a1, V.int .i64 x_1499.Keeps.a2, V.int .i64 x_1499.Keeps.a3, V.int .i64 x_1499.State, V.int .i64 x_1499.Ran]) E_good rfl rfl rfl rfl rfl rfl rfl (.boxM (c := 11) rfl rfl (Nat.le_of_ble_eq_true rfl) rfl) ?_
                refine SafeOps.nil ?_
                repeat (first | refine Safe.seq ?_ | refine Safe.skip ?_ | with_reducible refine thenQ.n ?_ | with_reducible refine blockQ.n ?_)
                refine Safe.region ?_
                refine SafeOps.quiet0 E_good rfl rfl rfl (v := V.ref [7000, 118, 13] 0 (rws (fun n => [V.int .i64 n]) v13_1483).length) (.fn rfl) ?_
                refine SafeOps.quiet0 E_good rfl rfl rfl (v := V.ptr [10] 0 9) (.fn rfl) ?_
                refine SafeOps.quiet0 E_good rfl rfl rfl (v := V.int .i64 x_1499.State) (.load rfl rfl (.box rfl rfl) rfl) ?_
                refine SafeOps.quiet1 E_good rfl rfl rfl (.litM (f := (fun n => [V.int .i64 n])) (xs := [x_1499.State]) rfl rfl (by decide) rfl rfl rfl rfl rfl) rfl ?_
                refine okG h (fun hb1512 h => ?_)
                refine SafeOps.appendM (fun n => [V.int .i64 n]) (xs := v13_1483) (ys := [x_1499.State]) E_good rfl rfl rfl rfl rfl rfl rfl rfl rfl (.own rfl) (.own rfl) (fun _ => rfl) hb1512 ?_
                refine SafeOps.quiet0 E_good rfl rfl rfl (v := V.ref [99] 0 (rws (fun n => [V.int .i64 n]) (v13_1483 ++ [x_1499.State])).length) (.fn rfl) ?_
                refine SafeOps.nil ?_
                repeat (first | refine Safe.seq ?_ | refine Safe.skip ?_ | with_reducible refine thenQ.n ?_ | with_reducible refine blockQ.n ?_)
                refine Safe.region ?_
                refine SafeOps.quiet0 E_good rfl rfl rfl (v := V.int .i64 (IntKind.i64.wrap (v47_1484 + 1))) (.fn rfl) ?_
                refine SafeOps.quiet0 E_good rfl rfl rfl (v := V.int .i64 (IntKind.i64.wrap (v47_1484 + 1))) (.fn rfl) ?_
                refine SafeOps.nil ?_
                repeat (first | refine Safe.seq ?_ | refine Safe.skip ?_ | with_reducible refine thenQ.n ?_ | with_reducible refine blockQ.n ?_)
                exact ⟨_, next_out h, (.ren [99] [7000, 118, 13] (.cov ⟨rfl, rfl, (upT_cons (.refl _) (upT_cons (.refl _) (upT_cons (.refl _) (upT_cons (.refl _) (upT_cons (.refl _) (upT_cons (.refl _) (upT_cons (.refl _) upT_nil))))))), (upOb_cons rfl (.refl _) (upOb_cons rfl (.refl _) (upOb_cons rfl (.refl _) upOb_nil))), upOut_nil, rfl⟩))⟩
        · skip
          refine Safe.condN rfl hc1497 ?_
          repeat (first | refine Safe.seq ?_ | refine Safe.skip ?_ | with_reducible refine thenQ.n ?_ | with_reducible refine blockQ.n ?_)
          refine Safe.exit ?_
          repeat (first | with_reducible refine thenQ.e ?_ | with_reducible refine blockQ.x rfl ?_ | with_reducible refine blockQ.y rfl ?_)
          replace h := inr_out h hr1496
          repeat (first | refine Safe.seq ?_ | refine Safe.skip ?_ | with_reducible refine thenQ.n ?_ | with_reducible refine blockQ.n ?_)
          refine Safe.region ?_
          refine SafeOps.quiet0 E_good rfl rfl rfl (v := V.ref [7000, 118, 13] 0 (rws (fun n => [V.int .i64 n]) v13_1483).length) (.fn rfl) ?_
          refine bindG h ?_
          rintro ⟨x_1513, x_1514⟩ he1515 h
          refine SafeOps.quiet0 E_good rfl rfl rfl (v := V.tup [V.int .i64 x_1513, V.int .i64 x_1514]) (.callS rfl (.cons (.full rfl rfl) .nil) (go_life_Trace_sc v13_1483 _ he1515) (.tupL (.cons (.plain rfl) (.cons (.plain rfl) .nil))) rfl) ?_
          refine SafeOps.quiet0 E_good rfl rfl rfl (v := V.tup [V.int .i64 x_1513, V.int .i64 x_1514]) (.fn rfl) ?_
          refine SafeOps.quiet0 E_good rfl rfl rfl (v := V.int .i64 x_1513) (.fn rfl) ?_
          refine SafeOps.quiet0 E_good rfl rfl rfl (v := V.int .i64 x_1514) (.fn rfl) ?_
          refine SafeOps.quiet0 E_good rfl rfl rfl (v := V.int .i64 x_1513) (.fn rfl) ?_
          refine SafeOps.quiet0 E_good rfl rfl rfl (v := V.int .i64 x_1514) (.fn rfl) ?_
          refine SafeOps.nil ?_
          repeat (first | refine Safe.seq ?_ | refine Safe.skip ?_ | with_reducible refine thenQ.n ?_ | with_reducible refine blockQ.n ?_)
          refine Safe.region ?_
          refine SafeOps.quiet0 E_good rfl rfl rfl (v := V.ptr [12] 0 9) (.fn rfl) ?_
          refine SafeOps.quiet0 E_good rfl rfl rfl (v := V.int .i64 x_1357.State) (.load rfl rfl (.box rfl rfl) rfl) ?_
          refine SafeOps.quiet0 E_good rfl rfl rfl (v := V.ptr [10] 0 9) (.fn rfl) ?_
          refine SafeOps.store (z := Obj.box [V.int .i64 v100_1485, V.int .i64 v101_1486, V.int .i64 v102_1487, V.int .i64 v103_1488, V.int .i64 v104_1489, V.int .i64 v105_1490, V.int .i64 v106_1491, V.int .i64 v107_1492, V.int .i64 v108_1493, V.int .i64 x_1357.State, V.int .i64 v1010_1495]) E_good rfl rfl rfl rfl rfl rfl rfl (.boxM (c := 11) rfl rfl (Nat.le_of_ble_eq_true rfl) rfl) ?_
          refine SafeOps.nil ?_
          repeat (first | refine Safe.seq ?_ | refine Safe.skip ?_ | with_reducible refine thenQ.n ?_ | with_reducible refine blockQ.n ?_)
          refine Safe.region ?_
          refine SafeOps.quiet0 E_good rfl rfl rfl (v := V.bool x_1353) (.fn rfl) ?_
          refine SafeOps.quiet0 E_good rfl rfl rfl (v := V.bool x_1353) (.fn rfl) ?_
          refine SafeOps.bjoin 3 113 (b := (x_1353 && (x_1514 == 0))) (b1 := (x_1514 == 0)) (b0 := false) (fun hc1516 K => ?_) (fun hc1516 K => ?_) bj_and ?_
          · skip
            refine SafeOps.quiet0 E_good (congrArg some hc1516) rfl rfl (v := V.int .i64 x_1514) (.fn rfl) ?_
            refine SafeOps.quiet0 E_good (congrArg some hc1516) rfl rfl (v := V.bool (x_1514 == 0)) (.fn rfl) ?_
            refine SafeOps.quiet0 E_good rfl rfl rfl (v := V.bool (x_1514 == 0)) (.pickK rfl hc1516 rfl) ?_
            exact SafeOps.drop' 3 rfl rfl rfl K
          · skip
            refine SafeOps.skip (congrArg some hc1516) rfl rfl ?_
            refine SafeOps.skip (congrArg some hc1516) rfl rfl ?_
            refine SafeOps.quiet0 E_good rfl rfl rfl (v := V.bool false) (.pickK rfl hc1516 rfl) ?_
            exact SafeOps.drop' 3 rfl rfl rfl K
          refine SafeOps.quiet0 E_good rfl rfl rfl (v := V.bool (x_1353 && (x_1514 == 0))) (.fn rfl) ?_
          refine SafeOps.bjoin 5 119 (b := ((x_1353 && (x_1514 == 0)) && (x_1513 == (v13_1483.length : Int)))) (b1 := (x_1513 == (v13_1483.length : Int))) (b0 := false) (fun hc1517 K => ?_) (fun hc1517 K => ?_) bj_and ?_
          · skip
            refine SafeOps.quiet0 E_good (congrArg some hc1517) rfl rfl (v := V.int .i64 x_1513) (.fn rfl) ?_
            refine SafeOps.quiet0 E_good (congrArg some hc1517) rfl rfl (v := V.ref [7000, 118, 13] 0 (rws (fun n => [V.int .i64 n]) v13_1483).length) (.fn rfl) ?_
            refine SafeOps.quiet0 E_good (congrArg some hc1517) rfl rfl (v := V.int .i64 (v13_1483.length : Int)) (.fnE rfl lenE) ?_
            refine SafeOps.quiet0 E_good (congrArg some hc1517) rfl rfl (v := V.bool (x_1513 == (v13_1483.length : Int))) (.fn rfl) ?_
            refine SafeOps.quiet0 E_good rfl rfl rfl (v := V.bool (x_1513 == (v13_1483.length : Int))) (.pickK rfl hc1517 rfl) ?_
            exact SafeOps.drop' 5 rfl rfl rfl K
          · skip
            refine SafeOps.skip (congrArg some hc1517) rfl rfl ?_
            refine SafeOps.skip (congrArg some hc1517) rfl rfl ?_
            refine SafeOps.skip (congrArg some hc1517) rfl rfl ?_
            refine SafeOps.skip (congrArg some hc1517) rfl rfl ?_
            refine SafeOps.quiet0 E_good rfl rfl rfl (v := V.bool false) (.pickK rfl hc1517 rfl) ?_
            exact SafeOps.drop' 5 rfl rfl rfl K
          refine SafeOps.quiet0 E_good rfl rfl rfl (v := V.bool ((x_1353 && (x_1514 == 0)) && (x_1513 == (v13_1483.length : Int)))) (.fn rfl) ?_
          refine SafeOps.bjoin 4 124 (b := (((x_1353 && (x_1514 == 0)) && (x_1513 == (v13_1483.length : Int))) && (api_Task.beq (api_Task.mk v100_1485 v101_1486 v102_1487 v103_1488 v104_1489 (A4_Int.mk v105_1490 v106_1491 v107_1492 v108_1493) x_1357.State v1010_1495) x_1357))) (b1 := api_Task.beq (api_Task.mk v100_1485 v101_1486 v102_1487 v103_1488 v104_1489 (A4_Int.mk v105_1490 v106_1491 v107_1492 v108_1493) x_1357.State v1010_1495) x_1357) (b0 := false) (fun hc1518 K => ?_) (fun hc1518 K => ?_) bj_and ?_
          · skip
            refine SafeOps.quiet0 E_good (congrArg some hc1518) rfl rfl (v := V.agg [V.int .i64 v100_1485, V.int .i64 v101_1486, V.int .i64 v102_1487, V.int .i64 v103_1488, V.int .i64 v104_1489, V.int .i64 v105_1490, V.int .i64 v106_1491, V.int .i64 v107_1492, V.int .i64 v108_1493, V.int .i64 x_1357.State, V.int .i64 v1010_1495]) (.load rfl rfl (.box rfl rfl) rfl) ?_
            refine SafeOps.quiet0 E_good (congrArg some hc1518) rfl rfl (v := V.agg [V.int .i64 x_1357.Id, V.int .i64 x_1357.Tenant, V.int .i64 x_1357.Prog, V.int .i64 x_1357.Pc, V.int .i64 x_1357.Unit, V.int .i64 x_1357.Keeps.a0, V.int .i64 x_1357.Keeps.a1, V.int .i64 x_1357.Keeps.a2, V.int .i64 x_1357.Keeps.a3, V.int .i64 x_1357.State, V.int .i64 x_1357.Ran]) (.load rfl rfl (.box rfl rfl) rfl) ?_
            refine SafeOps.quiet0 E_good (congrArg some hc1518) rfl rfl (v := V.bool (api_Task.beq (api_Task.mk v100_1485 v101_1486 v102_1487 v103_1488 v104_1489 (A4_Int.mk v105_1490 v106_1491 v107_1492 v108_1493) x_1357.State v1010_1495) x_1357)) (.eqA rfl rfl rfl rfl okT33 rfl) ?_
            refine SafeOps.quiet0 E_good rfl rfl rfl (v := V.bool (api_Task.beq (api_Task.mk v100_1485 v101_1486 v102_1487 v103_1488 v104_1489 (A4_Int.mk v105_1490 v106_1491 v107_1492 v108_1493) x_1357.State v1010_1495) x_1357)) (.pickK rfl hc1518 rfl) ?_
            exact SafeOps.drop' 4 rfl rfl rfl K
          · skip
            refine SafeOps.skip (congrArg some hc1518) rfl rfl ?_
            refine SafeOps.skip (congrArg some hc1518) rfl rfl ?_
            refine SafeOps.skip (congrArg some hc1518) rfl rfl ?_
            refine SafeOps.quiet0 E_good rfl rfl rfl (v := V.bool false) (.pickK rfl hc1518 rfl) ?_
            exact SafeOps.drop' 4 rfl rfl rfl K
          refine SafeOps.quiet0 E_good rfl rfl rfl (v := V.bool (((x_1353 && (x_1514 == 0)) && (x_1513 == (v13_1483.length : Int))) && (api_Task.beq (api_Task.mk v100_1485 v101_1486 v102_1487 v103_1488 v104_1489 (A4_Int.mk v105_1490 v106_1491 v107_1492 v108_1493) x_1357.State v1010_1495) x_1357))) (.fn rfl) ?_
          refine SafeOps.nil ?_
          repeat (first | refine Safe.seq ?_ | refine Safe.skip ?_ | with_reducible refine thenQ.n ?_ | with_reducible refine blockQ.n ?_)
          refine Safe.ret ?_
          repeat (first | with_reducible refine thenQ.r ?_ | with_reducible refine blockQ.r ?_)
          obtain rfl := Option.some.inj h
          exact retQ.gen (vs := [V.bool (((x_1353 && (x_1514 == 0)) && (x_1513 == (v13_1483.length : Int))) && (api_Task.beq (api_Task.mk v100_1485 v101_1486 v102_1487 v103_1488 v104_1489 (A4_Int.mk v105_1490 v106_1491 v107_1492 v108_1493) x_1357.State v1010_1495) x_1357))]) rfl (.tmp (v := V.bool (((x_1353 && (x_1514 == 0)) && (x_1513 == (v13_1483.length : Int))) && (api_Task.beq (api_Task.mk v100_1485 v101_1486 v102_1487 v103_1488 v104_1489 (A4_Int.mk v105_1490 v106_1491 v107_1492 v108_1493) x_1357.State v1010_1495) x_1357))) rfl .nil) (.free rfl) (by simp) (.inr rfl)

noncomputable def go_ravelref12_Check_s1 (a0_1533 : api_Task) : (Int) → Option ((Int) ⊕ (Int))
  | v66_13858 =>
    if (decide (v66_13858 < 4)) = true then
      if 0 ≤ v66_13858 ∧ v66_13858 < (4 : Int) then
        if (decide ((if v66_13858 = 0 then a0_1533.Keeps.a0 else (if v66_13858 = 1 then a0_1533.Keeps.a1 else (if v66_13858 = 2 then a0_1533.Keeps.a2 else a0_1533.Keeps.a3))) < (-1))) = true then
          inrO (
            some 1)
        else
          nextO (IntKind.i64.wrap (v66_13858 + 1))
      else none
    else
      inrO (
        some 0)

noncomputable def go_ravelref12_Check (a0_1533 : api_Task) : Option Int :=
  if ((((((((((((decide (a0_1533.Id < 0)) || (decide (a0_1533.Tenant < 0))) || (decide (a0_1533.Tenant > 15))) || (decide (a0_1533.Prog < 0))) || (decide (a0_1533.Prog > 15))) || (decide (a0_1533.Pc < 0))) || (decide (a0_1533.Pc > 32))) || (decide (a0_1533.Unit < 0))) || (decide (a0_1533.Unit > 99))) || (!(go_ravelref12_state a0_1533.State))) || (decide (a0_1533.Ran < 0))) || (decide (a0_1533.Ran > 1099511627776))) = true then
    some 1
  else
    whileO (go_ravelref12_Check_s1 a0_1533) 0

theorem go_ravelref12_Check_sc (a0_1533 : api_Task) (r : Int) (h : go_ravelref12_Check a0_1533 = some r) : SC Tryd.prog gl 23 [V.agg [V.int .i64 a0_1533.Id, V.int .i64 a0_1533.Tenant, V.int .i64 a0_1533.Prog, V.int .i64 a0_1533.Pc, V.int .i64 a0_1533.Unit, V.int .i64 a0_1533.Keeps.a0, V.int .i64 a0_1533.Keeps.a1, V.int .i64 a0_1533.Keeps.a2, V.int .i64 a0_1533.Keeps.a3, V.int .i64 a0_1533.State, V.int .i64 a0_1533.Ran]] (V.int .i64 r) := by
  rw [go_ravelref12_Check] at h
  refine SC.of E_good Tryd.func23 rfl (fun _ _ => Tryd.call23 _ _) rfl ?_
  repeat (first | refine Safe.seq ?_ | refine Safe.skip ?_ | with_reducible refine thenQ.n ?_ | with_reducible refine blockQ.n ?_)
  refine Safe.region ?_
  refine SafeOps.quiet1 E_good rfl rfl rfl (.box rfl rfl) rfl ?_
  refine SafeOps.quiet0 E_good rfl rfl rfl (v := V.int .i64 0) (.fn rfl) ?_
  refine SafeOps.nil ?_
  repeat (first | refine Safe.seq ?_ | refine Safe.skip ?_ | with_reducible refine thenQ.n ?_ | with_reducible refine blockQ.n ?_)
  refine Safe.region ?_
  refine SafeOps.quiet0 E_good rfl rfl rfl (v := V.ptr [1] 0 0) (.fn rfl) ?_
  refine SafeOps.quiet0 E_good rfl rfl rfl (v := V.int .i64 a0_1533.Id) (.load rfl rfl (.box rfl rfl) rfl) ?_
  refine SafeOps.quiet0 E_good rfl rfl rfl (v := V.bool (decide (a0_1533.Id < 0))) (.fn rfl) ?_
  refine SafeOps.quiet0 E_good rfl rfl rfl (v := V.bool (decide (a0_1533.Id < 0))) (.fn rfl) ?_
  refine SafeOps.bjoin 4 12 (b := ((decide (a0_1533.Id < 0)) || (decide (a0_1533.Tenant < 0)))) (b1 := true) (b0 := decide (a0_1533.Tenant < 0)) (fun hc13841 K => ?_) (fun hc13841 K => ?_) bj_or ?_
  · skip
    refine SafeOps.skip (congrArg (fun b => some (!b)) hc13841) rfl rfl ?_
    refine SafeOps.skip (congrArg (fun b => some (!b)) hc13841) rfl rfl ?_
    refine SafeOps.skip (congrArg (fun b => some (!b)) hc13841) rfl rfl ?_
    refine SafeOps.quiet0 E_good rfl rfl rfl (v := V.bool true) (.pickK rfl hc13841 rfl) ?_
    exact SafeOps.drop' 4 rfl rfl rfl K
  · skip
    refine SafeOps.quiet0 E_good (congrArg (fun b => some (!b)) hc13841) rfl rfl (v := V.ptr [1] 0 1) (.fn rfl) ?_
    refine SafeOps.quiet0 E_good (congrArg (fun b => some (!b)) hc13841) rfl rfl (v := V.int .i64 a0_1533.Tenant) (.load rfl rfl (.box rfl rfl) rfl) ?_
    refine SafeOps.quiet0 E_good (congrArg (fun b => some (!b)) hc13841) rfl rfl (v := V.bool (decide (a0_1533.Tenant < 0))) (.fn rfl) ?_
    refine SafeOps.quiet0 E_good rfl rfl rfl (v := V.bool (decide (a0_1533.Tenant < 0))) (.pickK rfl hc13841 rfl) ?_
    exact SafeOps.drop' 4 rfl rfl rfl K
  refine SafeOps.quiet0 E_good rfl rfl rfl (v := V.bool ((decide (a0_1533.Id < 0)) || (decide (a0_1533.Tenant < 0)))) (.fn rfl) ?_
  refine SafeOps.bjoin 4 17 (b := (((decide (a0_1533.Id < 0)) || (decide (a0_1533.Tenant < 0))) || (decide (a0_1533.Tenant > 15)))) (b1 := true) (b0 := decide (a0_1533.Tenant > 15)) (fun hc13842 K => ?_) (fun hc13842 K => ?_) bj_or ?_
  · skip
    refine SafeOps.skip (congrArg (fun b => some (!b)) hc13842) rfl rfl ?_
    refine SafeOps.skip (congrArg (fun b => some (!b)) hc13842) rfl rfl ?_
    refine SafeOps.skip (congrArg (fun b => some (!b)) hc13842) rfl rfl ?_
    refine SafeOps.quiet0 E_good rfl rfl rfl (v := V.bool true) (.pickK rfl hc13842 rfl) ?_
    exact SafeOps.drop' 4 rfl rfl rfl K
  · skip
    refine SafeOps.quiet0 E_good (congrArg (fun b => some (!b)) hc13842) rfl rfl (v := V.ptr [1] 0 1) (.fn rfl) ?_
    refine SafeOps.quiet0 E_good (congrArg (fun b => some (!b)) hc13842) rfl rfl (v := V.int .i64 a0_1533.Tenant) (.load rfl rfl (.box rfl rfl) rfl) ?_
    refine SafeOps.quiet0 E_good (congrArg (fun b => some (!b)) hc13842) rfl rfl (v := V.bool (decide (a0_1533.Tenant > 15))) (.fn rfl) ?_
    refine SafeOps.quiet0 E_good rfl rfl rfl (v := V.bool (decide (a0_1533.Tenant > 15))) (.pickK rfl hc13842 rfl) ?_
    exact SafeOps.drop' 4 rfl rfl rfl K
  refine SafeOps.quiet0 E_good rfl rfl rfl (v := V.bool (((decide (a0_1533.Id < 0)) || (decide (a0_1533.Tenant < 0))) || (decide (a0_1533.Tenant > 15)))) (.fn rfl) ?_
  refine SafeOps.bjoin 4 22 (b := ((((decide (a0_1533.Id < 0)) || (decide (a0_1533.Tenant < 0))) || (decide (a0_1533.Tenant > 15))) || (decide (a0_1533.Prog < 0)))) (b1 := true) (b0 := decide (a0_1533.Prog < 0)) (fun hc13843 K => ?_) (fun hc13843 K => ?_) bj_or ?_
  · skip
    refine SafeOps.skip (congrArg (fun b => some (!b)) hc13843) rfl rfl ?_
    refine SafeOps.skip (congrArg (fun b => some (!b)) hc13843) rfl rfl ?_
    refine SafeOps.skip (congrArg (fun b => some (!b)) hc13843) rfl rfl ?_
    refine SafeOps.quiet0 E_good rfl rfl rfl (v := V.bool true) (.pickK rfl hc13843 rfl) ?_
    exact SafeOps.drop' 4 rfl rfl rfl K
  · skip
    refine SafeOps.quiet0 E_good (congrArg (fun b => some (!b)) hc13843) rfl rfl (v := V.ptr [1] 0 2) (.fn rfl) ?_
    refine SafeOps.quiet0 E_good (congrArg (fun b => some (!b)) hc13843) rfl rfl (v := V.int .i64 a0_1533.Prog) (.load rfl rfl (.box rfl rfl) rfl) ?_
    refine SafeOps.quiet0 E_good (congrArg (fun b => some (!b)) hc13843) rfl rfl (v := V.bool (decide (a0_1533.Prog < 0))) (.fn rfl) ?_
    refine SafeOps.quiet0 E_good rfl rfl rfl (v := V.bool (decide (a0_1533.Prog < 0))) (.pickK rfl hc13843 rfl) ?_
    exact SafeOps.drop' 4 rfl rfl rfl K
  refine SafeOps.quiet0 E_good rfl rfl rfl (v := V.bool ((((decide (a0_1533.Id < 0)) || (decide (a0_1533.Tenant < 0))) || (decide (a0_1533.Tenant > 15))) || (decide (a0_1533.Prog < 0)))) (.fn rfl) ?_
  refine SafeOps.bjoin 4 27 (b := (((((decide (a0_1533.Id < 0)) || (decide (a0_1533.Tenant < 0))) || (decide (a0_1533.Tenant > 15))) || (decide (a0_1533.Prog < 0))) || (decide (a0_1533.Prog > 15)))) (b1 := true) (b0 := decide (a0_1533.Prog > 15)) (fun hc13844 K => ?_) (fun hc13844 K => ?_) bj_or ?_
  · skip
    refine SafeOps.skip (congrArg (fun b => some (!b)) hc13844) rfl rfl ?_
    refine SafeOps.skip (congrArg (fun b => some (!b)) hc13844) rfl rfl ?_
    refine SafeOps.skip (congrArg (fun b => some (!b)) hc13844) rfl rfl ?_
    refine SafeOps.quiet0 E_good rfl rfl rfl (v := V.bool true) (.pickK rfl hc13844 rfl) ?_
    exact SafeOps.drop' 4 rfl rfl rfl K
  · skip
    refine SafeOps.quiet0 E_good (congrArg (fun b => some (!b)) hc13844) rfl rfl (v := V.ptr [1] 0 2) (.fn rfl) ?_
    refine SafeOps.quiet0 E_good (congrArg (fun b => some (!b)) hc13844) rfl rfl (v := V.int .i64 a0_1533.Prog) (.load rfl rfl (.box rfl rfl) rfl) ?_
    refine SafeOps.quiet0 E_good (congrArg (fun b => some (!b)) hc13844) rfl rfl (v := V.bool (decide (a0_1533.Prog > 15))) (.fn rfl) ?_
    refine SafeOps.quiet0 E_good rfl rfl rfl (v := V.bool (decide (a0_1533.Prog > 15))) (.pickK rfl hc13844 rfl) ?_
    exact SafeOps.drop' 4 rfl rfl rfl K
  refine SafeOps.quiet0 E_good rfl rfl rfl (v := V.bool (((((decide (a0_1533.Id < 0)) || (decide (a0_1533.Tenant < 0))) || (decide (a0_1533.Tenant > 15))) || (decide (a0_1533.Prog < 0))) || (decide (a0_1533.Prog > 15)))) (.fn rfl) ?_
  refine SafeOps.bjoin 4 32 (b := ((((((decide (a0_1533.Id < 0)) || (decide (a0_1533.Tenant < 0))) || (decide (a0_1533.Tenant > 15))) || (decide (a0_1533.Prog < 0))) || (decide (a0_1533.Prog > 15))) || (decide (a0_1533.Pc < 0)))) (b1 := true) (b0 := decide (a0_1533.Pc < 0)) (fun hc13845 K => ?_) (fun hc13845 K => ?_) bj_or ?_
  · skip
    refine SafeOps.skip (congrArg (fun b => some (!b)) hc13845) rfl rfl ?_
    refine SafeOps.skip (congrArg (fun b => some (!b)) hc13845) rfl rfl ?_
    refine SafeOps.skip (congrArg (fun b => some (!b)) hc13845) rfl rfl ?_
    refine SafeOps.quiet0 E_good rfl rfl rfl (v := V.bool true) (.pickK rfl hc13845 rfl) ?_
    exact SafeOps.drop' 4 rfl rfl rfl K
  · skip
    refine SafeOps.quiet0 E_good (congrArg (fun b => some (!b)) hc13845) rfl rfl (v := V.ptr [1] 0 3) (.fn rfl) ?_
    refine SafeOps.quiet0 E_good (congrArg (fun b => some (!b)) hc13845) rfl rfl (v := V.int .i64 a0_1533.Pc) (.load rfl rfl (.box rfl rfl) rfl) ?_
    refine SafeOps.quiet0 E_good (congrArg (fun b => some (!b)) hc13845) rfl rfl (v := V.bool (decide (a0_1533.Pc < 0))) (.fn rfl) ?_
    refine SafeOps.quiet0 E_good rfl rfl rfl (v := V.bool (decide (a0_1533.Pc < 0))) (.pickK rfl hc13845 rfl) ?_
    exact SafeOps.drop' 4 rfl rfl rfl K
  refine SafeOps.quiet0 E_good rfl rfl rfl (v := V.bool ((((((decide (a0_1533.Id < 0)) || (decide (a0_1533.Tenant < 0))) || (decide (a0_1533.Tenant > 15))) || (decide (a0_1533.Prog < 0))) || (decide (a0_1533.Prog > 15))) || (decide (a0_1533.Pc < 0)))) (.fn rfl) ?_
  refine SafeOps.bjoin 4 37 (b := (((((((decide (a0_1533.Id < 0)) || (decide (a0_1533.Tenant < 0))) || (decide (a0_1533.Tenant > 15))) || (decide (a0_1533.Prog < 0))) || (decide (a0_1533.Prog > 15))) || (decide (a0_1533.Pc < 0))) || (decide (a0_1533.Pc > 32)))) (b1 := true) (b0 := decide (a0_1533.Pc > 32)) (fun hc13846 K => ?_) (fun hc13846 K => ?_) bj_or ?_
  · skip
    refine SafeOps.skip (congrArg (fun b => some (!b)) hc13846) rfl rfl ?_
    refine SafeOps.skip (congrArg (fun b => some (!b)) hc13846) rfl rfl ?_
    refine SafeOps.skip (congrArg (fun b => some (!b)) hc13846) rfl rfl ?_
    refine SafeOps.quiet0 E_good rfl rfl rfl (v := V.bool true) (.pickK rfl hc13846 rfl) ?_
    exact SafeOps.drop' 4 rfl rfl rfl K
  · skip
    refine SafeOps.quiet0 E_good (congrArg (fun b => some (!b)) hc13846) rfl rfl (v := V.ptr [1] 0 3) (.fn rfl) ?_
    refine SafeOps.quiet0 E_good (congrArg (fun b => some (!b)) hc13846) rfl rfl (v := V.int .i64 a0_1533.Pc) (.load rfl rfl (.box rfl rfl) rfl) ?_
    refine SafeOps.quiet0 E_good (congrArg (fun b => some (!b)) hc13846) rfl rfl (v := V.bool (decide (a0_1533.Pc > 32))) (.fn rfl) ?_
    refine SafeOps.quiet0 E_good rfl rfl rfl (v := V.bool (decide (a0_1533.Pc > 32))) (.pickK rfl hc13846 rfl) ?_
    exact SafeOps.drop' 4 rfl rfl rfl K
  refine SafeOps.quiet0 E_good rfl rfl rfl (v := V.bool (((((((decide (a0_1533.Id < 0)) || (decide (a0_1533.Tenant < 0))) || (decide (a0_1533.Tenant > 15))) || (decide (a0_1533.Prog < 0))) || (decide (a0_1533.Prog > 15))) || (decide (a0_1533.Pc < 0))) || (decide (a0_1533.Pc > 32)))) (.fn rfl) ?_
  refine SafeOps.bjoin 4 42 (b := ((((((((decide (a0_1533.Id < 0)) || (decide (a0_1533.Tenant < 0))) || (decide (a0_1533.Tenant > 15))) || (decide (a0_1533.Prog < 0))) || (decide (a0_1533.Prog > 15))) || (decide (a0_1533.Pc < 0))) || (decide (a0_1533.Pc > 32))) || (decide (a0_1533.Unit < 0)))) (b1 := true) (b0 := decide (a0_1533.Unit < 0)) (fun hc13847 K => ?_) (fun hc13847 K => ?_) bj_or ?_
  · skip
    refine SafeOps.skip (congrArg (fun b => some (!b)) hc13847) rfl rfl ?_
    refine SafeOps.skip (congrArg (fun b => some (!b)) hc13847) rfl rfl ?_
    refine SafeOps.skip (congrArg (fun b => some (!b)) hc13847) rfl rfl ?_
    refine SafeOps.quiet0 E_good rfl rfl rfl (v := V.bool true) (.pickK rfl hc13847 rfl) ?_
    exact SafeOps.drop' 4 rfl rfl rfl K
  · skip
    refine SafeOps.quiet0 E_good (congrArg (fun b => some (!b)) hc13847) rfl rfl (v := V.ptr [1] 0 4) (.fn rfl) ?_
    refine SafeOps.quiet0 E_good (congrArg (fun b => some (!b)) hc13847) rfl rfl (v := V.int .i64 a0_1533.Unit) (.load rfl rfl (.box rfl rfl) rfl) ?_
    refine SafeOps.quiet0 E_good (congrArg (fun b => some (!b)) hc13847) rfl rfl (v := V.bool (decide (a0_1533.Unit < 0))) (.fn rfl) ?_
    refine SafeOps.quiet0 E_good rfl rfl rfl (v := V.bool (decide (a0_1533.Unit < 0))) (.pickK rfl hc13847 rfl) ?_
    exact SafeOps.drop' 4 rfl rfl rfl K
  refine SafeOps.quiet0 E_good rfl rfl rfl (v := V.bool ((((((((decide (a0_1533.Id < 0)) || (decide (a0_1533.Tenant < 0))) || (decide (a0_1533.Tenant > 15))) || (decide (a0_1533.Prog < 0))) || (decide (a0_1533.Prog > 15))) || (decide (a0_1533.Pc < 0))) || (decide (a0_1533.Pc > 32))) || (decide (a0_1533.Unit < 0)))) (.fn rfl) ?_
  refine SafeOps.bjoin 4 47 (b := (((((((((decide (a0_1533.Id < 0)) || (decide (a0_1533.Tenant < 0))) || (decide (a0_1533.Tenant > 15))) || (decide (a0_1533.Prog < 0))) || (decide (a0_1533.Prog > 15))) || (decide (a0_1533.Pc < 0))) || (decide (a0_1533.Pc > 32))) || (decide (a0_1533.Unit < 0))) || (decide (a0_1533.Unit > 99)))) (b1 := true) (b0 := decide (a0_1533.Unit > 99)) (fun hc13848 K => ?_) (fun hc13848 K => ?_) bj_or ?_
  · skip
    refine SafeOps.skip (congrArg (fun b => some (!b)) hc13848) rfl rfl ?_
    refine SafeOps.skip (congrArg (fun b => some (!b)) hc13848) rfl rfl ?_
    refine SafeOps.skip (congrArg (fun b => some (!b)) hc13848) rfl rfl ?_
    refine SafeOps.quiet0 E_good rfl rfl rfl (v := V.bool true) (.pickK rfl hc13848 rfl) ?_
    exact SafeOps.drop' 4 rfl rfl rfl K
  · skip
    refine SafeOps.quiet0 E_good (congrArg (fun b => some (!b)) hc13848) rfl rfl (v := V.ptr [1] 0 4) (.fn rfl) ?_
    refine SafeOps.quiet0 E_good (congrArg (fun b => some (!b)) hc13848) rfl rfl (v := V.int .i64 a0_1533.Unit) (.load rfl rfl (.box rfl rfl) rfl) ?_
    refine SafeOps.quiet0 E_good (congrArg (fun b => some (!b)) hc13848) rfl rfl (v := V.bool (decide (a0_1533.Unit > 99))) (.fn rfl) ?_
    refine SafeOps.quiet0 E_good rfl rfl rfl (v := V.bool (decide (a0_1533.Unit > 99))) (.pickK rfl hc13848 rfl) ?_
    exact SafeOps.drop' 4 rfl rfl rfl K
  refine SafeOps.quiet0 E_good rfl rfl rfl (v := V.bool (((((((((decide (a0_1533.Id < 0)) || (decide (a0_1533.Tenant < 0))) || (decide (a0_1533.Tenant > 15))) || (decide (a0_1533.Prog < 0))) || (decide (a0_1533.Prog > 15))) || (decide (a0_1533.Pc < 0))) || (decide (a0_1533.Pc > 32))) || (decide (a0_1533.Unit < 0))) || (decide (a0_1533.Unit > 99)))) (.fn rfl) ?_
  refine SafeOps.bjoin 5 53 (b := ((((((((((decide (a0_1533.Id < 0)) || (decide (a0_1533.Tenant < 0))) || (decide (a0_1533.Tenant > 15))) || (decide (a0_1533.Prog < 0))) || (decide (a0_1533.Prog > 15))) || (decide (a0_1533.Pc < 0))) || (decide (a0_1533.Pc > 32))) || (decide (a0_1533.Unit < 0))) || (decide (a0_1533.Unit > 99))) || (!(go_ravelref12_state a0_1533.State)))) (b1 := true) (b0 := (!(go_ravelref12_state a0_1533.State))) (fun hc13849 K => ?_) (fun hc13849 K => ?_) bj_or ?_
  · skip
    refine SafeOps.skip (congrArg (fun b => some (!b)) hc13849) rfl rfl ?_
    refine SafeOps.skip (congrArg (fun b => some (!b)) hc13849) rfl rfl ?_
    refine SafeOps.skip (congrArg (fun b => some (!b)) hc13849) rfl rfl ?_
    refine SafeOps.skip (congrArg (fun b => some (!b)) hc13849) rfl rfl ?_
    refine SafeOps.quiet0 E_good rfl rfl rfl (v := V.bool true) (.pickK rfl hc13849 rfl) ?_
    exact SafeOps.drop' 5 rfl rfl rfl K
  · skip
    refine SafeOps.quiet0 E_good (congrArg (fun b => some (!b)) hc13849) rfl rfl (v := V.ptr [1] 0 9) (.fn rfl) ?_
    refine SafeOps.quiet0 E_good (congrArg (fun b => some (!b)) hc13849) rfl rfl (v := V.int .i64 a0_1533.State) (.load rfl rfl (.box rfl rfl) rfl) ?_
    refine SafeOps.quiet0 E_good (congrArg (fun b => some (!b)) hc13849) rfl rfl (v := V.bool (go_ravelref12_state a0_1533.State)) (.callP rfl rfl (go_ravelref12_state_sc a0_1533.State _ rfl) rfl) ?_
    refine SafeOps.quiet0 E_good (congrArg (fun b => some (!b)) hc13849) rfl rfl (v := V.bool (!(go_ravelref12_state a0_1533.State))) (.fn rfl) ?_
    refine SafeOps.quiet0 E_good rfl rfl rfl (v := V.bool (!(go_ravelref12_state a0_1533.State))) (.pickK rfl hc13849 rfl) ?_
    exact SafeOps.drop' 5 rfl rfl rfl K
  refine SafeOps.quiet0 E_good rfl rfl rfl (v := V.bool ((((((((((decide (a0_1533.Id < 0)) || (decide (a0_1533.Tenant < 0))) || (decide (a0_1533.Tenant > 15))) || (decide (a0_1533.Prog < 0))) || (decide (a0_1533.Prog > 15))) || (decide (a0_1533.Pc < 0))) || (decide (a0_1533.Pc > 32))) || (decide (a0_1533.Unit < 0))) || (decide (a0_1533.Unit > 99))) || (!(go_ravelref12_state a0_1533.State)))) (.fn rfl) ?_
  refine SafeOps.bjoin 4 58 (b := (((((((((((decide (a0_1533.Id < 0)) || (decide (a0_1533.Tenant < 0))) || (decide (a0_1533.Tenant > 15))) || (decide (a0_1533.Prog < 0))) || (decide (a0_1533.Prog > 15))) || (decide (a0_1533.Pc < 0))) || (decide (a0_1533.Pc > 32))) || (decide (a0_1533.Unit < 0))) || (decide (a0_1533.Unit > 99))) || (!(go_ravelref12_state a0_1533.State))) || (decide (a0_1533.Ran < 0)))) (b1 := true) (b0 := decide (a0_1533.Ran < 0)) (fun hc13850 K => ?_) (fun hc13850 K => ?_) bj_or ?_
  · skip
    refine SafeOps.skip (congrArg (fun b => some (!b)) hc13850) rfl rfl ?_
    refine SafeOps.skip (congrArg (fun b => some (!b)) hc13850) rfl rfl ?_
    refine SafeOps.skip (congrArg (fun b => some (!b)) hc13850) rfl rfl ?_
    refine SafeOps.quiet0 E_good rfl rfl rfl (v := V.bool true) (.pickK rfl hc13850 rfl) ?_
    exact SafeOps.drop' 4 rfl rfl rfl K
  · skip
    refine SafeOps.quiet0 E_good (congrArg (fun b => some (!b)) hc13850) rfl rfl (v := V.ptr [1] 0 10) (.fn rfl) ?_
    refine SafeOps.quiet0 E_good (congrArg (fun b => some (!b)) hc13850) rfl rfl (v := V.int .i64 a0_1533.Ran) (.load rfl rfl (.box rfl rfl) rfl) ?_
    refine SafeOps.quiet0 E_good (congrArg (fun b => some (!b)) hc13850) rfl rfl (v := V.bool (decide (a0_1533.Ran < 0))) (.fn rfl) ?_
    refine SafeOps.quiet0 E_good rfl rfl rfl (v := V.bool (decide (a0_1533.Ran < 0))) (.pickK rfl hc13850 rfl) ?_
    exact SafeOps.drop' 4 rfl rfl rfl K
  refine SafeOps.quiet0 E_good rfl rfl rfl (v := V.bool (((((((((((decide (a0_1533.Id < 0)) || (decide (a0_1533.Tenant < 0))) || (decide (a0_1533.Tenant > 15))) || (decide (a0_1533.Prog < 0))) || (decide (a0_1533.Prog > 15))) || (decide (a0_1533.Pc < 0))) || (decide (a0_1533.Pc > 32))) || (decide (a0_1533.Unit < 0))) || (decide (a0_1533.Unit > 99))) || (!(go_ravelref12_state a0_1533.State))) || (decide (a0_1533.Ran < 0)))) (.fn rfl) ?_
  refine SafeOps.bjoin 4 63 (b := ((((((((((((decide (a0_1533.Id < 0)) || (decide (a0_1533.Tenant < 0))) || (decide (a0_1533.Tenant > 15))) || (decide (a0_1533.Prog < 0))) || (decide (a0_1533.Prog > 15))) || (decide (a0_1533.Pc < 0))) || (decide (a0_1533.Pc > 32))) || (decide (a0_1533.Unit < 0))) || (decide (a0_1533.Unit > 99))) || (!(go_ravelref12_state a0_1533.State))) || (decide (a0_1533.Ran < 0))) || (decide (a0_1533.Ran > 1099511627776)))) (b1 := true) (b0 := decide (a0_1533.Ran > 1099511627776)) (fun hc13851 K => ?_) (fun hc13851 K => ?_) bj_or ?_
  · skip
    refine SafeOps.skip (congrArg (fun b => some (!b)) hc13851) rfl rfl ?_
    refine SafeOps.skip (congrArg (fun b => some (!b)) hc13851) rfl rfl ?_
    refine SafeOps.skip (congrArg (fun b => some (!b)) hc13851) rfl rfl ?_
    refine SafeOps.quiet0 E_good rfl rfl rfl (v := V.bool true) (.pickK rfl hc13851 rfl) ?_
    exact SafeOps.drop' 4 rfl rfl rfl K
  · skip
    refine SafeOps.quiet0 E_good (congrArg (fun b => some (!b)) hc13851) rfl rfl (v := V.ptr [1] 0 10) (.fn rfl) ?_
    refine SafeOps.quiet0 E_good (congrArg (fun b => some (!b)) hc13851) rfl rfl (v := V.int .i64 a0_1533.Ran) (.load rfl rfl (.box rfl rfl) rfl) ?_
    refine SafeOps.quiet0 E_good (congrArg (fun b => some (!b)) hc13851) rfl rfl (v := V.bool (decide (a0_1533.Ran > 1099511627776))) (.fn rfl) ?_
    refine SafeOps.quiet0 E_good rfl rfl rfl (v := V.bool (decide (a0_1533.Ran > 1099511627776))) (.pickK rfl hc13851 rfl) ?_
    exact SafeOps.drop' 4 rfl rfl rfl K
  refine SafeOps.nil ?_
  repeat (first | refine Safe.seq ?_ | refine Safe.skip ?_ | with_reducible refine thenQ.n ?_ | with_reducible refine blockQ.n ?_)
  refine ifG h (fun hc13852 h => ?_) (fun hc13852 h => ?_)
  · skip
    refine Safe.condK rfl hc13852 ?_
    repeat (first | refine Safe.seq ?_ | refine Safe.skip ?_ | with_reducible refine thenQ.n ?_ | with_reducible refine blockQ.n ?_)
    refine Safe.region ?_
    refine SafeOps.quiet0 E_good rfl rfl rfl (v := V.int .i64 1) (.fn rfl) ?_
    refine SafeOps.nil ?_
    repeat (first | refine Safe.seq ?_ | refine Safe.skip ?_ | with_reducible refine thenQ.n ?_ | with_reducible refine blockQ.n ?_)
    refine Safe.ret ?_
    repeat (first | with_reducible refine thenQ.r ?_ | with_reducible refine blockQ.r ?_)
    obtain rfl := Option.some.inj h
    exact retQ.gen (vs := [V.int .i64 1]) rfl (.tmp (v := V.int .i64 1) rfl .nil) (.free rfl) (by simp) (.inr rfl)
  · skip
    refine Safe.condN rfl hc13852 ?_
    repeat (first | refine Safe.seq ?_ | refine Safe.skip ?_ | with_reducible refine thenQ.n ?_ | with_reducible refine blockQ.n ?_)
    refine Safe.region ?_
    refine SafeOps.quiet0 E_good rfl rfl rfl (v := V.ptr [1] 0 5) (.fn rfl) ?_
    refine SafeOps.quiet0 E_good rfl rfl rfl (v := V.agg [V.int .i64 a0_1533.Keeps.a0, V.int .i64 a0_1533.Keeps.a1, V.int .i64 a0_1533.Keeps.a2, V.int .i64 a0_1533.Keeps.a3]) (.load rfl rfl (.box rfl rfl) rfl) ?_
    refine SafeOps.quiet0 E_good rfl rfl rfl (v := V.int .i64 0) (.fn rfl) ?_
    refine SafeOps.nil ?_
    repeat (first | refine Safe.seq ?_ | refine Safe.skip ?_ | with_reducible refine thenQ.n ?_ | with_reducible refine blockQ.n ?_)
    refine Safe.block ?_
    repeat (first | refine Safe.seq ?_ | refine Safe.skip ?_ | with_reducible refine thenQ.n ?_ | with_reducible refine blockQ.n ?_)
    refine Safe.loopW (fun (v66_13858 : Int) => ⟨Tryd.f23.ntmps, [(65, V.agg [V.int .i64 a0_1533.Keeps.a0, V.int .i64 a0_1533.Keeps.a1, V.int .i64 a0_1533.Keeps.a2, V.int .i64 a0_1533.Keeps.a3]), (66, V.int .i64 v66_13858)], [], [], []⟩) h (.cov ⟨rfl, rfl, (upT_cons (.refl _) (upT_cons (.refl _) upT_nil)), upOb_nil, upOut_nil, rfl⟩) ?_
    intro v66_13858 ohr13859 h hr13859
    replace h : go_ravelref12_Check_s1 a0_1533 v66_13858 = some ohr13859 := h
    rw [go_ravelref12_Check_s1] at h
    repeat (first | refine Safe.seq ?_ | refine Safe.skip ?_ | with_reducible refine thenQ.n ?_ | with_reducible refine blockQ.n ?_)
    refine Safe.region ?_
    refine SafeOps.quiet0 E_good rfl rfl rfl (v := V.bool (decide (v66_13858 < 4))) (.fn rfl) ?_
    refine SafeOps.nil ?_
    repeat (first | refine Safe.seq ?_ | refine Safe.skip ?_ | with_reducible refine thenQ.n ?_ | with_reducible refine blockQ.n ?_)
    refine ifG h (fun hc13860 h => ?_) (fun hc13860 h => ?_)
    · skip
      refine Safe.condK rfl hc13860 ?_
      repeat (first | refine Safe.seq ?_ | refine Safe.skip ?_ | with_reducible refine thenQ.n ?_ | with_reducible refine blockQ.n ?_)
      refine Safe.block ?_
      repeat (first | refine Safe.seq ?_ | refine Safe.skip ?_ | with_reducible refine thenQ.n ?_ | with_reducible refine blockQ.n ?_)
      refine Safe.region ?_
      refine okG h (fun hb13861 h => ?_)
      refine SafeOps.quiet0 E_good rfl rfl rfl (v := V.int .i64 (if v66_13858 = 0 then a0_1533.Keeps.a0 else (if v66_13858 = 1 then a0_1533.Keeps.a1 else (if v66_13858 = 2 then a0_1533.Keeps.a2 else a0_1533.Keeps.a3)))) (.idxVM (us := [V.int .i64 (if v66_13858 = 0 then a0_1533.Keeps.a0 else (if v66_13858 = 1 then a0_1533.Keeps.a1 else (if v66_13858 = 2 then a0_1533.Keeps.a2 else a0_1533.Keeps.a3)))]) rfl rfl rfl rfl rfl 4 rfl hb13861 (by have hq : v66_13858 = 0 ∨ v66_13858 = 1 ∨ v66_13858 = 2 ∨ v66_13858 = 3 := (by omega); rcases hq with hq | hq | hq | hq <;> simp only [hq] <;> rfl) rfl) ?_
      refine SafeOps.quiet0 E_good rfl rfl rfl (v := V.int .i64 (if v66_13858 = 0 then a0_1533.Keeps.a0 else (if v66_13858 = 1 then a0_1533.Keeps.a1 else (if v66_13858 = 2 then a0_1533.Keeps.a2 else a0_1533.Keeps.a3)))) (.fn rfl) ?_
      refine SafeOps.nil ?_
      repeat (first | refine Safe.seq ?_ | refine Safe.skip ?_ | with_reducible refine thenQ.n ?_ | with_reducible refine blockQ.n ?_)
      refine Safe.region ?_
      refine SafeOps.quiet0 E_good rfl rfl rfl (v := V.int .i64 (if v66_13858 = 0 then a0_1533.Keeps.a0 else (if v66_13858 = 1 then a0_1533.Keeps.a1 else (if v66_13858 = 2 then a0_1533.Keeps.a2 else a0_1533.Keeps.a3)))) (.fn rfl) ?_
      refine SafeOps.quiet0 E_good rfl rfl rfl (v := V.bool (decide ((if v66_13858 = 0 then a0_1533.Keeps.a0 else (if v66_13858 = 1 then a0_1533.Keeps.a1 else (if v66_13858 = 2 then a0_1533.Keeps.a2 else a0_1533.Keeps.a3))) < (-1)))) (.fn rfl) ?_
      refine SafeOps.nil ?_
      repeat (first | refine Safe.seq ?_ | refine Safe.skip ?_ | with_reducible refine thenQ.n ?_ | with_reducible refine blockQ.n ?_)
      refine ifG h (fun hc13862 h => ?_) (fun hc13862 h => ?_)
      · skip
        refine Safe.condK rfl hc13862 ?_
        repeat (first | refine Safe.seq ?_ | refine Safe.skip ?_ | with_reducible refine thenQ.n ?_ | with_reducible refine blockQ.n ?_)
        refine Safe.region ?_
        refine SafeOps.quiet0 E_good rfl rfl rfl (v := V.int .i64 1) (.fn rfl) ?_
        refine SafeOps.nil ?_
        repeat (first | refine Safe.seq ?_ | refine Safe.skip ?_ | with_reducible refine thenQ.n ?_ | with_reducible refine blockQ.n ?_)
        refine Safe.ret ?_
        repeat (first | with_reducible refine thenQ.r ?_ | with_reducible refine blockQ.r ?_)
        replace h := inr_out h hr13859
        obtain rfl := Option.some.inj h
        exact retQ.gen (vs := [V.int .i64 1]) rfl (.tmp (v := V.int .i64 1) rfl .nil) (.free rfl) (by simp) (.inr rfl)
      · skip
        refine Safe.condN rfl hc13862 ?_
        repeat (first | refine Safe.seq ?_ | refine Safe.skip ?_ | with_reducible refine thenQ.n ?_ | with_reducible refine blockQ.n ?_)
        refine Safe.region ?_
        refine SafeOps.quiet0 E_good rfl rfl rfl (v := V.int .i64 (IntKind.i64.wrap (v66_13858 + 1))) (.fn rfl) ?_
        refine SafeOps.quiet0 E_good rfl rfl rfl (v := V.int .i64 (IntKind.i64.wrap (v66_13858 + 1))) (.fn rfl) ?_
        refine SafeOps.nil ?_
        repeat (first | refine Safe.seq ?_ | refine Safe.skip ?_ | with_reducible refine thenQ.n ?_ | with_reducible refine blockQ.n ?_)
        exact ⟨_, next_out h, (.cov ⟨rfl, rfl, (upT_cons (.refl _) (upT_cons (.refl _) upT_nil)), upOb_nil, upOut_nil, rfl⟩)⟩
    · skip
      refine Safe.condN rfl hc13860 ?_
      repeat (first | refine Safe.seq ?_ | refine Safe.skip ?_ | with_reducible refine thenQ.n ?_ | with_reducible refine blockQ.n ?_)
      refine Safe.exit ?_
      repeat (first | with_reducible refine thenQ.e ?_ | with_reducible refine blockQ.x rfl ?_ | with_reducible refine blockQ.y rfl ?_)
      replace h := inr_out h hr13859
      repeat (first | refine Safe.seq ?_ | refine Safe.skip ?_ | with_reducible refine thenQ.n ?_ | with_reducible refine blockQ.n ?_)
      refine Safe.region ?_
      refine SafeOps.quiet0 E_good rfl rfl rfl (v := V.int .i64 0) (.fn rfl) ?_
      refine SafeOps.nil ?_
      repeat (first | refine Safe.seq ?_ | refine Safe.skip ?_ | with_reducible refine thenQ.n ?_ | with_reducible refine blockQ.n ?_)
      refine Safe.ret ?_
      repeat (first | with_reducible refine thenQ.r ?_ | with_reducible refine blockQ.r ?_)
      obtain rfl := Option.some.inj h
      exact retQ.gen (vs := [V.int .i64 0]) rfl (.tmp (v := V.int .i64 0) rfl .nil) (.free rfl) (by simp) (.inr rfl)

noncomputable def go_ravelref12_Move (a0_1531 : api_Task) (a1_1532 : Int) : Option (api_Task × Int) :=
  (go_ravelref12_Check a0_1531).bind fun x_13868 =>
  if ((x_13868 != 0) || (!(go_ravelref12_state a1_1532))) = true then
    some (api_Task.zero, 1)
  else
    if (!(go_ravelref12_Legal a0_1531.State a1_1532)) = true then
      some (api_Task.zero, 9)
    else
      some ((api_Task.mk a0_1531.Id a0_1531.Tenant a0_1531.Prog a0_1531.Pc a0_1531.Unit a0_1531.Keeps a1_1532 a0_1531.Ran), 0)

theorem go_ravelref12_Move_sc (a0_1531 : api_Task) (a1_1532 : Int) (r : api_Task × Int) (h : go_ravelref12_Move a0_1531 a1_1532 = some r) : SC Tryd.prog gl 19 [V.agg [V.int .i64 a0_1531.Id, V.int .i64 a0_1531.Tenant, V.int .i64 a0_1531.Prog, V.int .i64 a0_1531.Pc, V.int .i64 a0_1531.Unit, V.int .i64 a0_1531.Keeps.a0, V.int .i64 a0_1531.Keeps.a1, V.int .i64 a0_1531.Keeps.a2, V.int .i64 a0_1531.Keeps.a3, V.int .i64 a0_1531.State, V.int .i64 a0_1531.Ran], V.int .i64 a1_1532] (V.tup [V.agg [V.int .i64 r.1.Id, V.int .i64 r.1.Tenant, V.int .i64 r.1.Prog, V.int .i64 r.1.Pc, V.int .i64 r.1.Unit, V.int .i64 r.1.Keeps.a0, V.int .i64 r.1.Keeps.a1, V.int .i64 r.1.Keeps.a2, V.int .i64 r.1.Keeps.a3, V.int .i64 r.1.State, V.int .i64 r.1.Ran], V.int .i64 r.2]) := by
  rw [go_ravelref12_Move] at h
  refine SC.of E_good Tryd.func19 rfl (fun _ _ => Tryd.call19 _ _) rfl ?_
  repeat (first | refine Safe.seq ?_ | refine Safe.skip ?_ | with_reducible refine thenQ.n ?_ | with_reducible refine blockQ.n ?_)
  refine Safe.region ?_
  refine SafeOps.quiet1 E_good rfl rfl rfl (.box rfl rfl) rfl ?_
  refine SafeOps.quiet1 E_good rfl rfl rfl (.alloc rfl rfl) rfl ?_
  refine SafeOps.quiet0 E_good rfl rfl rfl (v := V.int .i64 0) (.fn rfl) ?_
  refine SafeOps.nil ?_
  repeat (first | refine Safe.seq ?_ | refine Safe.skip ?_ | with_reducible refine thenQ.n ?_ | with_reducible refine blockQ.n ?_)
  refine Safe.region ?_
  refine SafeOps.quiet0 E_good rfl rfl rfl (v := V.agg [V.int .i64 a0_1531.Id, V.int .i64 a0_1531.Tenant, V.int .i64 a0_1531.Prog, V.int .i64 a0_1531.Pc, V.int .i64 a0_1531.Unit, V.int .i64 a0_1531.Keeps.a0, V.int .i64 a0_1531.Keeps.a1, V.int .i64 a0_1531.Keeps.a2, V.int .i64 a0_1531.Keeps.a3, V.int .i64 a0_1531.State, V.int .i64 a0_1531.Ran]) (.load rfl rfl (.box rfl rfl) rfl) ?_
  refine bindG h ?_
  intro x_13868 he13869 h
  refine SafeOps.quiet0 E_good rfl rfl rfl (v := V.int .i64 x_13868) (.callP rfl rfl (go_ravelref12_Check_sc a0_1531 _ he13869) rfl) ?_
  refine SafeOps.quiet0 E_good rfl rfl rfl (v := V.bool (x_13868 != 0)) (.fn rfl) ?_
  refine SafeOps.quiet0 E_good rfl rfl rfl (v := V.bool (x_13868 != 0)) (.fn rfl) ?_
  refine SafeOps.bjoin 4 13 (b := ((x_13868 != 0) || (!(go_ravelref12_state a1_1532)))) (b1 := true) (b0 := (!(go_ravelref12_state a1_1532))) (fun hc13870 K => ?_) (fun hc13870 K => ?_) bj_or ?_
  · skip
    refine SafeOps.skip (congrArg (fun b => some (!b)) hc13870) rfl rfl ?_
    refine SafeOps.skip (congrArg (fun b => some (!b)) hc13870) rfl rfl ?_
    refine SafeOps.skip (congrArg (fun b => some (!b)) hc13870) rfl rfl ?_
    refine SafeOps.quiet0 E_good rfl rfl rfl (v := V.bool true) (.pickK rfl hc13870 rfl) ?_
    exact SafeOps.drop' 4 rfl rfl rfl K
  · skip
    refine SafeOps.quiet0 E_good (congrArg (fun b => some (!b)) hc13870) rfl rfl (v := V.int .i64 a1_1532) (.fn rfl) ?_
    refine SafeOps.quiet0 E_good (congrArg (fun b => some (!b)) hc13870) rfl rfl (v := V.bool (go_ravelref12_state a1_1532)) (.callP rfl rfl (go_ravelref12_state_sc a1_1532 _ rfl) rfl) ?_
    refine SafeOps.quiet0 E_good (congrArg (fun b => some (!b)) hc13870) rfl rfl (v := V.bool (!(go_ravelref12_state a1_1532))) (.fn rfl) ?_
    refine SafeOps.quiet0 E_good rfl rfl rfl (v := V.bool (!(go_ravelref12_state a1_1532))) (.pickK rfl hc13870 rfl) ?_
    exact SafeOps.drop' 4 rfl rfl rfl K
  refine SafeOps.nil ?_
  repeat (first | refine Safe.seq ?_ | refine Safe.skip ?_ | with_reducible refine thenQ.n ?_ | with_reducible refine blockQ.n ?_)
  refine ifG h (fun hc13871 h => ?_) (fun hc13871 h => ?_)
  · skip
    refine Safe.condK rfl hc13871 ?_
    repeat (first | refine Safe.seq ?_ | refine Safe.skip ?_ | with_reducible refine thenQ.n ?_ | with_reducible refine blockQ.n ?_)
    refine Safe.region ?_
    refine SafeOps.quiet0 E_good rfl rfl rfl (v := V.agg [V.int .i64 0, V.int .i64 0, V.int .i64 0, V.int .i64 0, V.int .i64 0, V.int .i64 0, V.int .i64 0, V.int .i64 0, V.int .i64 0, V.int .i64 0, V.int .i64 0]) (.fn rfl) ?_
    refine SafeOps.store (z := Obj.box [V.int .i64 0, V.int .i64 0, V.int .i64 0, V.int .i64 0, V.int .i64 0, V.int .i64 0, V.int .i64 0, V.int .i64 0, V.int .i64 0, V.int .i64 0, V.int .i64 0]) E_good rfl rfl rfl rfl rfl rfl rfl (.boxM (c := 11) rfl rfl (Nat.le_of_ble_eq_true rfl) rfl) ?_
    refine SafeOps.quiet0 E_good rfl rfl rfl (v := V.int .i64 1) (.fn rfl) ?_
    refine SafeOps.nil ?_
    repeat (first | refine Safe.seq ?_ | refine Safe.skip ?_ | with_reducible refine thenQ.n ?_ | with_reducible refine blockQ.n ?_)
    refine Safe.ret ?_
    repeat (first | with_reducible refine thenQ.r ?_ | with_reducible refine blockQ.r ?_)
    obtain rfl := Option.some.inj h
    exact retQ.gen (vs := [V.agg [V.int .i64 0, V.int .i64 0, V.int .i64 0, V.int .i64 0, V.int .i64 0, V.int .i64 0, V.int .i64 0, V.int .i64 0, V.int .i64 0, V.int .i64 0, V.int .i64 0], V.int .i64 1]) rfl (.cell (v := V.agg [V.int .i64 0, V.int .i64 0, V.int .i64 0, V.int .i64 0, V.int .i64 0, V.int .i64 0, V.int .i64 0, V.int .i64 0, V.int .i64 0, V.int .i64 0, V.int .i64 0]) rfl rfl (.box rfl rfl) rfl (.tmp (v := V.int .i64 1) rfl .nil)) (.free rfl) (by simp) (.inr rfl)
  · skip
    refine Safe.condN rfl hc13871 ?_
    repeat (first | refine Safe.seq ?_ | refine Safe.skip ?_ | with_reducible refine thenQ.n ?_ | with_reducible refine blockQ.n ?_)
    refine Safe.region ?_
    refine SafeOps.quiet0 E_good rfl rfl rfl (v := V.ptr [2] 0 9) (.fn rfl) ?_
    refine SafeOps.quiet0 E_good rfl rfl rfl (v := V.int .i64 a0_1531.State) (.load rfl rfl (.box rfl rfl) rfl) ?_
    refine SafeOps.quiet0 E_good rfl rfl rfl (v := V.int .i64 a1_1532) (.fn rfl) ?_
    refine SafeOps.quiet0 E_good rfl rfl rfl (v := V.bool (go_ravelref12_Legal a0_1531.State a1_1532)) (.callP rfl rfl (go_ravelref12_Legal_sc a0_1531.State a1_1532 _ rfl) rfl) ?_
    refine SafeOps.quiet0 E_good rfl rfl rfl (v := V.bool (!(go_ravelref12_Legal a0_1531.State a1_1532))) (.fn rfl) ?_
    refine SafeOps.nil ?_
    repeat (first | refine Safe.seq ?_ | refine Safe.skip ?_ | with_reducible refine thenQ.n ?_ | with_reducible refine blockQ.n ?_)
    refine ifG h (fun hc13872 h => ?_) (fun hc13872 h => ?_)
    · skip
      refine Safe.condK rfl hc13872 ?_
      repeat (first | refine Safe.seq ?_ | refine Safe.skip ?_ | with_reducible refine thenQ.n ?_ | with_reducible refine blockQ.n ?_)
      refine Safe.region ?_
      refine SafeOps.quiet0 E_good rfl rfl rfl (v := V.agg [V.int .i64 0, V.int .i64 0, V.int .i64 0, V.int .i64 0, V.int .i64 0, V.int .i64 0, V.int .i64 0, V.int .i64 0, V.int .i64 0, V.int .i64 0, V.int .i64 0]) (.fn rfl) ?_
      refine SafeOps.store (z := Obj.box [V.int .i64 0, V.int .i64 0, V.int .i64 0, V.int .i64 0, V.int .i64 0, V.int .i64 0, V.int .i64 0, V.int .i64 0, V.int .i64 0, V.int .i64 0, V.int .i64 0]) E_good rfl rfl rfl rfl rfl rfl rfl (.boxM (c := 11) rfl rfl (Nat.le_of_ble_eq_true rfl) rfl) ?_
      refine SafeOps.quiet0 E_good rfl rfl rfl (v := V.int .i64 9) (.fn rfl) ?_
      refine SafeOps.nil ?_
      repeat (first | refine Safe.seq ?_ | refine Safe.skip ?_ | with_reducible refine thenQ.n ?_ | with_reducible refine blockQ.n ?_)
      refine Safe.ret ?_
      repeat (first | with_reducible refine thenQ.r ?_ | with_reducible refine blockQ.r ?_)
      obtain rfl := Option.some.inj h
      exact retQ.gen (vs := [V.agg [V.int .i64 0, V.int .i64 0, V.int .i64 0, V.int .i64 0, V.int .i64 0, V.int .i64 0, V.int .i64 0, V.int .i64 0, V.int .i64 0, V.int .i64 0, V.int .i64 0], V.int .i64 9]) rfl (.cell (v := V.agg [V.int .i64 0, V.int .i64 0, V.int .i64 0, V.int .i64 0, V.int .i64 0, V.int .i64 0, V.int .i64 0, V.int .i64 0, V.int .i64 0, V.int .i64 0, V.int .i64 0]) rfl rfl (.box rfl rfl) rfl (.tmp (v := V.int .i64 9) rfl .nil)) (.free rfl) (by simp) (.inr rfl)
    · skip
      refine Safe.condN rfl hc13872 ?_
      repeat (first | refine Safe.seq ?_ | refine Safe.skip ?_ | with_reducible refine thenQ.n ?_ | with_reducible refine blockQ.n ?_)
      refine Safe.region ?_
      refine SafeOps.quiet0 E_good rfl rfl rfl (v := V.int .i64 a1_1532) (.fn rfl) ?_
      refine SafeOps.quiet0 E_good rfl rfl rfl (v := V.ptr [2] 0 9) (.fn rfl) ?_
      refine SafeOps.store (z := Obj.box [V.int .i64 a0_1531.Id, V.int .i64 a0_1531.Tenant, V.int .i64 a0_1531.Prog, V.int .i64 a0_1531.Pc, V.int .i64 a0_1531.Unit, V.int .i64 a0_1531.Keeps.a0, V.int .i64 a0_1531.Keeps.a1, V.int .i64 a0_1531.Keeps.a2, V.int .i64 a0_1531.Keeps.a3, V.int .i64 a1_1532, V.int .i64 a0_1531.Ran]) E_good rfl rfl rfl rfl rfl rfl rfl (.boxM (c := 11) rfl rfl (Nat.le_of_ble_eq_true rfl) rfl) ?_
      refine SafeOps.nil ?_
      repeat (first | refine Safe.seq ?_ | refine Safe.skip ?_ | with_reducible refine thenQ.n ?_ | with_reducible refine blockQ.n ?_)
      refine Safe.region ?_
      refine SafeOps.quiet0 E_good rfl rfl rfl (v := V.agg [V.int .i64 a0_1531.Id, V.int .i64 a0_1531.Tenant, V.int .i64 a0_1531.Prog, V.int .i64 a0_1531.Pc, V.int .i64 a0_1531.Unit, V.int .i64 a0_1531.Keeps.a0, V.int .i64 a0_1531.Keeps.a1, V.int .i64 a0_1531.Keeps.a2, V.int .i64 a0_1531.Keeps.a3, V.int .i64 a1_1532, V.int .i64 a0_1531.Ran]) (.load rfl rfl (.box rfl rfl) rfl) ?_
      refine SafeOps.store (z := Obj.box [V.int .i64 a0_1531.Id, V.int .i64 a0_1531.Tenant, V.int .i64 a0_1531.Prog, V.int .i64 a0_1531.Pc, V.int .i64 a0_1531.Unit, V.int .i64 a0_1531.Keeps.a0, V.int .i64 a0_1531.Keeps.a1, V.int .i64 a0_1531.Keeps.a2, V.int .i64 a0_1531.Keeps.a3, V.int .i64 a1_1532, V.int .i64 a0_1531.Ran]) E_good rfl rfl rfl rfl rfl rfl rfl (.boxM (c := 11) rfl rfl (Nat.le_of_ble_eq_true rfl) rfl) ?_
      refine SafeOps.quiet0 E_good rfl rfl rfl (v := V.int .i64 0) (.fn rfl) ?_
      refine SafeOps.nil ?_
      repeat (first | refine Safe.seq ?_ | refine Safe.skip ?_ | with_reducible refine thenQ.n ?_ | with_reducible refine blockQ.n ?_)
      refine Safe.ret ?_
      repeat (first | with_reducible refine thenQ.r ?_ | with_reducible refine blockQ.r ?_)
      obtain rfl := Option.some.inj h
      exact retQ.gen (vs := [V.agg [V.int .i64 a0_1531.Id, V.int .i64 a0_1531.Tenant, V.int .i64 a0_1531.Prog, V.int .i64 a0_1531.Pc, V.int .i64 a0_1531.Unit, V.int .i64 a0_1531.Keeps.a0, V.int .i64 a0_1531.Keeps.a1, V.int .i64 a0_1531.Keeps.a2, V.int .i64 a0_1531.Keeps.a3, V.int .i64 a1_1532, V.int .i64 a0_1531.Ran], V.int .i64 0]) rfl (.cell (v := V.agg [V.int .i64 a0_1531.Id, V.int .i64 a0_1531.Tenant, V.int .i64 a0_1531.Prog, V.int .i64 a0_1531.Pc, V.int .i64 a0_1531.Unit, V.int .i64 a0_1531.Keeps.a0, V.int .i64 a0_1531.Keeps.a1, V.int .i64 a0_1531.Keeps.a2, V.int .i64 a0_1531.Keeps.a3, V.int .i64 a1_1532, V.int .i64 a0_1531.Ran]) rfl rfl (.box rfl rfl) rfl (.tmp (v := V.int .i64 0) rfl .nil)) (.free rfl) (by simp) (.inr rfl)

noncomputable def go_ravelref12_Keep (a0_13879 : api_Task) (a1_13880 : Int) (a2_13881 : Int) : Option (api_Task × Int) :=
  (go_ravelref12_Check a0_13879).bind fun x_13890 =>
  if ((((x_13890 != 0) || (decide (a1_13880 < 0))) || (decide (a1_13880 > 3))) || (decide (a2_13881 < (-1)))) = true then
    some (api_Task.zero, 1)
  else
    if (a0_13879.State == 7) = true then
      some (api_Task.zero, 9)
    else
      if 0 ≤ a1_13880 ∧ a1_13880 < (4 : Int) then
        some ((api_Task.mk a0_13879.Id a0_13879.Tenant a0_13879.Prog a0_13879.Pc a0_13879.Unit (A4_Int.mk (if a1_13880 = 0 then a2_13881 else a0_13879.Keeps.a0) (if a1_13880 = 1 then a2_13881 else a0_13879.Keeps.a1) (if a1_13880 = 2 then a2_13881 else a0_13879.Keeps.a2) (if a1_13880 = 3 then a2_13881 else a0_13879.Keeps.a3)) a0_13879.State a0_13879.Ran), 0)
      else none

theorem go_ravelref12_Keep_sc (a0_13879 : api_Task) (a1_13880 : Int) (a2_13881 : Int) (r : api_Task × Int) (h : go_ravelref12_Keep a0_13879 a1_13880 a2_13881 = some r) : SC Tryd.prog gl 20 [V.agg [V.int .i64 a0_13879.Id, V.int .i64 a0_13879.Tenant, V.int .i64 a0_13879.Prog, V.int .i64 a0_13879.Pc, V.int .i64 a0_13879.Unit, V.int .i64 a0_13879.Keeps.a0, V.int .i64 a0_13879.Keeps.a1, V.int .i64 a0_13879.Keeps.a2, V.int .i64 a0_13879.Keeps.a3, V.int .i64 a0_13879.State, V.int .i64 a0_13879.Ran], V.int .i64 a1_13880, V.int .i64 a2_13881] (V.tup [V.agg [V.int .i64 r.1.Id, V.int .i64 r.1.Tenant, V.int .i64 r.1.Prog, V.int .i64 r.1.Pc, V.int .i64 r.1.Unit, V.int .i64 r.1.Keeps.a0, V.int .i64 r.1.Keeps.a1, V.int .i64 r.1.Keeps.a2, V.int .i64 r.1.Keeps.a3, V.int .i64 r.1.State, V.int .i64 r.1.Ran], V.int .i64 r.2]) := by
  rw [go_ravelref12_Keep] at h
  refine SC.of E_good Tryd.func20 rfl (fun _ _ => Tryd.call20 _ _) rfl ?_
  repeat (first | refine Safe.seq ?_ | refine Safe.skip ?_ | with_reducible refine thenQ.n ?_ | with_reducible refine blockQ.n ?_)
  refine Safe.region ?_
  refine SafeOps.quiet1 E_good rfl rfl rfl (.box rfl rfl) rfl ?_
  refine SafeOps.quiet1 E_good rfl rfl rfl (.alloc rfl rfl) rfl ?_
  refine SafeOps.quiet0 E_good rfl rfl rfl (v := V.int .i64 0) (.fn rfl) ?_
  refine SafeOps.nil ?_
  repeat (first | refine Safe.seq ?_ | refine Safe.skip ?_ | with_reducible refine thenQ.n ?_ | with_reducible refine blockQ.n ?_)
  refine Safe.region ?_
  refine SafeOps.quiet0 E_good rfl rfl rfl (v := V.agg [V.int .i64 a0_13879.Id, V.int .i64 a0_13879.Tenant, V.int .i64 a0_13879.Prog, V.int .i64 a0_13879.Pc, V.int .i64 a0_13879.Unit, V.int .i64 a0_13879.Keeps.a0, V.int .i64 a0_13879.Keeps.a1, V.int .i64 a0_13879.Keeps.a2, V.int .i64 a0_13879.Keeps.a3, V.int .i64 a0_13879.State, V.int .i64 a0_13879.Ran]) (.load rfl rfl (.box rfl rfl) rfl) ?_
  refine bindG h ?_
  intro x_13890 he13891 h
  refine SafeOps.quiet0 E_good rfl rfl rfl (v := V.int .i64 x_13890) (.callP rfl rfl (go_ravelref12_Check_sc a0_13879 _ he13891) rfl) ?_
  refine SafeOps.quiet0 E_good rfl rfl rfl (v := V.bool (x_13890 != 0)) (.fn rfl) ?_
  refine SafeOps.quiet0 E_good rfl rfl rfl (v := V.bool (x_13890 != 0)) (.fn rfl) ?_
  refine SafeOps.bjoin 3 14 (b := ((x_13890 != 0) || (decide (a1_13880 < 0)))) (b1 := true) (b0 := decide (a1_13880 < 0)) (fun hc13892 K => ?_) (fun hc13892 K => ?_) bj_or ?_
  · skip
    refine SafeOps.skip (congrArg (fun b => some (!b)) hc13892) rfl rfl ?_
    refine SafeOps.skip (congrArg (fun b => some (!b)) hc13892) rfl rfl ?_
    refine SafeOps.quiet0 E_good rfl rfl rfl (v := V.bool true) (.pickK rfl hc13892 rfl) ?_
    exact SafeOps.drop' 3 rfl rfl rfl K
  · skip
    refine SafeOps.quiet0 E_good (congrArg (fun b => some (!b)) hc13892) rfl rfl (v := V.int .i64 a1_13880) (.fn rfl) ?_
    refine SafeOps.quiet0 E_good (congrArg (fun b => some (!b)) hc13892) rfl rfl (v := V.bool (decide (a1_13880 < 0))) (.fn rfl) ?_
    refine SafeOps.quiet0 E_good rfl rfl rfl (v := V.bool (decide (a1_13880 < 0))) (.pickK rfl hc13892 rfl) ?_
    exact SafeOps.drop' 3 rfl rfl rfl K
  refine SafeOps.quiet0 E_good rfl rfl rfl (v := V.bool ((x_13890 != 0) || (decide (a1_13880 < 0)))) (.fn rfl) ?_
  refine SafeOps.bjoin 3 18 (b := (((x_13890 != 0) || (decide (a1_13880 < 0))) || (decide (a1_13880 > 3)))) (b1 := true) (b0 := decide (a1_13880 > 3)) (fun hc13893 K => ?_) (fun hc13893 K => ?_) bj_or ?_
  · skip
    refine SafeOps.skip (congrArg (fun b => some (!b)) hc13893) rfl rfl ?_
    refine SafeOps.skip (congrArg (fun b => some (!b)) hc13893) rfl rfl ?_
    refine SafeOps.quiet0 E_good rfl rfl rfl (v := V.bool true) (.pickK rfl hc13893 rfl) ?_
    exact SafeOps.drop' 3 rfl rfl rfl K
  · skip
    refine SafeOps.quiet0 E_good (congrArg (fun b => some (!b)) hc13893) rfl rfl (v := V.int .i64 a1_13880) (.fn rfl) ?_
    refine SafeOps.quiet0 E_good (congrArg (fun b => some (!b)) hc13893) rfl rfl (v := V.bool (decide (a1_13880 > 3))) (.fn rfl) ?_
    refine SafeOps.quiet0 E_good rfl rfl rfl (v := V.bool (decide (a1_13880 > 3))) (.pickK rfl hc13893 rfl) ?_
    exact SafeOps.drop' 3 rfl rfl rfl K
  refine SafeOps.quiet0 E_good rfl rfl rfl (v := V.bool (((x_13890 != 0) || (decide (a1_13880 < 0))) || (decide (a1_13880 > 3)))) (.fn rfl) ?_
  refine SafeOps.bjoin 3 22 (b := ((((x_13890 != 0) || (decide (a1_13880 < 0))) || (decide (a1_13880 > 3))) || (decide (a2_13881 < (-1))))) (b1 := true) (b0 := decide (a2_13881 < (-1))) (fun hc13894 K => ?_) (fun hc13894 K => ?_) bj_or ?_
  · skip
    refine SafeOps.skip (congrArg (fun b => some (!b)) hc13894) rfl rfl ?_
    refine SafeOps.skip (congrArg (fun b => some (!b)) hc13894) rfl rfl ?_
    refine SafeOps.quiet0 E_good rfl rfl rfl (v := V.bool true) (.pickK rfl hc13894 rfl) ?_
    exact SafeOps.drop' 3 rfl rfl rfl K
  · skip
    refine SafeOps.quiet0 E_good (congrArg (fun b => some (!b)) hc13894) rfl rfl (v := V.int .i64 a2_13881) (.fn rfl) ?_
    refine SafeOps.quiet0 E_good (congrArg (fun b => some (!b)) hc13894) rfl rfl (v := V.bool (decide (a2_13881 < (-1)))) (.fn rfl) ?_
    refine SafeOps.quiet0 E_good rfl rfl rfl (v := V.bool (decide (a2_13881 < (-1)))) (.pickK rfl hc13894 rfl) ?_
    exact SafeOps.drop' 3 rfl rfl rfl K
  refine SafeOps.nil ?_
  repeat (first | refine Safe.seq ?_ | refine Safe.skip ?_ | with_reducible refine thenQ.n ?_ | with_reducible refine blockQ.n ?_)
  refine ifG h (fun hc13895 h => ?_) (fun hc13895 h => ?_)
  · skip
    refine Safe.condK rfl hc13895 ?_
    repeat (first | refine Safe.seq ?_ | refine Safe.skip ?_ | with_reducible refine thenQ.n ?_ | with_reducible refine blockQ.n ?_)
    refine Safe.region ?_
    refine SafeOps.quiet0 E_good rfl rfl rfl (v := V.agg [V.int .i64 0, V.int .i64 0, V.int .i64 0, V.int .i64 0, V.int .i64 0, V.int .i64 0, V.int .i64 0, V.int .i64 0, V.int .i64 0, V.int .i64 0, V.int .i64 0]) (.fn rfl) ?_
    refine SafeOps.store (z := Obj.box [V.int .i64 0, V.int .i64 0, V.int .i64 0, V.int .i64 0, V.int .i64 0, V.int .i64 0, V.int .i64 0, V.int .i64 0, V.int .i64 0, V.int .i64 0, V.int .i64 0]) E_good rfl rfl rfl rfl rfl rfl rfl (.boxM (c := 11) rfl rfl (Nat.le_of_ble_eq_true rfl) rfl) ?_
    refine SafeOps.quiet0 E_good rfl rfl rfl (v := V.int .i64 1) (.fn rfl) ?_
    refine SafeOps.nil ?_
    repeat (first | refine Safe.seq ?_ | refine Safe.skip ?_ | with_reducible refine thenQ.n ?_ | with_reducible refine blockQ.n ?_)
    refine Safe.ret ?_
    repeat (first | with_reducible refine thenQ.r ?_ | with_reducible refine blockQ.r ?_)
    obtain rfl := Option.some.inj h
    exact retQ.gen (vs := [V.agg [V.int .i64 0, V.int .i64 0, V.int .i64 0, V.int .i64 0, V.int .i64 0, V.int .i64 0, V.int .i64 0, V.int .i64 0, V.int .i64 0, V.int .i64 0, V.int .i64 0], V.int .i64 1]) rfl (.cell (v := V.agg [V.int .i64 0, V.int .i64 0, V.int .i64 0, V.int .i64 0, V.int .i64 0, V.int .i64 0, V.int .i64 0, V.int .i64 0, V.int .i64 0, V.int .i64 0, V.int .i64 0]) rfl rfl (.box rfl rfl) rfl (.tmp (v := V.int .i64 1) rfl .nil)) (.free rfl) (by simp) (.inr rfl)
  · skip
    refine Safe.condN rfl hc13895 ?_
    repeat (first | refine Safe.seq ?_ | refine Safe.skip ?_ | with_reducible refine thenQ.n ?_ | with_reducible refine blockQ.n ?_)
    refine Safe.region ?_
    refine SafeOps.quiet0 E_good rfl rfl rfl (v := V.ptr [3] 0 9) (.fn rfl) ?_
    refine SafeOps.quiet0 E_good rfl rfl rfl (v := V.int .i64 a0_13879.State) (.load rfl rfl (.box rfl rfl) rfl) ?_
    refine SafeOps.quiet0 E_good rfl rfl rfl (v := V.bool (a0_13879.State == 7)) (.fn rfl) ?_
    refine SafeOps.nil ?_
    repeat (first | refine Safe.seq ?_ | refine Safe.skip ?_ | with_reducible refine thenQ.n ?_ | with_reducible refine blockQ.n ?_)
    refine ifG h (fun hc13896 h => ?_) (fun hc13896 h => ?_)
    · skip
      refine Safe.condK rfl hc13896 ?_
      repeat (first | refine Safe.seq ?_ | refine Safe.skip ?_ | with_reducible refine thenQ.n ?_ | with_reducible refine blockQ.n ?_)
      refine Safe.region ?_
      refine SafeOps.quiet0 E_good rfl rfl rfl (v := V.agg [V.int .i64 0, V.int .i64 0, V.int .i64 0, V.int .i64 0, V.int .i64 0, V.int .i64 0, V.int .i64 0, V.int .i64 0, V.int .i64 0, V.int .i64 0, V.int .i64 0]) (.fn rfl) ?_
      refine SafeOps.store (z := Obj.box [V.int .i64 0, V.int .i64 0, V.int .i64 0, V.int .i64 0, V.int .i64 0, V.int .i64 0, V.int .i64 0, V.int .i64 0, V.int .i64 0, V.int .i64 0, V.int .i64 0]) E_good rfl rfl rfl rfl rfl rfl rfl (.boxM (c := 11) rfl rfl (Nat.le_of_ble_eq_true rfl) rfl) ?_
      refine SafeOps.quiet0 E_good rfl rfl rfl (v := V.int .i64 9) (.fn rfl) ?_
      refine SafeOps.nil ?_
      repeat (first | refine Safe.seq ?_ | refine Safe.skip ?_ | with_reducible refine thenQ.n ?_ | with_reducible refine blockQ.n ?_)
      refine Safe.ret ?_
      repeat (first | with_reducible refine thenQ.r ?_ | with_reducible refine blockQ.r ?_)
      obtain rfl := Option.some.inj h
      exact retQ.gen (vs := [V.agg [V.int .i64 0, V.int .i64 0, V.int .i64 0, V.int .i64 0, V.int .i64 0, V.int .i64 0, V.int .i64 0, V.int .i64 0, V.int .i64 0, V.int .i64 0, V.int .i64 0], V.int .i64 9]) rfl (.cell (v := V.agg [V.int .i64 0, V.int .i64 0, V.int .i64 0, V.int .i64 0, V.int .i64 0, V.int .i64 0, V.int .i64 0, V.int .i64 0, V.int .i64 0, V.int .i64 0, V.int .i64 0]) rfl rfl (.box rfl rfl) rfl (.tmp (v := V.int .i64 9) rfl .nil)) (.free rfl) (by simp) (.inr rfl)
    · skip
      refine Safe.condN rfl hc13896 ?_
      repeat (first | refine Safe.seq ?_ | refine Safe.skip ?_ | with_reducible refine thenQ.n ?_ | with_reducible refine blockQ.n ?_)
      refine Safe.region ?_
      refine SafeOps.quiet0 E_good rfl rfl rfl (v := V.int .i64 a1_13880) (.fn rfl) ?_
      refine SafeOps.quiet0 E_good rfl rfl rfl (v := V.int .i64 a2_13881) (.fn rfl) ?_
      refine SafeOps.quiet0 E_good rfl rfl rfl (v := V.ptr [3] 0 5) (.fn rfl) ?_
      refine okG h (fun hb13897 h => ?_)
      refine SafeOps.quiet0 E_good rfl rfl rfl (v := V.ptr [3] 0 (5 + Int.toNat a1_13880 * 1)) (.idxArrM rfl rfl rfl rfl rfl rfl 4 rfl hb13897) ?_
      refine SafeOps.store (z := Obj.box [V.int .i64 a0_13879.Id, V.int .i64 a0_13879.Tenant, V.int .i64 a0_13879.Prog, V.int .i64 a0_13879.Pc, V.int .i64 a0_13879.Unit, V.int .i64 (if a1_13880 = 0 then a2_13881 else a0_13879.Keeps.a0), V.int .i64 (if a1_13880 = 1 then a2_13881 else a0_13879.Keeps.a1), V.int .i64 (if a1_13880 = 2 then a2_13881 else a0_13879.Keeps.a2), V.int .i64 (if a1_13880 = 3 then a2_13881 else a0_13879.Keeps.a3), V.int .i64 a0_13879.State, V.int .i64 a0_13879.Ran]) E_good rfl rfl rfl rfl rfl rfl rfl (.boxM (c := 11) rfl rfl (by have := hb13897; show (5 + Int.toNat a1_13880 * 1) + 1 ≤ 11; omega) (by have hq : a1_13880 = 0 ∨ a1_13880 = 1 ∨ a1_13880 = 2 ∨ a1_13880 = 3 := (by omega); rcases hq with hq | hq | hq | hq <;> simp only [hq] <;> rfl)) ?_
      refine SafeOps.nil ?_
      repeat (first | refine Safe.seq ?_ | refine Safe.skip ?_ | with_reducible refine thenQ.n ?_ | with_reducible refine blockQ.n ?_)
      refine Safe.region ?_
      refine SafeOps.quiet0 E_good rfl rfl rfl (v := V.agg [V.int .i64 a0_13879.Id, V.int .i64 a0_13879.Tenant, V.int .i64 a0_13879.Prog, V.int .i64 a0_13879.Pc, V.int .i64 a0_13879.Unit, V.int .i64 (if a1_13880 = 0 then a2_13881 else a0_13879.Keeps.a0), V.int .i64 (if a1_13880 = 1 then a2_13881 else a0_13879.Keeps.a1), V.int .i64 (if a1_13880 = 2 then a2_13881 else a0_13879.Keeps.a2), V.int .i64 (if a1_13880 = 3 then a2_13881 else a0_13879.Keeps.a3), V.int .i64 a0_13879.State, V.int .i64 a0_13879.Ran]) (.load rfl rfl (.box rfl rfl) rfl) ?_
      refine SafeOps.store (z := Obj.box [V.int .i64 a0_13879.Id, V.int .i64 a0_13879.Tenant, V.int .i64 a0_13879.Prog, V.int .i64 a0_13879.Pc, V.int .i64 a0_13879.Unit, V.int .i64 (if a1_13880 = 0 then a2_13881 else a0_13879.Keeps.a0), V.int .i64 (if a1_13880 = 1 then a2_13881 else a0_13879.Keeps.a1), V.int .i64 (if a1_13880 = 2 then a2_13881 else a0_13879.Keeps.a2), V.int .i64 (if a1_13880 = 3 then a2_13881 else a0_13879.Keeps.a3), V.int .i64 a0_13879.State, V.int .i64 a0_13879.Ran]) E_good rfl rfl rfl rfl rfl rfl rfl (.boxM (c := 11) rfl rfl (Nat.le_of_ble_eq_true rfl) rfl) ?_
      refine SafeOps.quiet0 E_good rfl rfl rfl (v := V.int .i64 0) (.fn rfl) ?_
      refine SafeOps.nil ?_
      repeat (first | refine Safe.seq ?_ | refine Safe.skip ?_ | with_reducible refine thenQ.n ?_ | with_reducible refine blockQ.n ?_)
      refine Safe.ret ?_
      repeat (first | with_reducible refine thenQ.r ?_ | with_reducible refine blockQ.r ?_)
      obtain rfl := Option.some.inj h
      exact retQ.gen (vs := [V.agg [V.int .i64 a0_13879.Id, V.int .i64 a0_13879.Tenant, V.int .i64 a0_13879.Prog, V.int .i64 a0_13879.Pc, V.int .i64 a0_13879.Unit, V.int .i64 (if a1_13880 = 0 then a2_13881 else a0_13879.Keeps.a0), V.int .i64 (if a1_13880 = 1 then a2_13881 else a0_13879.Keeps.a1), V.int .i64 (if a1_13880 = 2 then a2_13881 else a0_13879.Keeps.a2), V.int .i64 (if a1_13880 = 3 then a2_13881 else a0_13879.Keeps.a3), V.int .i64 a0_13879.State, V.int .i64 a0_13879.Ran], V.int .i64 0]) rfl (.cell (v := V.agg [V.int .i64 a0_13879.Id, V.int .i64 a0_13879.Tenant, V.int .i64 a0_13879.Prog, V.int .i64 a0_13879.Pc, V.int .i64 a0_13879.Unit, V.int .i64 (if a1_13880 = 0 then a2_13881 else a0_13879.Keeps.a0), V.int .i64 (if a1_13880 = 1 then a2_13881 else a0_13879.Keeps.a1), V.int .i64 (if a1_13880 = 2 then a2_13881 else a0_13879.Keeps.a2), V.int .i64 (if a1_13880 = 3 then a2_13881 else a0_13879.Keeps.a3), V.int .i64 a0_13879.State, V.int .i64 a0_13879.Ran]) rfl rfl (.box rfl rfl) rfl (.tmp (v := V.int .i64 0) rfl .nil)) (.free rfl) (by simp) (.inr rfl)

noncomputable def go_ravelref12_New_s2 (a0_13904 : Int) (a1_13905 : Int) (a2_13906 : Int) : (Int × Int × Int × Int × Int) → Option ((Int × Int × Int × Int × Int) ⊕ (api_Task × Int))
  | (v14_13981, v85_13982, v86_13983, v87_13984, v88_13985) =>
    if (decide (v14_13981 < 4)) = true then
      if 0 ≤ v14_13981 ∧ v14_13981 < (4 : Int) then
        nextO (IntKind.i64.wrap (v14_13981 + 1), (if v14_13981 = 0 then -1 else v85_13982), (if v14_13981 = 1 then -1 else v86_13983), (if v14_13981 = 2 then -1 else v87_13984), (if v14_13981 = 3 then -1 else v88_13985))
      else none
    else
      inrO (
        (go_ravelref12_Check (api_Task.mk a0_13904 a1_13905 a2_13906 0 0 (A4_Int.mk v85_13982 v86_13983 v87_13984 v88_13985) 1 0)).bind fun x_13989 =>
        if (x_13989 != 0) = true then
          some (api_Task.zero, 1)
        else
          some ((api_Task.mk a0_13904 a1_13905 a2_13906 0 0 (A4_Int.mk v85_13982 v86_13983 v87_13984 v88_13985) 1 0), 0))

noncomputable def go_ravelref12_New (a0_13904 : Int) (a1_13905 : Int) (a2_13906 : Int) : Option (api_Task × Int) :=
  whileO (go_ravelref12_New_s2 a0_13904 a1_13905 a2_13906) (0, 0, 0, 0, 0)

theorem go_ravelref12_New_sc (a0_13904 : Int) (a1_13905 : Int) (a2_13906 : Int) (r : api_Task × Int) (h : go_ravelref12_New a0_13904 a1_13905 a2_13906 = some r) : SC Tryd.prog gl 21 [V.int .i64 a0_13904, V.int .i64 a1_13905, V.int .i64 a2_13906] (V.tup [V.agg [V.int .i64 r.1.Id, V.int .i64 r.1.Tenant, V.int .i64 r.1.Prog, V.int .i64 r.1.Pc, V.int .i64 r.1.Unit, V.int .i64 r.1.Keeps.a0, V.int .i64 r.1.Keeps.a1, V.int .i64 r.1.Keeps.a2, V.int .i64 r.1.Keeps.a3, V.int .i64 r.1.State, V.int .i64 r.1.Ran], V.int .i64 r.2]) := by
  rw [go_ravelref12_New] at h
  refine SC.of E_good Tryd.func21 rfl (fun _ _ => Tryd.call21 _ _) rfl ?_
  repeat (first | refine Safe.seq ?_ | refine Safe.skip ?_ | with_reducible refine thenQ.n ?_ | with_reducible refine blockQ.n ?_)
  refine Safe.region ?_
  refine SafeOps.quiet1 E_good rfl rfl rfl (.alloc rfl rfl) rfl ?_
  refine SafeOps.quiet0 E_good rfl rfl rfl (v := V.int .i64 0) (.fn rfl) ?_
  refine SafeOps.nil ?_
  repeat (first | refine Safe.seq ?_ | refine Safe.skip ?_ | with_reducible refine thenQ.n ?_ | with_reducible refine blockQ.n ?_)
  refine Safe.region ?_
  refine SafeOps.quiet0 E_good rfl rfl rfl (v := V.int .i64 a0_13904) (.fn rfl) ?_
  refine SafeOps.quiet0 E_good rfl rfl rfl (v := V.int .i64 a1_13905) (.fn rfl) ?_
  refine SafeOps.quiet0 E_good rfl rfl rfl (v := V.int .i64 a2_13906) (.fn rfl) ?_
  refine SafeOps.quiet0 E_good rfl rfl rfl (v := V.agg [V.int .i64 a0_13904, V.int .i64 a1_13905, V.int .i64 a2_13906, V.int .i64 0, V.int .i64 0, V.int .i64 0, V.int .i64 0, V.int .i64 0, V.int .i64 0, V.int .i64 1, V.int .i64 0]) (.fn rfl) ?_
  refine SafeOps.quiet1 E_good rfl rfl rfl (.alloc rfl rfl) rfl ?_
  refine SafeOps.store (z := Obj.box [V.int .i64 a0_13904, V.int .i64 a1_13905, V.int .i64 a2_13906, V.int .i64 0, V.int .i64 0, V.int .i64 0, V.int .i64 0, V.int .i64 0, V.int .i64 0, V.int .i64 1, V.int .i64 0]) E_good rfl rfl rfl rfl rfl rfl rfl (.boxM (c := 11) rfl rfl (Nat.le_of_ble_eq_true rfl) rfl) ?_
  refine SafeOps.nil ?_
  repeat (first | refine Safe.seq ?_ | refine Safe.skip ?_ | with_reducible refine thenQ.n ?_ | with_reducible refine blockQ.n ?_)
  refine Safe.region ?_
  refine SafeOps.quiet0 E_good rfl rfl rfl (v := V.int .i64 0) (.fn rfl) ?_
  refine SafeOps.nil ?_
  repeat (first | refine Safe.seq ?_ | refine Safe.skip ?_ | with_reducible refine thenQ.n ?_ | with_reducible refine blockQ.n ?_)
  refine Safe.block ?_
  repeat (first | refine Safe.seq ?_ | refine Safe.skip ?_ | with_reducible refine thenQ.n ?_ | with_reducible refine blockQ.n ?_)
  refine Safe.loopW (fun ((v14_13981, v85_13982, v86_13983, v87_13984, v88_13985) : Int × Int × Int × Int × Int) => ⟨Tryd.f21.ntmps, [(6, V.ptr [6] 0 0), (8, V.ptr [8] 0 0), (14, V.int .i64 v14_13981)], [([6], Obj.box [V.int .i64 0, V.int .i64 0, V.int .i64 0, V.int .i64 0, V.int .i64 0, V.int .i64 0, V.int .i64 0, V.int .i64 0, V.int .i64 0, V.int .i64 0, V.int .i64 0]), ([8], Obj.box [V.int .i64 a0_13904, V.int .i64 a1_13905, V.int .i64 a2_13906, V.int .i64 0, V.int .i64 0, V.int .i64 v85_13982, V.int .i64 v86_13983, V.int .i64 v87_13984, V.int .i64 v88_13985, V.int .i64 1, V.int .i64 0])], [], []⟩) h (.cov ⟨rfl, rfl, (upT_cons (.refl _) (upT_cons (.refl _) (upT_cons (.refl _) upT_nil))), (upOb_cons rfl (.refl _) (upOb_cons rfl (.refl _) upOb_nil)), upOut_nil, rfl⟩) ?_
  rintro ⟨v14_13981, v85_13982, v86_13983, v87_13984, v88_13985⟩ ohr13986 h hr13986
  replace h : go_ravelref12_New_s2 a0_13904 a1_13905 a2_13906 (v14_13981, v85_13982, v86_13983, v87_13984, v88_13985) = some ohr13986 := h
  rw [go_ravelref12_New_s2] at h
  repeat (first | refine Safe.seq ?_ | refine Safe.skip ?_ | with_reducible refine thenQ.n ?_ | with_reducible refine blockQ.n ?_)
  refine Safe.region ?_
  refine SafeOps.quiet0 E_good rfl rfl rfl (v := V.bool (decide (v14_13981 < 4))) (.fn rfl) ?_
  refine SafeOps.nil ?_
  repeat (first | refine Safe.seq ?_ | refine Safe.skip ?_ | with_reducible refine thenQ.n ?_ | with_reducible refine blockQ.n ?_)
  refine ifG h (fun hc13987 h => ?_) (fun hc13987 h => ?_)
  · skip
    refine Safe.condK rfl hc13987 ?_
    repeat (first | refine Safe.seq ?_ | refine Safe.skip ?_ | with_reducible refine thenQ.n ?_ | with_reducible refine blockQ.n ?_)
    refine Safe.block ?_
    repeat (first | refine Safe.seq ?_ | refine Safe.skip ?_ | with_reducible refine thenQ.n ?_ | with_reducible refine blockQ.n ?_)
    refine Safe.region ?_
    refine SafeOps.quiet0 E_good rfl rfl rfl (v := V.int .i64 v14_13981) (.fn rfl) ?_
    refine SafeOps.quiet0 E_good rfl rfl rfl (v := V.int .i64 v14_13981) (.fn rfl) ?_
    refine SafeOps.nil ?_
    repeat (first | refine Safe.seq ?_ | refine Safe.skip ?_ | with_reducible refine thenQ.n ?_ | with_reducible refine blockQ.n ?_)
    refine Safe.region ?_
    refine SafeOps.quiet0 E_good rfl rfl rfl (v := V.int .i64 v14_13981) (.fn rfl) ?_
    refine SafeOps.quiet0 E_good rfl rfl rfl (v := V.ptr [8] 0 5) (.fn rfl) ?_
    refine okG h (fun hb13988 h => ?_)
    refine SafeOps.quiet0 E_good rfl rfl rfl (v := V.ptr [8] 0 (5 + Int.toNat v14_13981 * 1)) (.idxArrM rfl rfl rfl rfl rfl rfl 4 rfl hb13988) ?_
    refine SafeOps.store (z := Obj.box [V.int .i64 a0_13904, V.int .i64 a1_13905, V.int .i64 a2_13906, V.int .i64 0, V.int .i64 0, V.int .i64 (if v14_13981 = 0 then -1 else v85_13982), V.int .i64 (if v14_13981 = 1 then -1 else v86_13983), V.int .i64 (if v14_13981 = 2 then -1 else v87_13984), V.int .i64 (if v14_13981 = 3 then -1 else v88_13985), V.int .i64 1, V.int .i64 0]) E_good rfl rfl rfl rfl rfl rfl rfl (.boxM (c := 11) rfl rfl (by have := hb13988; show (5 + Int.toNat v14_13981 * 1) + 1 ≤ 11; omega) (by have hq : v14_13981 = 0 ∨ v14_13981 = 1 ∨ v14_13981 = 2 ∨ v14_13981 = 3 := (by omega); rcases hq with hq | hq | hq | hq <;> simp only [hq] <;> rfl)) ?_
    refine SafeOps.nil ?_
    repeat (first | refine Safe.seq ?_ | refine Safe.skip ?_ | with_reducible refine thenQ.n ?_ | with_reducible refine blockQ.n ?_)
    refine Safe.region ?_
    refine SafeOps.quiet0 E_good rfl rfl rfl (v := V.int .i64 (IntKind.i64.wrap (v14_13981 + 1))) (.fn rfl) ?_
    refine SafeOps.quiet0 E_good rfl rfl rfl (v := V.int .i64 (IntKind.i64.wrap (v14_13981 + 1))) (.fn rfl) ?_
    refine SafeOps.nil ?_
    repeat (first | refine Safe.seq ?_ | refine Safe.skip ?_ | with_reducible refine thenQ.n ?_ | with_reducible refine blockQ.n ?_)
    exact ⟨_, next_out h, (.cov ⟨rfl, rfl, (upT_cons (.refl _) (upT_cons (.refl _) (upT_cons (.refl _) upT_nil))), (upOb_cons rfl (.refl _) (upOb_cons rfl (.refl _) upOb_nil)), upOut_nil, rfl⟩)⟩
  · skip
    refine Safe.condN rfl hc13987 ?_
    repeat (first | refine Safe.seq ?_ | refine Safe.skip ?_ | with_reducible refine thenQ.n ?_ | with_reducible refine blockQ.n ?_)
    refine Safe.exit ?_
    repeat (first | with_reducible refine thenQ.e ?_ | with_reducible refine blockQ.x rfl ?_ | with_reducible refine blockQ.y rfl ?_)
    replace h := inr_out h hr13986
    repeat (first | refine Safe.seq ?_ | refine Safe.skip ?_ | with_reducible refine thenQ.n ?_ | with_reducible refine blockQ.n ?_)
    refine Safe.region ?_
    refine SafeOps.quiet0 E_good rfl rfl rfl (v := V.agg [V.int .i64 a0_13904, V.int .i64 a1_13905, V.int .i64 a2_13906, V.int .i64 0, V.int .i64 0, V.int .i64 v85_13982, V.int .i64 v86_13983, V.int .i64 v87_13984, V.int .i64 v88_13985, V.int .i64 1, V.int .i64 0]) (.load rfl rfl (.box rfl rfl) rfl) ?_
    refine bindG h ?_
    intro x_13989 he13990 h
    refine SafeOps.quiet0 E_good rfl rfl rfl (v := V.int .i64 x_13989) (.callP rfl rfl (go_ravelref12_Check_sc (api_Task.mk a0_13904 a1_13905 a2_13906 0 0 (A4_Int.mk v85_13982 v86_13983 v87_13984 v88_13985) 1 0) _ he13990) rfl) ?_
    refine SafeOps.quiet0 E_good rfl rfl rfl (v := V.bool (x_13989 != 0)) (.fn rfl) ?_
    refine SafeOps.nil ?_
    repeat (first | refine Safe.seq ?_ | refine Safe.skip ?_ | with_reducible refine thenQ.n ?_ | with_reducible refine blockQ.n ?_)
    refine ifG h (fun hc13991 h => ?_) (fun hc13991 h => ?_)
    · skip
      refine Safe.condK rfl hc13991 ?_
      repeat (first | refine Safe.seq ?_ | refine Safe.skip ?_ | with_reducible refine thenQ.n ?_ | with_reducible refine blockQ.n ?_)
      refine Safe.region ?_
      refine SafeOps.quiet0 E_good rfl rfl rfl (v := V.agg [V.int .i64 0, V.int .i64 0, V.int .i64 0, V.int .i64 0, V.int .i64 0, V.int .i64 0, V.int .i64 0, V.int .i64 0, V.int .i64 0, V.int .i64 0, V.int .i64 0]) (.fn rfl) ?_
      refine SafeOps.store (z := Obj.box [V.int .i64 0, V.int .i64 0, V.int .i64 0, V.int .i64 0, V.int .i64 0, V.int .i64 0, V.int .i64 0, V.int .i64 0, V.int .i64 0, V.int .i64 0, V.int .i64 0]) E_good rfl rfl rfl rfl rfl rfl rfl (.boxM (c := 11) rfl rfl (Nat.le_of_ble_eq_true rfl) rfl) ?_
      refine SafeOps.quiet0 E_good rfl rfl rfl (v := V.int .i64 1) (.fn rfl) ?_
      refine SafeOps.nil ?_
      repeat (first | refine Safe.seq ?_ | refine Safe.skip ?_ | with_reducible refine thenQ.n ?_ | with_reducible refine blockQ.n ?_)
      refine Safe.ret ?_
      repeat (first | with_reducible refine thenQ.r ?_ | with_reducible refine blockQ.r ?_)
      obtain rfl := Option.some.inj h
      exact retQ.gen (vs := [V.agg [V.int .i64 0, V.int .i64 0, V.int .i64 0, V.int .i64 0, V.int .i64 0, V.int .i64 0, V.int .i64 0, V.int .i64 0, V.int .i64 0, V.int .i64 0, V.int .i64 0], V.int .i64 1]) rfl (.cell (v := V.agg [V.int .i64 0, V.int .i64 0, V.int .i64 0, V.int .i64 0, V.int .i64 0, V.int .i64 0, V.int .i64 0, V.int .i64 0, V.int .i64 0, V.int .i64 0, V.int .i64 0]) rfl rfl (.box rfl rfl) rfl (.tmp (v := V.int .i64 1) rfl .nil)) (.free rfl) (by simp) (.inr rfl)
    · skip
      refine Safe.condN rfl hc13991 ?_
      repeat (first | refine Safe.seq ?_ | refine Safe.skip ?_ | with_reducible refine thenQ.n ?_ | with_reducible refine blockQ.n ?_)
      refine Safe.region ?_
      refine SafeOps.quiet0 E_good rfl rfl rfl (v := V.agg [V.int .i64 a0_13904, V.int .i64 a1_13905, V.int .i64 a2_13906, V.int .i64 0, V.int .i64 0, V.int .i64 v85_13982, V.int .i64 v86_13983, V.int .i64 v87_13984, V.int .i64 v88_13985, V.int .i64 1, V.int .i64 0]) (.load rfl rfl (.box rfl rfl) rfl) ?_
      refine SafeOps.store (z := Obj.box [V.int .i64 a0_13904, V.int .i64 a1_13905, V.int .i64 a2_13906, V.int .i64 0, V.int .i64 0, V.int .i64 v85_13982, V.int .i64 v86_13983, V.int .i64 v87_13984, V.int .i64 v88_13985, V.int .i64 1, V.int .i64 0]) E_good rfl rfl rfl rfl rfl rfl rfl (.boxM (c := 11) rfl rfl (Nat.le_of_ble_eq_true rfl) rfl) ?_
      refine SafeOps.quiet0 E_good rfl rfl rfl (v := V.int .i64 0) (.fn rfl) ?_
      refine SafeOps.nil ?_
      repeat (first | refine Safe.seq ?_ | refine Safe.skip ?_ | with_reducible refine thenQ.n ?_ | with_reducible refine blockQ.n ?_)
      refine Safe.ret ?_
      repeat (first | with_reducible refine thenQ.r ?_ | with_reducible refine blockQ.r ?_)
      obtain rfl := Option.some.inj h
      exact retQ.gen (vs := [V.agg [V.int .i64 a0_13904, V.int .i64 a1_13905, V.int .i64 a2_13906, V.int .i64 0, V.int .i64 0, V.int .i64 v85_13982, V.int .i64 v86_13983, V.int .i64 v87_13984, V.int .i64 v88_13985, V.int .i64 1, V.int .i64 0], V.int .i64 0]) rfl (.cell (v := V.agg [V.int .i64 a0_13904, V.int .i64 a1_13905, V.int .i64 a2_13906, V.int .i64 0, V.int .i64 0, V.int .i64 v85_13982, V.int .i64 v86_13983, V.int .i64 v87_13984, V.int .i64 v88_13985, V.int .i64 1, V.int .i64 0]) rfl rfl (.box rfl rfl) rfl (.tmp (v := V.int .i64 0) rfl .nil)) (.free rfl) (by simp) (.inr rfl)

noncomputable def go_ravellaw12_LifeMoves (a0_1519 : api_Task) (a1_1520 : Int) (a2_1521 : Int) (a3_1522 : Int) (a4_1523 : Int) (a5_1524 : Int) : Option Bool :=
  (go_ravellaw12_live).bind fun x_14006 =>
  if (!x_14006) = true then
    some false
  else
    (go_life_Move a0_1519 a1_1520).bind fun (x_14009, x_14010) =>
    (go_ravelref12_Move a0_1519 a1_1520).bind fun (x_14012, x_14013) =>
    (go_life_Keep a0_1519 a2_1521 a3_1522).bind fun (x_14015, x_14016) =>
    (go_ravelref12_Keep a0_1519 a2_1521 a3_1522).bind fun (x_14018, x_14019) =>
    (go_life_New a3_1522 a4_1523 a5_1524).bind fun (x_14021, x_14022) =>
    (go_ravelref12_New a3_1522 a4_1523 a5_1524).bind fun (x_14024, x_14025) =>
    if x_14006 = true then
      if (api_Task.beq x_14009 x_14012) = true then
        if (x_14010 == x_14013) = true then
          if (api_Task.beq x_14015 x_14018) = true then
            if (x_14016 == x_14019) = true then
              if (api_Task.beq x_14021 x_14024) = true then
                if (x_14022 == x_14025) = true then
                  (go_life_Check a0_1519).bind fun x_14034 =>
                  (go_ravelref12_Check a0_1519).bind fun x_14036 =>
                  some (x_14034 == x_14036)
                else
                  some false
              else
                some false
            else
              some false
          else
            some false
        else
          some false
      else
        some false
    else
      some false

theorem go_ravellaw12_LifeMoves_sc (a0_1519 : api_Task) (a1_1520 : Int) (a2_1521 : Int) (a3_1522 : Int) (a4_1523 : Int) (a5_1524 : Int) (r : Bool) (h : go_ravellaw12_LifeMoves a0_1519 a1_1520 a2_1521 a3_1522 a4_1523 a5_1524 = some r) : SC Tryd.prog gl 8 [V.agg [V.int .i64 a0_1519.Id, V.int .i64 a0_1519.Tenant, V.int .i64 a0_1519.Prog, V.int .i64 a0_1519.Pc, V.int .i64 a0_1519.Unit, V.int .i64 a0_1519.Keeps.a0, V.int .i64 a0_1519.Keeps.a1, V.int .i64 a0_1519.Keeps.a2, V.int .i64 a0_1519.Keeps.a3, V.int .i64 a0_1519.State, V.int .i64 a0_1519.Ran], V.int .i64 a1_1520, V.int .i64 a2_1521, V.int .i64 a3_1522, V.int .i64 a4_1523, V.int .i64 a5_1524] (V.bool r) := by
  rw [go_ravellaw12_LifeMoves] at h
  refine SC.of E_good Tryd.func8 rfl (fun _ _ => Tryd.call8 _ _) rfl ?_
  repeat (first | refine Safe.seq ?_ | refine Safe.skip ?_ | with_reducible refine thenQ.n ?_ | with_reducible refine blockQ.n ?_)
  refine Safe.region ?_
  refine SafeOps.quiet1 E_good rfl rfl rfl (.box rfl rfl) rfl ?_
  refine SafeOps.quiet0 E_good rfl rfl rfl (v := V.bool false) (.fn rfl) ?_
  refine SafeOps.nil ?_
  repeat (first | refine Safe.seq ?_ | refine Safe.skip ?_ | with_reducible refine thenQ.n ?_ | with_reducible refine blockQ.n ?_)
  refine Safe.region ?_
  refine bindG h ?_
  intro x_14006 he14007 h
  refine SafeOps.quiet0 E_good rfl rfl rfl (v := V.bool x_14006) (.callP rfl rfl (go_ravellaw12_live_sc  _ he14007) rfl) ?_
  refine SafeOps.quiet0 E_good rfl rfl rfl (v := V.bool x_14006) (.fn rfl) ?_
  refine SafeOps.nil ?_
  repeat (first | refine Safe.seq ?_ | refine Safe.skip ?_ | with_reducible refine thenQ.n ?_ | with_reducible refine blockQ.n ?_)
  refine Safe.region ?_
  refine SafeOps.quiet0 E_good rfl rfl rfl (v := V.bool x_14006) (.fn rfl) ?_
  refine SafeOps.quiet0 E_good rfl rfl rfl (v := V.bool (!x_14006)) (.fn rfl) ?_
  refine SafeOps.nil ?_
  repeat (first | refine Safe.seq ?_ | refine Safe.skip ?_ | with_reducible refine thenQ.n ?_ | with_reducible refine blockQ.n ?_)
  refine ifG h (fun hc14008 h => ?_) (fun hc14008 h => ?_)
  · skip
    refine Safe.condK rfl hc14008 ?_
    repeat (first | refine Safe.seq ?_ | refine Safe.skip ?_ | with_reducible refine thenQ.n ?_ | with_reducible refine blockQ.n ?_)
    refine Safe.region ?_
    refine SafeOps.quiet0 E_good rfl rfl rfl (v := V.bool false) (.fn rfl) ?_
    refine SafeOps.nil ?_
    repeat (first | refine Safe.seq ?_ | refine Safe.skip ?_ | with_reducible refine thenQ.n ?_ | with_reducible refine blockQ.n ?_)
    refine Safe.ret ?_
    repeat (first | with_reducible refine thenQ.r ?_ | with_reducible refine blockQ.r ?_)
    obtain rfl := Option.some.inj h
    exact retQ.gen (vs := [V.bool false]) rfl (.tmp (v := V.bool false) rfl .nil) (.free rfl) (by simp) (.inr rfl)
  · skip
    refine Safe.condN rfl hc14008 ?_
    repeat (first | refine Safe.seq ?_ | refine Safe.skip ?_ | with_reducible refine thenQ.n ?_ | with_reducible refine blockQ.n ?_)
    refine Safe.region ?_
    refine SafeOps.quiet0 E_good rfl rfl rfl (v := V.agg [V.int .i64 a0_1519.Id, V.int .i64 a0_1519.Tenant, V.int .i64 a0_1519.Prog, V.int .i64 a0_1519.Pc, V.int .i64 a0_1519.Unit, V.int .i64 a0_1519.Keeps.a0, V.int .i64 a0_1519.Keeps.a1, V.int .i64 a0_1519.Keeps.a2, V.int .i64 a0_1519.Keeps.a3, V.int .i64 a0_1519.State, V.int .i64 a0_1519.Ran]) (.load rfl rfl (.box rfl rfl) rfl) ?_
    refine SafeOps.quiet0 E_good rfl rfl rfl (v := V.int .i64 a1_1520) (.fn rfl) ?_
    refine bindG h ?_
    rintro ⟨x_14009, x_14010⟩ he14011 h
    refine SafeOps.quiet0 E_good rfl rfl rfl (v := V.tup [V.agg [V.int .i64 x_14009.Id, V.int .i64 x_14009.Tenant, V.int .i64 x_14009.Prog, V.int .i64 x_14009.Pc, V.int .i64 x_14009.Unit, V.int .i64 x_14009.Keeps.a0, V.int .i64 x_14009.Keeps.a1, V.int .i64 x_14009.Keeps.a2, V.int .i64 x_14009.Keeps.a3, V.int .i64 x_14009.State, V.int .i64 x_14009.Ran], V.int .i64 x_14010]) (.callP rfl rfl (go_life_Move_sc a0_1519 a1_1520 _ he14011) rfl) ?_
    refine SafeOps.quiet0 E_good rfl rfl rfl (v := V.tup [V.agg [V.int .i64 x_14009.Id, V.int .i64 x_14009.Tenant, V.int .i64 x_14009.Prog, V.int .i64 x_14009.Pc, V.int .i64 x_14009.Unit, V.int .i64 x_14009.Keeps.a0, V.int .i64 x_14009.Keeps.a1, V.int .i64 x_14009.Keeps.a2, V.int .i64 x_14009.Keeps.a3, V.int .i64 x_14009.State, V.int .i64 x_14009.Ran], V.int .i64 x_14010]) (.fn rfl) ?_
    refine SafeOps.quiet0 E_good rfl rfl rfl (v := V.agg [V.int .i64 x_14009.Id, V.int .i64 x_14009.Tenant, V.int .i64 x_14009.Prog, V.int .i64 x_14009.Pc, V.int .i64 x_14009.Unit, V.int .i64 x_14009.Keeps.a0, V.int .i64 x_14009.Keeps.a1, V.int .i64 x_14009.Keeps.a2, V.int .i64 x_14009.Keeps.a3, V.int .i64 x_14009.State, V.int .i64 x_14009.Ran]) (.fn rfl) ?_
    refine SafeOps.quiet0 E_good rfl rfl rfl (v := V.int .i64 x_14010) (.fn rfl) ?_
    refine SafeOps.quiet1 E_good rfl rfl rfl (.alloc rfl rfl) rfl ?_
    refine SafeOps.store (z := Obj.box [V.int .i64 x_14009.Id, V.int .i64 x_14009.Tenant, V.int .i64 x_14009.Prog, V.int .i64 x_14009.Pc, V.int .i64 x_14009.Unit, V.int .i64 x_14009.Keeps.a0, V.int .i64 x_14009.Keeps.a1, V.int .i64 x_14009.Keeps.a2, V.int .i64 x_14009.Keeps.a3, V.int .i64 x_14009.State, V.int .i64 x_14009.Ran]) E_good rfl rfl rfl rfl rfl rfl rfl (.boxM (c := 11) rfl rfl (Nat.le_of_ble_eq_true rfl) rfl) ?_
    refine SafeOps.quiet0 E_good rfl rfl rfl (v := V.int .i64 x_14010) (.fn rfl) ?_
    refine SafeOps.nil ?_
    repeat (first | refine Safe.seq ?_ | refine Safe.skip ?_ | with_reducible refine thenQ.n ?_ | with_reducible refine blockQ.n ?_)
    refine Safe.region ?_
    refine SafeOps.quiet0 E_good rfl rfl rfl (v := V.agg [V.int .i64 a0_1519.Id, V.int .i64 a0_1519.Tenant, V.int .i64 a0_1519.Prog, V.int .i64 a0_1519.Pc, V.int .i64 a0_1519.Unit, V.int .i64 a0_1519.Keeps.a0, V.int .i64 a0_1519.Keeps.a1, V.int .i64 a0_1519.Keeps.a2, V.int .i64 a0_1519.Keeps.a3, V.int .i64 a0_1519.State, V.int .i64 a0_1519.Ran]) (.load rfl rfl (.box rfl rfl) rfl) ?_
    refine SafeOps.quiet0 E_good rfl rfl rfl (v := V.int .i64 a1_1520) (.fn rfl) ?_
    refine bindG h ?_
    rintro ⟨x_14012, x_14013⟩ he14014 h
    refine SafeOps.quiet0 E_good rfl rfl rfl (v := V.tup [V.agg [V.int .i64 x_14012.Id, V.int .i64 x_14012.Tenant, V.int .i64 x_14012.Prog, V.int .i64 x_14012.Pc, V.int .i64 x_14012.Unit, V.int .i64 x_14012.Keeps.a0, V.int .i64 x_14012.Keeps.a1, V.int .i64 x_14012.Keeps.a2, V.int .i64 x_14012.Keeps.a3, V.int .i64 x_14012.State, V.int .i64 x_14012.Ran], V.int .i64 x_14013]) (.callP rfl rfl (go_ravelref12_Move_sc a0_1519 a1_1520 _ he14014) rfl) ?_
    refine SafeOps.quiet0 E_good rfl rfl rfl (v := V.tup [V.agg [V.int .i64 x_14012.Id, V.int .i64 x_14012.Tenant, V.int .i64 x_14012.Prog, V.int .i64 x_14012.Pc, V.int .i64 x_14012.Unit, V.int .i64 x_14012.Keeps.a0, V.int .i64 x_14012.Keeps.a1, V.int .i64 x_14012.Keeps.a2, V.int .i64 x_14012.Keeps.a3, V.int .i64 x_14012.State, V.int .i64 x_14012.Ran], V.int .i64 x_14013]) (.fn rfl) ?_
    refine SafeOps.quiet0 E_good rfl rfl rfl (v := V.agg [V.int .i64 x_14012.Id, V.int .i64 x_14012.Tenant, V.int .i64 x_14012.Prog, V.int .i64 x_14012.Pc, V.int .i64 x_14012.Unit, V.int .i64 x_14012.Keeps.a0, V.int .i64 x_14012.Keeps.a1, V.int .i64 x_14012.Keeps.a2, V.int .i64 x_14012.Keeps.a3, V.int .i64 x_14012.State, V.int .i64 x_14012.Ran]) (.fn rfl) ?_
    refine SafeOps.quiet0 E_good rfl rfl rfl (v := V.int .i64 x_14013) (.fn rfl) ?_
    refine SafeOps.quiet1 E_good rfl rfl rfl (.alloc rfl rfl) rfl ?_
    refine SafeOps.store (z := Obj.box [V.int .i64 x_14012.Id, V.int .i64 x_14012.Tenant, V.int .i64 x_14012.Prog, V.int .i64 x_14012.Pc, V.int .i64 x_14012.Unit, V.int .i64 x_14012.Keeps.a0, V.int .i64 x_14012.Keeps.a1, V.int .i64 x_14012.Keeps.a2, V.int .i64 x_14012.Keeps.a3, V.int .i64 x_14012.State, V.int .i64 x_14012.Ran]) E_good rfl rfl rfl rfl rfl rfl rfl (.boxM (c := 11) rfl rfl (Nat.le_of_ble_eq_true rfl) rfl) ?_
    refine SafeOps.quiet0 E_good rfl rfl rfl (v := V.int .i64 x_14013) (.fn rfl) ?_
    refine SafeOps.nil ?_
    repeat (first | refine Safe.seq ?_ | refine Safe.skip ?_ | with_reducible refine thenQ.n ?_ | with_reducible refine blockQ.n ?_)
    refine Safe.region ?_
    refine SafeOps.quiet0 E_good rfl rfl rfl (v := V.agg [V.int .i64 a0_1519.Id, V.int .i64 a0_1519.Tenant, V.int .i64 a0_1519.Prog, V.int .i64 a0_1519.Pc, V.int .i64 a0_1519.Unit, V.int .i64 a0_1519.Keeps.a0, V.int .i64 a0_1519.Keeps.a1, V.int .i64 a0_1519.Keeps.a2, V.int .i64 a0_1519.Keeps.a3, V.int .i64 a0_1519.State, V.int .i64 a0_1519.Ran]) (.load rfl rfl (.box rfl rfl) rfl) ?_
    refine SafeOps.quiet0 E_good rfl rfl rfl (v := V.int .i64 a2_1521) (.fn rfl) ?_
    refine SafeOps.quiet0 E_good rfl rfl rfl (v := V.int .i64 a3_1522) (.fn rfl) ?_
    refine bindG h ?_
    rintro ⟨x_14015, x_14016⟩ he14017 h
    refine SafeOps.quiet0 E_good rfl rfl rfl (v := V.tup [V.agg [V.int .i64 x_14015.Id, V.int .i64 x_14015.Tenant, V.int .i64 x_14015.Prog, V.int .i64 x_14015.Pc, V.int .i64 x_14015.Unit, V.int .i64 x_14015.Keeps.a0, V.int .i64 x_14015.Keeps.a1, V.int .i64 x_14015.Keeps.a2, V.int .i64 x_14015.Keeps.a3, V.int .i64 x_14015.State, V.int .i64 x_14015.Ran], V.int .i64 x_14016]) (.callP rfl rfl (go_life_Keep_sc a0_1519 a2_1521 a3_1522 _ he14017) rfl) ?_
    refine SafeOps.quiet0 E_good rfl rfl rfl (v := V.tup [V.agg [V.int .i64 x_14015.Id, V.int .i64 x_14015.Tenant, V.int .i64 x_14015.Prog, V.int .i64 x_14015.Pc, V.int .i64 x_14015.Unit, V.int .i64 x_14015.Keeps.a0, V.int .i64 x_14015.Keeps.a1, V.int .i64 x_14015.Keeps.a2, V.int .i64 x_14015.Keeps.a3, V.int .i64 x_14015.State, V.int .i64 x_14015.Ran], V.int .i64 x_14016]) (.fn rfl) ?_
    refine SafeOps.quiet0 E_good rfl rfl rfl (v := V.agg [V.int .i64 x_14015.Id, V.int .i64 x_14015.Tenant, V.int .i64 x_14015.Prog, V.int .i64 x_14015.Pc, V.int .i64 x_14015.Unit, V.int .i64 x_14015.Keeps.a0, V.int .i64 x_14015.Keeps.a1, V.int .i64 x_14015.Keeps.a2, V.int .i64 x_14015.Keeps.a3, V.int .i64 x_14015.State, V.int .i64 x_14015.Ran]) (.fn rfl) ?_
    refine SafeOps.quiet0 E_good rfl rfl rfl (v := V.int .i64 x_14016) (.fn rfl) ?_
    refine SafeOps.quiet1 E_good rfl rfl rfl (.alloc rfl rfl) rfl ?_
    refine SafeOps.store (z := Obj.box [V.int .i64 x_14015.Id, V.int .i64 x_14015.Tenant, V.int .i64 x_14015.Prog, V.int .i64 x_14015.Pc, V.int .i64 x_14015.Unit, V.int .i64 x_14015.Keeps.a0, V.int .i64 x_14015.Keeps.a1, V.int .i64 x_14015.Keeps.a2, V.int .i64 x_14015.Keeps.a3, V.int .i64 x_14015.State, V.int .i64 x_14015.Ran]) E_good rfl rfl rfl rfl rfl rfl rfl (.boxM (c := 11) rfl rfl (Nat.le_of_ble_eq_true rfl) rfl) ?_
    refine SafeOps.quiet0 E_good rfl rfl rfl (v := V.int .i64 x_14016) (.fn rfl) ?_
    refine SafeOps.nil ?_
    repeat (first | refine Safe.seq ?_ | refine Safe.skip ?_ | with_reducible refine thenQ.n ?_ | with_reducible refine blockQ.n ?_)
    refine Safe.region ?_
    refine SafeOps.quiet0 E_good rfl rfl rfl (v := V.agg [V.int .i64 a0_1519.Id, V.int .i64 a0_1519.Tenant, V.int .i64 a0_1519.Prog, V.int .i64 a0_1519.Pc, V.int .i64 a0_1519.Unit, V.int .i64 a0_1519.Keeps.a0, V.int .i64 a0_1519.Keeps.a1, V.int .i64 a0_1519.Keeps.a2, V.int .i64 a0_1519.Keeps.a3, V.int .i64 a0_1519.State, V.int .i64 a0_1519.Ran]) (.load rfl rfl (.box rfl rfl) rfl) ?_
    refine SafeOps.quiet0 E_good rfl rfl rfl (v := V.int .i64 a2_1521) (.fn rfl) ?_
    refine SafeOps.quiet0 E_good rfl rfl rfl (v := V.int .i64 a3_1522) (.fn rfl) ?_
    refine bindG h ?_
    rintro ⟨x_14018, x_14019⟩ he14020 h
    refine SafeOps.quiet0 E_good rfl rfl rfl (v := V.tup [V.agg [V.int .i64 x_14018.Id, V.int .i64 x_14018.Tenant, V.int .i64 x_14018.Prog, V.int .i64 x_14018.Pc, V.int .i64 x_14018.Unit, V.int .i64 x_14018.Keeps.a0, V.int .i64 x_14018.Keeps.a1, V.int .i64 x_14018.Keeps.a2, V.int .i64 x_14018.Keeps.a3, V.int .i64 x_14018.State, V.int .i64 x_14018.Ran], V.int .i64 x_14019]) (.callP rfl rfl (go_ravelref12_Keep_sc a0_1519 a2_1521 a3_1522 _ he14020) rfl) ?_
    refine SafeOps.quiet0 E_good rfl rfl rfl (v := V.tup [V.agg [V.int .i64 x_14018.Id, V.int .i64 x_14018.Tenant, V.int .i64 x_14018.Prog, V.int .i64 x_14018.Pc, V.int .i64 x_14018.Unit, V.int .i64 x_14018.Keeps.a0, V.int .i64 x_14018.Keeps.a1, V.int .i64 x_14018.Keeps.a2, V.int .i64 x_14018.Keeps.a3, V.int .i64 x_14018.State, V.int .i64 x_14018.Ran], V.int .i64 x_14019]) (.fn rfl) ?_
    refine SafeOps.quiet0 E_good rfl rfl rfl (v := V.agg [V.int .i64 x_14018.Id, V.int .i64 x_14018.Tenant, V.int .i64 x_14018.Prog, V.int .i64 x_14018.Pc, V.int .i64 x_14018.Unit, V.int .i64 x_14018.Keeps.a0, V.int .i64 x_14018.Keeps.a1, V.int .i64 x_14018.Keeps.a2, V.int .i64 x_14018.Keeps.a3, V.int .i64 x_14018.State, V.int .i64 x_14018.Ran]) (.fn rfl) ?_
    refine SafeOps.quiet0 E_good rfl rfl rfl (v := V.int .i64 x_14019) (.fn rfl) ?_
    refine SafeOps.quiet1 E_good rfl rfl rfl (.alloc rfl rfl) rfl ?_
    refine SafeOps.store (z := Obj.box [V.int .i64 x_14018.Id, V.int .i64 x_14018.Tenant, V.int .i64 x_14018.Prog, V.int .i64 x_14018.Pc, V.int .i64 x_14018.Unit, V.int .i64 x_14018.Keeps.a0, V.int .i64 x_14018.Keeps.a1, V.int .i64 x_14018.Keeps.a2, V.int .i64 x_14018.Keeps.a3, V.int .i64 x_14018.State, V.int .i64 x_14018.Ran]) E_good rfl rfl rfl rfl rfl rfl rfl (.boxM (c := 11) rfl rfl (Nat.le_of_ble_eq_true rfl) rfl) ?_
    refine SafeOps.quiet0 E_good rfl rfl rfl (v := V.int .i64 x_14019) (.fn rfl) ?_
    refine SafeOps.nil ?_
    repeat (first | refine Safe.seq ?_ | refine Safe.skip ?_ | with_reducible refine thenQ.n ?_ | with_reducible refine blockQ.n ?_)
    refine Safe.region ?_
    refine SafeOps.quiet0 E_good rfl rfl rfl (v := V.int .i64 a3_1522) (.fn rfl) ?_
    refine SafeOps.quiet0 E_good rfl rfl rfl (v := V.int .i64 a4_1523) (.fn rfl) ?_
    refine SafeOps.quiet0 E_good rfl rfl rfl (v := V.int .i64 a5_1524) (.fn rfl) ?_
    refine bindG h ?_
    rintro ⟨x_14021, x_14022⟩ he14023 h
    refine SafeOps.quiet0 E_good rfl rfl rfl (v := V.tup [V.agg [V.int .i64 x_14021.Id, V.int .i64 x_14021.Tenant, V.int .i64 x_14021.Prog, V.int .i64 x_14021.Pc, V.int .i64 x_14021.Unit, V.int .i64 x_14021.Keeps.a0, V.int .i64 x_14021.Keeps.a1, V.int .i64 x_14021.Keeps.a2, V.int .i64 x_14021.Keeps.a3, V.int .i64 x_14021.State, V.int .i64 x_14021.Ran], V.int .i64 x_14022]) (.callP rfl rfl (go_life_New_sc a3_1522 a4_1523 a5_1524 _ he14023) rfl) ?_
    refine SafeOps.quiet0 E_good rfl rfl rfl (v := V.tup [V.agg [V.int .i64 x_14021.Id, V.int .i64 x_14021.Tenant, V.int .i64 x_14021.Prog, V.int .i64 x_14021.Pc, V.int .i64 x_14021.Unit, V.int .i64 x_14021.Keeps.a0, V.int .i64 x_14021.Keeps.a1, V.int .i64 x_14021.Keeps.a2, V.int .i64 x_14021.Keeps.a3, V.int .i64 x_14021.State, V.int .i64 x_14021.Ran], V.int .i64 x_14022]) (.fn rfl) ?_
    refine SafeOps.quiet0 E_good rfl rfl rfl (v := V.agg [V.int .i64 x_14021.Id, V.int .i64 x_14021.Tenant, V.int .i64 x_14021.Prog, V.int .i64 x_14021.Pc, V.int .i64 x_14021.Unit, V.int .i64 x_14021.Keeps.a0, V.int .i64 x_14021.Keeps.a1, V.int .i64 x_14021.Keeps.a2, V.int .i64 x_14021.Keeps.a3, V.int .i64 x_14021.State, V.int .i64 x_14021.Ran]) (.fn rfl) ?_
    refine SafeOps.quiet0 E_good rfl rfl rfl (v := V.int .i64 x_14022) (.fn rfl) ?_
    refine SafeOps.quiet1 E_good rfl rfl rfl (.alloc rfl rfl) rfl ?_
    refine SafeOps.store (z := Obj.box [V.int .i64 x_14021.Id, V.int .i64 x_14021.Tenant, V.int .i64 x_14021.Prog, V.int .i64 x_14021.Pc, V.int .i64 x_14021.Unit, V.int .i64 x_14021.Keeps.a0, V.int .i64 x_14021.Keeps.a1, V.int .i64 x_14021.Keeps.a2, V.int .i64 x_14021.Keeps.a3, V.int .i64 x_14021.State, V.int .i64 x_14021.Ran]) E_good rfl rfl rfl rfl rfl rfl rfl (.boxM (c := 11) rfl rfl (Nat.le_of_ble_eq_true rfl) rfl) ?_
    refine SafeOps.quiet0 E_good rfl rfl rfl (v := V.int .i64 x_14022) (.fn rfl) ?_
    refine SafeOps.nil ?_
    repeat (first | refine Safe.seq ?_ | refine Safe.skip ?_ | with_reducible refine thenQ.n ?_ | with_reducible refine blockQ.n ?_)
    refine Safe.region ?_
    refine SafeOps.quiet0 E_good rfl rfl rfl (v := V.int .i64 a3_1522) (.fn rfl) ?_
    refine SafeOps.quiet0 E_good rfl rfl rfl (v := V.int .i64 a4_1523) (.fn rfl) ?_
    refine SafeOps.quiet0 E_good rfl rfl rfl (v := V.int .i64 a5_1524) (.fn rfl) ?_
    refine bindG h ?_
    rintro ⟨x_14024, x_14025⟩ he14026 h
    refine SafeOps.quiet0 E_good rfl rfl rfl (v := V.tup [V.agg [V.int .i64 x_14024.Id, V.int .i64 x_14024.Tenant, V.int .i64 x_14024.Prog, V.int .i64 x_14024.Pc, V.int .i64 x_14024.Unit, V.int .i64 x_14024.Keeps.a0, V.int .i64 x_14024.Keeps.a1, V.int .i64 x_14024.Keeps.a2, V.int .i64 x_14024.Keeps.a3, V.int .i64 x_14024.State, V.int .i64 x_14024.Ran], V.int .i64 x_14025]) (.callP rfl rfl (go_ravelref12_New_sc a3_1522 a4_1523 a5_1524 _ he14026) rfl) ?_
    refine SafeOps.quiet0 E_good rfl rfl rfl (v := V.tup [V.agg [V.int .i64 x_14024.Id, V.int .i64 x_14024.Tenant, V.int .i64 x_14024.Prog, V.int .i64 x_14024.Pc, V.int .i64 x_14024.Unit, V.int .i64 x_14024.Keeps.a0, V.int .i64 x_14024.Keeps.a1, V.int .i64 x_14024.Keeps.a2, V.int .i64 x_14024.Keeps.a3, V.int .i64 x_14024.State, V.int .i64 x_14024.Ran], V.int .i64 x_14025]) (.fn rfl) ?_
    refine SafeOps.quiet0 E_good rfl rfl rfl (v := V.agg [V.int .i64 x_14024.Id, V.int .i64 x_14024.Tenant, V.int .i64 x_14024.Prog, V.int .i64 x_14024.Pc, V.int .i64 x_14024.Unit, V.int .i64 x_14024.Keeps.a0, V.int .i64 x_14024.Keeps.a1, V.int .i64 x_14024.Keeps.a2, V.int .i64 x_14024.Keeps.a3, V.int .i64 x_14024.State, V.int .i64 x_14024.Ran]) (.fn rfl) ?_
    refine SafeOps.quiet0 E_good rfl rfl rfl (v := V.int .i64 x_14025) (.fn rfl) ?_
    refine SafeOps.quiet1 E_good rfl rfl rfl (.alloc rfl rfl) rfl ?_
    refine SafeOps.store (z := Obj.box [V.int .i64 x_14024.Id, V.int .i64 x_14024.Tenant, V.int .i64 x_14024.Prog, V.int .i64 x_14024.Pc, V.int .i64 x_14024.Unit, V.int .i64 x_14024.Keeps.a0, V.int .i64 x_14024.Keeps.a1, V.int .i64 x_14024.Keeps.a2, V.int .i64 x_14024.Keeps.a3, V.int .i64 x_14024.State, V.int .i64 x_14024.Ran]) E_good rfl rfl rfl rfl rfl rfl rfl (.boxM (c := 11) rfl rfl (Nat.le_of_ble_eq_true rfl) rfl) ?_
    refine SafeOps.quiet0 E_good rfl rfl rfl (v := V.int .i64 x_14025) (.fn rfl) ?_
    refine SafeOps.nil ?_
    repeat (first | refine Safe.seq ?_ | refine Safe.skip ?_ | with_reducible refine thenQ.n ?_ | with_reducible refine blockQ.n ?_)
    refine Safe.regionD (n := 39) E_good mixed rfl ?_
    refine DAny.take (i := 0) rfl (by kernel_rfl) (by kernel_rfl) rfl rfl rfl (v := V.bool x_14006) (.fn rfl) ?_
    refine DAny.take (i := 1) rfl (by kernel_rfl) (by kernel_rfl) rfl rfl rfl (v := V.bool x_14006) (.fn rfl) ?_
    refine ifG h (fun hc14027 h => ?_) (fun hc14027 h => ?_)
    · skip
      refine DAny.take (i := 2) rfl (by kernel_rfl) (by kernel_rfl) (congrArg some hc14027) rfl rfl (v := V.agg [V.int .i64 x_14009.Id, V.int .i64 x_14009.Tenant, V.int .i64 x_14009.Prog, V.int .i64 x_14009.Pc, V.int .i64 x_14009.Unit, V.int .i64 x_14009.Keeps.a0, V.int .i64 x_14009.Keeps.a1, V.int .i64 x_14009.Keeps.a2, V.int .i64 x_14009.Keeps.a3, V.int .i64 x_14009.State, V.int .i64 x_14009.Ran]) (.load rfl rfl (.box rfl rfl) rfl) ?_
      refine DAny.take (i := 3) rfl (by kernel_rfl) (by kernel_rfl) (congrArg some hc14027) rfl rfl (v := V.agg [V.int .i64 x_14012.Id, V.int .i64 x_14012.Tenant, V.int .i64 x_14012.Prog, V.int .i64 x_14012.Pc, V.int .i64 x_14012.Unit, V.int .i64 x_14012.Keeps.a0, V.int .i64 x_14012.Keeps.a1, V.int .i64 x_14012.Keeps.a2, V.int .i64 x_14012.Keeps.a3, V.int .i64 x_14012.State, V.int .i64 x_14012.Ran]) (.load rfl rfl (.box rfl rfl) rfl) ?_
      refine DAny.take (i := 4) rfl (by kernel_rfl) (by kernel_rfl) (congrArg some hc14027) rfl rfl (v := V.bool (api_Task.beq x_14009 x_14012)) (.eqA rfl rfl rfl rfl okT33 rfl) ?_
      refine DAny.take (i := 5) rfl (by kernel_rfl) (by kernel_rfl) rfl rfl rfl (v := V.bool (api_Task.beq x_14009 x_14012)) (.pickK rfl hc14027 rfl) ?_
      refine DAny.take (i := 6) rfl (by kernel_rfl) (by kernel_rfl) rfl rfl rfl (v := V.bool (api_Task.beq x_14009 x_14012)) (.fn rfl) ?_
      refine ifG h (fun hc14028 h => ?_) (fun hc14028 h => ?_)
      · skip
        refine DAny.take (i := 7) rfl (by kernel_rfl) (by kernel_rfl) (congrArg some hc14028) rfl rfl (v := V.int .i64 x_14010) (.fn rfl) ?_
        refine DAny.take (i := 8) rfl (by kernel_rfl) (by kernel_rfl) (congrArg some hc14028) rfl rfl (v := V.int .i64 x_14013) (.fn rfl) ?_
        refine DAny.take (i := 9) rfl (by kernel_rfl) (by kernel_rfl) (congrArg some hc14028) rfl rfl (v := V.bool (x_14010 == x_14013)) (.fn rfl) ?_
        refine DAny.take (i := 10) rfl (by kernel_rfl) (by kernel_rfl) rfl rfl rfl (v := V.bool (x_14010 == x_14013)) (.pickK rfl hc14028 rfl) ?_
        refine DAny.take (i := 11) rfl (by kernel_rfl) (by kernel_rfl) rfl rfl rfl (v := V.bool (x_14010 == x_14013)) (.fn rfl) ?_
        refine ifG h (fun hc14029 h => ?_) (fun hc14029 h => ?_)
        · skip
          refine DAny.take (i := 12) rfl (by kernel_rfl) (by kernel_rfl) (congrArg some hc14029) rfl rfl (v := V.agg [V.int .i64 x_14015.Id, V.int .i64 x_14015.Tenant, V.int .i64 x_14015.Prog, V.int .i64 x_14015.Pc, V.int .i64 x_14015.Unit, V.int .i64 x_14015.Keeps.a0, V.int .i64 x_14015.Keeps.a1, V.int .i64 x_14015.Keeps.a2, V.int .i64 x_14015.Keeps.a3, V.int .i64 x_14015.State, V.int .i64 x_14015.Ran]) (.load rfl rfl (.box rfl rfl) rfl) ?_
          refine DAny.take (i := 13) rfl (by kernel_rfl) (by kernel_rfl) (congrArg some hc14029) rfl rfl (v := V.agg [V.int .i64 x_14018.Id, V.int .i64 x_14018.Tenant, V.int .i64 x_14018.Prog, V.int .i64 x_14018.Pc, V.int .i64 x_14018.Unit, V.int .i64 x_14018.Keeps.a0, V.int .i64 x_14018.Keeps.a1, V.int .i64 x_14018.Keeps.a2, V.int .i64 x_14018.Keeps.a3, V.int .i64 x_14018.State, V.int .i64 x_14018.Ran]) (.load rfl rfl (.box rfl rfl) rfl) ?_
          refine DAny.take (i := 14) rfl (by kernel_rfl) (by kernel_rfl) (congrArg some hc14029) rfl rfl (v := V.bool (api_Task.beq x_14015 x_14018)) (.eqA rfl rfl rfl rfl okT33 rfl) ?_
          refine DAny.take (i := 15) rfl (by kernel_rfl) (by kernel_rfl) rfl rfl rfl (v := V.bool (api_Task.beq x_14015 x_14018)) (.pickK rfl hc14029 rfl) ?_
          refine DAny.take (i := 16) rfl (by kernel_rfl) (by kernel_rfl) rfl rfl rfl (v := V.bool (api_Task.beq x_14015 x_14018)) (.fn rfl) ?_
          refine ifG h (fun hc14030 h => ?_) (fun hc14030 h => ?_)
          · skip
            refine DAny.take (i := 17) rfl (by kernel_rfl) (by kernel_rfl) (congrArg some hc14030) rfl rfl (v := V.int .i64 x_14016) (.fn rfl) ?_
            refine DAny.take (i := 18) rfl (by kernel_rfl) (by kernel_rfl) (congrArg some hc14030) rfl rfl (v := V.int .i64 x_14019) (.fn rfl) ?_
            refine DAny.take (i := 19) rfl (by kernel_rfl) (by kernel_rfl) (congrArg some hc14030) rfl rfl (v := V.bool (x_14016 == x_14019)) (.fn rfl) ?_
            refine DAny.take (i := 20) rfl (by kernel_rfl) (by kernel_rfl) rfl rfl rfl (v := V.bool (x_14016 == x_14019)) (.pickK rfl hc14030 rfl) ?_
            refine DAny.take (i := 21) rfl (by kernel_rfl) (by kernel_rfl) rfl rfl rfl (v := V.bool (x_14016 == x_14019)) (.fn rfl) ?_
            refine ifG h (fun hc14031 h => ?_) (fun hc14031 h => ?_)
            · skip
              refine DAny.take (i := 22) rfl (by kernel_rfl) (by kernel_rfl) (congrArg some hc14031) rfl rfl (v := V.agg [V.int .i64 x_14021.Id, V.int .i64 x_14021.Tenant, V.int .i64 x_14021.Prog, V.int .i64 x_14021.Pc, V.int .i64 x_14021.Unit, V.int .i64 x_14021.Keeps.a0, V.int .i64 x_14021.Keeps.a1, V.int .i64 x_14021.Keeps.a2, V.int .i64 x_14021.Keeps.a3, V.int .i64 x_14021.State, V.int .i64 x_14021.Ran]) (.load rfl rfl (.box rfl rfl) rfl) ?_
              refine DAny.take (i := 23) rfl (by kernel_rfl) (by kernel_rfl) (congrArg some hc14031) rfl rfl (v := V.agg [V.int .i64 x_14024.Id, V.int .i64 x_14024.Tenant, V.int .i64 x_14024.Prog, V.int .i64 x_14024.Pc, V.int .i64 x_14024.Unit, V.int .i64 x_14024.Keeps.a0, V.int .i64 x_14024.Keeps.a1, V.int .i64 x_14024.Keeps.a2, V.int .i64 x_14024.Keeps.a3, V.int .i64 x_14024.State, V.int .i64 x_14024.Ran]) (.load rfl rfl (.box rfl rfl) rfl) ?_
              refine DAny.take (i := 24) rfl (by kernel_rfl) (by kernel_rfl) (congrArg some hc14031) rfl rfl (v := V.bool (api_Task.beq x_14021 x_14024)) (.eqA rfl rfl rfl rfl okT33 rfl) ?_
              refine DAny.take (i := 25) rfl (by kernel_rfl) (by kernel_rfl) rfl rfl rfl (v := V.bool (api_Task.beq x_14021 x_14024)) (.pickK rfl hc14031 rfl) ?_
              refine DAny.take (i := 26) rfl (by kernel_rfl) (by kernel_rfl) rfl rfl rfl (v := V.bool (api_Task.beq x_14021 x_14024)) (.fn rfl) ?_
              refine ifG h (fun hc14032 h => ?_) (fun hc14032 h => ?_)
              · skip
                refine DAny.take (i := 27) rfl (by kernel_rfl) (by kernel_rfl) (congrArg some hc14032) rfl rfl (v := V.int .i64 x_14022) (.fn rfl) ?_
                refine DAny.take (i := 28) rfl (by kernel_rfl) (by kernel_rfl) (congrArg some hc14032) rfl rfl (v := V.int .i64 x_14025) (.fn rfl) ?_
                refine DAny.take (i := 29) rfl (by kernel_rfl) (by kernel_rfl) (congrArg some hc14032) rfl rfl (v := V.bool (x_14022 == x_14025)) (.fn rfl) ?_
                refine DAny.take (i := 30) rfl (by kernel_rfl) (by kernel_rfl) rfl rfl rfl (v := V.bool (x_14022 == x_14025)) (.pickK rfl hc14032 rfl) ?_
                refine DAny.take (i := 31) rfl (by kernel_rfl) (by kernel_rfl) rfl rfl rfl (v := V.bool (x_14022 == x_14025)) (.fn rfl) ?_
                refine ifG h (fun hc14033 h => ?_) (fun hc14033 h => ?_)
                · skip
                  refine DAny.take (i := 32) rfl (by kernel_rfl) (by kernel_rfl) (congrArg some hc14033) rfl rfl (v := V.agg [V.int .i64 a0_1519.Id, V.int .i64 a0_1519.Tenant, V.int .i64 a0_1519.Prog, V.int .i64 a0_1519.Pc, V.int .i64 a0_1519.Unit, V.int .i64 a0_1519.Keeps.a0, V.int .i64 a0_1519.Keeps.a1, V.int .i64 a0_1519.Keeps.a2, V.int .i64 a0_1519.Keeps.a3, V.int .i64 a0_1519.State, V.int .i64 a0_1519.Ran]) (.load rfl rfl (.box rfl rfl) rfl) ?_
                  refine bindG h ?_
                  intro x_14034 he14035 h
                  refine DAny.take (i := 33) rfl (by kernel_rfl) (by kernel_rfl) (congrArg some hc14033) rfl rfl (v := V.int .i64 x_14034) (.callP rfl rfl (go_life_Check_sc a0_1519 _ he14035) rfl) ?_
                  refine DAny.take (i := 34) rfl (by kernel_rfl) (by kernel_rfl) (congrArg some hc14033) rfl rfl (v := V.agg [V.int .i64 a0_1519.Id, V.int .i64 a0_1519.Tenant, V.int .i64 a0_1519.Prog, V.int .i64 a0_1519.Pc, V.int .i64 a0_1519.Unit, V.int .i64 a0_1519.Keeps.a0, V.int .i64 a0_1519.Keeps.a1, V.int .i64 a0_1519.Keeps.a2, V.int .i64 a0_1519.Keeps.a3, V.int .i64 a0_1519.State, V.int .i64 a0_1519.Ran]) (.load rfl rfl (.box rfl rfl) rfl) ?_
                  refine bindG h ?_
                  intro x_14036 he14037 h
                  refine DAny.take (i := 35) rfl (by kernel_rfl) (by kernel_rfl) (congrArg some hc14033) rfl rfl (v := V.int .i64 x_14036) (.callP rfl rfl (go_ravelref12_Check_sc a0_1519 _ he14037) rfl) ?_
                  refine DAny.take (i := 36) rfl (by kernel_rfl) (by kernel_rfl) (congrArg some hc14033) rfl rfl (v := V.bool (x_14034 == x_14036)) (.fn rfl) ?_
                  refine DAny.take (i := 37) rfl (by kernel_rfl) (by kernel_rfl) rfl rfl rfl (v := V.bool (x_14034 == x_14036)) (.pickK rfl hc14033 rfl) ?_
                  refine DAny.take (i := 38) rfl (by kernel_rfl) (by kernel_rfl) rfl rfl rfl (v := V.bool (x_14034 == x_14036)) (.fn rfl) ?_
                  refine DAny.nil (by kernel_rfl) ?_
                  repeat (first | refine Safe.seq ?_ | refine Safe.skip ?_ | with_reducible refine thenQ.n ?_ | with_reducible refine blockQ.n ?_)
                  refine Safe.ret ?_
                  repeat (first | with_reducible refine thenQ.r ?_ | with_reducible refine blockQ.r ?_)
                  obtain rfl := Option.some.inj h
                  exact retQ.gen (vs := [V.bool (x_14034 == x_14036)]) rfl (.tmp (v := V.bool (x_14034 == x_14036)) rfl .nil) (.free rfl) (by simp) (.inr rfl)
                · skip
                  refine DAny.takeSkip (i := 32) rfl (by kernel_rfl) (by kernel_rfl) (congrArg some hc14033) rfl rfl ?_
                  refine DAny.takeSkip (i := 33) rfl (by kernel_rfl) (by kernel_rfl) (congrArg some hc14033) rfl rfl ?_
                  refine DAny.takeSkip (i := 34) rfl (by kernel_rfl) (by kernel_rfl) (congrArg some hc14033) rfl rfl ?_
                  refine DAny.takeSkip (i := 35) rfl (by kernel_rfl) (by kernel_rfl) (congrArg some hc14033) rfl rfl ?_
                  refine DAny.takeSkip (i := 36) rfl (by kernel_rfl) (by kernel_rfl) (congrArg some hc14033) rfl rfl ?_
                  refine DAny.take (i := 37) rfl (by kernel_rfl) (by kernel_rfl) rfl rfl rfl (v := V.bool false) (.pickK rfl hc14033 rfl) ?_
                  refine DAny.take (i := 38) rfl (by kernel_rfl) (by kernel_rfl) rfl rfl rfl (v := V.bool false) (.fn rfl) ?_
                  refine DAny.nil (by kernel_rfl) ?_
                  repeat (first | refine Safe.seq ?_ | refine Safe.skip ?_ | with_reducible refine thenQ.n ?_ | with_reducible refine blockQ.n ?_)
                  refine Safe.ret ?_
                  repeat (first | with_reducible refine thenQ.r ?_ | with_reducible refine blockQ.r ?_)
                  obtain rfl := Option.some.inj h
                  exact retQ.gen (vs := [V.bool false]) rfl (.tmp (v := V.bool false) rfl .nil) (.free rfl) (by simp) (.inr rfl)
              · skip
                refine DAny.takeSkip (i := 27) rfl (by kernel_rfl) (by kernel_rfl) (congrArg some hc14032) rfl rfl ?_
                refine DAny.takeSkip (i := 28) rfl (by kernel_rfl) (by kernel_rfl) (congrArg some hc14032) rfl rfl ?_
                refine DAny.takeSkip (i := 29) rfl (by kernel_rfl) (by kernel_rfl) (congrArg some hc14032) rfl rfl ?_
                refine DAny.take (i := 30) rfl (by kernel_rfl) (by kernel_rfl) rfl rfl rfl (v := V.bool false) (.pickK rfl hc14032 rfl) ?_
                refine DAny.take (i := 31) rfl (by kernel_rfl) (by kernel_rfl) rfl rfl rfl (v := V.bool false) (.fn rfl) ?_
                refine DAny.takeSkip (i := 32) rfl (by kernel_rfl) (by kernel_rfl) rfl rfl rfl ?_
                refine DAny.takeSkip (i := 33) rfl (by kernel_rfl) (by kernel_rfl) rfl rfl rfl ?_
                refine DAny.takeSkip (i := 34) rfl (by kernel_rfl) (by kernel_rfl) rfl rfl rfl ?_
                refine DAny.takeSkip (i := 35) rfl (by kernel_rfl) (by kernel_rfl) rfl rfl rfl ?_
                refine DAny.takeSkip (i := 36) rfl (by kernel_rfl) (by kernel_rfl) rfl rfl rfl ?_
                refine DAny.take (i := 37) rfl (by kernel_rfl) (by kernel_rfl) rfl rfl rfl (v := V.bool false) (.pickK rfl rfl rfl) ?_
                refine DAny.take (i := 38) rfl (by kernel_rfl) (by kernel_rfl) rfl rfl rfl (v := V.bool false) (.fn rfl) ?_
                refine DAny.nil (by kernel_rfl) ?_
                repeat (first | refine Safe.seq ?_ | refine Safe.skip ?_ | with_reducible refine thenQ.n ?_ | with_reducible refine blockQ.n ?_)
                refine Safe.ret ?_
                repeat (first | with_reducible refine thenQ.r ?_ | with_reducible refine blockQ.r ?_)
                obtain rfl := Option.some.inj h
                exact retQ.gen (vs := [V.bool false]) rfl (.tmp (v := V.bool false) rfl .nil) (.free rfl) (by simp) (.inr rfl)
            · skip
              refine DAny.takeSkip (i := 22) rfl (by kernel_rfl) (by kernel_rfl) (congrArg some hc14031) rfl rfl ?_
              refine DAny.takeSkip (i := 23) rfl (by kernel_rfl) (by kernel_rfl) (congrArg some hc14031) rfl rfl ?_
              refine DAny.takeSkip (i := 24) rfl (by kernel_rfl) (by kernel_rfl) (congrArg some hc14031) rfl rfl ?_
              refine DAny.take (i := 25) rfl (by kernel_rfl) (by kernel_rfl) rfl rfl rfl (v := V.bool false) (.pickK rfl hc14031 rfl) ?_
              refine DAny.take (i := 26) rfl (by kernel_rfl) (by kernel_rfl) rfl rfl rfl (v := V.bool false) (.fn rfl) ?_
              refine DAny.takeSkip (i := 27) rfl (by kernel_rfl) (by kernel_rfl) rfl rfl rfl ?_
              refine DAny.takeSkip (i := 28) rfl (by kernel_rfl) (by kernel_rfl) rfl rfl rfl ?_
              refine DAny.takeSkip (i := 29) rfl (by kernel_rfl) (by kernel_rfl) rfl rfl rfl ?_
              refine DAny.take (i := 30) rfl (by kernel_rfl) (by kernel_rfl) rfl rfl rfl (v := V.bool false) (.pickK rfl rfl rfl) ?_
              refine DAny.take (i := 31) rfl (by kernel_rfl) (by kernel_rfl) rfl rfl rfl (v := V.bool false) (.fn rfl) ?_
              refine DAny.takeSkip (i := 32) rfl (by kernel_rfl) (by kernel_rfl) rfl rfl rfl ?_
              refine DAny.takeSkip (i := 33) rfl (by kernel_rfl) (by kernel_rfl) rfl rfl rfl ?_
              refine DAny.takeSkip (i := 34) rfl (by kernel_rfl) (by kernel_rfl) rfl rfl rfl ?_
              refine DAny.takeSkip (i := 35) rfl (by kernel_rfl) (by kernel_rfl) rfl rfl rfl ?_
              refine DAny.takeSkip (i := 36) rfl (by kernel_rfl) (by kernel_rfl) rfl rfl rfl ?_
              refine DAny.take (i := 37) rfl (by kernel_rfl) (by kernel_rfl) rfl rfl rfl (v := V.bool false) (.pickK rfl rfl rfl) ?_
              refine DAny.take (i := 38) rfl (by kernel_rfl) (by kernel_rfl) rfl rfl rfl (v := V.bool false) (.fn rfl) ?_
              refine DAny.nil (by kernel_rfl) ?_
              repeat (first | refine Safe.seq ?_ | refine Safe.skip ?_ | with_reducible refine thenQ.n ?_ | with_reducible refine blockQ.n ?_)
              refine Safe.ret ?_
              repeat (first | with_reducible refine thenQ.r ?_ | with_reducible refine blockQ.r ?_)
              obtain rfl := Option.some.inj h
              exact retQ.gen (vs := [V.bool false]) rfl (.tmp (v := V.bool false) rfl .nil) (.free rfl) (by simp) (.inr rfl)
          · skip
            refine DAny.takeSkip (i := 17) rfl (by kernel_rfl) (by kernel_rfl) (congrArg some hc14030) rfl rfl ?_
            refine DAny.takeSkip (i := 18) rfl (by kernel_rfl) (by kernel_rfl) (congrArg some hc14030) rfl rfl ?_
            refine DAny.takeSkip (i := 19) rfl (by kernel_rfl) (by kernel_rfl) (congrArg some hc14030) rfl rfl ?_
            refine DAny.take (i := 20) rfl (by kernel_rfl) (by kernel_rfl) rfl rfl rfl (v := V.bool false) (.pickK rfl hc14030 rfl) ?_
            refine DAny.take (i := 21) rfl (by kernel_rfl) (by kernel_rfl) rfl rfl rfl (v := V.bool false) (.fn rfl) ?_
            refine DAny.takeSkip (i := 22) rfl (by kernel_rfl) (by kernel_rfl) rfl rfl rfl ?_
            refine DAny.takeSkip (i := 23) rfl (by kernel_rfl) (by kernel_rfl) rfl rfl rfl ?_
            refine DAny.takeSkip (i := 24) rfl (by kernel_rfl) (by kernel_rfl) rfl rfl rfl ?_
            refine DAny.take (i := 25) rfl (by kernel_rfl) (by kernel_rfl) rfl rfl rfl (v := V.bool false) (.pickK rfl rfl rfl) ?_
            refine DAny.take (i := 26) rfl (by kernel_rfl) (by kernel_rfl) rfl rfl rfl (v := V.bool false) (.fn rfl) ?_
            refine DAny.takeSkip (i := 27) rfl (by kernel_rfl) (by kernel_rfl) rfl rfl rfl ?_
            refine DAny.takeSkip (i := 28) rfl (by kernel_rfl) (by kernel_rfl) rfl rfl rfl ?_
            refine DAny.takeSkip (i := 29) rfl (by kernel_rfl) (by kernel_rfl) rfl rfl rfl ?_
            refine DAny.take (i := 30) rfl (by kernel_rfl) (by kernel_rfl) rfl rfl rfl (v := V.bool false) (.pickK rfl rfl rfl) ?_
            refine DAny.take (i := 31) rfl (by kernel_rfl) (by kernel_rfl) rfl rfl rfl (v := V.bool false) (.fn rfl) ?_
            refine DAny.takeSkip (i := 32) rfl (by kernel_rfl) (by kernel_rfl) rfl rfl rfl ?_
            refine DAny.takeSkip (i := 33) rfl (by kernel_rfl) (by kernel_rfl) rfl rfl rfl ?_
            refine DAny.takeSkip (i := 34) rfl (by kernel_rfl) (by kernel_rfl) rfl rfl rfl ?_
            refine DAny.takeSkip (i := 35) rfl (by kernel_rfl) (by kernel_rfl) rfl rfl rfl ?_
            refine DAny.takeSkip (i := 36) rfl (by kernel_rfl) (by kernel_rfl) rfl rfl rfl ?_
            refine DAny.take (i := 37) rfl (by kernel_rfl) (by kernel_rfl) rfl rfl rfl (v := V.bool false) (.pickK rfl rfl rfl) ?_
            refine DAny.take (i := 38) rfl (by kernel_rfl) (by kernel_rfl) rfl rfl rfl (v := V.bool false) (.fn rfl) ?_
            refine DAny.nil (by kernel_rfl) ?_
            repeat (first | refine Safe.seq ?_ | refine Safe.skip ?_ | with_reducible refine thenQ.n ?_ | with_reducible refine blockQ.n ?_)
            refine Safe.ret ?_
            repeat (first | with_reducible refine thenQ.r ?_ | with_reducible refine blockQ.r ?_)
            obtain rfl := Option.some.inj h
            exact retQ.gen (vs := [V.bool false]) rfl (.tmp (v := V.bool false) rfl .nil) (.free rfl) (by simp) (.inr rfl)
        · skip
          refine DAny.takeSkip (i := 12) rfl (by kernel_rfl) (by kernel_rfl) (congrArg some hc14029) rfl rfl ?_
          refine DAny.takeSkip (i := 13) rfl (by kernel_rfl) (by kernel_rfl) (congrArg some hc14029) rfl rfl ?_
          refine DAny.takeSkip (i := 14) rfl (by kernel_rfl) (by kernel_rfl) (congrArg some hc14029) rfl rfl ?_
          refine DAny.take (i := 15) rfl (by kernel_rfl) (by kernel_rfl) rfl rfl rfl (v := V.bool false) (.pickK rfl hc14029 rfl) ?_
          refine DAny.take (i := 16) rfl (by kernel_rfl) (by kernel_rfl) rfl rfl rfl (v := V.bool false) (.fn rfl) ?_
          refine DAny.takeSkip (i := 17) rfl (by kernel_rfl) (by kernel_rfl) rfl rfl rfl ?_
          refine DAny.takeSkip (i := 18) rfl (by kernel_rfl) (by kernel_rfl) rfl rfl rfl ?_
          refine DAny.takeSkip (i := 19) rfl (by kernel_rfl) (by kernel_rfl) rfl rfl rfl ?_
          refine DAny.take (i := 20) rfl (by kernel_rfl) (by kernel_rfl) rfl rfl rfl (v := V.bool false) (.pickK rfl rfl rfl) ?_
          refine DAny.take (i := 21) rfl (by kernel_rfl) (by kernel_rfl) rfl rfl rfl (v := V.bool false) (.fn rfl) ?_
          refine DAny.takeSkip (i := 22) rfl (by kernel_rfl) (by kernel_rfl) rfl rfl rfl ?_
          refine DAny.takeSkip (i := 23) rfl (by kernel_rfl) (by kernel_rfl) rfl rfl rfl ?_
          refine DAny.takeSkip (i := 24) rfl (by kernel_rfl) (by kernel_rfl) rfl rfl rfl ?_
          refine DAny.take (i := 25) rfl (by kernel_rfl) (by kernel_rfl) rfl rfl rfl (v := V.bool false) (.pickK rfl rfl rfl) ?_
          refine DAny.take (i := 26) rfl (by kernel_rfl) (by kernel_rfl) rfl rfl rfl (v := V.bool false) (.fn rfl) ?_
          refine DAny.takeSkip (i := 27) rfl (by kernel_rfl) (by kernel_rfl) rfl rfl rfl ?_
          refine DAny.takeSkip (i := 28) rfl (by kernel_rfl) (by kernel_rfl) rfl rfl rfl ?_
          refine DAny.takeSkip (i := 29) rfl (by kernel_rfl) (by kernel_rfl) rfl rfl rfl ?_
          refine DAny.take (i := 30) rfl (by kernel_rfl) (by kernel_rfl) rfl rfl rfl (v := V.bool false) (.pickK rfl rfl rfl) ?_
          refine DAny.take (i := 31) rfl (by kernel_rfl) (by kernel_rfl) rfl rfl rfl (v := V.bool false) (.fn rfl) ?_
          refine DAny.takeSkip (i := 32) rfl (by kernel_rfl) (by kernel_rfl) rfl rfl rfl ?_
          refine DAny.takeSkip (i := 33) rfl (by kernel_rfl) (by kernel_rfl) rfl rfl rfl ?_
          refine DAny.takeSkip (i := 34) rfl (by kernel_rfl) (by kernel_rfl) rfl rfl rfl ?_
          refine DAny.takeSkip (i := 35) rfl (by kernel_rfl) (by kernel_rfl) rfl rfl rfl ?_
          refine DAny.takeSkip (i := 36) rfl (by kernel_rfl) (by kernel_rfl) rfl rfl rfl ?_
          refine DAny.take (i := 37) rfl (by kernel_rfl) (by kernel_rfl) rfl rfl rfl (v := V.bool false) (.pickK rfl rfl rfl) ?_
          refine DAny.take (i := 38) rfl (by kernel_rfl) (by kernel_rfl) rfl rfl rfl (v := V.bool false) (.fn rfl) ?_
          refine DAny.nil (by kernel_rfl) ?_
          repeat (first | refine Safe.seq ?_ | refine Safe.skip ?_ | with_reducible refine thenQ.n ?_ | with_reducible refine blockQ.n ?_)
          refine Safe.ret ?_
          repeat (first | with_reducible refine thenQ.r ?_ | with_reducible refine blockQ.r ?_)
          obtain rfl := Option.some.inj h
          exact retQ.gen (vs := [V.bool false]) rfl (.tmp (v := V.bool false) rfl .nil) (.free rfl) (by simp) (.inr rfl)
      · skip
        refine DAny.takeSkip (i := 7) rfl (by kernel_rfl) (by kernel_rfl) (congrArg some hc14028) rfl rfl ?_
        refine DAny.takeSkip (i := 8) rfl (by kernel_rfl) (by kernel_rfl) (congrArg some hc14028) rfl rfl ?_
        refine DAny.takeSkip (i := 9) rfl (by kernel_rfl) (by kernel_rfl) (congrArg some hc14028) rfl rfl ?_
        refine DAny.take (i := 10) rfl (by kernel_rfl) (by kernel_rfl) rfl rfl rfl (v := V.bool false) (.pickK rfl hc14028 rfl) ?_
        refine DAny.take (i := 11) rfl (by kernel_rfl) (by kernel_rfl) rfl rfl rfl (v := V.bool false) (.fn rfl) ?_
        refine DAny.takeSkip (i := 12) rfl (by kernel_rfl) (by kernel_rfl) rfl rfl rfl ?_
        refine DAny.takeSkip (i := 13) rfl (by kernel_rfl) (by kernel_rfl) rfl rfl rfl ?_
        refine DAny.takeSkip (i := 14) rfl (by kernel_rfl) (by kernel_rfl) rfl rfl rfl ?_
        refine DAny.take (i := 15) rfl (by kernel_rfl) (by kernel_rfl) rfl rfl rfl (v := V.bool false) (.pickK rfl rfl rfl) ?_
        refine DAny.take (i := 16) rfl (by kernel_rfl) (by kernel_rfl) rfl rfl rfl (v := V.bool false) (.fn rfl) ?_
        refine DAny.takeSkip (i := 17) rfl (by kernel_rfl) (by kernel_rfl) rfl rfl rfl ?_
        refine DAny.takeSkip (i := 18) rfl (by kernel_rfl) (by kernel_rfl) rfl rfl rfl ?_
        refine DAny.takeSkip (i := 19) rfl (by kernel_rfl) (by kernel_rfl) rfl rfl rfl ?_
        refine DAny.take (i := 20) rfl (by kernel_rfl) (by kernel_rfl) rfl rfl rfl (v := V.bool false) (.pickK rfl rfl rfl) ?_
        refine DAny.take (i := 21) rfl (by kernel_rfl) (by kernel_rfl) rfl rfl rfl (v := V.bool false) (.fn rfl) ?_
        refine DAny.takeSkip (i := 22) rfl (by kernel_rfl) (by kernel_rfl) rfl rfl rfl ?_
        refine DAny.takeSkip (i := 23) rfl (by kernel_rfl) (by kernel_rfl) rfl rfl rfl ?_
        refine DAny.takeSkip (i := 24) rfl (by kernel_rfl) (by kernel_rfl) rfl rfl rfl ?_
        refine DAny.take (i := 25) rfl (by kernel_rfl) (by kernel_rfl) rfl rfl rfl (v := V.bool false) (.pickK rfl rfl rfl) ?_
        refine DAny.take (i := 26) rfl (by kernel_rfl) (by kernel_rfl) rfl rfl rfl (v := V.bool false) (.fn rfl) ?_
        refine DAny.takeSkip (i := 27) rfl (by kernel_rfl) (by kernel_rfl) rfl rfl rfl ?_
        refine DAny.takeSkip (i := 28) rfl (by kernel_rfl) (by kernel_rfl) rfl rfl rfl ?_
        refine DAny.takeSkip (i := 29) rfl (by kernel_rfl) (by kernel_rfl) rfl rfl rfl ?_
        refine DAny.take (i := 30) rfl (by kernel_rfl) (by kernel_rfl) rfl rfl rfl (v := V.bool false) (.pickK rfl rfl rfl) ?_
        refine DAny.take (i := 31) rfl (by kernel_rfl) (by kernel_rfl) rfl rfl rfl (v := V.bool false) (.fn rfl) ?_
        refine DAny.takeSkip (i := 32) rfl (by kernel_rfl) (by kernel_rfl) rfl rfl rfl ?_
        refine DAny.takeSkip (i := 33) rfl (by kernel_rfl) (by kernel_rfl) rfl rfl rfl ?_
        refine DAny.takeSkip (i := 34) rfl (by kernel_rfl) (by kernel_rfl) rfl rfl rfl ?_
        refine DAny.takeSkip (i := 35) rfl (by kernel_rfl) (by kernel_rfl) rfl rfl rfl ?_
        refine DAny.takeSkip (i := 36) rfl (by kernel_rfl) (by kernel_rfl) rfl rfl rfl ?_
        refine DAny.take (i := 37) rfl (by kernel_rfl) (by kernel_rfl) rfl rfl rfl (v := V.bool false) (.pickK rfl rfl rfl) ?_
        refine DAny.take (i := 38) rfl (by kernel_rfl) (by kernel_rfl) rfl rfl rfl (v := V.bool false) (.fn rfl) ?_
        refine DAny.nil (by kernel_rfl) ?_
        repeat (first | refine Safe.seq ?_ | refine Safe.skip ?_ | with_reducible refine thenQ.n ?_ | with_reducible refine blockQ.n ?_)
        refine Safe.ret ?_
        repeat (first | with_reducible refine thenQ.r ?_ | with_reducible refine blockQ.r ?_)
        obtain rfl := Option.some.inj h
        exact retQ.gen (vs := [V.bool false]) rfl (.tmp (v := V.bool false) rfl .nil) (.free rfl) (by simp) (.inr rfl)
    · skip
      refine DAny.takeSkip (i := 2) rfl (by kernel_rfl) (by kernel_rfl) (congrArg some hc14027) rfl rfl ?_
      refine DAny.takeSkip (i := 3) rfl (by kernel_rfl) (by kernel_rfl) (congrArg some hc14027) rfl rfl ?_
      refine DAny.takeSkip (i := 4) rfl (by kernel_rfl) (by kernel_rfl) (congrArg some hc14027) rfl rfl ?_
      refine DAny.take (i := 5) rfl (by kernel_rfl) (by kernel_rfl) rfl rfl rfl (v := V.bool false) (.pickK rfl hc14027 rfl) ?_
      refine DAny.take (i := 6) rfl (by kernel_rfl) (by kernel_rfl) rfl rfl rfl (v := V.bool false) (.fn rfl) ?_
      refine DAny.takeSkip (i := 7) rfl (by kernel_rfl) (by kernel_rfl) rfl rfl rfl ?_
      refine DAny.takeSkip (i := 8) rfl (by kernel_rfl) (by kernel_rfl) rfl rfl rfl ?_
      refine DAny.takeSkip (i := 9) rfl (by kernel_rfl) (by kernel_rfl) rfl rfl rfl ?_
      refine DAny.take (i := 10) rfl (by kernel_rfl) (by kernel_rfl) rfl rfl rfl (v := V.bool false) (.pickK rfl rfl rfl) ?_
      refine DAny.take (i := 11) rfl (by kernel_rfl) (by kernel_rfl) rfl rfl rfl (v := V.bool false) (.fn rfl) ?_
      refine DAny.takeSkip (i := 12) rfl (by kernel_rfl) (by kernel_rfl) rfl rfl rfl ?_
      refine DAny.takeSkip (i := 13) rfl (by kernel_rfl) (by kernel_rfl) rfl rfl rfl ?_
      refine DAny.takeSkip (i := 14) rfl (by kernel_rfl) (by kernel_rfl) rfl rfl rfl ?_
      refine DAny.take (i := 15) rfl (by kernel_rfl) (by kernel_rfl) rfl rfl rfl (v := V.bool false) (.pickK rfl rfl rfl) ?_
      refine DAny.take (i := 16) rfl (by kernel_rfl) (by kernel_rfl) rfl rfl rfl (v := V.bool false) (.fn rfl) ?_
      refine DAny.takeSkip (i := 17) rfl (by kernel_rfl) (by kernel_rfl) rfl rfl rfl ?_
      refine DAny.takeSkip (i := 18) rfl (by kernel_rfl) (by kernel_rfl) rfl rfl rfl ?_
      refine DAny.takeSkip (i := 19) rfl (by kernel_rfl) (by kernel_rfl) rfl rfl rfl ?_
      refine DAny.take (i := 20) rfl (by kernel_rfl) (by kernel_rfl) rfl rfl rfl (v := V.bool false) (.pickK rfl rfl rfl) ?_
      refine DAny.take (i := 21) rfl (by kernel_rfl) (by kernel_rfl) rfl rfl rfl (v := V.bool false) (.fn rfl) ?_
      refine DAny.takeSkip (i := 22) rfl (by kernel_rfl) (by kernel_rfl) rfl rfl rfl ?_
      refine DAny.takeSkip (i := 23) rfl (by kernel_rfl) (by kernel_rfl) rfl rfl rfl ?_
      refine DAny.takeSkip (i := 24) rfl (by kernel_rfl) (by kernel_rfl) rfl rfl rfl ?_
      refine DAny.take (i := 25) rfl (by kernel_rfl) (by kernel_rfl) rfl rfl rfl (v := V.bool false) (.pickK rfl rfl rfl) ?_
      refine DAny.take (i := 26) rfl (by kernel_rfl) (by kernel_rfl) rfl rfl rfl (v := V.bool false) (.fn rfl) ?_
      refine DAny.takeSkip (i := 27) rfl (by kernel_rfl) (by kernel_rfl) rfl rfl rfl ?_
      refine DAny.takeSkip (i := 28) rfl (by kernel_rfl) (by kernel_rfl) rfl rfl rfl ?_
      refine DAny.takeSkip (i := 29) rfl (by kernel_rfl) (by kernel_rfl) rfl rfl rfl ?_
      refine DAny.take (i := 30) rfl (by kernel_rfl) (by kernel_rfl) rfl rfl rfl (v := V.bool false) (.pickK rfl rfl rfl) ?_
      refine DAny.take (i := 31) rfl (by kernel_rfl) (by kernel_rfl) rfl rfl rfl (v := V.bool false) (.fn rfl) ?_
      refine DAny.takeSkip (i := 32) rfl (by kernel_rfl) (by kernel_rfl) rfl rfl rfl ?_
      refine DAny.takeSkip (i := 33) rfl (by kernel_rfl) (by kernel_rfl) rfl rfl rfl ?_
      refine DAny.takeSkip (i := 34) rfl (by kernel_rfl) (by kernel_rfl) rfl rfl rfl ?_
      refine DAny.takeSkip (i := 35) rfl (by kernel_rfl) (by kernel_rfl) rfl rfl rfl ?_
      refine DAny.takeSkip (i := 36) rfl (by kernel_rfl) (by kernel_rfl) rfl rfl rfl ?_
      refine DAny.take (i := 37) rfl (by kernel_rfl) (by kernel_rfl) rfl rfl rfl (v := V.bool false) (.pickK rfl rfl rfl) ?_
      refine DAny.take (i := 38) rfl (by kernel_rfl) (by kernel_rfl) rfl rfl rfl (v := V.bool false) (.fn rfl) ?_
      refine DAny.nil (by kernel_rfl) ?_
      repeat (first | refine Safe.seq ?_ | refine Safe.skip ?_ | with_reducible refine thenQ.n ?_ | with_reducible refine blockQ.n ?_)
      refine Safe.ret ?_
      repeat (first | with_reducible refine thenQ.r ?_ | with_reducible refine blockQ.r ?_)
      obtain rfl := Option.some.inj h
      exact retQ.gen (vs := [V.bool false]) rfl (.tmp (v := V.bool false) rfl .nil) (.free rfl) (by simp) (.inr rfl)
end Go.Proofs.YtechkmappabefaaDoor
